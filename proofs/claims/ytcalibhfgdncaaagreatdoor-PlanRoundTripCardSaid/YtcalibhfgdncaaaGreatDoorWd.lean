/- words.Lines, walked by hand: a range over strings.SplitSeq. -/
import Derived.Test.YtcalibhfgdncaaaGreatDoorWc
set_option linter.all false
namespace Go.Proofs.YtcalibhfgdncaaaGreatDoor
open Go.Dc Go.RowKit
set_option maxRecDepth 10000
def Mg(t:Str)(number:Int)(lines:List (List Word)):Option ((Int×List (List Word)) ⊕ (Int×Int)):=
 bG (bW (number+1))<|
 (TT t (number+1)).bind fun y=>
 if (!y.2) then some (.inr (number+1,2)) else
 if decide (64<(y.1.length:Int)) then some (.inr (number+1,7)) else
 if decide (0<(y.1.length:Int)) then (bG (decide ((lines.length+([y.1]:List (List Word)).length)*24≤140737488355328))<|some (.inl (number+1,lines++[y.1]))) else
 some (.inl (number+1,lines))
def lineEnd:(Int×List (List Word)) ⊕ (Int×Int)→Option ((List (List Word))×Int×Int)
 | .inl q=>some (q.2,0,0)
 | .inr q=>some ([],q.1,q.2)
def aak(k:Int→List (List Word)→Option ((List (List Word))×Int×Int)):(Int×List (List Word)) ⊕ (Int×Int)→Option ((List (List Word))×Int×Int)
 | .inl q=>k q.1 q.2
 | .inr q=>some ([],q.1,q.2)
def Ci:Nat→Str→Int→List (List Word)→Option ((List (List Word))×Int×Int)
 |0,_,_,_=>none
 |f+1,s,number,lines=>
  if decide (Lib.indexByte s.l 10<0) then (Mg s number lines).bind lineEnd
  else bG (bW (Lib.indexByte s.l 10+0))<|
   (mo s 0 (Lib.indexByte s.l 10+0)).bind fun t=>
   (Mg t number lines).bind<|aak fun number' lines'=>
    bG (bW (Lib.indexByte s.l 10+((⟨[10]⟩:Str).l.length:Int)))<|
    (mo s (Lib.indexByte s.l 10+((⟨[10]⟩:Str).l.length:Int)) (s.l.length:Int)).bind fun s'=>Ci f s' number' lines'
def TL(jU:Str):Option ((List (List Word))×Int×Int):=
 if decide (65536<(jU.l.length:Int)) then some ([],0,7) else Ci FUEL jU 0 []
/-! ### The iterator -/
section
variable (kF bs lD b6 b5 b4 b3 b2:Nat)
abbrev HL(s:Str)(number:Int)(lines:List (List Word))(r:SR (ak.R (List Word))):List Chunk:=
 [own kF 9 [.string (⟨[10]⟩:Str).ba],own bs 9 [.string s.ba],own lD 3 [.int .i64 0],own b6 3 [.int .i64 number],own b5 99 [.slice r.a lines.length r.cap],ah 105 r lines,own b4 42 [.int .i64 0],own b3 3 [.int .i64 0],own b2 99 [.slice none 0 0]]
abbrev HX(s:Str)(line err:Int)(lines:List (List Word))(r:SR (ak.R (List Word))):List Chunk:=
 [own kF 9 [.string (⟨[10]⟩:Str).ba],own bs 9 [.string s.ba],own lD 3 [.int .i64 0],own b6 3 [.int .i64 line],own b5 99 [.slice r.a lines.length r.cap],ah 105 r lines,own b4 42 [.int .i64 err],own b3 3 [.int .i64 line],own b2 99 [.slice none 0 0]]
def X3(z:(Int×List (List Word)) ⊕ (Int×Int))(s:Str)(H2:List Chunk):Prop:=∃q r',z= .inl q∧H2=HL kF bs lD b6 b5 b4 b3 b2 s q.1 q.2 r'
def X4(z:(Int×List (List Word)) ⊕ (Int×Int))(s:Str)(H2:List Chunk):Prop:=∃q lines r',z= .inr q∧H2=HX kF bs lD b6 b5 b4 b3 b2 s q.1 q.2 lines r'
def X7(y:(List (List Word))×Int×Int)(H2:List Chunk):Prop:=∃s number r,y=(y.1,0,0)∧H2=HL kF bs lD b6 b5 b4 b3 b2 s number y.1 r
def X8(y:(List (List Word))×Int×Int)(H2:List Chunk):Prop:=∃s lines r,y=([],y.2.1,y.2.2)∧H2=HX kF bs lD b6 b5 b4 b3 b2 s y.2.1 y.2.2 lines r
theorem alH{κ:Ctx}{L D nL p:Nat}{ρL:Env}{assign body:Code}(hp:Nat.blt p nL=true)
  (UQ:∀(κ':Ctx) (F:Fence),Wd F→∀(t s:Str) (number:Int) (lines:List (List Word)) (r:SR (ak.R (List Word))) z,Mg t number lines=some z→∀Ka:Act→World→Prop,
   (∀ρ2,uM F Tryz.prog nL κ' body (RQ κ' (mI L D nL ρL #[p] assign body .busy none) (X3 kF bs lD b6 b5 b4 b3 b2 z s) (X4 kF bs lD b6 b5 b4 b3 b2 z s)) ρ2 (mI L D nL ρL #[p] assign body .busy none::HL kF bs lD b6 b5 b4 b3 b2 s number lines r)→KW nL κ' Ka ρ2 (mI L D nL ρL #[p] assign body .ready none::HL kF bs lD b6 b5 b4 b3 b2 s number lines r))→
   uM F Tryz.prog nL κ' assign (Exit.then Ka (fun _ _ _=>False)) ((p,.v (.string t.ba))::ρL) (mI L D nL ρL #[p] assign body .ready none::HL kF bs lD b6 b5 b4 b3 b2 s number lines r))
  (f:Nat)(s:Str)(number:Int)(lines:List (List Word))(r:SR (ak.R (List Word)))(y:(List (List Word))×Int×Int)(hM:Ci f s number lines=some y)(w:World)
  (hm:Mem κ (mI L D nL ρL #[p] assign body .ready none::HL kF bs lD b6 b5 b4 b3 b2 s number lines r) w):
  Calls Tryz.prog 182 (.func (.yield L) #[] #[]::[.pointer (some ⟨kF,0,none⟩),.pointer (some ⟨bs,0,none⟩),.pointer (some ⟨lD,0,none⟩)]).toArray w (fun e w2=>(∃v,e= .returned v)∧
   ((∃H2,X7 kF bs lD b6 b5 b4 b3 b2 y H2∧Mem κ (mI L D nL ρL #[p] assign body .ready none::H2) w2)∨(∃H2,X8 kF bs lD b6 b5 b4 b3 b2 y H2∧Mem κ (mI L D nL ρL #[p] assign body .done (some .ret)::H2) w2))):=by
 obtain⟨S,hs⟩:=hm
 have key:Calls Tryz.prog 182 (.func (.yield L) #[] #[]::[.pointer (some ⟨kF,0,none⟩),.pointer (some ⟨bs,0,none⟩),.pointer (some ⟨lD,0,none⟩)]).toArray w (fun e w2=>(∃v,e= .returned v)∧
   ((∃H2,X7 kF bs lD b6 b5 b4 b3 b2 y H2∧Mem (rC w S (mI L D nL ρL #[p] assign body .ready none::HL kF bs lD b6 b5 b4 b3 b2 s number lines r)) (mI L D nL ρL #[p] assign body .ready none::H2) w2)∨(∃H2,X8 kF bs lD b6 b5 b4 b3 b2 y H2∧Mem (rC w S (mI L D nL ρL #[p] assign body .ready none::HL kF bs lD b6 b5 b4 b3 b2 s number lines r)) (mI L D nL ρL #[p] assign body .done (some .ret)::H2) w2))):=by
  refine bP Tryz.func182 rfl (amE hs).start rfl ?_
  generalize rC w S (mI L D nL ρL #[p] assign body .ready none::HL kF bs lD b6 b5 b4 b3 b2 s number lines r)=κ'
  refine aG fun K1 hK1=>?_
  refine aG fun K2 hK2=>?_
  refine aZ ?_
  refine aT (aJ (b:=kF)) ?_
  refine aT mZ ?_
  refine aT eu ?_
  refine bf (hK2 _ _ ?_);clear hK2
  refine OP rfl (by decide) ?_
  refine aX (hK1 _ _ ?_);clear hK1
  refine aG fun K3 hK3=>?_
  refine bF ?_
  refine EA (γ:=Nat×Str×Int×List (List Word)×SR (ak.R (List Word))) (env:=fun _=>[(0,.v (.func (.yield L) #[] #[])),(1,.v (.pointer (some ⟨kF,0,none⟩))),(2,.v (.pointer (some ⟨bs,0,none⟩))),(3,.v (.pointer (some ⟨lD,0,none⟩)))])
   (mem:=fun g=>mI L D nL ρL #[p] assign body .ready none::HL kF bs lD b6 b5 b4 b3 b2 g.2.1 g.2.2.1 g.2.2.2.1 g.2.2.2.2) (R:=fun g=>Ci g.1 g.2.1 g.2.2.1 g.2.2.2.1=some y) (μ:=fun g=>g.1) (f,s,number,lines,r) hM ⟨rfl,rfl,rfl,rfl,trivial⟩ (fun w hm=>hm) ?_
  clear hM
  rintro⟨f,s,number,lines,r⟩ hM KL hL
  dsimp only at hM ⊢
  cases f with
  |zero=>cases hM
  |succ f=>
   refine bF ?_
   refine aG fun K5 bS=>?_
   refine aZ ?_
   refine aT (aJ (b:=bs)) ?_
   refine aT (aJ (b:=kF)) ?_
   refine bn (jO (fun w hm=>let ⟨S,hs⟩:=hm;apQ _ w s ⟨[10]⟩ (Lib.indexByte s.l 10) rfl (bC hs)) ?_)
   refine aT dx ?_
   refine bf (bS _ _ ?_);clear bS
   refine aG fun K6 bZ=>?_
   refine aG fun K7 dZ=>?_
   refine aZ ?_
   refine aT aH ?_
   refine aT cO ?_
   refine bf (dZ _ _ ?_);clear dZ
   unfold Ci at hM
   refine rX rfl (fun hc=>?_) (fun hc=>?_)
   ·replace hM:=(LD hc).symm.trans hM
    refine dL (hK3 _ _ ?_);clear hK3
    obtain⟨z,hz,hM⟩:=bind_some hM
    refine acI (EB ?_)
    refine ny .plain aH ?_
    refine ny .plain (aJ (b:=bs)) ?_
    refine aeV (X3 kF bs lD b6 b5 b4 b3 b2 z s) (X4 kF bs lD b6 b5 b4 b3 b2 z s) (fun F hF Ka=>UQ _ F hF s s number lines r z hz Ka) (fun H2 hT=>?_) (fun H2 hT=>?_) (hp:=hp)
    ·obtain⟨q,r',rfl,rfl⟩:=hT
     obtain rfl:=some_inj hM
     exact Cq (yG rfl (fun w hm=>⟨⟨_,rfl⟩,.inl ⟨_,⟨s,q.1,r',rfl,rfl⟩,hm⟩⟩))
    ·obtain⟨q,lines',r',rfl,rfl⟩:=hT
     obtain rfl:=some_inj hM
     exact Cq (yG rfl (fun w hm=>⟨⟨_,rfl⟩,.inr ⟨_,⟨s,lines',r',rfl,rfl⟩,hm⟩⟩))
   ·replace hM:=(LC hc).symm.trans hM
    refine aX (bZ _ _ ?_);clear bZ
    refine aG fun K8 eZ=>?_
    refine aZ ?_
    refine aT (aJ (b:=bs)) ?_
    refine aT aH ?_
    refine aT (aJ (b:=lD)) ?_
    obtain⟨hI1,hM⟩:=dw hM
    refine aT (dH (hr:=fun hg=>fH hI1)) ?_
    obtain⟨t,ht,hM⟩:=bind_some hM
    refine aT (Av (ol:=none) (oh:=some (.i64,Lib.indexByte s.l 10+0)) (fun _=>ht)) ?_
    refine aT dx ?_
    refine bf (eZ _ _ ?_);clear eZ
    obtain⟨z,hz,hM⟩:=bind_some hM
    refine aG fun K9 dU=>?_
    refine aG fun uN gX=>?_
    refine acI (EB ?_)
    refine ny .plain aH ?_
    refine ny .plain aH ?_
    refine aeV (X3 kF bs lD b6 b5 b4 b3 b2 z s) (X4 kF bs lD b6 b5 b4 b3 b2 z s) (fun F hF Ka=>UQ _ F hF t s number lines r z hz Ka) (fun H2 hT=>?_) (fun H2 hT=>?_) (hp:=hp)
    ·obtain⟨q,r',rfl,rfl⟩:=hT
     refine ny .plain fF ?_
     refine Cq (gX _ _ ?_);clear gX
     refine OP rfl rfl ?_
     refine aX (dU _ _ ?_);clear dU
     dsimp only[aak] at hM
     refine aZ ?_
     refine aT (aJ (b:=bs)) ?_
     refine aT aH ?_
     refine aT (aJ (b:=kF)) ?_
     refine aT mZ ?_
     obtain⟨hI2,hM⟩:=dw hM
     refine aT (dH (hr:=fun hg=>fH hI2)) ?_
     obtain⟨s',hs',hM⟩:=bind_some hM
     refine aT (Av (ol:=some (.i64,Lib.indexByte s.l 10+((⟨[10]⟩:Str).l.length:Int))) (oh:=none) (fun _=>hs')) ?_
     refine bn (ku (b:=bs) (vs:=[.string s'.ba]) (k:=?_))
     refine bf (hL (f,s',q.1,q.2,r') _ _ hM (Nat.lt_succ_self _) ⟨rfl,rfl,rfl,rfl,trivial⟩ (fun w hm=>hm))
    ·obtain⟨q,lines',r',rfl,rfl⟩:=hT
     refine ny .plain fF ?_
     refine Cq (gX _ _ ?_);clear gX
     refine acH rfl rfl ?_
     obtain rfl:=some_inj hM
     refine aW fun w a hm ho=>?_
     exact⟨ho.qG,.tuple #[],by rw[results_none rfl],⟨_,rfl⟩,.inr ⟨_,⟨s,lines',r',rfl,rfl⟩,hm⟩⟩
 refine key.mono ?_
 rintro e w2 ⟨hv,⟨H2,hT,hm⟩|⟨H2,hT,hm⟩⟩
 ·exact⟨hv,.inl ⟨H2,hT,aeJ hs hm⟩⟩
 ·exact⟨hv,.inr ⟨H2,hT,aeJ hs hm⟩⟩
end
/-! ### The closure -/
theorem apS(S:bB)(w:World)(s0 pz:Str)(agp:Int)(hS:∀k,S k→k<w.heap.size):
  Calls Tryz.prog 152 #[.string s0.ba,.string pz.ba,.int .i64 agp] w (Post (β:=Nat×Nat×Nat) S [] (fun g=> .func (.func 182) #[] #[.pointer (some ⟨g.1,0,none⟩),.pointer (some ⟨g.2.1,0,none⟩),.pointer (some ⟨g.2.2,0,none⟩)])
   (fun g=>[own g.1 9 [.string pz.ba],own g.2.1 9 [.string s0.ba],own g.2.2 3 [.int .i64 agp]]) w):=by
 refine bP (args:=[_,_,_]) Tryz.func152 rfl (pre_nil hS).start rfl ?_
 refine aG fun K1 hK1=>?_
 refine aZ ?_
 refine bn (D5 (h1:=rfl) (k:=fun b1=>?_))
 refine bn (D5 (h1:=rfl) (k:=fun b2=>?_))
 refine bn (D5 (h1:=rfl) (k:=fun b3=>?_))
 refine aT dx ?_
 refine bf (hK1 _ _ ?_);clear hK1
 refine aG fun K2 hK2=>?_
 refine aZ ?_
 refine aT Jg ?_
 refine aT dx ?_
 refine bf (hK2 _ _ ?_);clear hK2
 refine aW (jE (fun w hm=>dO (b2,b1,b3) hm rfl))
theorem apR(S:bB)(w:World)(s0 pz:Str)(hS:∀k,S k→k<w.heap.size):
  Calls Tryz.prog 99 #[.string s0.ba,.string pz.ba] w (Post (β:=Nat×Nat×Nat) S [] (fun g=> .func (.func 182) #[] #[.pointer (some ⟨g.1,0,none⟩),.pointer (some ⟨g.2.1,0,none⟩),.pointer (some ⟨g.2.2,0,none⟩)])
   (fun g=>[own g.1 9 [.string pz.ba],own g.2.1 9 [.string s0.ba],own g.2.2 3 [.int .i64 0]]) w):=by
 refine bP (args:=[_,_]) Tryz.func99 rfl (pre_nil hS).start rfl ?_
 refine aG fun K1 hK1=>?_
 refine aZ ?_
 refine aT dx ?_
 refine bf (hK1 _ _ ?_);clear hK1
 refine aG fun K2 hK2=>?_
 refine aZ ?_
 refine aT aH ?_
 refine aT aH ?_
 refine bn (eU jw.nil (fun S w hs hP=>apS _ w s0 pz 0 (bC hs)) (by intro r c hc;simp only[List.mem_cons,List.not_mem_nil,or_false] at hc;rcases hc with rfl|rfl|rfl<;>exact EG) (fun g=>?_))
 dsimp only[List.cons_append,List.nil_append]
 refine aT dx ?_
 refine bf (hK2 _ _ ?_);clear hK2
 refine aW (jE (fun w hm=>dO g hm rfl))
/-! ### Lines -/
theorem aqe (S : bB) (w : World) (jU : Str) (y : (List (List Word)) × Int × Int) (hM : TL jU = some y) (hS : ∀ k, S k → k < w.heap.size) :
  Calls Tryz.prog 45 #[.string jU.ba] w (Post (β := (ak.R (List (List Word)))) S [] (fun g => .tuple #[.slice g.a y.1.length g.cap, .int .i64 y.2.1, .int .i64 y.2.2]) (fun g => [ah 105 g y.1]) w) := by
 refine ahZ (args := [_]) Tryz.func45 rfl (pre_nil hS).start rfl ?_
 unfold TL at hM
 refine aG fun K1 hK1 => ?_
 refine aZ ?_
 refine bn (gF rfl (k := fun b2 => ?_))
 refine bn (gF rfl (k := fun b3 => ?_))
 refine bn (gF rfl (k := fun b4 => ?_))
 refine bf (hK1 _ _ ?_); clear hK1
 refine aG fun K2 hK2 => ?_
 refine aG fun K3 hK3 => ?_
 refine aZ ?_
 refine aT aH ?_
 refine aT mZ ?_
 refine aT iw ?_
 refine bf (hK3 _ _ ?_); clear hK3
 refine rX rfl (fun hc => ?_) (fun hc => ?_)
 ·replace hM := (LD hc).symm.trans hM
  refine aG fun K4 hK4 => ?_
  refine aZ ?_
  refine bn (ku (b := b2) (vs := [.slice none 0 0]) (k := ?_))
  refine bn (ku (b := b3) (vs := [.int .i64 0]) (k := ?_))
  refine bn (ku (b := b4) (vs := [.int .i64 7]) (k := ?_))
  refine bf (hK4 _ _ ?_); clear hK4
  refine bQ (fun w hm => hm.bV (α := List Word) 105 (fun _ => (⟨none, 0, fun _ => ()⟩ : SR (ak.R Word)))) ?_
  obtain rfl := some_inj hM
  refine aW (al6 (fun w hm => dO (⟨none, 0, fun _ => (⟨none, 0, fun _ => ()⟩ : SR (ak.R Word))⟩ : SR (ak.R (List Word))) hm rfl))
 ·replace hM := (LC hc).symm.trans hM
  refine aX (hK2 _ _ ?_); clear hK2
  refine aG fun K5 bS => ?_
  refine aZ ?_
  refine bn (gF rfl (k := fun b5 => ?_))
  refine bf (bS _ _ ?_); clear bS
  refine aG fun K6 bZ => ?_
  refine aZ ?_
  refine bn (gF rfl (k := fun b6 => ?_))
  refine bn (ku (b := b6) (vs := [.int .i64 0]) (k := ?_))
  refine bf (bZ _ _ ?_); clear bZ
  refine ait ?_
  refine aG fun K7 dZ => ?_
  refine aZ ?_
  refine aT aH ?_
  refine bn (eU jw.nil (fun S w hs hP => apR _ w jU ⟨[10]⟩ (bC hs)) (by intro r c hc; simp only [List.mem_cons, List.not_mem_nil, or_false] at hc; rcases hc with rfl | rfl | rfl <;> exact EG) (fun g => ?_))
  dsimp only [List.cons_append, List.nil_append]
  refine bf (dZ _ _ ?_); clear dZ
  obtain ⟨kF, bs, lD⟩ := g
  dsimp only
  refine bQ (fun w hm => (hm.bV (α := List Word) 105 (fun _ => (⟨none, 0, fun _ => ()⟩ : SR (ak.R Word)))).qb (cs := HL kF bs lD b6 b5 b4 b3 b2 jU 0 [] (⟨none, 0, fun _ => (⟨none, 0, fun _ => ()⟩ : SR (ak.R Word))⟩ : SR (ak.R (List Word))))) ?_
  refine ais (cap := [.pointer (some ⟨kF, 0, none⟩), .pointer (some ⟨bs, 0, none⟩), .pointer (some ⟨lD, 0, none⟩)]) (X7 kF bs lD b6 b5 b4 b3 b2 y) (X8 kF bs lD b6 b5 b4 b3 b2 y) rfl (by kernel_rfl) ?_ ?_ ?_
  ·intro L D w1 hm1
   refine alH kF bs lD b6 b5 b4 b3 b2 rfl ?_ FUEL jU 0 [] _ y hM w1 hm1
   clear hM hm1 hc
   intro κ' F hF t s number lines r z hz Ka hKa
   refine EB ?_
   refine ny hF dx ?_
   refine Cq (hKa _ ?_); clear hKa
   unfold Mg at hz
   refine acJ ?_
   refine Ja fun K1 hK1 => ?_
   refine EB ?_
   refine ny hF (aJ (b := b6)) ?_
   obtain ⟨hI1, hz⟩ := dw hz
   refine ny hF (dH (hr := fun hg => fH hI1)) ?_
   refine MF hF (ku (b := b6) (vs := [.int .i64 (number + 1)]) (k := ?_))
   refine Cq (hK1 _ _ ?_); clear hK1
   refine Ja fun K2 hK2 => ?_
   refine EB ?_
   refine ny hF aH ?_
   refine ny hF (aJ (b := b6)) ?_
   obtain ⟨y1, hy1, hz⟩ := bind_some hz
   refine MF hF (eU jw.nil (fun S w hs hP => aqh _ w t (number + 1) y1 hy1 (bC hs)) (by intro r c hc; simp only [List.mem_cons, List.not_mem_nil, or_false] at hc; rcases hc with rfl; exact Li (fun _ _ _ _ => trivial)) (fun g => ?_))
   dsimp only [List.cons_append, List.nil_append]
   refine ny hF aH ?_
   refine ny hF (eO (vs := [.slice g.a y1.1.length g.cap, .bool y1.2])) ?_
   refine ny hF (eO (vs := [.slice g.a y1.1.length g.cap, .bool y1.2])) ?_
   refine ny hF dx ?_
   refine ny hF dx ?_
   refine Cq (hK2 _ _ ?_); clear hK2
   refine acJ ?_
   refine Ja fun K3 hK3 => ?_
   refine EB ?_
   refine ny hF aH ?_
   refine ny hF fF ?_
   refine ny hF dx ?_
   refine Cq (hK3 _ _ ?_); clear hK3
   refine Yk rfl (fun hc => ?_) (fun hc => ?_)
   ·replace hz := (LD hc).symm.trans hz
    obtain rfl := some_inj hz
    refine Ja fun K4 hK4 => ?_
    refine acK ?_
    refine acg hF 0 1 ⟨_, rfl, rfl, rfl, CG (aJ (b := b6)) ?_⟩ ⟨_, rfl, rfl, rfl, ku (b := b2) (vs := [.slice none 0 0]) (k := ?_)⟩
    ·refine Am hF 1 rfl (ku (b := b2) (vs := [.slice none 0 0]) (k := ?_))
     refine Am hF 2 rfl (ku (b := b3) (vs := [.int .i64 (number + 1)]) (k := ?_))
     refine Am hF 3 rfl (ku (b := b4) (vs := [.int .i64 2]) (k := ?_))
     refine Ug (hK4 _ _ ?_)
     exact Ul fun w a hm ho => ⟨_, ⟨_, lines, r, rfl, rfl⟩, hm.qb⟩
    ·refine Am hF 0 rfl (CG (aJ (b := b6)) ?_)
     refine Am hF 2 rfl (ku (b := b3) (vs := [.int .i64 (number + 1)]) (k := ?_))
     refine Am hF 3 rfl (ku (b := b4) (vs := [.int .i64 2]) (k := ?_))
     refine Ug (hK4 _ _ ?_)
     exact Ul fun w a hm ho => ⟨_, ⟨_, lines, r, rfl, rfl⟩, hm.qb⟩
   ·replace hz := (LC hc).symm.trans hz
    refine Ja fun K4 hK4 => ?_
    refine EB ?_
    refine ny hF aH ?_
    refine ny hF bJ ?_
    refine ny hF iw ?_
    refine ny hF dx ?_
    refine Cq (hK4 _ _ ?_); clear hK4
    refine Yk rfl (fun hc2 => ?_) (fun hc2 => ?_)
    ·replace hz := (LD hc2).symm.trans hz
     obtain rfl := some_inj hz
     refine Ja fun K4 hK4 => ?_
     refine acK ?_
     refine acg hF 0 1 ⟨_, rfl, rfl, rfl, CG (aJ (b := b6)) ?_⟩ ⟨_, rfl, rfl, rfl, ku (b := b2) (vs := [.slice none 0 0]) (k := ?_)⟩
     ·refine Am hF 1 rfl (ku (b := b2) (vs := [.slice none 0 0]) (k := ?_))
      refine Am hF 2 rfl (ku (b := b3) (vs := [.int .i64 (number + 1)]) (k := ?_))
      refine Am hF 3 rfl (ku (b := b4) (vs := [.int .i64 7]) (k := ?_))
      refine Ug (hK4 _ _ ?_)
      exact Ul fun w a hm ho => ⟨_, ⟨_, lines, r, rfl, rfl⟩, hm.qb⟩
     ·refine Am hF 0 rfl (CG (aJ (b := b6)) ?_)
      refine Am hF 2 rfl (ku (b := b3) (vs := [.int .i64 (number + 1)]) (k := ?_))
      refine Am hF 3 rfl (ku (b := b4) (vs := [.int .i64 7]) (k := ?_))
      refine Ug (hK4 _ _ ?_)
      exact Ul fun w a hm ho => ⟨_, ⟨_, lines, r, rfl, rfl⟩, hm.qb⟩
    ·replace hz := (LC hc2).symm.trans hz
     refine Ja fun K4 hK4 => ?_
     refine EB ?_
     refine ny hF aH ?_
     refine ny hF bJ ?_
     refine ny hF iw ?_
     refine ny hF dx ?_
     refine Cq (hK4 _ _ ?_); clear hK4
     refine Yk rfl (fun hc3 => ?_) (fun hc3 => ?_)
     ·replace hz := (LD hc3).symm.trans hz
      obtain ⟨hb, hz⟩ := dw hz
      obtain rfl := some_inj hz
      refine EB ?_
      refine ny hF (aJ (b := b5)) ?_
      refine ny hF aH ?_
      refine am8 (fun w hm => hm.freeze (r := g) (by repeat (first | exact dQ.head | apply dQ.tail))) ?_
      refine MF hF (eX (α := List Word) 105 (fun _ => g) ([y1.1] : List (List Word)) (jr.cons (fun S w hs => (Sk.dW (α := List Word) (r := g) (x := y1.1) (by repeat (first | exact Has.head | apply Has.tail))) S w hs) jr.nil) (fun r2 => ?_))
      refine MF hF (iP (r := r) (r2 := r2) (by intro r'; repeat (first | exact dQ.head | apply dQ.tail)) (Kn.ah (e := 105) (r := r2) (by repeat (first | exact Has.head | apply Has.tail))) (jr.row (e := 105) (r := r2) (by repeat (first | exact Has.head | apply Has.tail))) (of_decide_eq_true hb) (fun r3 => ?_))
      refine MF hF (ku (b := b5) (vs := [.slice r3.a (lines ++ [y1.1]).length r3.cap]) (k := ?_))
      exact Cq fun w a hm ho => ⟨_, ⟨_, r3, rfl, rfl⟩, hm.qb⟩
     ·replace hz := (LC hc3).symm.trans hz
      obtain rfl := some_inj hz
      exact aiu fun w a hm ho => ⟨_, ⟨_, r, rfl, rfl⟩, hm.qb⟩
  ·intro D H2 hT w2 a hm ho
   obtain ⟨s, number, r, hy, rfl⟩ := hT
   refine wp_seq (wp_region_lit ?_)
   refine (?_ : IX _ _ _ _ _ _ _ _ _) w2 a hm ho
   refine am9 (aJ (b := b5)) ?_
   refine aax (ku (b := b2) (vs := [.slice r.a y.1.length r.cap]) (k := ?_))
   refine aax (ku (b := b3) (vs := [.int .i64 0]) (k := ?_))
   refine aax (ku (b := b4) (vs := [.int .i64 0]) (k := ?_))
   refine ana fun w a hm ho => ?_
   refine wp_ret ?_
   rw [hy]
   exact afV hm ho (fun w hm => dO r hm rfl)
  ·intro D H2 hT w2 a hm ho
   obtain ⟨s, lines, r, hy, rfl⟩ := hT
   rw [hy]
   exact afV hm ho (fun w hm => dO (⟨none, 0, fun _ => (⟨none, 0, fun _ => ()⟩ : SR (ak.R Word))⟩ : SR (ak.R (List Word))) (hm.bV (α := List Word) 105 (fun _ => (⟨none, 0, fun _ => ()⟩ : SR (ak.R Word)))) rfl)
end Go.Proofs.YtcalibhfgdncaaaGreatDoor
