/- words.Lines, walked by hand: a range over strings.SplitSeq. -/
import Derived.Test.YtcalibhfgdncaaaGreatDoorWz
namespace Go.Proofs.YtcalibhfgdncaaaGreatDoor
open Go.Dc Go.RowKit
set_option maxRecDepth 10000
set_option linter.all false
def OL(t:Str)(number:Int)(lines:List (List Word)):Option ((Int×List (List Word)) ⊕ (Int×Int)):=
 aO (aX (number+1))<|
 (Xk t (number+1)).bind fun y=>
 if (!y.2) then some (.inr (number+1,2)) else
 if decide (64<(y.1.length:Int)) then some (.inr (number+1,7)) else
 if decide (0<(y.1.length:Int)) then (aO (decide ((lines.length+([y.1]:List (List Word)).length)*24≤140737488355328))<|some (.inl (number+1,lines++[y.1]))) else
 some (.inl (number+1,lines))
def lineEnd:(Int×List (List Word)) ⊕ (Int×Int)→Option ((List (List Word))×Int×Int)
 | .inl q=>some (q.2,0,0)
 | .inr q=>some ([],q.1,q.2)
def ad9(k:Int→List (List Word)→Option ((List (List Word))×Int×Int)):(Int×List (List Word)) ⊕ (Int×Int)→Option ((List (List Word))×Int×Int)
 | .inl q=>k q.1 q.2
 | .inr q=>some ([],q.1,q.2)
def D5:Nat→Str→Int→List (List Word)→Option ((List (List Word))×Int×Int)
 |0,_,_,_=>none
 |f+1,s,number,lines=>
  if decide (Lib.indexByte s.l 10<0) then (OL s number lines).bind lineEnd
  else aO (aX (Lib.indexByte s.l 10+0))<|
   (ji s 0 (Lib.indexByte s.l 10+0)).bind fun t=>
   (OL t number lines).bind<|ad9 fun number' lines'=>
    aO (aX (Lib.indexByte s.l 10+((⟨[10]⟩:Str).l.length:Int)))<|
    (ji s (Lib.indexByte s.l 10+((⟨[10]⟩:Str).l.length:Int)) (s.l.length:Int)).bind fun s'=>D5 f s' number' lines'
def Xd(jK:Str):Option ((List (List Word))×Int×Int):=
 if decide (65536<(jK.l.length:Int)) then some ([],0,7) else D5 FUEL jK 0 []
/-! ### The iterator -/
section
variable (lC bs lX b6 b5 b4 b3 b2:Nat)
abbrev HL(s:Str)(number:Int)(lines:List (List Word))(r:SR (ah.R (List Word))):List Chunk:=
 [own lC 9 [.string (⟨[10]⟩:Str).ba],own bs 9 [.string s.ba],own lX 3 [.int .i64 0],own b6 3 [.int .i64 number],own b5 99 [.slice r.a lines.length r.cap],aj 105 r lines,own b4 42 [.int .i64 0],own b3 3 [.int .i64 0],own b2 99 [.slice none 0 0]]
abbrev HX(s:Str)(line err:Int)(lines:List (List Word))(r:SR (ah.R (List Word))):List Chunk:=
 [own lC 9 [.string (⟨[10]⟩:Str).ba],own bs 9 [.string s.ba],own lX 3 [.int .i64 0],own b6 3 [.int .i64 line],own b5 99 [.slice r.a lines.length r.cap],aj 105 r lines,own b4 42 [.int .i64 err],own b3 3 [.int .i64 line],own b2 99 [.slice none 0 0]]
def RTn(z:(Int×List (List Word)) ⊕ (Int×Int))(s:Str)(H2:List Chunk):Prop:=∃q r',z= .inl q∧H2=HL lC bs lX b6 b5 b4 b3 b2 s q.1 q.2 r'
def RTr(z:(Int×List (List Word)) ⊕ (Int×Int))(s:Str)(H2:List Chunk):Prop:=∃q lines r',z= .inr q∧H2=HX lC bs lX b6 b5 b4 b3 b2 s q.1 q.2 lines r'
def WTn(y:(List (List Word))×Int×Int)(H2:List Chunk):Prop:=∃s number r,y=(y.1,0,0)∧H2=HL lC bs lX b6 b5 b4 b3 b2 s number y.1 r
def WTr(y:(List (List Word))×Int×Int)(H2:List Chunk):Prop:=∃s lines r,y=([],y.2.1,y.2.2)∧H2=HX lC bs lX b6 b5 b4 b3 b2 s y.2.1 y.2.2 lines r
theorem arZ{κ:Ctx}{L D nL p:Nat}{ρL:Env}{assign body:Code}(hp:Nat.blt p nL=true)
  (YJ:∀(κ':Ctx) (F:Fence),Wd F→∀(t s:Str) (number:Int) (lines:List (List Word)) (r:SR (ah.R (List Word))) z,OL t number lines=some z→∀Ka:Act→World→Prop,
   (∀ρ2,vS F Tryz.prog nL κ' body (RQ κ' (mZ L D nL ρL #[p] assign body .busy none) (RTn lC bs lX b6 b5 b4 b3 b2 z s) (RTr lC bs lX b6 b5 b4 b3 b2 z s)) ρ2 (mZ L D nL ρL #[p] assign body .busy none::HL lC bs lX b6 b5 b4 b3 b2 s number lines r)→KW nL κ' Ka ρ2 (mZ L D nL ρL #[p] assign body .ready none::HL lC bs lX b6 b5 b4 b3 b2 s number lines r))→
   vS F Tryz.prog nL κ' assign (Exit.then Ka (fun _ _ _=>False)) ((p,.v (.string t.ba))::ρL) (mZ L D nL ρL #[p] assign body .ready none::HL lC bs lX b6 b5 b4 b3 b2 s number lines r))
  (f:Nat)(s:Str)(number:Int)(lines:List (List Word))(r:SR (ah.R (List Word)))(y:(List (List Word))×Int×Int)(hM:D5 f s number lines=some y)(w:World)
  (hm:Mem κ (mZ L D nL ρL #[p] assign body .ready none::HL lC bs lX b6 b5 b4 b3 b2 s number lines r) w):
  Calls Tryz.prog 182 (.func (.yield L) #[] #[]::[.pointer (some ⟨lC,0,none⟩),.pointer (some ⟨bs,0,none⟩),.pointer (some ⟨lX,0,none⟩)]).toArray w (fun e w2=>(∃v,e= .returned v)∧
   ((∃H2,WTn lC bs lX b6 b5 b4 b3 b2 y H2∧Mem κ (mZ L D nL ρL #[p] assign body .ready none::H2) w2)∨(∃H2,WTr lC bs lX b6 b5 b4 b3 b2 y H2∧Mem κ (mZ L D nL ρL #[p] assign body .done (some .ret)::H2) w2))):=by
 obtain⟨S,hs⟩:=hm
 have key:Calls Tryz.prog 182 (.func (.yield L) #[] #[]::[.pointer (some ⟨lC,0,none⟩),.pointer (some ⟨bs,0,none⟩),.pointer (some ⟨lX,0,none⟩)]).toArray w (fun e w2=>(∃v,e= .returned v)∧
   ((∃H2,WTn lC bs lX b6 b5 b4 b3 b2 y H2∧Mem (rJ w S (mZ L D nL ρL #[p] assign body .ready none::HL lC bs lX b6 b5 b4 b3 b2 s number lines r)) (mZ L D nL ρL #[p] assign body .ready none::H2) w2)∨(∃H2,WTr lC bs lX b6 b5 b4 b3 b2 y H2∧Mem (rJ w S (mZ L D nL ρL #[p] assign body .ready none::HL lC bs lX b6 b5 b4 b3 b2 s number lines r)) (mZ L D nL ρL #[p] assign body .done (some .ret)::H2) w2))):=by
  refine bF Tryz.func182 rfl (as1 hs).start rfl ?_
  generalize rJ w S (mZ L D nL ρL #[p] assign body .ready none::HL lC bs lX b6 b5 b4 b3 b2 s number lines r)=κ'
  refine au fun K1 hK1=>?_
  refine au fun K2 hK2=>?_
  refine bg ?_
  refine lG (gZ (b:=lC)) ?_
  refine lG R6 ?_
  refine lG oK ?_
  refine bq (hK2 _ _ ?_);clear hK2
  refine RO rfl (by decide) ?_
  refine gG (hK1 _ _ ?_);clear hK1
  refine au fun K3 hK3=>?_
  refine bI ?_
  refine Iu (γ:=Nat×Str×Int×List (List Word)×SR (ah.R (List Word))) (env:=fun _=>[(0,.v (.func (.yield L) #[] #[])),(1,.v (.pointer (some ⟨lC,0,none⟩))),(2,.v (.pointer (some ⟨bs,0,none⟩))),(3,.v (.pointer (some ⟨lX,0,none⟩)))])
   (mem:=fun g=>mZ L D nL ρL #[p] assign body .ready none::HL lC bs lX b6 b5 b4 b3 b2 g.2.1 g.2.2.1 g.2.2.2.1 g.2.2.2.2) (R:=fun g=>D5 g.1 g.2.1 g.2.2.1 g.2.2.2.1=some y) (μ:=fun g=>g.1) (f,s,number,lines,r) hM ⟨rfl,rfl,rfl,rfl,trivial⟩ (fun w hm=>hm) ?_
  clear hM
  rintro⟨f,s,number,lines,r⟩ hM KL hL
  dsimp only at hM ⊢
  cases f with
  |zero=>cases hM
  |succ f=>
   refine bI ?_
   refine au fun K5 dx=>?_
   refine bg ?_
   refine lG (gZ (b:=bs)) ?_
   refine lG (gZ (b:=lC)) ?_
   refine bf (jh (fun w hm=>let ⟨S,hs⟩:=hm;awI _ w s ⟨[10]⟩ (Lib.indexByte s.l 10) rfl (aM hs)) ?_)
   refine lG eX ?_
   refine bq (dx _ _ ?_);clear dx
   refine au fun K6 dG=>?_
   refine au fun K7 gu=>?_
   refine bg ?_
   refine lG dJ ?_
   refine lG gq ?_
   refine bq (gu _ _ ?_);clear gu
   unfold D5 at hM
   refine xE rfl (fun hc=>?_) (fun hc=>?_)
   ·replace hM:=(Oe hc).symm.trans hM
    refine RP (hK3 _ _ ?_);clear hK3
    obtain⟨z,hz,hM⟩:=bind_some hM
    refine agT (F8 ?_)
    refine nX .plain dJ ?_
    refine nX .plain (gZ (b:=bs)) ?_
    refine aiG (RTn lC bs lX b6 b5 b4 b3 b2 z s) (RTr lC bs lX b6 b5 b4 b3 b2 z s) (fun F hF Ka=>YJ _ F hF s s number lines r z hz Ka) (fun H2 hT=>?_) (fun H2 hT=>?_) (hp:=hp)
    ·obtain⟨q,r',rfl,rfl⟩:=hT
     obtain rfl:=some_inj hM
     exact Ed (DW rfl (fun w hm=>⟨⟨_,rfl⟩,.inl ⟨_,⟨s,q.1,r',rfl,rfl⟩,hm⟩⟩))
    ·obtain⟨q,lines',r',rfl,rfl⟩:=hT
     obtain rfl:=some_inj hM
     exact Ed (DW rfl (fun w hm=>⟨⟨_,rfl⟩,.inr ⟨_,⟨s,lines',r',rfl,rfl⟩,hm⟩⟩))
   ·replace hM:=(Od hc).symm.trans hM
    refine gG (dG _ _ ?_);clear dG
    refine au fun K8 gP=>?_
    refine bg ?_
    refine lG (gZ (b:=bs)) ?_
    refine lG dJ ?_
    refine lG (gZ (b:=lX)) ?_
    obtain⟨hI1,hM⟩:=bQ hM
    refine lG (dP (hr:=fun hg=>dU hI1)) ?_
    obtain⟨t,ht,hM⟩:=bind_some hM
    refine lG (vZ (ol:=none) (oh:=some (.i64,Lib.indexByte s.l 10+0)) (fun _=>ht)) ?_
    refine lG eX ?_
    refine bq (gP _ _ ?_);clear gP
    obtain⟨z,hz,hM⟩:=bind_some hM
    refine au fun K9 fH=>?_
    refine au fun tC jC=>?_
    refine agT (F8 ?_)
    refine nX .plain dJ ?_
    refine nX .plain dJ ?_
    refine aiG (RTn lC bs lX b6 b5 b4 b3 b2 z s) (RTr lC bs lX b6 b5 b4 b3 b2 z s) (fun F hF Ka=>YJ _ F hF t s number lines r z hz Ka) (fun H2 hT=>?_) (fun H2 hT=>?_) (hp:=hp)
    ·obtain⟨q,r',rfl,rfl⟩:=hT
     refine nX .plain iC ?_
     refine Ed (jC _ _ ?_);clear jC
     refine RO rfl rfl ?_
     refine gG (fH _ _ ?_);clear fH
     dsimp only[ad9] at hM
     refine bg ?_
     refine lG (gZ (b:=bs)) ?_
     refine lG dJ ?_
     refine lG (gZ (b:=lC)) ?_
     refine lG R6 ?_
     obtain⟨hI2,hM⟩:=bQ hM
     refine lG (dP (hr:=fun hg=>dU hI2)) ?_
     obtain⟨s',hs',hM⟩:=bind_some hM
     refine lG (vZ (ol:=some (.i64,Lib.indexByte s.l 10+((⟨[10]⟩:Str).l.length:Int))) (oh:=none) (fun _=>hs')) ?_
     refine bf (lH (b:=bs) (vs:=[.string s'.ba]) (k:=?_))
     refine bq (hL (f,s',q.1,q.2,r') _ _ hM (Nat.lt_succ_self _) ⟨rfl,rfl,rfl,rfl,trivial⟩ (fun w hm=>hm))
    ·obtain⟨q,lines',r',rfl,rfl⟩:=hT
     refine nX .plain iC ?_
     refine Ed (jC _ _ ?_);clear jC
     refine am6 rfl rfl ?_
     obtain rfl:=some_inj hM
     refine aF fun w a hm ho=>?_
     exact⟨ho.yT,.tuple #[],by rw[results_none rfl],⟨_,rfl⟩,.inr ⟨_,⟨s,lines',r',rfl,rfl⟩,hm⟩⟩
 refine key.mono ?_
 rintro e w2 ⟨hv,⟨H2,hT,hm⟩|⟨H2,hT,hm⟩⟩
 ·exact⟨hv,.inl ⟨H2,hT,ais hs hm⟩⟩
 ·exact⟨hv,.inr ⟨H2,hT,ais hs hm⟩⟩
end
/-! ### The closure -/
theorem awK(S:aW)(w:World)(s0 qh:Str)(akF:Int)(hS:∀k,S k→k<w.heap.size):
  Calls Tryz.prog 152 #[.string s0.ba,.string qh.ba,.int .i64 akF] w (Post (β:=Nat×Nat×Nat) S [] (fun g=> .func (.func 182) #[] #[.pointer (some ⟨g.1,0,none⟩),.pointer (some ⟨g.2.1,0,none⟩),.pointer (some ⟨g.2.2,0,none⟩)])
   (fun g=>[own g.1 9 [.string qh.ba],own g.2.1 9 [.string s0.ba],own g.2.2 3 [.int .i64 akF]]) w):=by
 refine bF (args:=[_,_,_]) Tryz.func152 rfl (pre_nil hS).start rfl ?_
 refine au fun K1 hK1=>?_
 refine bg ?_
 refine bf (G8 (h1:=rfl) (k:=fun b1=>?_))
 refine bf (G8 (h1:=rfl) (k:=fun b2=>?_))
 refine bf (G8 (h1:=rfl) (k:=fun b3=>?_))
 refine lG eX ?_
 refine bq (hK1 _ _ ?_);clear hK1
 refine au fun K2 hK2=>?_
 refine bg ?_
 refine lG KT ?_
 refine lG eX ?_
 refine bq (hK2 _ _ ?_);clear hK2
 refine aF (eG (fun w hm=>bR (b2,b1,b3) hm rfl))
theorem awJ(S:aW)(w:World)(s0 qh:Str)(hS:∀k,S k→k<w.heap.size):
  Calls Tryz.prog 99 #[.string s0.ba,.string qh.ba] w (Post (β:=Nat×Nat×Nat) S [] (fun g=> .func (.func 182) #[] #[.pointer (some ⟨g.1,0,none⟩),.pointer (some ⟨g.2.1,0,none⟩),.pointer (some ⟨g.2.2,0,none⟩)])
   (fun g=>[own g.1 9 [.string qh.ba],own g.2.1 9 [.string s0.ba],own g.2.2 3 [.int .i64 0]]) w):=by
 refine bF (args:=[_,_]) Tryz.func99 rfl (pre_nil hS).start rfl ?_
 refine au fun K1 hK1=>?_
 refine bg ?_
 refine lG eX ?_
 refine bq (hK1 _ _ ?_);clear hK1
 refine au fun K2 hK2=>?_
 refine bg ?_
 refine lG dJ ?_
 refine lG dJ ?_
 refine bf (fu iO.nil (fun S w hs hP=>awK _ w s0 qh 0 (aM hs)) (by intro r c hc;simp only[List.mem_cons,List.not_mem_nil,or_false] at hc;rcases hc with rfl|rfl|rfl<;>exact Yl) (fun g=>?_))
 dsimp only[List.cons_append,List.nil_append]
 refine lG eX ?_
 refine bq (hK2 _ _ ?_);clear hK2
 refine aF (eG (fun w hm=>bR g hm rfl))
/-! ### Lines -/
theorem aw0 (S : aW) (w : World) (jK : Str) (y : (List (List Word)) × Int × Int) (hM : Xd jK = some y) (hS : ∀ k, S k → k < w.heap.size) :
  Calls Tryz.prog 45 #[.string jK.ba] w (Post (β := (ah.R (List (List Word)))) S [] (fun g => .tuple #[.slice g.a y.1.length g.cap, .int .i64 y.2.1, .int .i64 y.2.2]) (fun g => [aj 105 g y.1]) w) := by
 refine amE (args := [_]) Tryz.func45 rfl (pre_nil hS).start rfl ?_
 unfold Xd at hM
 refine au fun K1 hK1 => ?_
 refine bg ?_
 refine bf (gU rfl (k := fun b2 => ?_))
 refine bf (gU rfl (k := fun b3 => ?_))
 refine bf (gU rfl (k := fun b4 => ?_))
 refine bq (hK1 _ _ ?_); clear hK1
 refine au fun K2 hK2 => ?_
 refine au fun K3 hK3 => ?_
 refine bg ?_
 refine lG dJ ?_
 refine lG R6 ?_
 refine lG vY ?_
 refine bq (hK3 _ _ ?_); clear hK3
 refine xE rfl (fun hc => ?_) (fun hc => ?_)
 ·replace hM := (Oe hc).symm.trans hM
  refine au fun K4 hK4 => ?_
  refine bg ?_
  refine bf (lH (b := b2) (vs := [.slice none 0 0]) (k := ?_))
  refine bf (lH (b := b3) (vs := [.int .i64 0]) (k := ?_))
  refine bf (lH (b := b4) (vs := [.int .i64 7]) (k := ?_))
  refine bq (hK4 _ _ ?_); clear hK4
  refine iP (fun w hm => hm.sN (α := List Word) 105 (fun _ => (⟨none, 0, fun _ => ()⟩ : SR (ah.R Word)))) ?_
  obtain rfl := some_inj hM
  refine aF (asr (fun w hm => bR (⟨none, 0, fun _ => (⟨none, 0, fun _ => ()⟩ : SR (ah.R Word))⟩ : SR (ah.R (List Word))) hm rfl))
 ·replace hM := (Od hc).symm.trans hM
  refine gG (hK2 _ _ ?_); clear hK2
  refine au fun K5 dx => ?_
  refine bg ?_
  refine bf (gU rfl (k := fun b5 => ?_))
  refine bq (dx _ _ ?_); clear dx
  refine au fun K6 dG => ?_
  refine bg ?_
  refine bf (gU rfl (k := fun b6 => ?_))
  refine bf (lH (b := b6) (vs := [.int .i64 0]) (k := ?_))
  refine bq (dG _ _ ?_); clear dG
  refine am8 ?_
  refine au fun K7 gu => ?_
  refine bg ?_
  refine lG dJ ?_
  refine bf (fu iO.nil (fun S w hs hP => awJ _ w jK ⟨[10]⟩ (aM hs)) (by intro r c hc; simp only [List.mem_cons, List.not_mem_nil, or_false] at hc; rcases hc with rfl | rfl | rfl <;> exact Yl) (fun g => ?_))
  dsimp only [List.cons_append, List.nil_append]
  refine bq (gu _ _ ?_); clear gu
  obtain ⟨lC, bs, lX⟩ := g
  dsimp only
  refine iP (fun w hm => (hm.sN (α := List Word) 105 (fun _ => (⟨none, 0, fun _ => ()⟩ : SR (ah.R Word)))).jg (cs := HL lC bs lX b6 b5 b4 b3 b2 jK 0 [] (⟨none, 0, fun _ => (⟨none, 0, fun _ => ()⟩ : SR (ah.R Word))⟩ : SR (ah.R (List Word))))) ?_
  refine am7 (cap := [.pointer (some ⟨lC, 0, none⟩), .pointer (some ⟨bs, 0, none⟩), .pointer (some ⟨lX, 0, none⟩)]) (WTn lC bs lX b6 b5 b4 b3 b2 y) (WTr lC bs lX b6 b5 b4 b3 b2 y) rfl (by kernel_rfl) ?_ ?_ ?_
  ·intro L D w1 hm1
   refine arZ lC bs lX b6 b5 b4 b3 b2 rfl ?_ FUEL jK 0 [] _ y hM w1 hm1
   clear hM hm1 hc
   intro κ' F hF t s number lines r z hz Ka hKa
   refine F8 ?_
   refine nX hF eX ?_
   refine Ed (hKa _ ?_); clear hKa
   unfold OL at hz
   refine agU ?_
   refine KO fun K1 hK1 => ?_
   refine F8 ?_
   refine nX hF (gZ (b := b6)) ?_
   obtain ⟨hI1, hz⟩ := bQ hz
   refine nX hF (dP (hr := fun hg => dU hI1)) ?_
   refine OY hF (lH (b := b6) (vs := [.int .i64 (number + 1)]) (k := ?_))
   refine Ed (hK1 _ _ ?_); clear hK1
   refine KO fun K2 hK2 => ?_
   refine F8 ?_
   refine nX hF dJ ?_
   refine nX hF (gZ (b := b6)) ?_
   obtain ⟨y1, hy1, hz⟩ := bind_some hz
   refine OY hF (fu iO.nil (fun S w hs hP => aw3 _ w t (number + 1) y1 hy1 (aM hs)) (by intro r c hc; simp only [List.mem_cons, List.not_mem_nil, or_false] at hc; rcases hc with rfl; exact ach (fun _ _ _ _ => trivial)) (fun g => ?_))
   dsimp only [List.cons_append, List.nil_append]
   refine nX hF dJ ?_
   refine nX hF (bU (vs := [.slice g.a y1.1.length g.cap, .bool y1.2])) ?_
   refine nX hF (bU (vs := [.slice g.a y1.1.length g.cap, .bool y1.2])) ?_
   refine nX hF eX ?_
   refine nX hF eX ?_
   refine Ed (hK2 _ _ ?_); clear hK2
   refine agU ?_
   refine KO fun K3 hK3 => ?_
   refine F8 ?_
   refine nX hF dJ ?_
   refine nX hF iC ?_
   refine nX hF eX ?_
   refine Ed (hK3 _ _ ?_); clear hK3
   refine abX rfl (fun hc => ?_) (fun hc => ?_)
   ·replace hz := (Oe hc).symm.trans hz
    obtain rfl := some_inj hz
    refine KO fun K4 hK4 => ?_
    refine agV ?_
    refine agG hF 0 1 ⟨_, rfl, rfl, rfl, rH (gZ (b := b6)) ?_⟩ ⟨_, rfl, rfl, rfl, lH (b := b2) (vs := [.slice none 0 0]) (k := ?_)⟩
    ·refine Cb hF 1 rfl (lH (b := b2) (vs := [.slice none 0 0]) (k := ?_))
     refine Cb hF 2 rfl (lH (b := b3) (vs := [.int .i64 (number + 1)]) (k := ?_))
     refine Cb hF 3 rfl (lH (b := b4) (vs := [.int .i64 2]) (k := ?_))
     refine XG (hK4 _ _ ?_)
     exact Ya fun w a hm ho => ⟨_, ⟨_, lines, r, rfl, rfl⟩, hm.jg⟩
    ·refine Cb hF 0 rfl (rH (gZ (b := b6)) ?_)
     refine Cb hF 2 rfl (lH (b := b3) (vs := [.int .i64 (number + 1)]) (k := ?_))
     refine Cb hF 3 rfl (lH (b := b4) (vs := [.int .i64 2]) (k := ?_))
     refine XG (hK4 _ _ ?_)
     exact Ya fun w a hm ho => ⟨_, ⟨_, lines, r, rfl, rfl⟩, hm.jg⟩
   ·replace hz := (Od hc).symm.trans hz
    refine KO fun K4 hK4 => ?_
    refine F8 ?_
    refine nX hF dJ ?_
    refine nX hF jq ?_
    refine nX hF vY ?_
    refine nX hF eX ?_
    refine Ed (hK4 _ _ ?_); clear hK4
    refine abX rfl (fun hc2 => ?_) (fun hc2 => ?_)
    ·replace hz := (Oe hc2).symm.trans hz
     obtain rfl := some_inj hz
     refine KO fun K4 hK4 => ?_
     refine agV ?_
     refine agG hF 0 1 ⟨_, rfl, rfl, rfl, rH (gZ (b := b6)) ?_⟩ ⟨_, rfl, rfl, rfl, lH (b := b2) (vs := [.slice none 0 0]) (k := ?_)⟩
     ·refine Cb hF 1 rfl (lH (b := b2) (vs := [.slice none 0 0]) (k := ?_))
      refine Cb hF 2 rfl (lH (b := b3) (vs := [.int .i64 (number + 1)]) (k := ?_))
      refine Cb hF 3 rfl (lH (b := b4) (vs := [.int .i64 7]) (k := ?_))
      refine XG (hK4 _ _ ?_)
      exact Ya fun w a hm ho => ⟨_, ⟨_, lines, r, rfl, rfl⟩, hm.jg⟩
     ·refine Cb hF 0 rfl (rH (gZ (b := b6)) ?_)
      refine Cb hF 2 rfl (lH (b := b3) (vs := [.int .i64 (number + 1)]) (k := ?_))
      refine Cb hF 3 rfl (lH (b := b4) (vs := [.int .i64 7]) (k := ?_))
      refine XG (hK4 _ _ ?_)
      exact Ya fun w a hm ho => ⟨_, ⟨_, lines, r, rfl, rfl⟩, hm.jg⟩
    ·replace hz := (Od hc2).symm.trans hz
     refine KO fun K4 hK4 => ?_
     refine F8 ?_
     refine nX hF dJ ?_
     refine nX hF jq ?_
     refine nX hF vY ?_
     refine nX hF eX ?_
     refine Ed (hK4 _ _ ?_); clear hK4
     refine abX rfl (fun hc3 => ?_) (fun hc3 => ?_)
     ·replace hz := (Oe hc3).symm.trans hz
      obtain ⟨hb, hz⟩ := bQ hz
      obtain rfl := some_inj hz
      refine F8 ?_
      refine nX hF (gZ (b := b5)) ?_
      refine nX hF dJ ?_
      refine aty (fun w hm => hm.freeze (r := g) (by repeat (first | exact fq.head | apply fq.tail))) ?_
      refine OY hF (fI (α := List Word) 105 (fun _ => g) ([y1.1] : List (List Word)) (jV.cons (fun S w hs => (Sk.dw (α := List Word) (r := g) (x := y1.1) (by repeat (first | exact Has.head | apply Has.tail))) S w hs) jV.nil) (fun r2 => ?_))
      refine OY hF (iq (r := r) (r2 := r2) (by intro r'; repeat (first | exact fq.head | apply fq.tail)) (Kn.aj (e := 105) (r := r2) (by repeat (first | exact Has.head | apply Has.tail))) (jV.row (e := 105) (r := r2) (by repeat (first | exact Has.head | apply Has.tail))) (of_decide_eq_true hb) (fun r3 => ?_))
      refine OY hF (lH (b := b5) (vs := [.slice r3.a (lines ++ [y1.1]).length r3.cap]) (k := ?_))
      exact Ed fun w a hm ho => ⟨_, ⟨_, r3, rfl, rfl⟩, hm.jg⟩
     ·replace hz := (Od hc3).symm.trans hz
      obtain rfl := some_inj hz
      exact am9 fun w a hm ho => ⟨_, ⟨_, r, rfl, rfl⟩, hm.jg⟩
  ·intro D H2 hT w2 a hm ho
   obtain ⟨s, number, r, hy, rfl⟩ := hT
   refine wp_seq (wp_region_lit ?_)
   refine (?_ : KC _ _ _ _ _ _ _ _ _) w2 a hm ho
   refine atz (gZ (b := b5)) ?_
   refine aeu (lH (b := b2) (vs := [.slice r.a y.1.length r.cap]) (k := ?_))
   refine aeu (lH (b := b3) (vs := [.int .i64 0]) (k := ?_))
   refine aeu (lH (b := b4) (vs := [.int .i64 0]) (k := ?_))
   refine atA fun w a hm ho => ?_
   refine wp_ret ?_
   rw [hy]
   exact akc hm ho (fun w hm => bR r hm rfl)
  ·intro D H2 hT w2 a hm ho
   obtain ⟨s, lines, r, hy, rfl⟩ := hT
   rw [hy]
   exact akc hm ho (fun w hm => bR (⟨none, 0, fun _ => (⟨none, 0, fun _ => ()⟩ : SR (ah.R Word))⟩ : SR (ah.R (List Word))) (hm.sN (α := List Word) 105 (fun _ => (⟨none, 0, fun _ => ()⟩ : SR (ah.R Word)))) rfl)
end Go.Proofs.YtcalibhfgdncaaaGreatDoor
