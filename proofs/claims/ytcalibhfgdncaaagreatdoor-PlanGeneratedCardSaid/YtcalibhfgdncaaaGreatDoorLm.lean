/- Several parts of the engine, one behind the other. -/
import Derived.Test.YtcalibhfgdncaaaGreatDoorEm
import Derived.Test.YtcalibhfgdncaaaGreatDoorProg
import Derived.Test.YtcalibhfgdncaaaGreatDoorTypes
set_option linter.all false
namespace Go.Proofs.YtcalibhfgdncaaaGreatDoor
open Go.gQ Go.RowKit
set_option maxRecDepth 10000
def rH(c:Int):Bool:=(decide (65≤c)&&decide (c≤90))||(decide (97≤c)&&decide (c≤122))
def zH(c:Int):Bool:=decide (48≤c)&&decide (c≤57)
theorem afc(w:World)(c:Int):Calls Tryz.prog 134 #[.int .u8 c] w (dz w (.bool (rH c))):=by
 refine cu (args:=[_]) Tryz.func134 rfl (Mem.start w) rfl ?_
 refine aK fun K1 hK1=>?_
 refine bB ?_
 refine aZ dD ?_
 refine bC (hK1 _ _ ?_);clear hK1
 refine aK fun K2 hK2=>?_
 refine bB ?_
 refine aZ aL ?_
 refine aZ jK ?_
 refine aZ aL ?_
 refine aD rfl aL ?_
 refine aD rfl oI ?_
 refine aZ dG ?_
 refine aZ aL ?_
 refine aD rfl aL ?_
 refine aD rfl jK ?_
 refine aD rfl aL ?_
 refine aD rfl aL ?_
 refine aD rfl oI ?_
 refine aD rfl dG ?_
 refine aZ dQ ?_
 refine aZ dD ?_
 refine bC (hK2 _ _ ?_);clear hK2
 refine aY (o8 rfl rfl (fun w hm=>pz hm rfl))
theorem aou(w:World)(c:Int):Calls Tryz.prog 135 #[.int .u8 c] w (dz w (.bool (zH c))):=by
 refine cu (args:=[_]) Tryz.func135 rfl (Mem.start w) rfl ?_
 refine aK fun K1 hK1=>?_
 refine bB ?_
 refine aZ dD ?_
 refine bC (hK1 _ _ ?_);clear hK1
 refine aK fun K2 hK2=>?_
 refine bB ?_
 refine aZ aL ?_
 refine aZ jK ?_
 refine aZ aL ?_
 refine aD rfl aL ?_
 refine aD rfl oI ?_
 refine aZ dG ?_
 refine aZ dD ?_
 refine bC (hK2 _ _ ?_);clear hK2
 refine aY (o8 rfl rfl (fun w hm=>pz hm rfl))
def rE(c:Int):Bool:=rH c||zH c||decide (c=95)
def lJ(s:ByteArray):Bool:=decide (1≤s.size)&&decide (s.size≤12)&&rH (bt s 0)&&(List.range s.size).all fun i=>rE (bt s i)
theorem ajb{c:Int}(h:((!rH c&& !zH c)&&decide (c≠95))=false):rE c=true:=by
 unfold rE
 cases hl:rH c<;>cases hd:zH c<;>simp[hl,hd] at h ⊢
 exact h
theorem apt{s:ByteArray}(h:((decide ((s.size:Int)<1)||decide (12<(s.size:Int)))|| !rH (bt s 0))=true):lJ s=false:=by
 unfold lJ
 cases hl:rH (bt s 0)
 ·simp
 ·simp[hl] at h
  rcases h with h|h
  ·have:¬(1≤s.size):=by omega
   simp[this]
  ·have:¬(s.size≤12):=by omega
   simp[this]
theorem apu{s:ByteArray}{i:Int}(h0:0≤i)(h1:i<s.size)(h:((!rH (bt s i.toNat)&& !zH (bt s i.toNat))&&decide (bt s i.toNat≠95))=true):lJ s=false:=by
 have hc:rE (bt s i.toNat)=false:=by
  unfold rE
  cases hl:rH (bt s i.toNat)<;>cases hd:zH (bt s i.toNat)<;>simp_all
 have:((List.range s.size).all fun i=>rE (bt s i))=false:=by
  rw[List.all_eq_false]
  exact⟨i.toNat,by rw[List.mem_range];omega,by simp[hc]⟩
 unfold lJ
 rw[this]
 simp
theorem apw{s:ByteArray}{i:Int}(h:((¬(s.size:Int)<1)∧¬12<(s.size:Int))∧rH (bt s 0)=true)(hi:i=s.size)(hall:∀j,j<i.toNat→rE (bt s j)=true):lJ s=true:=by
 unfold lJ
 have h1:1≤s.size:=by omega
 have h2:s.size≤12:=by omega
 simp only[h1,h2,decide_true,h.2,Bool.true_and,List.all_eq_true,List.mem_range]
 intro j hj
 exact hall j (by omega)
theorem apv (w : World) (s : ByteArray) : Calls Tryz.prog 78 #[.string s] w (dz w (.bool (lJ s))) := by
  refine cu (args := [_]) Tryz.func78 rfl (Mem.start w) rfl ?_
  refine aK fun K1 hK1 => ?_
  refine bB ?_
  refine aZ dD ?_
  refine bC (hK1 _ _ ?_); clear hK1
  refine aK fun K2 hK2 => ?_
  refine aK fun K3 hK3 => ?_
  refine bB ?_
  refine aZ aL ?_
  refine aZ P6 ?_
  refine aZ bY ?_
  refine aZ aL ?_
  refine aD rfl aL ?_
  refine aD rfl P6 ?_
  refine aD rfl gM ?_
  refine aZ dQ ?_
  refine aZ aL ?_
  refine aD rfl aL ?_
  refine aD rfl Vb ?_
  refine V3 rfl (fun _ w _ => afc w _) ?_
  refine aD rfl fq ?_
  refine aZ dQ ?_
  refine bC (hK3 _ _ ?_); clear hK3
  refine wJ rfl (fun hc1 => ?_) (fun hc1 => ?_)  -- t17
  ·
    refine aK fun K4 hK4 => ?_
    refine bB ?_
    refine aZ dD ?_
    refine bC (hK4 _ _ ?_); clear hK4
    refine aY (o8 rfl rfl (fun w hm => pz hm (congrArg Value.bool (apt hc1).symm)))
  ·
    refine aX (hK2 _ _ ?_); clear hK2
    refine aK fun K5 dI => ?_
    refine aK fun K6 dn => ?_
    refine bB ?_
    refine aZ aL ?_
    refine aZ P6 ?_
    refine aZ aL ?_
    refine bC (dn _ _ ?_); clear dn
    refine bH ?_  -- block 0
    simp only [Bool.or_eq_false_iff, decide_eq_false_iff_not, Bool.not_eq_false'] at hc1
    refine Gx (γ := Int) (env := fun i => [(0, .v (.string s)), (19, .v (.int .i64 (s.size : Int))), (20, .v (.int .i64 i))]) (mem := fun _ => [old w])
      (R := fun i => 0 ≤ i ∧ i ≤ s.size ∧ ∀ j, j < i.toNat → rE (bt s j) = true) (μ := fun i => (s.size - i).toNat) 0 ⟨by omega, by omega, fun j hj => by simp at hj⟩ ⟨rfl, rfl, rfl, trivial⟩ (fun _ h => h) ?_
    · intro i hR KL hL
      obtain ⟨hi0, hi1, hall⟩ := hR
      refine aK fun K7 eu => ?_
      refine bB ?_
      refine aZ bY ?_
      refine bC (eu _ _ ?_); clear eu
      refine aK fun K8 gV => ?_
      refine wK rfl (fun hc => ?_) (fun hc => ?_)  -- t21
      ·
        refine aX (gV _ _ ?_); clear gV
        refine aK fun K9 gB => ?_
        refine bH ?_  -- block 1
        refine aK fun tK gU => ?_
        refine bB ?_
        refine aZ aL ?_
        refine aZ dD ?_
        refine bC (gU _ _ ?_); clear gU
        refine aK fun rQ gG => ?_
        refine bB ?_
        refine aZ aL ?_
        refine aZ aL ?_
        refine aZ Vb ?_
        refine bM (lK (fun w _ => afc w _) ?_)
        refine aZ fq ?_
        refine aZ aL ?_
        refine aD rfl aL ?_
        refine aD rfl aL ?_
        refine aD rfl Vb ?_
        refine V3 rfl (fun _ w _ => aou w _) ?_
        refine aD rfl fq ?_
        refine aZ dG ?_
        refine aZ aL ?_
        refine aD rfl aL ?_
        refine aD rfl aL ?_
        refine aD rfl Vb ?_
        refine aD rfl gZ ?_
        refine aZ dG ?_
        refine bC (gG _ _ ?_); clear gG
        refine wJ rfl (fun hc2 => ?_) (fun hc2 => ?_)  -- t40
        ·
          refine aK fun zy jY => ?_
          refine bB ?_
          refine aZ dD ?_
          refine bC (jY _ _ ?_); clear jY
          refine aY (o8 rfl rfl (fun w hm => pz hm (congrArg Value.bool (apu hi0 (by assumption) hc2).symm)))
        ·
          refine aX (gB _ _ ?_); clear gB
          refine bB ?_
          refine aZ eH ?_
          refine aZ aL ?_
          refine bC (hL (i + 1) _ _ ⟨by omega, by omega, fun j hj => ?_⟩ (by omega) ⟨rfl, rfl, rfl, trivial⟩ (fun _ h => h))
          by_cases hji : j < i.toNat
          · exact hall j hji
          · obtain rfl : j = i.toNat := by omega
            exact ajb hc2
      ·
        -- exit 0
        refine dK (dI _ _ ?_); clear dI
        refine aK fun yD jO => ?_
        refine bB ?_
        refine aZ dD ?_
        refine bC (jO _ _ ?_); clear jO
        refine aY (o8 rfl rfl (fun w hm => pz hm (congrArg Value.bool (apw hc1 (by omega) hall).symm)))
end Go.Proofs.YtcalibhfgdncaaaGreatDoor
namespace Go.Proofs.YtcalibhfgdncaaaGreatDoor
open Go.gQ Go.RowKit
set_option maxRecDepth 10000
structure mZ where
 name:ByteArray
 len:Int
 lim:Int
 Zh:Int
 acD:Int
def mZ.cells(s:mZ):List Value:=[.string s.name,.int .i64 s.len,.int .i64 s.lim,.int .i64 s.Zh,.int .i64 s.acD]
structure fQ where
 a:Int
 lS:Int
 b:Int
 mQ:Int
 point:Int
 pos:Int
def fQ.cells(k:fQ):List Value:=[.int .i64 k.a,.int .i64 k.lS,.int .i64 k.b,.int .i64 k.mQ,.int .i64 k.point,.int .i64 k.pos]
structure Lay where
 nU:List ByteArray
 points:List ByteArray
 sections:List mZ
 links:List fQ
def strCells(l:List ByteArray):List Value:=l.map .string
structure yE where
 a1:Option Addr
 c1:Nat
 a2:Option Addr
 c2:Nat
 a3:Option Addr
 c3:Nat
 a4:Option Addr
 c4:Nat
def yE.cells(v:yE)(l:Lay):List Value:=[.slice v.a1 l.nU.length v.c1,.slice v.a2 l.points.length v.c2,.slice v.a3 l.sections.length v.c3,.slice v.a4 l.links.length v.c4]
structure Gj(lo hi:Nat)(w:World)(v:yE)(l:Lay):Prop where
 st:Sl lo hi w v.a1 (strCells l.nU)
 pt:Sl lo hi w v.a2 (strCells l.points)
 se:Sl lo hi w v.a3 (l.sections.flatMap mZ.cells)
 li:Sl lo hi w v.a4 (l.links.flatMap fQ.cells)
def nK(s:ByteArray)(seen:List ByteArray):Int:=if lJ s=false then 3 else if s∈seen then 5 else 0
def KY(s:ByteArray)(seen:List ByteArray):List ByteArray:=if nK s seen=0 then seen++[s] else seen
def xq(rW:Nat)(s:mZ):Bool:=((((((decide (1≤s.len)&&decide (s.len≤400))&&decide (1000≤s.lim))&&decide (s.lim≤100000))&&decide (-40≤s.Zh))&&decide (s.Zh≤40))&&decide (-1≤s.acD))&&decide (s.acD<(rW:Int))
theorem ard(w:World)(v:yE)(l:Lay)(s:mZ):Calls Tryz.prog 97 #[.agg (v.cells l).toArray,.agg s.cells.toArray] w (dz w (.bool (xq l.nU.length s))):=by
 refine cu (args:=[_,_]) Tryz.func97 rfl (Mem.start w) rfl ?_
 refine aK fun K1 hK1=>?_
 refine bB ?_
 refine bM (Av (k:=fun b2=>?_))
 refine bM (Av (k:=fun b3=>?_))
 refine aZ dD ?_
 refine bC (hK1 _ _ ?_);clear hK1
 refine aK fun K2 hK2=>?_
 refine bB ?_
 refine aZ (av 1) ?_
 refine aZ aF ?_
 refine aZ jK ?_
 refine aZ aL ?_
 refine aD rfl (av 1) ?_
 refine aD rfl aF ?_
 refine aD rfl oI ?_
 refine aZ dG ?_
 refine aZ aL ?_
 refine aD rfl (av 2) ?_
 refine aD rfl aF ?_
 refine aD rfl jK ?_
 refine aZ dG ?_
 refine aZ aL ?_
 refine aD rfl (av 2) ?_
 refine aD rfl aF ?_
 refine aD rfl oI ?_
 refine aZ dG ?_
 refine aZ aL ?_
 refine aD rfl (av 3) ?_
 refine aD rfl aF ?_
 refine aD rfl jK ?_
 refine aZ dG ?_
 refine aZ aL ?_
 refine aD rfl (av 3) ?_
 refine aD rfl aF ?_
 refine aD rfl oI ?_
 refine aZ dG ?_
 refine aZ aL ?_
 refine aD rfl (av 4) ?_
 refine aD rfl aF ?_
 refine aD rfl jK ?_
 refine aZ dG ?_
 refine aZ aL ?_
 refine aD rfl (av 4) ?_
 refine aD rfl aF ?_
 refine aD rfl (av 0) ?_
 refine aD rfl aF ?_
 refine aD rfl bL ?_
 refine aD rfl bY ?_
 refine aZ dG ?_
 refine aZ dD ?_
 refine bC (hK2 _ _ ?_);clear hK2
 refine aY (o8 rfl rfl (fun w hm=>pz hm rfl))
theorem ne1{s:ByteArray}{S:List ByteArray}(h:(!lJ s)=true):nK s S=3:=by simp at h;simp[nK,h]
theorem ne2{s:ByteArray}{S:List ByteArray}(h:(!lJ s)=false)(h2:s∈S):nK s S=5:=by simp at h;simp[nK,h,h2]
theorem ne3{s:ByteArray}{S:List ByteArray}(h:(!lJ s)=false)(h2:¬s∈S):nK s S=0:=by simp at h;simp[nK,h,h2]
theorem se1{s:ByteArray}{S:List ByteArray}(h:nK s S≠0):KY s S=S:=by simp[KY,h]
theorem se2{s:ByteArray}{S:List ByteArray}(h:nK s S=0):KY s S=S++[s]:=by simp[KY,h]
theorem adR (w : World) (s : ByteArray) (b : Nat) (S : List ByteArray) (hφ : (yS b S).φ w) (hb : ∀ k, (yS b S).fp k → k < w.heap.size) :
    Calls Tryz.prog 96 #[.string s, .map (some b)] w (Mut (yS b S) (fun _ : Unit => .int .i64 (nK s S)) (fun _ => True) (fun _ => yS b (KY s S)) w) := by
  refine cu (args := [_, _]) Tryz.func96 rfl (Mem.arE (yS b S) hφ hb) rfl ?_
  refine aK fun K1 hK1 => ?_
  refine bB ?_
  refine aZ dD ?_
  refine bC (hK1 _ _ ?_); clear hK1
  refine aK fun K2 hK2 => ?_
  refine bH ?_
  refine aK fun K3 hK3 => ?_
  refine bB ?_
  refine aZ aL ?_
  refine bM (lK (fun w hm => apv w _) ?_)
  refine aZ fq ?_
  refine aZ dD ?_
  refine bC (hK3 _ _ ?_); clear hK3
  refine wJ rfl (fun hc1 => ?_) (fun hc1 => ?_)  -- t5
  ·
    refine aK fun K4 hK4 => ?_
    refine bB ?_
    refine aZ dD ?_
    refine bC (hK4 _ _ ?_); clear hK4
    refine aY (o8 rfl rfl (fun w hm => ⟨(), by rw [ne1 hc1], trivial, by rw [se1 (by rw [ne1 hc1]; decide)]; exact Has.head.φ hm, fun k hk => ⟨.inl hk, Has.lt (c := yS b S) Has.head hm hk⟩, hm.frame (.tail .head)⟩))
  ·
    refine aK fun K5 dI => ?_
    refine bB ?_
    refine aZ aL ?_
    refine aZ aL ?_
    refine aZ ajG ?_
    refine aZ dD ?_
    refine bC (dI _ _ ?_); clear dI
    refine wK rfl (fun hc2 => ?_) (fun hc2 => ?_)  -- t9
    ·
      refine aK fun K6 dn => ?_
      refine bB ?_
      refine aZ dD ?_
      refine bC (dn _ _ ?_); clear dn
      refine aY (o8 rfl rfl (fun w hm => ⟨(), by rw [ne2 hc1 hc2], trivial, by rw [se1 (by rw [ne2 hc1 hc2]; decide)]; exact Has.head.φ hm, fun k hk => ⟨.inl hk, Has.lt (c := yS b S) Has.head hm hk⟩, hm.frame (.tail .head)⟩))
    ·
      refine aX (hK2 _ _ ?_); clear hK2
      refine aK fun K7 eu => ?_
      refine bB ?_
      refine aZ aL ?_
      refine aZ aL ?_
      refine bM (arB hc2 .head ?_)
      refine bC (eu _ _ ?_); clear eu
      refine aK fun K8 gV => ?_
      refine bB ?_
      refine aZ dD ?_
      refine bC (gV _ _ ?_); clear gV
      refine aY (o8 rfl rfl (fun w hm => ⟨(), by rw [ne3 hc1 hc2], trivial, by rw [se2 (ne3 hc1 hc2)]; exact Has.head.φ hm, fun k hk => ⟨.inl hk, Has.lt (c := yS b (S ++ [s])) Has.head hm hk⟩, hm.frame (.tail .head)⟩))
end Go.Proofs.YtcalibhfgdncaaaGreatDoor
namespace Go.Proofs.YtcalibhfgdncaaaGreatDoor
open Go.gQ Go.RowKit
set_option maxRecDepth 10000
theorem Gj.below{w w':World}{v:yE}{l:Lay}(h:Gj 0 w.heap.size w v l)(hb:Below w.heap.size w w'):Gj 0 w'.heap.size w' v l:=
 ⟨h.st.mono (Nat.le_refl _) hb.size (fun k _ hk=>hb.block k hk),h.pt.mono (Nat.le_refl _) hb.size (fun k _ hk=>hb.block k hk),h.se.mono (Nat.le_refl _) hb.size (fun k _ hk=>hb.block k hk),h.li.mono (Nat.le_refl _) hb.size (fun k _ hk=>hb.block k hk)⟩
def atEnd(done:List fQ)(e:Int):List fQ:=done.filter (fun k=>decide (2*k.a+k.lS=e)||decide (2*k.b+k.mQ=e))
def JJ(a ae b be:Int)(k:fQ):Bool:=(decide (a=k.a∧ae=k.lS)&&decide (b=k.b∧be=k.mQ))||(decide (a=k.b∧ae=k.mQ)&&decide (b=k.a∧be=k.lS))
def xK(k:fQ):List fQ→Bool
 |[]=>true
 |[x]=>(decide (k.point≠ -1)&&decide (k.point=x.point))&&decide (k.pos≠x.pos)
 |_=>false
def oM(l:Lay)(k:fQ):Bool:=
 (((((((decide (0≤k.a)&&decide (k.a<(l.sections.length:Int)))&&decide (0≤k.b))&&decide (k.b<(l.sections.length:Int)))&&(decide (k.lS=0)||decide (k.lS=1)))&&(decide (k.mQ=0)||decide (k.mQ=1)))&&decide (-1≤k.point))&&decide (k.point<(l.points.length:Int)))&&(decide (k.pos=0)||(decide (k.pos=1)&&decide (k.point≠ -1)))
def pQ(l:Lay):List fQ→List fQ→Int
 |_,[]=>0
 |done,k::r=>
  if oM l k=false then 4 else if k.a=k.b∧k.lS=k.mQ then 1 else
  if (atEnd done (2*k.a+k.lS)).any (JJ k.a k.lS k.b k.mQ)=true then 5 else
  if xK k (atEnd done (2*k.a+k.lS))=false∨xK k (atEnd done (2*k.b+k.mQ))=false then 11 else pQ l (done++[k]) r
theorem apa(w:World)(v:yE)(l:Lay)(k:fQ):Calls Tryz.prog 147 #[.agg (v.cells l).toArray,.agg k.cells.toArray] w (dz w (.bool (oM l k))):=by
 refine cu (args:=[_,_]) Tryz.func147 rfl (Mem.start w) rfl ?_
 refine aK fun K1 hK1=>?_
 refine bB ?_
 refine bM (Av (k:=fun b2=>?_))
 refine bM (Av (k:=fun b3=>?_))
 refine aZ dD ?_
 refine bC (hK1 _ _ ?_);clear hK1
 refine aK fun K2 hK2=>?_
 refine bB ?_
 refine aZ (av 0) ?_
 refine aZ aF ?_
 refine aZ jK ?_
 refine aZ aL ?_
 refine aD rfl (av 0) ?_
 refine aD rfl aF ?_
 refine aD rfl (av 2) ?_
 refine aD rfl aF ?_
 refine aD rfl bL ?_
 refine aD rfl bY ?_
 refine aZ dG ?_
 refine aZ aL ?_
 refine aD rfl (av 2) ?_
 refine aD rfl aF ?_
 refine aD rfl jK ?_
 refine aZ dG ?_
 refine aZ aL ?_
 refine aD rfl (av 2) ?_
 refine aD rfl aF ?_
 refine aD rfl (av 2) ?_
 refine aD rfl aF ?_
 refine aD rfl bL ?_
 refine aD rfl bY ?_
 refine aZ dG ?_
 refine aZ aL ?_
 refine aD rfl (av 1) ?_
 refine aD rfl aF ?_
 refine aD rfl dU ?_
 refine aD rfl aL ?_
 refine aD rfl (av 1) ?_
 refine aD rfl aF ?_
 refine aD rfl dU ?_
 refine aD rfl dQ ?_
 refine aZ dG ?_
 refine aZ aL ?_
 refine aD rfl (av 3) ?_
 refine aD rfl aF ?_
 refine aD rfl dU ?_
 refine aD rfl aL ?_
 refine aD rfl (av 3) ?_
 refine aD rfl aF ?_
 refine aD rfl dU ?_
 refine aD rfl dQ ?_
 refine aZ dG ?_
 refine aZ aL ?_
 refine aD rfl (av 4) ?_
 refine aD rfl aF ?_
 refine aD rfl jK ?_
 refine aZ dG ?_
 refine aZ aL ?_
 refine aD rfl (av 4) ?_
 refine aD rfl aF ?_
 refine aD rfl (av 1) ?_
 refine aD rfl aF ?_
 refine aD rfl bL ?_
 refine aD rfl bY ?_
 refine aZ dG ?_
 refine aZ aL ?_
 refine aD rfl (av 5) ?_
 refine aD rfl aF ?_
 refine aD rfl dU ?_
 refine aD rfl aL ?_
 refine aD rfl (av 5) ?_
 refine aD rfl aF ?_
 refine aD rfl dU ?_
 refine aD rfl aL ?_
 refine aD rfl (av 4) ?_
 refine aD rfl aF ?_
 refine aD rfl gZ ?_
 refine aD rfl dG ?_
 refine aD rfl dQ ?_
 refine aZ dG ?_
 refine aZ dD ?_
 refine bC (hK2 _ _ ?_);clear hK2
 refine aY (o8 rfl rfl (fun w hm=>pz hm rfl))
theorem ad3(w:World)(k:fQ):Calls Tryz.prog 148 #[.agg k.cells.toArray] w (dz w (.tuple #[.agg #[.int .i64 k.a,.int .i64 k.lS],.agg #[.int .i64 k.b,.int .i64 k.mQ]])):=by
 refine cu (args:=[_]) Tryz.func148 rfl (Mem.start w) rfl ?_
 refine aK fun K1 hK1=>?_
 refine bB ?_
 refine bM (Av (k:=fun b1=>?_))
 refine bM (iw rfl (k:=fun b2=>?_))
 refine bM (iw rfl (k:=fun b3=>?_))
 refine bC (hK1 _ _ ?_);clear hK1
 refine aK fun K2 hK2=>?_
 refine gy [own b1 183 k.cells,old w] (by repeat (first|exact List.Sublist.refl _|apply List.Sublist.cons_cons|apply List.Sublist.cons)) ?_
 refine ak 0 rfl (av 0) ?_
 refine ak 1 rfl aF ?_
 refine ak 2 rfl (av 1) ?_
 refine ak 3 rfl aF ?_
 refine ak 4 rfl Y5 ?_
 refine ak 5 rfl (av 2) ?_
 refine ak 6 rfl aF ?_
 refine ak 7 rfl (av 3) ?_
 refine ak 8 rfl aF ?_
 refine ak 9 rfl Y5 ?_
 refine dH 10 rfl (xu (k:=⟨fun w hm=>hm.sub (by repeat (first|exact List.Sublist.refl _|apply List.Sublist.cons_cons|apply List.Sublist.cons)),?_⟩))
 refine dH 11 rfl (xu (k:=⟨fun w hm=>hm.sub (by repeat (first|exact List.Sublist.refl _|apply List.Sublist.cons_cons|apply List.Sublist.cons)),?_⟩))
 refine dP (hK2 _ _ ?_);clear hK2
 refine aY (uw (fun w hm=>pz hm rfl))
theorem ad2(w:World)(s d:Int)(hs:0≤s∧s≤1000000)(hd:0≤d∧d≤1000000):Calls Tryz.prog 149 #[.agg #[.int .i64 s,.int .i64 d]] w (dz w (.int .i64 (2*s+d))):=by
 refine cu (args:=[_]) Tryz.func149 rfl (Mem.start w) rfl ?_
 refine aK fun K1 hK1=>?_
 refine bB ?_
 refine bM (Av (k:=fun b1=>?_))
 refine aZ dD ?_
 refine bC (hK1 _ _ ?_);clear hK1
 refine aK fun K2 hK2=>?_
 refine bB ?_
 refine aZ (av 0) ?_
 refine aZ aF ?_
 refine aZ tQ ?_
 refine aZ (av 1) ?_
 refine aZ aF ?_
 refine aZ eH ?_
 refine aZ dD ?_
 refine bC (hK2 _ _ ?_);clear hK2
 refine aY (o8 rfl rfl (fun w hm=>pz hm rfl))
def jG:fQ:=⟨0,0,0,0,0,0⟩
theorem aef:∀(xs:List fQ) (i j:Nat),j<6→(xs.flatMap fQ.cells)[i*6+j]?=(xs[i]?).bind (fun x=>(fQ.cells x)[j]?)
 |[],i,j,_=>by simp
 |x::xs,0,j,hj=>by
  simp only[List.flatMap_cons,Nat.zero_mul,Nat.zero_add]
  rw[List.getElem?_append_left (by show j<6;exact hj)]
  rfl
 |x::xs,i+1,j,hj=>by
  simp only[List.flatMap_cons]
  have h6:(fQ.cells x).length=6:=rfl
  rw[List.getElem?_append_right (by rw[h6,Nat.add_mul];omega),h6]
  rw[show (i+1)*6+j-6=i*6+j by rw[Nat.add_mul];omega]
  rw[aef xs i j hj]
  simp
theorem VY{xs:List fQ}{i j:Nat}{u:Value}(hi:i<xs.length)(hj:(fQ.cells (xs.getD i jG))[j]?=some u):(xs.flatMap fQ.cells)[i*6+j]?=some u:=by
 have hjl:j<6:=by have:=(List.getElem?_eq_some_iff.1 hj).1;simpa [fQ.cells] using this
 rw[aef xs i j hjl]
 have:xs[i]?=some (xs.getD i jG):=by simp[hi]
 rw[this]
 exact hj
theorem VZ(xs:List fQ):(xs.flatMap fQ.cells).length=xs.length*6:=by
 induction xs with
 |nil=>simp
 |cons x xs ih=>simp only[List.flatMap_cons,List.length_append,ih,List.length_cons,Nat.add_mul];simp[fQ.cells];omega
theorem aiS{ks:List fQ}{p:fQ→Bool}{i:Nat}(hi:i<ks.length)(h:p (ks.getD i jG)=true):ks.any p=true:=by
 rw[List.any_eq_true]
 exact⟨ks[i],List.getElem_mem hi,by simpa [List.getD_eq_getElem?_getD,hi] using h⟩
theorem aiR{ks:List fQ}{p:fQ→Bool}{i:Nat}(hi:ks.length≤i)(h:∀j,j<i→p (ks.getD j jG)=false):ks.any p=false:=by
 rw[List.any_eq_false]
 intro x hx
 obtain⟨j,hj,rfl⟩:=List.mem_iff_getElem.1 hx
 have:=h j (by omega)
 simpa [List.getD_eq_getElem?_getD,hj] using this
theorem aoL (w : World) (a : Option Addr) (cap : Nat) (ks : List fQ) (x xe y ye : Int) (hs : Sl 0 w.heap.size w a (ks.flatMap fQ.cells)) (hlen : ks.length ≤ 1000000) :
    Calls Tryz.prog 150 #[.slice a ks.length cap, .agg #[.int .i64 x, .int .i64 xe], .agg #[.int .i64 y, .int .i64 ye]] w (dz w (.bool (ks.any (JJ x xe y ye)))) := by
  refine cu (args := [_, _, _]) Tryz.func150 rfl (Mem.start w) rfl ?_
  refine aK fun K1 hK1 => ?_
  refine bB ?_
  refine bM (Av (k := fun b4 => ?_))
  refine bM (Av (k := fun b5 => ?_))
  refine aZ dD ?_
  refine bC (hK1 _ _ ?_); clear hK1
  refine aK fun K2 hK2 => ?_
  refine aK fun K3 hK3 => ?_
  refine bB ?_
  refine aZ aL ?_
  refine aZ bL ?_
  refine aZ aL ?_
  refine bC (hK3 _ _ ?_); clear hK3
  refine bH ?_
  refine Gx (γ := Int) (env := fun i => [(4, .v (.pointer (some ⟨b4, 0, none⟩))), (5, .v (.pointer (some ⟨b5, 0, none⟩))), (11, .v (.slice a ks.length cap)), (12, .v (.int .i64 (ks.length : Int))), (13, .v (.int .i64 i))]) (mem := fun i => [own b5 209 [.int .i64 y, .int .i64 ye], own b4 209 [.int .i64 x, .int .i64 xe], old w]) (R := fun i => 0 ≤ i ∧ i ≤ ks.length ∧ ∀ j, j < i.toNat → JJ x xe y ye (ks.getD j jG) = false) (μ := fun i => (ks.length - i).toNat) (0) (⟨by omega, by omega, fun j hj => by simp at hj⟩) ⟨rfl, rfl, rfl, rfl, rfl, trivial⟩ (fun _ h => h) ?_
  intro i Mq iG hL1
  obtain ⟨hi0, hi1, hall⟩ := Mq
  refine aK fun K4 hK4 => ?_
  refine bB ?_
  refine aZ bY ?_
  refine bC (hK4 _ _ ?_); clear hK4
  refine aK fun K5 dI => ?_
  refine wK rfl (fun hc1 => ?_) (fun hc1 => ?_)  -- t14
  ·
    refine aX (dI _ _ ?_); clear dI
    refine aK fun K6 dn => ?_
    refine bH ?_
    refine aK fun K7 eu => ?_
    refine bB ?_
    refine aZ (GJ 6 (fun _ => hs.addr (by rw [VZ]; omega))) ?_
    refine aZ (Y6 (l := (ks.getD i.toNat jG).cells) (fun w hm q u hu => by rw [Nat.add_assoc]; exact L9 hs (VY (by omega) hu) (Nat.le_refl _) (by repeat (first | exact Has.head | apply Has.tail)) w hm)) ?_
    refine bM (iw rfl (k := fun b8 => ?_))
    refine bM (xu (k := ?_))
    refine bC (eu _ _ ?_); clear eu
    refine aK fun K8 gV => ?_
    refine bB ?_
    refine aZ bR ?_
    refine bM (lK (fun w hm => ad3 w _) ?_)
    refine aZ aL ?_
    refine aZ jv ?_
    refine aZ jv ?_
    refine bM (iw rfl (k := fun b9 => ?_))
    refine bM (iw rfl (k := fun b10 => ?_))
    refine bM (xu (k := ?_))
    refine bM (xu (k := ?_))
    refine bC (gV _ _ ?_); clear gV
    refine aK fun K9 gB => ?_
    refine bB ?_
    refine aZ bR ?_
    refine aZ bR ?_
    refine aZ P9 ?_
    refine aZ aL ?_
    refine aD rfl bR ?_
    refine aD rfl bR ?_
    refine aD rfl P9 ?_
    refine aZ dG ?_
    refine aZ aL ?_
    refine aD rfl bR ?_
    refine aD rfl bR ?_
    refine aD rfl P9 ?_
    refine aD rfl aL ?_
    refine aD rfl bR ?_
    refine aD rfl bR ?_
    refine aD rfl P9 ?_
    refine aD rfl dG ?_
    refine aZ dQ ?_
    refine bC (gB _ _ ?_); clear gB
    refine wJ rfl (fun hc2 => ?_) (fun hc2 => ?_)  -- t39
    ·
      refine aK fun tK gU => ?_
      refine bB ?_
      refine aZ dD ?_
      refine bC (gU _ _ ?_); clear gU
      refine aY (o8 rfl rfl (fun w hm => pz hm (congrArg Value.bool (aiS (by omega) hc2).symm)))
    ·
      refine aX (dn _ _ ?_); clear dn
      refine bB ?_
      refine aZ eH ?_
      refine aZ aL ?_
      refine bC (hL1 (i + 1) _ _ (⟨by omega, by omega, fun j hj => ?_⟩) (by omega) ⟨rfl, rfl, rfl, rfl, rfl, trivial⟩ (fun w hm => hm.sub (by repeat (first | exact List.Sublist.refl _ | apply List.Sublist.cons_cons | apply List.Sublist.cons))))
      by_cases hji : j < i.toNat
      · exact hall j hji
      · obtain rfl : j = i.toNat := by omega
        exact hc2
  ·
    refine dK (hK2 _ _ ?_); clear hK2
    refine aK fun rQ gG => ?_
    refine bB ?_
    refine aZ dD ?_
    refine bC (gG _ _ ?_); clear gG
    refine aY (o8 rfl rfl (fun w hm => pz hm (congrArg Value.bool (aiR (i := i.toNat) (by omega) hall).symm)))
theorem ajN{k:fQ}{ks:List fQ}(h:¬(ks.length:Int)=0):xK k ks=(((decide ((ks.length:Int)=1)&&decide (k.point≠ -1))&&decide (k.point=(ks.getD 0 jG).point))&&decide (k.pos≠(ks.getD 0 jG).pos)):=by
 match ks,h with
 |[],h=>simp at h
 |[x],_=>simp[xK]
 |x::y::r,_=>simp[xK];omega
theorem aed (w : World) (k : fQ) (a : Option Addr) (cap : Nat) (ks : List fQ) (hs : Sl 0 w.heap.size w a (ks.flatMap fQ.cells)) :
    Calls Tryz.prog 151 #[.agg k.cells.toArray, .slice a ks.length cap] w (dz w (.bool (xK k ks))) := by
  refine cu (args := [_, _]) Tryz.func151 rfl (Mem.start w) rfl ?_
  refine aK fun K1 hK1 => ?_
  refine bB ?_
  refine bM (Av (k := fun b2 => ?_))
  refine aZ dD ?_
  refine bC (hK1 _ _ ?_); clear hK1
  refine aK fun K2 hK2 => ?_
  refine aK fun K3 hK3 => ?_
  refine bB ?_
  refine aZ aL ?_
  refine aZ bL ?_
  refine aZ dU ?_
  refine bC (hK3 _ _ ?_); clear hK3
  refine wK rfl (fun hc1 => ?_) (fun hc1 => ?_)  -- t7
  ·
    refine aK fun K4 hK4 => ?_
    refine bB ?_
    refine aZ dD ?_
    refine bC (hK4 _ _ ?_); clear hK4
    refine aY (o8 rfl rfl (fun w hm => pz hm (by rw [show ks = [] from List.length_eq_zero_iff.1 (by omega)]; rfl)))
  ·
    refine aX (hK2 _ _ ?_); clear hK2
    refine aK fun K5 dI => ?_
    refine gy [own b2 183 k.cells, old w] (by repeat (first | exact List.Sublist.refl _ | apply List.Sublist.cons_cons | apply List.Sublist.cons)) ?_
    refine ak 0 rfl aL ?_
    refine ak 1 rfl bL ?_
    refine ak 2 rfl dU ?_
    refine ak 3 rfl aL ?_
    refine dO 4 rfl rfl (av 4) ?_
    refine dO 5 rfl rfl aF ?_
    refine dO 6 rfl rfl gZ ?_
    refine ak 7 rfl dG ?_
    refine ak 8 rfl aL ?_
    refine dO 9 rfl rfl (av 4) ?_
    refine dO 10 rfl rfl aF ?_
    refine dO 11 rfl rfl aL ?_
    refine dO 12 rfl rfl (GJ 6 (fun hg => hs.addr (by rw [VZ]; simp at hg; omega))) ?_
    refine dO 13 rfl rfl (av 4) ?_
    refine dO 14 rfl rfl (D5 (v := .int .i64 (ks.getD 0 jG).point) (by first | exact .plain rfl | exact .cond rfl id) (by kernel_rfl) (fun hg w hm => L9 (j := 0 * 6 + 4) hs (VY (j := 4) (by simp at hg; omega) rfl) (Nat.le_refl _) (by repeat (first | exact Has.head | apply Has.tail)) w hm)) ?_
    refine dO 15 rfl rfl dU ?_
    refine ak 16 rfl dG ?_
    refine ak 17 rfl aL ?_
    refine dO 18 rfl rfl (av 5) ?_
    refine dO 19 rfl rfl aF ?_
    refine dO 20 rfl rfl aL ?_
    refine dO 21 rfl rfl (GJ 6 (fun hg => hs.addr (by rw [VZ]; simp at hg; omega))) ?_
    refine dO 22 rfl rfl (av 5) ?_
    refine dO 23 rfl rfl (D5 (v := .int .i64 (ks.getD 0 jG).pos) (by first | exact .plain rfl | exact .cond rfl id) (by kernel_rfl) (fun hg w hm => L9 (j := 0 * 6 + 5) hs (VY (j := 5) (by simp at hg; omega) rfl) (Nat.le_refl _) (by repeat (first | exact Has.head | apply Has.tail)) w hm)) ?_
    refine dO 24 rfl rfl gZ ?_
    refine ak 25 rfl dG ?_
    refine ak 26 rfl dD ?_
    refine dP (dI _ _ ?_); clear dI
    refine aY (o8 rfl rfl (fun w hm => pz hm (by rw [ajN hc1])))
end Go.Proofs.YtcalibhfgdncaaaGreatDoor
namespace Go.Proofs.YtcalibhfgdncaaaGreatDoor
open Go.gQ Go.RowKit
set_option maxRecDepth 10000
def Gn(done:List fQ)(m:Nat)(rows:List Row):Prop:=
 rows.length=m∧∀(i:Nat) (r:Row),rows[i]?=some r→r.n=(atEnd done i).length∧r.xs=(atEnd done i).flatMap fQ.cells
theorem Gn.get{done:List fQ}{m:Nat}{rows:List Row}(h:Gn done m rows)(e:Int)(h0:0≤e)(h1:e.toNat<m):
  ∃aa ca,rows[e.toNat*1]?=some ⟨aa,(atEnd done e).length,ca,(atEnd done e).flatMap fQ.cells⟩:=by
 rw[Nat.mul_one]
 have hlt:e.toNat<rows.length:=by rw[h.1];exact h1
 have hr:=h.2 e.toNat rows[e.toNat] (by simp[hlt])
 rw[show ((e.toNat:Nat):Int)=e by omega] at hr
 refine⟨rows[e.toNat].a,rows[e.toNat].cap,?_⟩
 rw[List.getElem?_eq_getElem hlt,←hr.1,←hr.2]
theorem adJ(done:List fQ)(e:Int):(atEnd done e).length≤done.length:=List.length_filter_le _ _
theorem aiU(done:List fQ)(k:fQ)(e:Int):atEnd (done++[k]) e=atEnd done e++if 2*k.a+k.lS=e∨2*k.b+k.mQ=e then [k] else []:=by
 unfold atEnd
 rw[List.filter_append]
 congr 1
 by_cases h1:2*k.a+k.lS=e<;>by_cases h2:2*k.b+k.mQ=e<;>simp[h1,h2]
theorem Gn.step{done:List fQ}{m:Nat}{rows:List Row}(h:Gn done m rows)(k:fQ)(ea eb:Int)(ha:2*k.a+k.lS=ea)(hb:2*k.b+k.mQ=eb)(hne:ea≠eb)(ha0:0≤ea)(hb0:0≤eb)
  (a1 a2:Option Addr)(c1 c2:Nat):
  Gn (done++[k]) m ((rows.set (ea.toNat*1) ⟨a1,(atEnd done ea).length+1,c1,(atEnd done ea).flatMap fQ.cells++k.cells⟩).set (eb.toNat*1) ⟨a2,(atEnd done eb).length+1,c2,(atEnd done eb).flatMap fQ.cells++k.cells⟩):=by
 rw[Nat.mul_one,Nat.mul_one]
 refine⟨by rw[List.length_set,List.length_set];exact h.1,fun i r hr=>?_⟩
 rw[aiU,ha,hb]
 by_cases hib:i=eb.toNat
 ·have he:eb=(i:Int):=by omega
  rw[List.getElem?_set] at hr
  rw[if_pos hib.symm] at hr
  split at hr
  ·cases hr
   subst he
   simp
  ·cases hr
 ·rw[List.getElem?_set_ne (Ne.symm hib)] at hr
  by_cases hia:i=ea.toNat
  ·have he:ea=(i:Int):=by omega
   rw[List.getElem?_set,if_pos hia.symm] at hr
   split at hr
   ·cases hr
    subst he
    simp
   ·cases hr
  ·rw[List.getElem?_set_ne (Ne.symm hia)] at hr
   have h1:¬ea=(i:Int):=by omega
   have h2:¬eb=(i:Int):=by omega
   simp only[h1,h2,or_self,if_false,List.append_nil]
   exact h.2 i r hr
theorem ape{l:Lay}{xs:List fQ}{j:Nat}(hj:j<xs.length){E:Int}(h:pQ l (xs.take j) (xs.drop j)=E):
  (oM l (xs.getD j jG)=false→E=4)∧(oM l (xs.getD j jG)=true→
   ((xs.getD j jG).a=(xs.getD j jG).b∧(xs.getD j jG).lS=(xs.getD j jG).mQ→E=1)∧(¬((xs.getD j jG).a=(xs.getD j jG).b∧(xs.getD j jG).lS=(xs.getD j jG).mQ)→
   ((atEnd (xs.take j) (2*(xs.getD j jG).a+(xs.getD j jG).lS)).any (JJ (xs.getD j jG).a (xs.getD j jG).lS (xs.getD j jG).b (xs.getD j jG).mQ)=true→E=5)∧
   ((atEnd (xs.take j) (2*(xs.getD j jG).a+(xs.getD j jG).lS)).any (JJ (xs.getD j jG).a (xs.getD j jG).lS (xs.getD j jG).b (xs.getD j jG).mQ)=false→
   ((!xK (xs.getD j jG) (atEnd (xs.take j) (2*(xs.getD j jG).a+(xs.getD j jG).lS))|| !xK (xs.getD j jG) (atEnd (xs.take j) (2*(xs.getD j jG).b+(xs.getD j jG).mQ)))=true→E=11)∧
   ((!xK (xs.getD j jG) (atEnd (xs.take j) (2*(xs.getD j jG).a+(xs.getD j jG).lS))|| !xK (xs.getD j jG) (atEnd (xs.take j) (2*(xs.getD j jG).b+(xs.getD j jG).mQ)))=false→
    pQ l (xs.take (j+1)) (xs.drop (j+1))=E∧xs.take (j+1)=xs.take j++[xs.getD j jG])))):=by
 have hd:xs.drop j=xs[j]::xs.drop (j+1):=List.drop_eq_getElem_cons hj
 have hg:xs.getD j jG=xs[j]:=by simp[List.getD_eq_getElem?_getD,hj]
 have ht:xs.take (j+1)=xs.take j++[xs[j]]:=by rw[List.take_succ_eq_append_getElem hj]
 rw[hd,pQ] at h
 rw[hg,ht]
 generalize xs[j]=k at*
 refine⟨fun h1=>?_,fun h1=>⟨fun h2=>?_,fun h2=>⟨fun h3=>?_,fun h3=>⟨fun h4=>?_,fun h4=>?_⟩⟩⟩⟩
 ·rw[if_pos h1] at h;exact h.symm
 ·rw[if_neg (by simp[h1]),if_pos h2] at h;exact h.symm
 ·rw[if_neg (by simp[h1]),if_neg h2,if_pos h3] at h;exact h.symm
 ·rw[if_neg (by simp[h1]),if_neg h2,if_neg (by simp[h3]),if_pos (by simpa using h4)] at h;exact h.symm
 ·rw[if_neg (by simp[h1]),if_neg h2,if_neg (by simp[h3]),if_neg (by simp only[Bool.or_eq_false_iff,Bool.not_eq_false'] at h4;simp[h4.1,h4.2])] at h;exact⟨h,rfl⟩
theorem apb{l:Lay}{xs:List fQ}{j:Nat}(hj:xs.length≤j){E:Int}(h:pQ l (xs.take j) (xs.drop j)=E):E=0:=by
 rw[←h,List.drop_eq_nil_of_le hj,pQ]
theorem QB{rows:List Row}{i:Nat}{r:Row}(h:rows[i]?=some r):(rows.map Row.hdr)[i]?=some (.slice r.a r.n r.cap):=by simp[h,Row.hdr]
theorem ao7{l:Lay}{k:fQ}(h:oM l k=true):(0≤k.a∧k.a<l.sections.length∧0≤k.b∧k.b<l.sections.length)∧(0≤k.lS∧k.lS≤1)∧(0≤k.mQ∧k.mQ≤1):=by
 simp only[oM,Bool.and_eq_true,Bool.or_eq_true,decide_eq_true_eq] at h
 omega
theorem aqU{m:Nat}:Gn [] m (List.replicate m (⟨none,0,0,[]⟩:Row)):=by
 refine⟨by simp,fun i r hr=>?_⟩
 rw[List.getElem?_replicate] at hr
 split at hr
 ·cases hr;exact⟨rfl,rfl⟩
 ·cases hr
theorem ajg (w : World) (v : yE) (l : Lay) (hl : Gj 0 w.heap.size w v l) (hb : l.sections.length ≤ 96 ∧ l.links.length ≤ 192) : Calls Tryz.prog 98 #[.agg (v.cells l).toArray] w (dz w (.int .i64 (pQ l [] l.links))) := by
  obtain ⟨hb1, hb2⟩ := hb
  refine cu (args := [_]) Tryz.func98 rfl (Mem.start w) rfl ?_
  refine aK fun K1 hK1 => ?_
  refine bB ?_
  refine bM (Av (k := fun b1 => ?_))
  refine aZ dD ?_
  refine bC (hK1 _ _ ?_); clear hK1
  refine aK fun K2 hK2 => ?_
  refine bB ?_
  refine aZ (av 2) ?_
  refine aZ aF ?_
  refine aZ bL ?_
  refine aZ tQ ?_
  refine bM (arA (m := 2 * l.sections.length) (e := 24) (z := .slice none 0 0) 24 (k := fun a ha => ?_) (hb := by omega) (hm' := by omega))
  refine mU (H' := [row 24 1 a (2 * l.sections.length) (2 * l.sections.length) ((List.replicate (2 * l.sections.length) (⟨none, 0, 0, []⟩ : Row)).map Row.hdr), ql (fun _ => True) 183 6 (List.replicate (2 * l.sections.length) (⟨none, 0, 0, []⟩ : Row)), own b1 26 (v.cells l), old w]) (fun w hm => by rw [List.map_replicate]; exact (aqV (e := 183) (sz := 6) (m := 2 * l.sections.length) hm).perm (.swap _ _ _)) ?_
  refine aZ dD ?_
  refine bC (hK2 _ _ ?_); clear hK2
  refine aK fun K3 hK3 => ?_
  refine aK fun K4 hK4 => ?_
  refine bB ?_
  refine aZ (av 3) ?_
  refine aZ aF ?_
  refine aZ bL ?_
  refine aZ aL ?_
  refine bC (hK4 _ _ ?_); clear hK4
  refine bH ?_
  refine Gx (γ := Int × List Row) (env := fun g => [(1, .v (.pointer (some ⟨b1, 0, none⟩))), (3, .v (.slice a (2 * l.sections.length) (2 * l.sections.length))), (16, .v (.slice v.a4 l.links.length v.c4)), (17, .v (.int .i64 (l.links.length : Int))), (18, .v (.int .i64 g.1))]) (mem := fun g => [row 24 1 a (2 * l.sections.length) (2 * l.sections.length) (g.2.map Row.hdr), ql (fun _ => True) 183 6 g.2, own b1 26 (v.cells l), old w]) (R := fun g => 0 ≤ g.1 ∧ g.1 ≤ l.links.length ∧ Gn (l.links.take g.1.toNat) (2 * l.sections.length) g.2 ∧ pQ l (l.links.take g.1.toNat) (l.links.drop g.1.toNat) = pQ l [] l.links) (μ := fun g => (l.links.length - g.1).toNat) ((0, List.replicate (2 * l.sections.length) ⟨none, 0, 0, []⟩)) (⟨by show (0 : Int) ≤ 0; omega, by show (0 : Int) ≤ _; omega, aqU, rfl⟩) ⟨rfl, rfl, rfl, rfl, rfl, trivial⟩ (fun _ h => h) ?_
  intro g Mq iG hL1
  obtain ⟨j, rows⟩ := g
  dsimp only at Mq ⊢
  obtain ⟨hj0, hj1, hrows, hj2⟩ := Mq
  refine aK fun K5 dI => ?_
  refine bB ?_
  refine aZ bY ?_
  refine bC (dI _ _ ?_); clear dI
  refine aK fun K6 dn => ?_
  refine wK rfl (fun hc1 => ?_) (fun hc1 => ?_)  -- t19
  ·
    refine aX (dn _ _ ?_); clear dn
    refine aK fun K7 eu => ?_
    refine bH ?_
    refine aK fun K8 gV => ?_
    refine bB ?_
    have hst := ape (l := l) (j := j.toNat) (by omega) hj2
    have hdl : (l.links.take j.toNat).length ≤ 192 := by rw [List.length_take]; omega
    generalize hdone : l.links.take j.toNat = done at *
    obtain ⟨k, hk⟩ : ∃ k, k = l.links.getD j.toNat jG := ⟨_, rfl⟩
    rw [← hk] at hst
    refine aZ (GJ 6 (fun _ => hl.li.addr (by rw [VZ]; omega))) ?_
    refine aZ (Y6 (l := k.cells) (fun w hm q u hu => by subst hk; rw [Nat.add_assoc]; exact L9 hl.li (VY (by omega) hu) (Nat.le_refl _) (by repeat (first | exact Has.head | apply Has.tail)) w hm)) ?_
    refine bM (iw rfl (k := fun b5 => ?_))
    refine bM (xu (k := ?_))
    refine bC (gV _ _ ?_); clear gV
    refine aK fun K9 gB => ?_
    refine aK fun tK gU => ?_
    refine bB ?_
    refine aZ bR ?_
    refine aZ bR ?_
    refine bM (lK (fun w hm => apa w v l k) ?_)
    refine aZ fq ?_
    refine bC (gU _ _ ?_); clear gU
    refine wJ rfl (fun hc2 => ?_) (fun hc2 => ?_)  -- t25
    ·
      refine aK fun rQ gG => ?_
      refine bB ?_
      refine aZ dD ?_
      refine bC (gG _ _ ?_); clear gG
      refine aY (o8 rfl rfl (fun w hm => pz hm (by rw [hst.1 (by simpa using hc2)])))
    ·
      have hlk : oM l k = true := by simpa using hc2
      replace hst := hst.2 hlk
      obtain ⟨⟨ha0, ha1, ar7, ar8⟩, hae, hbe⟩ := ao7 hlk
      obtain ⟨ea, ZM⟩ : ∃ e, e = 2 * k.a + k.lS := ⟨_, rfl⟩
      obtain ⟨eb, ZP⟩ : ∃ e, e = 2 * k.b + k.mQ := ⟨_, rfl⟩
      have hea : 0 ≤ ea ∧ ea < 2 * l.sections.length := by omega
      have heb : 0 ≤ eb ∧ eb < 2 * l.sections.length := by omega
      obtain ⟨aA, cA, JB⟩ := hrows.get ea hea.1 (by omega)
      obtain ⟨aB, cB, Vw⟩ := hrows.get eb heb.1 (by omega)
      have hlA := adJ done ea
      have hlB := adJ done eb
      rw [← ZM, ← ZP] at hst
      refine aX (gB _ _ ?_); clear gB
      refine aK fun zy jY => ?_
      refine bB ?_
      refine aZ bR ?_
      refine bM (lK (fun w hm => ad3 w k) ?_)
      refine aZ aL ?_
      refine aZ jv ?_
      refine aZ jv ?_
      refine bM (iw rfl (k := fun b6 => ?_))
      refine bM (iw rfl (k := fun b7 => ?_))
      refine bM (xu (k := ?_))
      refine bM (xu (k := ?_))
      refine bC (jY _ _ ?_); clear jY
      refine aK fun yD jO => ?_
      refine gy [own b7 209 [.int .i64 k.b, .int .i64 k.mQ], own b6 209 [.int .i64 k.a, .int .i64 k.lS], own b5 183 k.cells, row 24 1 a (2 * l.sections.length) (2 * l.sections.length) (rows.map Row.hdr), ql (fun _ => True) 183 6 rows, own b1 26 (v.cells l), old w] (by repeat (first | exact List.Sublist.refl _ | apply List.Sublist.cons_cons | apply List.Sublist.cons)) ?_
      refine ak 0 rfl aL ?_
      refine ak 1 rfl bR ?_
      refine ak 4 rfl aL ?_
      refine ak 5 rfl bR ?_
      refine dH 2 rfl (lK (fun w hm => ad2 w k.a k.lS (by omega) (by omega)) ⟨fun w hm => hm.sub (by repeat (first | exact List.Sublist.refl _ | apply List.Sublist.cons_cons | apply List.Sublist.cons)), ?_⟩)
      rw [← ZM]
      refine ak 3 rfl (GJ (ad := a) 1 (fun _ => by rw [ha]; rfl)) ?_
      refine dH 6 rfl (lK (fun w hm => ad2 w k.b k.mQ (by omega) (by omega)) ⟨fun w hm => hm.sub (by repeat (first | exact List.Sublist.refl _ | apply List.Sublist.cons_cons | apply List.Sublist.cons)), ?_⟩)
      rw [← ZP]
      refine ak 7 rfl (GJ (ad := a) 1 (fun _ => by rw [ha]; rfl)) ?_
      refine ak 8 rfl dD ?_
      refine ak 9 rfl dD ?_
      refine dP (jO _ _ ?_); clear jO
      refine aK fun BN mq => ?_
      refine bH ?_
      refine aK fun zA jZ => ?_
      refine bB ?_
      refine aZ bR ?_
      refine aZ bR ?_
      refine aZ P9 ?_
      refine aZ dD ?_
      refine bC (jZ _ _ ?_); clear jZ
      refine wK rfl (fun hc3 => ?_) (fun hc3 => ?_)  -- t39
      ·
        refine aK fun Ba kX => ?_
        refine bB ?_
        refine aZ dD ?_
        refine bC (kX _ _ ?_); clear kX
        refine aY (o8 rfl rfl (fun w hm => pz hm (by rw [hst.1 hc3])))
      ·
        replace hst := hst.2 hc3
        have hne : ea ≠ eb := by omega
        refine aK fun LA sI => ?_
        refine gy [own b7 209 [.int .i64 k.b, .int .i64 k.mQ], own b6 209 [.int .i64 k.a, .int .i64 k.lS], own b5 183 k.cells, row 24 1 a (2 * l.sections.length) (2 * l.sections.length) (rows.map Row.hdr), ql (fun _ => True) 183 6 rows, own b1 26 (v.cells l), old w] (by repeat (first | exact List.Sublist.refl _ | apply List.Sublist.cons_cons | apply List.Sublist.cons)) ?_
        refine ak 0 rfl aL ?_
        refine ak 1 rfl fI ?_
        refine ak 2 rfl (Mi (v := .slice aA (atEnd done ea).length cA) (PS (QB JB) (by repeat (first | exact Has.head | apply Has.tail)))) ?_
        refine ak 3 rfl bR ?_
        refine ak 4 rfl bR ?_
        refine dH 5 rfl (lK (fun w hm => aoL w aA cA (atEnd done ea) _ _ _ _ (acw JB trivial hm (by repeat (first | exact Has.head | apply Has.tail))) (by omega)) ⟨fun w hm => hm.sub (by repeat (first | exact List.Sublist.refl _ | apply List.Sublist.cons_cons | apply List.Sublist.cons)), ?_⟩)
        refine ak 6 rfl dD ?_
        refine dP (sI _ _ ?_); clear sI
        refine wJ rfl (fun hc4 => ?_) (fun hc4 => ?_)  -- t43
        ·
          refine aK fun Gg pO => ?_
          refine bB ?_
          refine aZ dD ?_
          refine bC (pO _ _ ?_); clear pO
          refine aY (o8 rfl rfl (fun w hm => pz hm (by rw [hst.1 hc4])))
        ·
          replace hst := hst.2 hc4
          refine PW (γ := Bool) (env := fun q => [(5, .v (.pointer (some ⟨b5, 0, none⟩))), (8, .v (.pointer (some ⟨sb a, so a + ea.toNat * 1, none⟩))), (9, .v (.pointer (some ⟨sb a, so a + eb.toNat * 1, none⟩))), (50, .v (.bool q)), (1, .v (.pointer (some ⟨b1, 0, none⟩))), (3, .v (.slice a (2 * l.sections.length) (2 * l.sections.length))), (16, .v (.slice v.a4 l.links.length v.c4)), (17, .v (.int .i64 (l.links.length : Int))), (18, .v (.int .i64 j))]) (mem := fun q => [own b7 209 [.int .i64 k.b, .int .i64 k.mQ], own b6 209 [.int .i64 k.a, .int .i64 k.lS], own b5 183 k.cells, row 24 1 a (2 * l.sections.length) (2 * l.sections.length) (rows.map Row.hdr), ql (fun _ => True) 183 6 rows, own b1 26 (v.cells l), old w]) (R := fun q => q = (!xK k (atEnd done ea) || !xK k (atEnd done eb))) ?_ ?_
          · intro ar3 ael
            refine aK fun I9 qR => ?_
            refine gy [own b7 209 [.int .i64 k.b, .int .i64 k.mQ], own b6 209 [.int .i64 k.a, .int .i64 k.lS], own b5 183 k.cells, row 24 1 a (2 * l.sections.length) (2 * l.sections.length) (rows.map Row.hdr), ql (fun _ => True) 183 6 rows, own b1 26 (v.cells l), old w] (by repeat (first | exact List.Sublist.refl _ | apply List.Sublist.cons_cons | apply List.Sublist.cons)) ?_
            refine ak 0 rfl bR ?_
            refine ak 1 rfl aL ?_
            refine ak 2 rfl fI ?_
            refine ak 3 rfl (Mi (v := .slice aA (atEnd done ea).length cA) (PS (QB JB) (by repeat (first | exact Has.head | apply Has.tail)))) ?_
            refine dH 4 rfl (lK (fun w hm => aed w k aA cA (atEnd done ea) (acw JB trivial hm (by repeat (first | exact Has.head | apply Has.tail)))) ⟨fun w hm => hm.sub (by repeat (first | exact List.Sublist.refl _ | apply List.Sublist.cons_cons | apply List.Sublist.cons)), ?_⟩)
            refine ak 5 rfl fq ?_
            refine ak 6 rfl dD ?_
            refine dP (qR _ _ ?_); clear qR
            refine wJ rfl (fun jL => ?_) (fun jL => ?_)  -- t50
            ·
              refine aX (ael (_) _ _ (by rw [jL]; rfl) ⟨rfl, rfl, rfl, rfl, rfl, rfl, rfl, rfl, rfl, trivial⟩ (fun _ h => h))
            ·
              refine gy [own b7 209 [.int .i64 k.b, .int .i64 k.mQ], own b6 209 [.int .i64 k.a, .int .i64 k.lS], own b5 183 k.cells, row 24 1 a (2 * l.sections.length) (2 * l.sections.length) (rows.map Row.hdr), ql (fun _ => True) 183 6 rows, own b1 26 (v.cells l), old w] (by repeat (first | exact List.Sublist.refl _ | apply List.Sublist.cons_cons | apply List.Sublist.cons)) ?_
              refine ak 0 rfl bR ?_
              refine ak 1 rfl aL ?_
              refine ak 2 rfl fI ?_
              refine ak 3 rfl (Mi (v := .slice aB (atEnd done eb).length cB) (PS (QB Vw) (by repeat (first | exact Has.head | apply Has.tail)))) ?_
              refine dH 4 rfl (lK (fun w hm => aed w k aB cB (atEnd done eb) (acw Vw trivial hm (by repeat (first | exact Has.head | apply Has.tail)))) ⟨fun w hm => hm.sub (by repeat (first | exact List.Sublist.refl _ | apply List.Sublist.cons_cons | apply List.Sublist.cons)), ?_⟩)
              refine ak 5 rfl fq ?_
              refine ak 6 rfl dD ?_
              refine dP (ael (_) _ _ (by rw [jL]; rfl) ⟨rfl, rfl, rfl, rfl, rfl, rfl, rfl, rfl, rfl, trivial⟩ (fun _ h => h))
          · intro q hR
            refine wJ rfl (fun hc6 => ?_) (fun hc6 => ?_)  -- t50
            ·
              refine aK fun Ph vS => ?_
              refine bB ?_
              refine aZ dD ?_
              refine bC (vS _ _ ?_); clear vS
              refine aY (o8 rfl rfl (fun w hm => pz hm (by rw [hst.1 (by rw [← hR, hc6])])))
            ·
              have ht := hst.2 (by rw [← hR, hc6])
              refine aX (mq _ _ ?_); clear mq
              refine aK fun Ja qU => ?_
              refine iW [own b7 209 [.int .i64 k.b, .int .i64 k.mQ], own b6 209 [.int .i64 k.a, .int .i64 k.lS], own b5 183 k.cells, row 24 1 a (2 * l.sections.length) (2 * l.sections.length) (rows.map Row.hdr), own b1 26 (v.cells l), old w] 8 ?_
              refine aG 0 rfl aL ?_
              refine aG 1 rfl aL ?_
              refine aG 2 rfl fI ?_
              refine aG 3 rfl (Mi (v := .slice aA (atEnd done ea).length cA) (PS (QB JB) (by repeat (first | exact Has.head | apply Has.tail)))) ?_
              refine aG 4 rfl bR ?_
              refine dA 5 rfl (ahU 183 k.cells (k := fun YH => ⟨fun w hm => hm.sub (by repeat (first | exact List.Sublist.refl _ | apply List.Sublist.cons_cons | apply List.Sublist.cons)), ?_⟩))
              refine jr (fun w hm => ahv JB trivial (hm.front (c := ql (fun _ => True) 183 6 rows) (by repeat (first | exact lQ.head | apply lQ.tail)))) ?_
              refine dA 6 rfl (ahT 48 (k := fun a' cap' => ⟨fun w hm => hm.sub (by repeat (first | exact List.Sublist.refl _ | apply List.Sublist.cons_cons | apply List.Sublist.cons)), ?_⟩))
              refine aG 7 rfl fI ?_
              refine iQ rfl (ahZ (j := ea.toNat * 1) (hu := by repeat (first | exact eT.head | apply eT.tail)) (hj := by rw [List.length_map, hrows.1]; omega) (h1 := rfl) (hx := .plain rfl) (hy := .plain rfl) (k := ?_))
              refine iP (qU _ _ ?_); clear qU
              refine cZ (H' := [row 24 1 a (2 * l.sections.length) (2 * l.sections.length) ((rows.set (ea.toNat * 1) (⟨a', (atEnd done ea).length + 1, cap', (atEnd done ea).flatMap fQ.cells ++ k.cells⟩ : Row)).map Row.hdr), ql (fun _ => True) 183 6 (rows.set (ea.toNat * 1) (⟨a', (atEnd done ea).length + 1, cap', (atEnd done ea).flatMap fQ.cells ++ k.cells⟩ : Row)), own b7 209 [.int .i64 k.b, .int .i64 k.mQ], own b6 209 [.int .i64 k.a, .int .i64 k.lS], own b5 183 k.cells, own b1 26 (v.cells l), old w]) (fun w hm => by rw [List.map_set]; exact ((ahu (r := ⟨a', (atEnd done ea).length + 1, cap', (atEnd done ea).flatMap fQ.cells ++ k.cells⟩) (by rw [hrows.1]; omega) hm).front (c := row 24 1 a (2 * l.sections.length) (2 * l.sections.length) ((rows.map Row.hdr).set (ea.toNat * 1) (Row.hdr ⟨a', (atEnd done ea).length + 1, cap', (atEnd done ea).flatMap fQ.cells ++ k.cells⟩))) (by repeat (first | exact lQ.head | apply lQ.tail))).sub (by repeat (first | exact List.Sublist.refl _ | apply List.Sublist.cons_cons | apply List.Sublist.cons))) ?_
              have aeI : (rows.set (ea.toNat * 1) ⟨a', (atEnd done ea).length + 1, cap', (atEnd done ea).flatMap fQ.cells ++ k.cells⟩)[eb.toNat * 1]? = some ⟨aB, (atEnd done eb).length, cB, (atEnd done eb).flatMap fQ.cells⟩ := by rw [List.getElem?_set_ne (by omega)]; exact Vw
              have hlen1 : (rows.set (ea.toNat * 1) ⟨a', (atEnd done ea).length + 1, cap', (atEnd done ea).flatMap fQ.cells ++ k.cells⟩).length = 2 * l.sections.length := by rw [List.length_set]; exact hrows.1
              clear JB Vw
              generalize anJ : rows.set (ea.toNat * 1) ⟨a', (atEnd done ea).length + 1, cap', (atEnd done ea).flatMap fQ.cells ++ k.cells⟩ = TK at *
              refine iW [row 24 1 a (2 * l.sections.length) (2 * l.sections.length) (TK.map Row.hdr), own b7 209 [.int .i64 k.b, .int .i64 k.mQ], own b6 209 [.int .i64 k.a, .int .i64 k.lS], own b5 183 k.cells, own b1 26 (v.cells l), old w] 8 ?_
              refine aG 0 rfl aL ?_
              refine aG 1 rfl aL ?_
              refine aG 2 rfl fI ?_
              refine aG 3 rfl (Mi (v := .slice aB (atEnd done eb).length cB) (PS (QB aeI) (by repeat (first | exact Has.head | apply Has.tail)))) ?_
              refine aG 4 rfl bR ?_
              refine dA 5 rfl (ahU 183 k.cells (k := fun b76 => ⟨fun w hm => hm.sub (by repeat (first | exact List.Sublist.refl _ | apply List.Sublist.cons_cons | apply List.Sublist.cons)), ?_⟩))
              refine jr (fun w hm => ahv aeI trivial (hm.front (c := ql (fun _ => True) 183 6 TK) (by repeat (first | exact lQ.head | apply lQ.tail)))) ?_
              refine dA 6 rfl (ahT 48 (k := fun a2 cap2 => ⟨fun w hm => hm.sub (by repeat (first | exact List.Sublist.refl _ | apply List.Sublist.cons_cons | apply List.Sublist.cons)), ?_⟩))
              refine aG 7 rfl fI ?_
              refine iQ rfl (ahZ (j := eb.toNat * 1) (hu := by repeat (first | exact eT.head | apply eT.tail)) (hj := by rw [List.length_map, hlen1]; omega) (h1 := rfl) (hx := .plain rfl) (hy := .plain rfl) (k := ?_))
              refine iP (eu _ _ ?_); clear eu
              refine cZ (H' := [row 24 1 a (2 * l.sections.length) (2 * l.sections.length) ((TK.set (eb.toNat * 1) (⟨a2, (atEnd done eb).length + 1, cap2, (atEnd done eb).flatMap fQ.cells ++ k.cells⟩ : Row)).map Row.hdr), ql (fun _ => True) 183 6 (TK.set (eb.toNat * 1) (⟨a2, (atEnd done eb).length + 1, cap2, (atEnd done eb).flatMap fQ.cells ++ k.cells⟩ : Row)), own b1 26 (v.cells l), old w]) (fun w hm => by rw [List.map_set]; exact ((ahu (r := ⟨a2, (atEnd done eb).length + 1, cap2, (atEnd done eb).flatMap fQ.cells ++ k.cells⟩) (by rw [hlen1]; omega) hm).front (c := row 24 1 a (2 * l.sections.length) (2 * l.sections.length) ((TK.map Row.hdr).set (eb.toNat * 1) (Row.hdr ⟨a2, (atEnd done eb).length + 1, cap2, (atEnd done eb).flatMap fQ.cells ++ k.cells⟩))) (by repeat (first | exact lQ.head | apply lQ.tail))).sub (by repeat (first | exact List.Sublist.refl _ | apply List.Sublist.cons_cons | apply List.Sublist.cons))) ?_
              subst anJ
              refine bB ?_
              refine aZ eH ?_
              refine aZ aL ?_
              refine bC (hL1 ((j + 1, (rows.set (ea.toNat * 1) (⟨a', (atEnd done ea).length + 1, cap', (atEnd done ea).flatMap fQ.cells ++ k.cells⟩ : Row)).set (eb.toNat * 1) (⟨a2, (atEnd done eb).length + 1, cap2, (atEnd done eb).flatMap fQ.cells ++ k.cells⟩ : Row))) _ _ (⟨by show (0 : Int) ≤ j + 1; omega, by show j + 1 ≤ _; omega, by show Gn (l.links.take (j + 1).toNat) _ _; rw [show (j + 1).toNat = j.toNat + 1 by omega, ht.2]; exact hrows.step k ea eb ZM.symm ZP.symm hne hea.1 heb.1 _ _ _ _, by show pQ l (l.links.take (j + 1).toNat) (l.links.drop (j + 1).toNat) = _; rw [show (j + 1).toNat = j.toNat + 1 by omega]; exact ht.1⟩) (by show (_ - (j + 1)).toNat < _; omega) ⟨rfl, rfl, rfl, rfl, rfl, trivial⟩ (fun w hm => hm.sub (by repeat (first | exact List.Sublist.refl _ | apply List.Sublist.cons_cons | apply List.Sublist.cons))))
  ·
    refine dK (hK3 _ _ ?_); clear hK3
    refine aK fun Pj tX => ?_
    refine bB ?_
    refine aZ dD ?_
    refine bC (tX _ _ ?_); clear tX
    refine aY (o8 rfl rfl (fun w hm => pz hm (by rw [apb (by omega) hj2])))
end Go.Proofs.YtcalibhfgdncaaaGreatDoor
namespace Go.Proofs.YtcalibhfgdncaaaGreatDoor
open Go.gQ Go.RowKit
set_option maxRecDepth 10000
def kr:List ByteArray→List ByteArray→Int
 |_,[]=>0
 |seen,s::r=>if nK s seen≠0 then nK s seen else kr (seen++[s]) r
def mO(rW:Nat):List ByteArray→List mZ→Int
 |_,[]=>0
 |seen,s::r=>if nK s.name seen≠0 then nK s.name seen else if xq rW s=false then 4 else mO rW (seen++[s.name]) r
def vQ(l:Lay):Bool:=decide (24<l.nU.length∨48<l.points.length∨96<l.sections.length∨192<l.links.length)
def kR(l:Lay):Int:=
 if vQ l=true then 7 else if l.sections.length=0 then 1 else
 if kr [] l.nU≠0 then kr [] l.nU else if kr [] l.points≠0 then kr [] l.points else
 if mO l.nU.length [] l.sections≠0 then mO l.nU.length [] l.sections else pQ l [] l.links
theorem apC{names:List ByteArray}{j:Nat}(hj:j<names.length)(h:kr (names.take j) (names.drop j)=kr [] names):
  (nK (names.getD j ByteArray.empty) (names.take j)≠0→kr [] names=nK (names.getD j ByteArray.empty) (names.take j))∧
  (nK (names.getD j ByteArray.empty) (names.take j)=0→kr (names.take (j+1)) (names.drop (j+1))=kr [] names∧KY (names.getD j ByteArray.empty) (names.take j)=names.take (j+1)):=by
 have hd:names.drop j=names[j]::names.drop (j+1):=List.drop_eq_getElem_cons hj
 have hg:names.getD j ByteArray.empty=names[j]:=by simp[List.getD_eq_getElem?_getD,hj]
 have ht:names.take (j+1)=names.take j++[names[j]]:=by rw[List.take_succ_eq_append_getElem hj]
 rw[hd,kr] at h
 rw[hg]
 constructor
 ·intro hn;rw[if_pos hn] at h;exact h.symm
 ·intro hn
  rw[if_neg (by simp[hn])] at h
  rw[ht]
  exact⟨h,se2 hn⟩
theorem apz{names:List ByteArray}{j:Nat}(hj:names.length≤j)(h:kr (names.take j) (names.drop j)=kr [] names):kr [] names=0:=by
 rw[←h,List.drop_eq_nil_of_le hj,kr]
def uy(l:Lay)(i:Int):List ByteArray:=if i=0 then l.nU else l.points
def Pp(v:yE)(i:Int):Option Addr:=if i=0 then v.a1 else v.a2
def YT(v:yE)(i:Int):Nat:=if i=0 then v.c1 else v.c2
theorem arH{names:List ByteArray}{j:Nat}(hj:j<names.length):(strCells names)[j]?=some (.string (names.getD j ByteArray.empty)):=by
 simp[strCells,hj]
theorem flat_get{α:Type}{enc:α→List Value}{sz:Nat}(he:∀x,(enc x).length=sz):∀(xs:List α) (i j:Nat),j<sz→(xs.flatMap enc)[i*sz+j]?=(xs[i]?).bind (fun x=>(enc x)[j]?)
 |[],i,j,_=>by simp
 |x::xs,0,j,hj=>by
  simp only[List.flatMap_cons,Nat.zero_mul,Nat.zero_add]
  rw[List.getElem?_append_left (by rw[he];exact hj)]
  rfl
 |x::xs,i+1,j,hj=>by
  simp only[List.flatMap_cons]
  rw[List.getElem?_append_right (by rw[he,Nat.add_mul];omega),he]
  rw[show (i+1)*sz+j-sz=i*sz+j by rw[Nat.add_mul];omega]
  rw[flat_get he xs i j hj]
  simp
theorem ajQ{α:Type}{enc:α→List Value}{sz:Nat}(he:∀x,(enc x).length=sz)(xs:List α):(xs.flatMap enc).length=xs.length*sz:=by
 induction xs with
 |nil=>simp
 |cons x xs ih=>simp only[List.flatMap_cons,List.length_append,he,ih,List.length_cons,Nat.add_mul];omega
def CS:mZ:=⟨ByteArray.empty,0,0,0,0⟩
theorem aq8{xs:List mZ}{i j:Nat}{u:Value}(hi:i<xs.length)(hj:(mZ.cells (xs.getD i CS))[j]?=some u):(xs.flatMap mZ.cells)[i*5+j]?=some u:=by
 have hjl:j<5:=by have:=(List.getElem?_eq_some_iff.1 hj).1;simpa [mZ.cells] using this
 rw[flat_get (enc:=mZ.cells) (sz:=5) (fun _=>rfl) xs i j hjl]
 have:xs[i]?=some (xs.getD i CS):=by simp[hi]
 rw[this]
 exact hj
theorem arb{rW:Nat}{xs:List mZ}{j:Nat}(hj:j<xs.length)(h:mO rW ((xs.take j).map mZ.name) (xs.drop j)=mO rW [] xs):
  (nK (xs.getD j CS).name ((xs.take j).map mZ.name)≠0→mO rW [] xs=nK (xs.getD j CS).name ((xs.take j).map mZ.name))∧
  (nK (xs.getD j CS).name ((xs.take j).map mZ.name)=0→KY (xs.getD j CS).name ((xs.take j).map mZ.name)=(xs.take (j+1)).map mZ.name∧
   (xq rW (xs.getD j CS)=false→mO rW [] xs=4)∧(xq rW (xs.getD j CS)=true→mO rW ((xs.take (j+1)).map mZ.name) (xs.drop (j+1))=mO rW [] xs)):=by
 have hd:xs.drop j=xs[j]::xs.drop (j+1):=List.drop_eq_getElem_cons hj
 have hg:xs.getD j CS=xs[j]:=by simp[List.getD_eq_getElem?_getD,hj]
 have ht:(xs.take (j+1)).map mZ.name=(xs.take j).map mZ.name++[xs[j].name]:=by rw[List.take_succ_eq_append_getElem hj,List.map_append];rfl
 rw[hd,mO] at h
 rw[hg]
 constructor
 ·intro hn;rw[if_pos hn] at h;exact h.symm
 ·intro hn
  rw[if_neg (fun h=>h hn)] at h
  rw[ht]
  refine⟨se2 hn,fun hb=>?_,fun hb=>?_⟩
  ·rw[if_pos hb] at h;exact h.symm
  ·rw[if_neg (by simp[hb])] at h;exact h
theorem aq9{rW:Nat}{xs:List mZ}{j:Nat}(hj:xs.length≤j)(h:mO rW ((xs.take j).map mZ.name) (xs.drop j)=mO rW [] xs):mO rW [] xs=0:=by
 rw[←h,List.drop_eq_nil_of_le hj,mO]
theorem apD{v:yE}{l:Lay}{i:Int}(h0:0≤i)(h:i<2):([.slice v.a1 l.nU.length v.c1,.slice v.a2 l.points.length v.c2]:List Value)[i.toNat]?=some (.slice (Pp v i) (uy l i).length (YT v i)):=by
 have:i=0∨i=1:=by omega
 rcases this with rfl|rfl<;>rfl
theorem apA{l:Lay}{i:Int}(h0:0≤i)(h2:i<2)(hst:1≤i→kr [] l.nU=0)(hn:kr [] (uy l i)=0):
  0≤i+1∧i+1≤2∧(1≤i+1→kr [] l.nU=0)∧(2≤i+1→kr [] l.points=0):=by
 have:i=0∨i=1:=by omega
 rcases this with rfl|rfl
 ·exact⟨by omega,by omega,fun _=>hn,by omega⟩
 ·exact⟨by omega,by omega,fun _=>hst (by omega),fun _=>hn⟩
theorem apB{l:Lay}{i e:Int}(h0:0≤i)(h2:i<2)(hf:vQ l=false)(hs:¬l.sections.length=0)(hst:1≤i→kr [] l.nU=0)(he:kr [] (uy l i)=e)(hne:e≠0):kR l=e:=by
 have:i=0∨i=1:=by omega
 rcases this with rfl|rfl
 ·have he':kr [] l.nU=e:=he
  rw[kR,if_neg (by simp[hf]),if_neg hs,if_pos (by rw[he'];exact hne),he']
 ·have he':kr [] l.points=e:=he
  rw[kR,if_neg (by simp[hf]),if_neg hs,if_neg (by simp[hst (by omega)]),if_pos (by rw[he'];exact hne),he']
theorem ahJ{l:Lay}{e:Int}(hf:vQ l=false)(hs:¬l.sections.length=0)(hst:kr [] l.nU=0)(hpt:kr [] l.points=0)(he:mO l.nU.length [] l.sections=e)(hne:e≠0):kR l=e:=by
 rw[kR,if_neg (by simp[hf]),if_neg hs,if_neg (by simp[hst]),if_neg (by simp[hpt]),if_pos (by rw[he];exact hne),he]
theorem apd{l:Lay}(hf:vQ l=false)(hs:¬l.sections.length=0)(hst:kr [] l.nU=0)(hpt:kr [] l.points=0)(he:mO l.nU.length [] l.sections=0):kR l=pQ l [] l.links:=by
 rw[kR,if_neg (by simp[hf]),if_neg hs,if_neg (by simp[hst]),if_neg (by simp[hpt]),if_neg (by simp[he])]
theorem ajn (w : World) (v : yE) (l : Lay) (hl : Gj 0 w.heap.size w v l)
    (hck : l.sections.length ≤ 96 ∧ l.links.length ≤ 192 → ∀ w' : World, Gj 0 w'.heap.size w' v l → Calls Tryz.prog 98 #[.agg (v.cells l).toArray] w' (dz w' (.int .i64 (pQ l [] l.links)))) : Calls Tryz.prog 44 #[.agg (v.cells l).toArray] w (dz w (.int .i64 (kR l))) := by
  refine cu (args := [_]) Tryz.func44 rfl (Mem.start w) rfl ?_
  refine aK fun K1 hK1 => ?_
  refine bB ?_
  refine bM (Av (k := fun b1 => ?_))
  refine aZ dD ?_
  refine bC (hK1 _ _ ?_); clear hK1
  refine aK fun K2 hK2 => ?_
  refine bH ?_
  refine PW (γ := Bool) (env := fun q => [(1, .v (.pointer (some ⟨b1, 0, none⟩))), (13, .v (.bool q))]) (mem := fun q => [own b1 26 (v.cells l), old w]) (R := fun q => q = vQ l) ?_ ?_
  · intro Gh hJ3
    refine aK fun K4 hK4 => ?_
    refine bB ?_
    refine aZ (av 0) ?_
    refine aZ aF ?_
    refine aZ bL ?_
    refine aZ gM ?_
    refine aZ dD ?_
    refine bC (hK4 _ _ ?_); clear hK4
    refine wK rfl (fun hc1 => ?_) (fun hc1 => ?_)  -- t13
    ·
      refine aX (hJ3 (_) _ _ (by simp only [vQ]; congr 1; simp only [eq_iff_iff]; omega) ⟨rfl, rfl, trivial⟩ (fun _ h => h))
    ·
      refine aK fun K5 dI => ?_
      refine bB ?_
      refine aZ (av 1) ?_
      refine aZ aF ?_
      refine aZ bL ?_
      refine aZ gM ?_
      refine aZ dD ?_
      refine bC (dI _ _ ?_); clear dI
      refine wK rfl (fun hc2 => ?_) (fun hc2 => ?_)  -- t13
      ·
        refine aX (hJ3 (_) _ _ (by simp only [vQ]; congr 1; simp only [eq_iff_iff]; omega) ⟨rfl, rfl, trivial⟩ (fun _ h => h))
      ·
        refine aK fun K6 dn => ?_
        refine bB ?_
        refine aZ (av 2) ?_
        refine aZ aF ?_
        refine aZ bL ?_
        refine aZ gM ?_
        refine aZ dD ?_
        refine bC (dn _ _ ?_); clear dn
        refine wK rfl (fun hc3 => ?_) (fun hc3 => ?_)  -- t13
        ·
          refine aX (hJ3 (_) _ _ (by simp only [vQ]; congr 1; simp only [eq_iff_iff]; omega) ⟨rfl, rfl, trivial⟩ (fun _ h => h))
        ·
          refine bB ?_
          refine aZ (av 3) ?_
          refine aZ aF ?_
          refine aZ bL ?_
          refine aZ gM ?_
          refine aZ dD ?_
          refine bC (hJ3 (_) _ _ (by simp only [vQ]; congr 1; simp only [eq_iff_iff]; omega) ⟨rfl, rfl, trivial⟩ (fun _ h => h))
  · intro q hR
    refine wJ rfl (fun hc4 => ?_) (fun hc4 => ?_)  -- t13
    ·
      refine aK fun K7 eu => ?_
      refine bB ?_
      refine aZ dD ?_
      refine bC (eu _ _ ?_); clear eu
      refine aY (o8 rfl rfl (fun w hm => pz hm (by rw [kR, if_pos (by rw [← hR, hc4])])))
    ·
      have hfull : vQ l = false := by rw [← hR, hc4]
      have hb : l.nU.length ≤ 24 ∧ l.points.length ≤ 48 ∧ l.sections.length ≤ 96 ∧ l.links.length ≤ 192 := by simp only [vQ, decide_eq_false_iff_not] at hfull; omega
      obtain ⟨hb1, hb2, hb3, hb4⟩ := hb
      refine aK fun K8 gV => ?_
      refine bB ?_
      refine aZ (av 2) ?_
      refine aZ aF ?_
      refine aZ bL ?_
      refine aZ dU ?_
      refine aZ dD ?_
      refine bC (gV _ _ ?_); clear gV
      refine wK rfl (fun jL => ?_) (fun jL => ?_)  -- t30
      ·
        refine aK fun K9 gB => ?_
        refine bB ?_
        refine aZ dD ?_
        refine bC (gB _ _ ?_); clear gB
        refine aY (o8 rfl rfl (fun w hm => pz hm (by rw [kR, if_neg (by simp [hfull]), if_pos (by omega)])))
      ·
        refine aX (hK2 _ _ ?_); clear hK2
        refine aK fun tK gU => ?_
        refine aK fun rQ gG => ?_
        refine bB ?_
        refine aZ (av 0) ?_
        refine aZ aF ?_
        refine aZ (av 1) ?_
        refine aZ aF ?_
        refine aZ Y5 ?_
        refine aZ aL ?_
        refine bC (gG _ _ ?_); clear gG
        refine bH ?_
        refine Gx (γ := Int) (env := fun i => [(1, .v (.pointer (some ⟨b1, 0, none⟩))), (39, .v (.agg #[.slice v.a1 l.nU.length v.c1, .slice v.a2 l.points.length v.c2])), (40, .v (.int .i64 i))]) (mem := fun i => [own b1 26 (v.cells l), old w]) (R := fun i => 0 ≤ i ∧ i ≤ 2 ∧ (1 ≤ i → kr [] l.nU = 0) ∧ (2 ≤ i → kr [] l.points = 0)) (μ := fun i => (2 - i).toNat) (0) (⟨by omega, by omega, by omega, by omega⟩) ⟨rfl, rfl, rfl, trivial⟩ (fun _ h => h) ?_
        intro i Mq iG hL1
        obtain ⟨hi0, hi2, QE, ZW⟩ := Mq
        refine aK fun zy jY => ?_
        refine bB ?_
        refine aZ bY ?_
        refine bC (jY _ _ ?_); clear jY
        refine aK fun yD jO => ?_
        refine wK rfl (fun hc6 => ?_) (fun hc6 => ?_)  -- t41
        ·
          refine aX (jO _ _ ?_); clear jO
          refine aK fun BN mq => ?_
          refine bH ?_
          refine aK fun zA jZ => ?_
          refine bB ?_
          refine aZ (ajD (v := .slice (Pp v i) (uy l i).length (YT v i)) 2 (fun _ => by omega) (fun _ => apD hi0 hc6)) ?_
          refine aZ dD ?_
          refine bC (jZ _ _ ?_); clear jZ
          refine aK fun Ba kX => ?_
          refine bB ?_
          refine bM (ahY (k := fun b5 => ?_))
          refine aZ dD ?_
          refine bC (kX _ _ ?_); clear kX
          refine aK fun LA sI => ?_
          refine bB ?_
          refine aZ aL ?_
          have hnl : (uy l i).length ≤ 48 := by unfold uy; split <;> omega
          have hns : Sl 0 w.heap.size w (Pp v i) (strCells (uy l i)) := by unfold Pp uy; split; exact hl.st; exact hl.pt
          refine aZ bL ?_
          refine aZ aL ?_
          refine bC (sI _ _ ?_); clear sI
          refine bH ?_
          refine Gx (γ := Int) (env := fun j => [(1, .v (.pointer (some ⟨b1, 0, none⟩))), (39, .v (.agg #[.slice v.a1 l.nU.length v.c1, .slice v.a2 l.points.length v.c2])), (40, .v (.int .i64 i)), (5, .v (.map (some b5))), (44, .v (.slice (Pp v i) (uy l i).length (YT v i))), (45, .v (.int .i64 ((uy l i).length : Int))), (46, .v (.int .i64 j))]) (mem := fun j => [yS b5 ((uy l i).take j.toNat), own b1 26 (v.cells l), old w]) (R := fun j => 0 ≤ j ∧ j ≤ (uy l i).length ∧ kr ((uy l i).take j.toNat) ((uy l i).drop j.toNat) = kr [] (uy l i)) (μ := fun j => ((uy l i).length - j).toNat) (0) (⟨by omega, by omega, rfl⟩) ⟨rfl, rfl, rfl, rfl, rfl, rfl, rfl, trivial⟩ (fun _ h => h) ?_
          intro j hR2 wH hL2
          obtain ⟨hj0, hj1, hj2⟩ := hR2
          refine aK fun Gg pO => ?_
          refine bB ?_
          refine aZ bY ?_
          refine bC (pO _ _ ?_); clear pO
          refine aK fun EN nX => ?_
          refine wK rfl (fun oJ => ?_) (fun oJ => ?_)  -- t47
          ·
            refine aX (nX _ _ ?_); clear nX
            refine aK fun I9 qR => ?_
            refine bH ?_
            refine aK fun Ph vS => ?_
            refine bB ?_
            refine aZ (GJ 1 (fun _ => hns.addr (by simp [strCells]; omega))) ?_
            refine aZ (Mi (L9 (j := j.toNat * 1) hns (by rw [Nat.mul_one]; exact arH (by omega)) (Nat.le_refl _) (by repeat (first | exact Has.head | apply Has.tail)))) ?_
            refine aZ dD ?_
            refine bC (vS _ _ ?_); clear vS
            refine aK fun Ja qU => ?_
            refine bB ?_
            refine aZ aL ?_
            refine aZ aL ?_
            have hstep := apC (names := uy l i) (j := j.toNat) (by omega) hj2
            refine bM (ahV (hc := fun w hm hφ hfp => adR w _ b5 _ hφ hfp) (k := fun _ _ => ?_))
            refine aZ dD ?_
            refine bC (qU _ _ ?_); clear qU
            refine aK fun Pj tX => ?_
            refine bB ?_
            refine aZ aL ?_
            refine aZ gZ ?_
            refine bC (tX _ _ ?_); clear tX
            refine wK rfl (fun hc8 => ?_) (fun hc8 => ?_)  -- t54
            ·
              refine aK fun UG yM => ?_
              refine bB ?_
              refine aZ aL ?_
              refine aZ dD ?_
              refine bC (yM _ _ ?_); clear yM
              refine aY (o8 rfl rfl (fun w hm => pz hm (by rw [apB hi0 hc6 hfull (by omega) QE (hstep.1 hc8) hc8])))
            ·
              refine aX (qR _ _ ?_); clear qR
              refine bB ?_
              refine aZ eH ?_
              refine aZ aL ?_
              have hz : nK ((uy l i).getD j.toNat ByteArray.empty) ((uy l i).take j.toNat) = 0 := Decidable.of_not_not hc8
              refine bC (hL2 (j + 1) _ _ (⟨by omega, by omega, by rw [show (j + 1).toNat = j.toNat + 1 by omega]; exact (hstep.2 hz).1⟩) (by omega) ⟨rfl, rfl, rfl, rfl, rfl, rfl, rfl, trivial⟩ (fun w hm => by rw [show (j + 1).toNat = j.toNat + 1 by omega, ← (hstep.2 hz).2]; exact hm))
          ·
            refine dK (mq _ _ ?_); clear mq
            refine bB ?_
            refine aZ eH ?_
            refine aZ aL ?_
            refine bC (hL1 (i + 1) _ _ (apA hi0 hc6 QE (apz (by omega) hj2)) (by omega) ⟨rfl, rfl, rfl, trivial⟩ (fun w hm => hm.sub (by repeat (first | exact List.Sublist.refl _ | apply List.Sublist.cons_cons | apply List.Sublist.cons))))
        ·
          refine dK (gU _ _ ?_); clear gU
          refine aK fun Ym Cc => ?_
          refine bB ?_
          refine bM (ahY (k := fun b9 => ?_))
          refine aZ dD ?_
          refine bC (Cc _ _ ?_); clear Cc
          refine aK fun LB sJ => ?_
          refine aK fun UH yN => ?_
          refine bB ?_
          refine aZ (av 2) ?_
          refine aZ aF ?_
          refine aZ bL ?_
          refine aZ aL ?_
          refine bC (yN _ _ ?_); clear yN
          refine bH ?_
          refine Gx (γ := Int) (env := fun j => [(1, .v (.pointer (some ⟨b1, 0, none⟩))), (9, .v (.map (some b9))), (60, .v (.slice v.a3 l.sections.length v.c3)), (61, .v (.int .i64 (l.sections.length : Int))), (62, .v (.int .i64 j))]) (mem := fun j => [yS b9 ((l.sections.take j.toNat).map mZ.name), own b1 26 (v.cells l), old w]) (R := fun j => 0 ≤ j ∧ j ≤ l.sections.length ∧ mO l.nU.length ((l.sections.take j.toNat).map mZ.name) (l.sections.drop j.toNat) = mO l.nU.length [] l.sections) (μ := fun j => (l.sections.length - j).toNat) (0) (⟨by omega, by omega, rfl⟩) ⟨rfl, rfl, rfl, rfl, rfl, trivial⟩ (fun _ h => h) ?_
          intro j hR3 Gi hL3
          obtain ⟨hj0, hj1, hj2⟩ := hR3
          refine aK fun Yn Ce => ?_
          refine bB ?_
          refine aZ bY ?_
          refine bC (Ce _ _ ?_); clear Ce
          refine aK fun LC sK => ?_
          refine wK rfl (fun qV => ?_) (fun qV => ?_)  -- t63
          ·
            refine aX (sK _ _ ?_); clear sK
            refine aK fun UJ yO => ?_
            refine bH ?_
            refine aK fun UK yP => ?_
            refine bB ?_
            refine aZ (GJ 5 (fun _ => hl.se.addr (by rw [ajQ (sz := 5) (fun _ => rfl)]; omega))) ?_
            refine aZ (Y6 (l := (l.sections.getD j.toNat CS).cells) (fun w hm q u hu => by rw [Nat.add_assoc]; exact L9 hl.se (aq8 (by omega) hu) (Nat.le_refl _) (by repeat (first | exact Has.head | apply Has.tail)) w hm)) ?_
            refine bM (iw rfl (k := fun b11 => ?_))
            refine bM (xu (k := ?_))
            refine bC (yP _ _ ?_); clear yP
            refine aK fun K32 GK => ?_
            refine aK fun UL wN => ?_
            refine bB ?_
            refine aZ (av 0) ?_
            refine aZ aF ?_
            refine aZ aL ?_
            have hstep := arb (rW := l.nU.length) (xs := l.sections) (j := j.toNat) (by omega) hj2
            refine bM (ahV (hc := fun w hm hφ hfp => adR w _ b9 _ hφ hfp) (k := fun _ _ => ?_))
            refine aZ dD ?_
            refine bC (wN _ _ ?_); clear wN
            refine aK fun Yo Cg => ?_
            refine bB ?_
            refine aZ aL ?_
            refine aZ gZ ?_
            refine bC (Cg _ _ ?_); clear Cg
            refine wK rfl (fun wO => ?_) (fun wO => ?_)  -- t71
            ·
              refine aK fun Yp Ch => ?_
              refine bB ?_
              refine aZ aL ?_
              refine aZ dD ?_
              refine bC (Ch _ _ ?_); clear Ch
              refine aY (o8 rfl rfl (fun w hm => pz hm (by rw [ahJ hfull (by omega) (QE (by omega)) (ZW (by omega)) (hstep.1 wO) wO])))
            ·
              have hz : nK (l.sections.getD j.toNat CS).name ((l.sections.take j.toNat).map mZ.name) = 0 := Decidable.of_not_not wO
              refine aX (GK _ _ ?_); clear GK
              refine aK fun K36 Qk => ?_
              refine bB ?_
              refine aZ bR ?_
              refine aZ bR ?_
              refine bM (lK (fun w hm => ard w v l _) ?_)
              refine aZ fq ?_
              refine bC (Qk _ _ ?_); clear Qk
              refine wJ rfl (fun zL => ?_) (fun zL => ?_)  -- t76
              ·
                refine aK fun Yq Ci => ?_
                refine bB ?_
                refine aZ dD ?_
                refine bC (Ci _ _ ?_); clear Ci
                refine aY (o8 rfl rfl (fun w hm => pz hm (by rw [ahJ hfull (by omega) (QE (by omega)) (ZW (by omega)) ((hstep.2 hz).2.1 (by simpa using zL)) (by decide)])))
              ·
                refine aX (yO _ _ ?_); clear yO
                refine bB ?_
                refine aZ eH ?_
                refine aZ aL ?_
                refine bC (hL3 (j + 1) _ _ (⟨by omega, by omega, by rw [show (j + 1).toNat = j.toNat + 1 by omega]; exact (hstep.2 hz).2.2 (by simpa using zL)⟩) (by omega) ⟨rfl, rfl, rfl, rfl, rfl, trivial⟩ (fun w hm => by rw [show (j + 1).toNat = j.toNat + 1 by omega, ← (hstep.2 hz).1]; exact hm.sub (by repeat (first | exact List.Sublist.refl _ | apply List.Sublist.cons_cons | apply List.Sublist.cons))))
          ·
            refine dK (sJ _ _ ?_); clear sJ
            refine aK fun K38 Ql => ?_
            refine bB ?_
            refine aZ bR ?_
            refine bM (lK (fun w hm => hck (by omega) w (Gj.below hl (hm.below (by repeat (first | exact Has.head | apply Has.tail))))) ?_)
            refine aZ dD ?_
            refine bC (Ql _ _ ?_); clear Ql
            refine aY (o8 rfl rfl (fun w hm => pz hm (by rw [apd hfull (by omega) (QE (by omega)) (ZW (by omega)) (aq9 (by omega) hj2)])))
theorem ajo(w:World)(v:yE)(l:Lay)(hl:Gj 0 w.heap.size w v l):Calls Tryz.prog 44 #[.agg (v.cells l).toArray] w (dz w (.int .i64 (kR l))):=
 ajn w v l hl fun hb w' hl'=>ajg w' v l hl' hb
end Go.Proofs.YtcalibhfgdncaaaGreatDoor
namespace Go.Proofs.YtcalibhfgdncaaaGreatDoor
open Go.Dc Go.RowKit
theorem Xt{α:Type}[aC α]{S:bO}{w:World}{r:SR (aC.R α)}{xs:List α}(f:α→List Value)(hf:∀(q:aC.R α) x,aC.enc q x=f x)(hS:∀k,S k→k<w.heap.size)(h:sF S w r xs):
  Go.gQ.Sl 0 w.heap.size w r.a (xs.flatMap f):=by
 have he:∀(l:List α) (i:Nat),l.flatMap f=iX r.es l i:=by
  intro l
  induction l with
  |nil=>intro i;rfl
  |cons x l ih=>intro i;rw[List.flatMap_cons,iX,hf,ih (i+1)]
 intro j v hv
 rw[he xs 0] at hv
 obtain⟨i,j',x,rfl,hj,hx,hv⟩:=U9 r.es hv
 obtain⟨h1,h2,h3,_⟩:=h.2.2 i x hx
 exact⟨h1,Nat.zero_le _,hS _ h2,h3 j' v hv⟩
def pX(s:Section):mZ:=⟨s.Name.ba,s.Length,s.Limit,s.jQ,s.nG⟩
def jR(k:Link):fQ:=⟨k.A,k.dN,k.B,k.dV,k.Point,k.Pos⟩
def fG(l:Layout):Lay:=⟨l.aU.map Str.ba,l.bG.map Str.ba,l.Sections.map pX,l.Links.map jR⟩
def Ri(l:Layout):Option Int:=some (kR (fG l))
theorem afr(S:bO)(w:World)(l0:Layout)(ay:aC.R Layout)(y:Int)(hM:Ri l0=some y)(hS:∀k,S k→k<w.heap.size)(dZ:aC.ok S w ay l0):
  Calls Tryz.prog 44 #[.agg #[.slice ay.1.a l0.aU.length ay.1.cap,.slice ay.2.1.a l0.bG.length ay.2.1.cap,.slice ay.2.2.1.a l0.Sections.length ay.2.2.1.cap,.slice ay.2.2.2.a l0.Links.length ay.2.2.2.cap]] w (dz w (.int .i64 y)):=by
 obtain rfl:=some_inj hM
 obtain⟨h1,h2,h3,h4⟩:=dZ
 have hstr:∀l:List Str,strCells (l.map Str.ba)=l.flatMap (fun s=>[.string s.ba]):=by
  intro l
  unfold strCells
  induction l with
  |nil=>rfl
  |cons x l ih=>simp only[List.map_cons,List.flatMap_cons,ih];rfl
 have:=ajo w ⟨ay.1.a,ay.1.cap,ay.2.1.a,ay.2.1.cap,ay.2.2.1.a,ay.2.2.1.cap,ay.2.2.2.a,ay.2.2.2.cap⟩ (fG l0)
  ⟨by show Go.gQ.Sl _ _ _ ay.1.a (strCells (l0.aU.map Str.ba));rw[hstr];exact Xt _ (fun _ _=>rfl) hS h1,
   by show Go.gQ.Sl _ _ _ ay.2.1.a (strCells (l0.bG.map Str.ba));rw[hstr];exact Xt _ (fun _ _=>rfl) hS h2,
   by show Go.gQ.Sl _ _ _ ay.2.2.1.a ((l0.Sections.map pX).flatMap mZ.cells);rw[List.flatMap_map];exact Xt _ (fun _ _=>rfl) hS h3,
   by show Go.gQ.Sl _ _ _ ay.2.2.2.a ((l0.Links.map jR).flatMap fQ.cells);rw[List.flatMap_map];exact Xt _ (fun _ _=>rfl) hS h4⟩
 have hc:(yE.cells ⟨ay.1.a,ay.1.cap,ay.2.1.a,ay.2.1.cap,ay.2.2.1.a,ay.2.2.1.cap,ay.2.2.2.a,ay.2.2.2.cap⟩ (fG l0))=[.slice ay.1.a l0.aU.length ay.1.cap,.slice ay.2.1.a l0.bG.length ay.2.1.cap,.slice ay.2.2.1.a l0.Sections.length ay.2.2.1.cap,.slice ay.2.2.2.a l0.Links.length ay.2.2.2.cap]:=by
  simp[yE.cells,fG]
 rw[hc] at this
 exact this
end Go.Proofs.YtcalibhfgdncaaaGreatDoor
