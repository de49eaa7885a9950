/- Several parts of the engine, one behind the other. -/
import Derived.Test.YtcalibhfgdncaaaGreatDoorEm
import Derived.Test.YtcalibhfgdncaaaGreatDoorProg
import Derived.Test.YtcalibhfgdncaaaGreatDoorTypes
set_option linter.all false
namespace Go.Proofs.YtcalibhfgdncaaaGreatDoor
open Go.iK Go.RowKit
set_option maxRecDepth 10000
def wo(c:Int):Bool:=(decide (65≤c)&&decide (c≤90))||(decide (97≤c)&&decide (c≤122))
def Dm(c:Int):Bool:=decide (48≤c)&&decide (c≤57)
theorem ad8(w:World)(c:Int):Calls Tryz.prog 134 #[.int .u8 c] w (cu w (.bool (wo c))):=by
 refine bP (args:=[_]) Tryz.func134 rfl (Mem.start w) rfl ?_
 refine aG fun K1 hK1=>?_
 refine aZ ?_
 refine aT dx ?_
 refine bf (hK1 _ _ ?_);clear hK1
 refine aG fun K2 hK2=>?_
 refine aZ ?_
 refine aT aH ?_
 refine aT jf ?_
 refine aT aH ?_
 refine av rfl aH ?_
 refine av rfl pU ?_
 refine aT dI ?_
 refine aT aH ?_
 refine av rfl aH ?_
 refine av rfl jf ?_
 refine av rfl aH ?_
 refine av rfl aH ?_
 refine av rfl pU ?_
 refine av rfl dI ?_
 refine aT eT ?_
 refine aT dx ?_
 refine bf (hK2 _ _ ?_);clear hK2
 refine aW (ow rfl rfl (fun w hm=>nX hm rfl))
theorem alz(w:World)(c:Int):Calls Tryz.prog 135 #[.int .u8 c] w (cu w (.bool (Dm c))):=by
 refine bP (args:=[_]) Tryz.func135 rfl (Mem.start w) rfl ?_
 refine aG fun K1 hK1=>?_
 refine aZ ?_
 refine aT dx ?_
 refine bf (hK1 _ _ ?_);clear hK1
 refine aG fun K2 hK2=>?_
 refine aZ ?_
 refine aT aH ?_
 refine aT jf ?_
 refine aT aH ?_
 refine av rfl aH ?_
 refine av rfl pU ?_
 refine aT dI ?_
 refine aT dx ?_
 refine bf (hK2 _ _ ?_);clear hK2
 refine aW (ow rfl rfl (fun w hm=>nX hm rfl))
def wZ(c:Int):Bool:=wo c||Dm c||decide (c=95)
def mK(s:ByteArray):Bool:=decide (1≤s.size)&&decide (s.size≤12)&&wo (bt s 0)&&(List.range s.size).all fun i=>wZ (bt s i)
theorem ah2{c:Int}(h:((!wo c&& !Dm c)&&decide (c≠95))=false):wZ c=true:=by
 unfold wZ
 cases hl:wo c<;>cases hd:Dm c<;>simp[hl,hd] at h ⊢
 exact h
theorem amK{s:ByteArray}(h:((decide ((s.size:Int)<1)||decide (12<(s.size:Int)))|| !wo (bt s 0))=true):mK s=false:=by
 unfold mK
 cases hl:wo (bt s 0)
 ·simp
 ·simp[hl] at h
  rcases h with h|h
  ·have:¬(1≤s.size):=by omega
   simp[this]
  ·have:¬(s.size≤12):=by omega
   simp[this]
theorem amL{s:ByteArray}{i:Int}(h0:0≤i)(h1:i<s.size)(h:((!wo (bt s i.toNat)&& !Dm (bt s i.toNat))&&decide (bt s i.toNat≠95))=true):mK s=false:=by
 have hc:wZ (bt s i.toNat)=false:=by
  unfold wZ
  cases hl:wo (bt s i.toNat)<;>cases hd:Dm (bt s i.toNat)<;>simp_all
 have:((List.range s.size).all fun i=>wZ (bt s i))=false:=by
  rw[List.all_eq_false]
  exact⟨i.toNat,by rw[List.mem_range];omega,by simp[hc]⟩
 unfold mK
 rw[this]
 simp
theorem amN{s:ByteArray}{i:Int}(h:((¬(s.size:Int)<1)∧¬12<(s.size:Int))∧wo (bt s 0)=true)(hi:i=s.size)(hall:∀j,j<i.toNat→wZ (bt s j)=true):mK s=true:=by
 unfold mK
 have h1:1≤s.size:=by omega
 have h2:s.size≤12:=by omega
 simp only[h1,h2,decide_true,h.2,Bool.true_and,List.all_eq_true,List.mem_range]
 intro j hj
 exact hall j (by omega)
theorem amM (w : World) (s : ByteArray) : Calls Tryz.prog 78 #[.string s] w (cu w (.bool (mK s))) := by
  refine bP (args := [_]) Tryz.func78 rfl (Mem.start w) rfl ?_
  refine aG fun K1 hK1 => ?_
  refine aZ ?_
  refine aT dx ?_
  refine bf (hK1 _ _ ?_); clear hK1
  refine aG fun K2 hK2 => ?_
  refine aG fun K3 hK3 => ?_
  refine aZ ?_
  refine aT aH ?_
  refine aT O4 ?_
  refine aT cO ?_
  refine aT aH ?_
  refine av rfl aH ?_
  refine av rfl O4 ?_
  refine av rfl iw ?_
  refine aT eT ?_
  refine aT aH ?_
  refine av rfl aH ?_
  refine av rfl Us ?_
  refine Vk rfl (fun _ w _ => ad8 w _) ?_
  refine av rfl fF ?_
  refine aT eT ?_
  refine bf (hK3 _ _ ?_); clear hK3
  refine rX rfl (fun hc1 => ?_) (fun hc1 => ?_)  -- t17
  ·
    refine aG fun K4 hK4 => ?_
    refine aZ ?_
    refine aT dx ?_
    refine bf (hK4 _ _ ?_); clear hK4
    refine aW (ow rfl rfl (fun w hm => nX hm (congrArg Value.bool (amK hc1).symm)))
  ·
    refine aX (hK2 _ _ ?_); clear hK2
    refine aG fun K5 bS => ?_
    refine aG fun K6 bZ => ?_
    refine aZ ?_
    refine aT aH ?_
    refine aT O4 ?_
    refine aT aH ?_
    refine bf (bZ _ _ ?_); clear bZ
    refine bF ?_  -- block 0
    simp only [Bool.or_eq_false_iff, decide_eq_false_iff_not, Bool.not_eq_false'] at hc1
    refine EA (γ := Int) (env := fun i => [(0, .v (.string s)), (19, .v (.int .i64 (s.size : Int))), (20, .v (.int .i64 i))]) (mem := fun _ => [old w])
      (R := fun i => 0 ≤ i ∧ i ≤ s.size ∧ ∀ j, j < i.toNat → wZ (bt s j) = true) (μ := fun i => (s.size - i).toNat) 0 ⟨by omega, by omega, fun j hj => by simp at hj⟩ ⟨rfl, rfl, rfl, trivial⟩ (fun _ h => h) ?_
    · intro i hR KL hL
      obtain ⟨hi0, hi1, hall⟩ := hR
      refine aG fun K7 dZ => ?_
      refine aZ ?_
      refine aT cO ?_
      refine bf (dZ _ _ ?_); clear dZ
      refine aG fun K8 eZ => ?_
      refine vU rfl (fun hc => ?_) (fun hc => ?_)  -- t21
      ·
        refine aX (eZ _ _ ?_); clear eZ
        refine aG fun K9 dU => ?_
        refine bF ?_  -- block 1
        refine aG fun uN gX => ?_
        refine aZ ?_
        refine aT aH ?_
        refine aT dx ?_
        refine bf (gX _ _ ?_); clear gX
        refine aG fun o7 eH => ?_
        refine aZ ?_
        refine aT aH ?_
        refine aT aH ?_
        refine aT Us ?_
        refine bn (jO (fun w _ => ad8 w _) ?_)
        refine aT fF ?_
        refine aT aH ?_
        refine av rfl aH ?_
        refine av rfl aH ?_
        refine av rfl Us ?_
        refine Vk rfl (fun _ w _ => alz w _) ?_
        refine av rfl fF ?_
        refine aT dI ?_
        refine aT aH ?_
        refine av rfl aH ?_
        refine av rfl aH ?_
        refine av rfl Us ?_
        refine av rfl iy ?_
        refine aT dI ?_
        refine bf (eH _ _ ?_); clear eH
        refine rX rfl (fun hc2 => ?_) (fun hc2 => ?_)  -- t40
        ·
          refine aG fun CX lZ => ?_
          refine aZ ?_
          refine aT dx ?_
          refine bf (lZ _ _ ?_); clear lZ
          refine aW (ow rfl rfl (fun w hm => nX hm (congrArg Value.bool (amL hi0 (by assumption) hc2).symm)))
        ·
          refine aX (dU _ _ ?_); clear dU
          refine aZ ?_
          refine aT dH ?_
          refine aT aH ?_
          refine bf (hL (i + 1) _ _ ⟨by omega, by omega, fun j hj => ?_⟩ (by omega) ⟨rfl, rfl, rfl, trivial⟩ (fun _ h => h))
          by_cases hji : j < i.toNat
          · exact hall j hji
          · obtain rfl : j = i.toNat := by omega
            exact ah2 hc2
      ·
        -- exit 0
        refine dL (bS _ _ ?_); clear bS
        refine aG fun BA kS => ?_
        refine aZ ?_
        refine aT dx ?_
        refine bf (kS _ _ ?_); clear kS
        refine aW (ow rfl rfl (fun w hm => nX hm (congrArg Value.bool (amN hc1 (by omega) hall).symm)))
end Go.Proofs.YtcalibhfgdncaaaGreatDoor
namespace Go.Proofs.YtcalibhfgdncaaaGreatDoor
open Go.iK Go.RowKit
set_option maxRecDepth 10000
structure lW where
 name:ByteArray
 len:Int
 lim:Int
 YI:Int
 abu:Int
def lW.cells(s:lW):List Value:=[.string s.name,.int .i64 s.len,.int .i64 s.lim,.int .i64 s.YI,.int .i64 s.abu]
structure fJ where
 a:Int
 kD:Int
 b:Int
 lN:Int
 point:Int
 pos:Int
def fJ.cells(k:fJ):List Value:=[.int .i64 k.a,.int .i64 k.kD,.int .i64 k.b,.int .i64 k.lN,.int .i64 k.point,.int .i64 k.pos]
structure Lay where
 nG:List ByteArray
 points:List ByteArray
 sections:List lW
 links:List fJ
def strCells(l:List ByteArray):List Value:=l.map .string
structure yt where
 a1:Option Addr
 c1:Nat
 a2:Option Addr
 c2:Nat
 a3:Option Addr
 c3:Nat
 a4:Option Addr
 c4:Nat
def yt.cells(v:yt)(l:Lay):List Value:=[.slice v.a1 l.nG.length v.c1,.slice v.a2 l.points.length v.c2,.slice v.a3 l.sections.length v.c3,.slice v.a4 l.links.length v.c4]
structure F9(lo hi:Nat)(w:World)(v:yt)(l:Lay):Prop where
 st:Sl lo hi w v.a1 (strCells l.nG)
 pt:Sl lo hi w v.a2 (strCells l.points)
 se:Sl lo hi w v.a3 (l.sections.flatMap lW.cells)
 li:Sl lo hi w v.a4 (l.links.flatMap fJ.cells)
def oz(s:ByteArray)(seen:List ByteArray):Int:=if mK s=false then 3 else if s∈seen then 5 else 0
def Kw(s:ByteArray)(seen:List ByteArray):List ByteArray:=if oz s seen=0 then seen++[s] else seen
def Bl(rO:Nat)(s:lW):Bool:=((((((decide (1≤s.len)&&decide (s.len≤400))&&decide (1000≤s.lim))&&decide (s.lim≤100000))&&decide (-40≤s.YI))&&decide (s.YI≤40))&&decide (-1≤s.abu))&&decide (s.abu<(rO:Int))
theorem ao9(w:World)(v:yt)(l:Lay)(s:lW):Calls Tryz.prog 97 #[.agg (v.cells l).toArray,.agg s.cells.toArray] w (cu w (.bool (Bl l.nG.length s))):=by
 refine bP (args:=[_,_]) Tryz.func97 rfl (Mem.start w) rfl ?_
 refine aG fun K1 hK1=>?_
 refine aZ ?_
 refine bn (zU (k:=fun b2=>?_))
 refine bn (zU (k:=fun b3=>?_))
 refine aT dx ?_
 refine bf (hK1 _ _ ?_);clear hK1
 refine aG fun K2 hK2=>?_
 refine aZ ?_
 refine aT (aD 1) ?_
 refine aT aJ ?_
 refine aT jf ?_
 refine aT aH ?_
 refine av rfl (aD 1) ?_
 refine av rfl aJ ?_
 refine av rfl pU ?_
 refine aT dI ?_
 refine aT aH ?_
 refine av rfl (aD 2) ?_
 refine av rfl aJ ?_
 refine av rfl jf ?_
 refine aT dI ?_
 refine aT aH ?_
 refine av rfl (aD 2) ?_
 refine av rfl aJ ?_
 refine av rfl pU ?_
 refine aT dI ?_
 refine aT aH ?_
 refine av rfl (aD 3) ?_
 refine av rfl aJ ?_
 refine av rfl jf ?_
 refine aT dI ?_
 refine aT aH ?_
 refine av rfl (aD 3) ?_
 refine av rfl aJ ?_
 refine av rfl pU ?_
 refine aT dI ?_
 refine aT aH ?_
 refine av rfl (aD 4) ?_
 refine av rfl aJ ?_
 refine av rfl jf ?_
 refine aT dI ?_
 refine aT aH ?_
 refine av rfl (aD 4) ?_
 refine av rfl aJ ?_
 refine av rfl (aD 0) ?_
 refine av rfl aJ ?_
 refine av rfl bJ ?_
 refine av rfl cO ?_
 refine aT dI ?_
 refine aT dx ?_
 refine bf (hK2 _ _ ?_);clear hK2
 refine aW (ow rfl rfl (fun w hm=>nX hm rfl))
theorem ne1{s:ByteArray}{S:List ByteArray}(h:(!mK s)=true):oz s S=3:=by simp at h;simp[oz,h]
theorem ne2{s:ByteArray}{S:List ByteArray}(h:(!mK s)=false)(h2:s∈S):oz s S=5:=by simp at h;simp[oz,h,h2]
theorem ne3{s:ByteArray}{S:List ByteArray}(h:(!mK s)=false)(h2:¬s∈S):oz s S=0:=by simp at h;simp[oz,h,h2]
theorem se1{s:ByteArray}{S:List ByteArray}(h:oz s S≠0):Kw s S=S:=by simp[Kw,h]
theorem se2{s:ByteArray}{S:List ByteArray}(h:oz s S=0):Kw s S=S++[s]:=by simp[Kw,h]
theorem acw (w : World) (s : ByteArray) (b : Nat) (S : List ByteArray) (hφ : (yF b S).φ w) (hb : ∀ k, (yF b S).fp k → k < w.heap.size) :
    Calls Tryz.prog 96 #[.string s, .map (some b)] w (Mut (yF b S) (fun _ : Unit => .int .i64 (oz s S)) (fun _ => True) (fun _ => yF b (Kw s S)) w) := by
  refine bP (args := [_, _]) Tryz.func96 rfl (Mem.apG (yF b S) hφ hb) rfl ?_
  refine aG fun K1 hK1 => ?_
  refine aZ ?_
  refine aT dx ?_
  refine bf (hK1 _ _ ?_); clear hK1
  refine aG fun K2 hK2 => ?_
  refine bF ?_
  refine aG fun K3 hK3 => ?_
  refine aZ ?_
  refine aT aH ?_
  refine bn (jO (fun w hm => amM w _) ?_)
  refine aT fF ?_
  refine aT dx ?_
  refine bf (hK3 _ _ ?_); clear hK3
  refine rX rfl (fun hc1 => ?_) (fun hc1 => ?_)  -- t5
  ·
    refine aG fun K4 hK4 => ?_
    refine aZ ?_
    refine aT dx ?_
    refine bf (hK4 _ _ ?_); clear hK4
    refine aW (ow rfl rfl (fun w hm => ⟨(), by rw [ne1 hc1], trivial, by rw [se1 (by rw [ne1 hc1]; decide)]; exact Has.head.φ hm, fun k hk => ⟨.inl hk, Has.lt (c := yF b S) Has.head hm hk⟩, hm.frame (.tail .head)⟩))
  ·
    refine aG fun K5 bS => ?_
    refine aZ ?_
    refine aT aH ?_
    refine aT aH ?_
    refine aT aiH ?_
    refine aT dx ?_
    refine bf (bS _ _ ?_); clear bS
    refine vU rfl (fun hc2 => ?_) (fun hc2 => ?_)  -- t9
    ·
      refine aG fun K6 bZ => ?_
      refine aZ ?_
      refine aT dx ?_
      refine bf (bZ _ _ ?_); clear bZ
      refine aW (ow rfl rfl (fun w hm => ⟨(), by rw [ne2 hc1 hc2], trivial, by rw [se1 (by rw [ne2 hc1 hc2]; decide)]; exact Has.head.φ hm, fun k hk => ⟨.inl hk, Has.lt (c := yF b S) Has.head hm hk⟩, hm.frame (.tail .head)⟩))
    ·
      refine aX (hK2 _ _ ?_); clear hK2
      refine aG fun K7 dZ => ?_
      refine aZ ?_
      refine aT aH ?_
      refine aT aH ?_
      refine bn (apB hc2 .head ?_)
      refine bf (dZ _ _ ?_); clear dZ
      refine aG fun K8 eZ => ?_
      refine aZ ?_
      refine aT dx ?_
      refine bf (eZ _ _ ?_); clear eZ
      refine aW (ow rfl rfl (fun w hm => ⟨(), by rw [ne3 hc1 hc2], trivial, by rw [se2 (ne3 hc1 hc2)]; exact Has.head.φ hm, fun k hk => ⟨.inl hk, Has.lt (c := yF b (S ++ [s])) Has.head hm hk⟩, hm.frame (.tail .head)⟩))
end Go.Proofs.YtcalibhfgdncaaaGreatDoor
namespace Go.Proofs.YtcalibhfgdncaaaGreatDoor
open Go.iK Go.RowKit
set_option maxRecDepth 10000
theorem F9.below{w w':World}{v:yt}{l:Lay}(h:F9 0 w.heap.size w v l)(hb:Below w.heap.size w w'):F9 0 w'.heap.size w' v l:=
 ⟨h.st.mono (Nat.le_refl _) hb.size (fun k _ hk=>hb.block k hk),h.pt.mono (Nat.le_refl _) hb.size (fun k _ hk=>hb.block k hk),h.se.mono (Nat.le_refl _) hb.size (fun k _ hk=>hb.block k hk),h.li.mono (Nat.le_refl _) hb.size (fun k _ hk=>hb.block k hk)⟩
def atEnd(done:List fJ)(e:Int):List fJ:=done.filter (fun k=>decide (2*k.a+k.kD=e)||decide (2*k.b+k.lN=e))
def Qd(a ae b be:Int)(k:fJ):Bool:=(decide (a=k.a∧ae=k.kD)&&decide (b=k.b∧be=k.lN))||(decide (a=k.b∧ae=k.lN)&&decide (b=k.a∧be=k.kD))
def Ay(k:fJ):List fJ→Bool
 |[]=>true
 |[x]=>(decide (k.point≠ -1)&&decide (k.point=x.point))&&decide (k.pos≠x.pos)
 |_=>false
def yI(l:Lay)(k:fJ):Bool:=
 (((((((decide (0≤k.a)&&decide (k.a<(l.sections.length:Int)))&&decide (0≤k.b))&&decide (k.b<(l.sections.length:Int)))&&(decide (k.kD=0)||decide (k.kD=1)))&&(decide (k.lN=0)||decide (k.lN=1)))&&decide (-1≤k.point))&&decide (k.point<(l.points.length:Int)))&&(decide (k.pos=0)||(decide (k.pos=1)&&decide (k.point≠ -1)))
def uo(l:Lay):List fJ→List fJ→Int
 |_,[]=>0
 |done,k::r=>
  if yI l k=false then 4 else if k.a=k.b∧k.kD=k.lN then 1 else
  if (atEnd done (2*k.a+k.kD)).any (Qd k.a k.kD k.b k.lN)=true then 5 else
  if Ay k (atEnd done (2*k.a+k.kD))=false∨Ay k (atEnd done (2*k.b+k.lN))=false then 11 else uo l (done++[k]) r
theorem ams(w:World)(v:yt)(l:Lay)(k:fJ):Calls Tryz.prog 147 #[.agg (v.cells l).toArray,.agg k.cells.toArray] w (cu w (.bool (yI l k))):=by
 refine bP (args:=[_,_]) Tryz.func147 rfl (Mem.start w) rfl ?_
 refine aG fun K1 hK1=>?_
 refine aZ ?_
 refine bn (zU (k:=fun b2=>?_))
 refine bn (zU (k:=fun b3=>?_))
 refine aT dx ?_
 refine bf (hK1 _ _ ?_);clear hK1
 refine aG fun K2 hK2=>?_
 refine aZ ?_
 refine aT (aD 0) ?_
 refine aT aJ ?_
 refine aT jf ?_
 refine aT aH ?_
 refine av rfl (aD 0) ?_
 refine av rfl aJ ?_
 refine av rfl (aD 2) ?_
 refine av rfl aJ ?_
 refine av rfl bJ ?_
 refine av rfl cO ?_
 refine aT dI ?_
 refine aT aH ?_
 refine av rfl (aD 2) ?_
 refine av rfl aJ ?_
 refine av rfl jf ?_
 refine aT dI ?_
 refine aT aH ?_
 refine av rfl (aD 2) ?_
 refine av rfl aJ ?_
 refine av rfl (aD 2) ?_
 refine av rfl aJ ?_
 refine av rfl bJ ?_
 refine av rfl cO ?_
 refine aT dI ?_
 refine aT aH ?_
 refine av rfl (aD 1) ?_
 refine av rfl aJ ?_
 refine av rfl eu ?_
 refine av rfl aH ?_
 refine av rfl (aD 1) ?_
 refine av rfl aJ ?_
 refine av rfl eu ?_
 refine av rfl eT ?_
 refine aT dI ?_
 refine aT aH ?_
 refine av rfl (aD 3) ?_
 refine av rfl aJ ?_
 refine av rfl eu ?_
 refine av rfl aH ?_
 refine av rfl (aD 3) ?_
 refine av rfl aJ ?_
 refine av rfl eu ?_
 refine av rfl eT ?_
 refine aT dI ?_
 refine aT aH ?_
 refine av rfl (aD 4) ?_
 refine av rfl aJ ?_
 refine av rfl jf ?_
 refine aT dI ?_
 refine aT aH ?_
 refine av rfl (aD 4) ?_
 refine av rfl aJ ?_
 refine av rfl (aD 1) ?_
 refine av rfl aJ ?_
 refine av rfl bJ ?_
 refine av rfl cO ?_
 refine aT dI ?_
 refine aT aH ?_
 refine av rfl (aD 5) ?_
 refine av rfl aJ ?_
 refine av rfl eu ?_
 refine av rfl aH ?_
 refine av rfl (aD 5) ?_
 refine av rfl aJ ?_
 refine av rfl eu ?_
 refine av rfl aH ?_
 refine av rfl (aD 4) ?_
 refine av rfl aJ ?_
 refine av rfl iy ?_
 refine av rfl dI ?_
 refine av rfl eT ?_
 refine aT dI ?_
 refine aT dx ?_
 refine bf (hK2 _ _ ?_);clear hK2
 refine aW (ow rfl rfl (fun w hm=>nX hm rfl))
theorem acY(w:World)(k:fJ):Calls Tryz.prog 148 #[.agg k.cells.toArray] w (cu w (.tuple #[.agg #[.int .i64 k.a,.int .i64 k.kD],.agg #[.int .i64 k.b,.int .i64 k.lN]])):=by
 refine bP (args:=[_]) Tryz.func148 rfl (Mem.start w) rfl ?_
 refine aG fun K1 hK1=>?_
 refine aZ ?_
 refine bn (zU (k:=fun b1=>?_))
 refine bn (gF rfl (k:=fun b2=>?_))
 refine bn (gF rfl (k:=fun b3=>?_))
 refine bf (hK1 _ _ ?_);clear hK1
 refine aG fun K2 hK2=>?_
 refine iD [own b1 183 k.cells,old w] (by repeat (first|exact List.Sublist.refl _|apply List.Sublist.cons_cons|apply List.Sublist.cons)) ?_
 refine ay 0 rfl (aD 0) ?_
 refine ay 1 rfl aJ ?_
 refine ay 2 rfl (aD 1) ?_
 refine ay 3 rfl aJ ?_
 refine ay 4 rfl Yu ?_
 refine ay 5 rfl (aD 2) ?_
 refine ay 6 rfl aJ ?_
 refine ay 7 rfl (aD 3) ?_
 refine ay 8 rfl aJ ?_
 refine ay 9 rfl Yu ?_
 refine eD 10 rfl (ku (k:=⟨fun w hm=>hm.sub (by repeat (first|exact List.Sublist.refl _|apply List.Sublist.cons_cons|apply List.Sublist.cons)),?_⟩))
 refine eD 11 rfl (ku (k:=⟨fun w hm=>hm.sub (by repeat (first|exact List.Sublist.refl _|apply List.Sublist.cons_cons|apply List.Sublist.cons)),?_⟩))
 refine dY (hK2 _ _ ?_);clear hK2
 refine aW (qO (fun w hm=>nX hm rfl))
theorem acX(w:World)(s d:Int)(hs:0≤s∧s≤1000000)(hd:0≤d∧d≤1000000):Calls Tryz.prog 149 #[.agg #[.int .i64 s,.int .i64 d]] w (cu w (.int .i64 (2*s+d))):=by
 refine bP (args:=[_]) Tryz.func149 rfl (Mem.start w) rfl ?_
 refine aG fun K1 hK1=>?_
 refine aZ ?_
 refine bn (zU (k:=fun b1=>?_))
 refine aT dx ?_
 refine bf (hK1 _ _ ?_);clear hK1
 refine aG fun K2 hK2=>?_
 refine aZ ?_
 refine aT (aD 0) ?_
 refine aT aJ ?_
 refine aT sQ ?_
 refine aT (aD 1) ?_
 refine aT aJ ?_
 refine aT dH ?_
 refine aT dx ?_
 refine bf (hK2 _ _ ?_);clear hK2
 refine aW (ow rfl rfl (fun w hm=>nX hm rfl))
def iX:fJ:=⟨0,0,0,0,0,0⟩
theorem ac8:∀(xs:List fJ) (i j:Nat),j<6→(xs.flatMap fJ.cells)[i*6+j]?=(xs[i]?).bind (fun x=>(fJ.cells x)[j]?)
 |[],i,j,_=>by simp
 |x::xs,0,j,hj=>by
  simp only[List.flatMap_cons,Nat.zero_mul,Nat.zero_add]
  rw[List.getElem?_append_left (by show j<6;exact hj)]
  rfl
 |x::xs,i+1,j,hj=>by
  simp only[List.flatMap_cons]
  have h6:(fJ.cells x).length=6:=rfl
  rw[List.getElem?_append_right (by rw[h6,Nat.add_mul];omega),h6]
  rw[show (i+1)*6+j-6=i*6+j by rw[Nat.add_mul];omega]
  rw[ac8 xs i j hj]
  simp
theorem Vh{xs:List fJ}{i j:Nat}{u:Value}(hi:i<xs.length)(hj:(fJ.cells (xs.getD i iX))[j]?=some u):(xs.flatMap fJ.cells)[i*6+j]?=some u:=by
 have hjl:j<6:=by have:=(List.getElem?_eq_some_iff.1 hj).1;simpa [fJ.cells] using this
 rw[ac8 xs i j hjl]
 have:xs[i]?=some (xs.getD i iX):=by simp[hi]
 rw[this]
 exact hj
theorem Vi(xs:List fJ):(xs.flatMap fJ.cells).length=xs.length*6:=by
 induction xs with
 |nil=>simp
 |cons x xs ih=>simp only[List.flatMap_cons,List.length_append,ih,List.length_cons,Nat.add_mul];simp[fJ.cells];omega
theorem ahK{ks:List fJ}{p:fJ→Bool}{i:Nat}(hi:i<ks.length)(h:p (ks.getD i iX)=true):ks.any p=true:=by
 rw[List.any_eq_true]
 exact⟨ks[i],List.getElem_mem hi,by simpa [List.getD_eq_getElem?_getD,hi] using h⟩
theorem ahJ{ks:List fJ}{p:fJ→Bool}{i:Nat}(hi:ks.length≤i)(h:∀j,j<i→p (ks.getD j iX)=false):ks.any p=false:=by
 rw[List.any_eq_false]
 intro x hx
 obtain⟨j,hj,rfl⟩:=List.mem_iff_getElem.1 hx
 have:=h j (by omega)
 simpa [List.getD_eq_getElem?_getD,hj] using this
theorem alL (w : World) (a : Option Addr) (cap : Nat) (ks : List fJ) (x xe y ye : Int) (hs : Sl 0 w.heap.size w a (ks.flatMap fJ.cells)) (hlen : ks.length ≤ 1000000) :
    Calls Tryz.prog 150 #[.slice a ks.length cap, .agg #[.int .i64 x, .int .i64 xe], .agg #[.int .i64 y, .int .i64 ye]] w (cu w (.bool (ks.any (Qd x xe y ye)))) := by
  refine bP (args := [_, _, _]) Tryz.func150 rfl (Mem.start w) rfl ?_
  refine aG fun K1 hK1 => ?_
  refine aZ ?_
  refine bn (zU (k := fun b4 => ?_))
  refine bn (zU (k := fun b5 => ?_))
  refine aT dx ?_
  refine bf (hK1 _ _ ?_); clear hK1
  refine aG fun K2 hK2 => ?_
  refine aG fun K3 hK3 => ?_
  refine aZ ?_
  refine aT aH ?_
  refine aT bJ ?_
  refine aT aH ?_
  refine bf (hK3 _ _ ?_); clear hK3
  refine bF ?_
  refine EA (γ := Int) (env := fun i => [(4, .v (.pointer (some ⟨b4, 0, none⟩))), (5, .v (.pointer (some ⟨b5, 0, none⟩))), (11, .v (.slice a ks.length cap)), (12, .v (.int .i64 (ks.length : Int))), (13, .v (.int .i64 i))]) (mem := fun i => [own b5 209 [.int .i64 y, .int .i64 ye], own b4 209 [.int .i64 x, .int .i64 xe], old w]) (R := fun i => 0 ≤ i ∧ i ≤ ks.length ∧ ∀ j, j < i.toNat → Qd x xe y ye (ks.getD j iX) = false) (μ := fun i => (ks.length - i).toNat) (0) (⟨by omega, by omega, fun j hj => by simp at hj⟩) ⟨rfl, rfl, rfl, rfl, rfl, trivial⟩ (fun _ h => h) ?_
  intro i Lj gu hL1
  obtain ⟨hi0, hi1, hall⟩ := Lj
  refine aG fun K4 hK4 => ?_
  refine aZ ?_
  refine aT cO ?_
  refine bf (hK4 _ _ ?_); clear hK4
  refine aG fun K5 bS => ?_
  refine vU rfl (fun hc1 => ?_) (fun hc1 => ?_)  -- t14
  ·
    refine aX (bS _ _ ?_); clear bS
    refine aG fun K6 bZ => ?_
    refine bF ?_
    refine aG fun K7 dZ => ?_
    refine aZ ?_
    refine aT (Gp 6 (fun _ => hs.addr (by rw [Vi]; omega))) ?_
    refine aT (Yv (l := (ks.getD i.toNat iX).cells) (fun w hm q u hu => by rw [Nat.add_assoc]; exact KZ hs (Vh (by omega) hu) (Nat.le_refl _) (by repeat (first | exact Has.head | apply Has.tail)) w hm)) ?_
    refine bn (gF rfl (k := fun b8 => ?_))
    refine bn (ku (k := ?_))
    refine bf (dZ _ _ ?_); clear dZ
    refine aG fun K8 eZ => ?_
    refine aZ ?_
    refine aT bX ?_
    refine bn (jO (fun w hm => acY w _) ?_)
    refine aT aH ?_
    refine aT eO ?_
    refine aT eO ?_
    refine bn (gF rfl (k := fun b9 => ?_))
    refine bn (gF rfl (k := fun b10 => ?_))
    refine bn (ku (k := ?_))
    refine bn (ku (k := ?_))
    refine bf (eZ _ _ ?_); clear eZ
    refine aG fun K9 dU => ?_
    refine aZ ?_
    refine aT bX ?_
    refine aT bX ?_
    refine aT O7 ?_
    refine aT aH ?_
    refine av rfl bX ?_
    refine av rfl bX ?_
    refine av rfl O7 ?_
    refine aT dI ?_
    refine aT aH ?_
    refine av rfl bX ?_
    refine av rfl bX ?_
    refine av rfl O7 ?_
    refine av rfl aH ?_
    refine av rfl bX ?_
    refine av rfl bX ?_
    refine av rfl O7 ?_
    refine av rfl dI ?_
    refine aT eT ?_
    refine bf (dU _ _ ?_); clear dU
    refine rX rfl (fun hc2 => ?_) (fun hc2 => ?_)  -- t39
    ·
      refine aG fun uN gX => ?_
      refine aZ ?_
      refine aT dx ?_
      refine bf (gX _ _ ?_); clear gX
      refine aW (ow rfl rfl (fun w hm => nX hm (congrArg Value.bool (ahK (by omega) hc2).symm)))
    ·
      refine aX (bZ _ _ ?_); clear bZ
      refine aZ ?_
      refine aT dH ?_
      refine aT aH ?_
      refine bf (hL1 (i + 1) _ _ (⟨by omega, by omega, fun j hj => ?_⟩) (by omega) ⟨rfl, rfl, rfl, rfl, rfl, trivial⟩ (fun w hm => hm.sub (by repeat (first | exact List.Sublist.refl _ | apply List.Sublist.cons_cons | apply List.Sublist.cons))))
      by_cases hji : j < i.toNat
      · exact hall j hji
      · obtain rfl : j = i.toNat := by omega
        exact hc2
  ·
    refine dL (hK2 _ _ ?_); clear hK2
    refine aG fun o7 eH => ?_
    refine aZ ?_
    refine aT dx ?_
    refine bf (eH _ _ ?_); clear eH
    refine aW (ow rfl rfl (fun w hm => nX hm (congrArg Value.bool (ahJ (i := i.toNat) (by omega) hall).symm)))
theorem aiP{k:fJ}{ks:List fJ}(h:¬(ks.length:Int)=0):Ay k ks=(((decide ((ks.length:Int)=1)&&decide (k.point≠ -1))&&decide (k.point=(ks.getD 0 iX).point))&&decide (k.pos≠(ks.getD 0 iX).pos)):=by
 match ks,h with
 |[],h=>simp at h
 |[x],_=>simp[Ay]
 |x::y::r,_=>simp[Ay];omega
theorem ac6 (w : World) (k : fJ) (a : Option Addr) (cap : Nat) (ks : List fJ) (hs : Sl 0 w.heap.size w a (ks.flatMap fJ.cells)) :
    Calls Tryz.prog 151 #[.agg k.cells.toArray, .slice a ks.length cap] w (cu w (.bool (Ay k ks))) := by
  refine bP (args := [_, _]) Tryz.func151 rfl (Mem.start w) rfl ?_
  refine aG fun K1 hK1 => ?_
  refine aZ ?_
  refine bn (zU (k := fun b2 => ?_))
  refine aT dx ?_
  refine bf (hK1 _ _ ?_); clear hK1
  refine aG fun K2 hK2 => ?_
  refine aG fun K3 hK3 => ?_
  refine aZ ?_
  refine aT aH ?_
  refine aT bJ ?_
  refine aT eu ?_
  refine bf (hK3 _ _ ?_); clear hK3
  refine vU rfl (fun hc1 => ?_) (fun hc1 => ?_)  -- t7
  ·
    refine aG fun K4 hK4 => ?_
    refine aZ ?_
    refine aT dx ?_
    refine bf (hK4 _ _ ?_); clear hK4
    refine aW (ow rfl rfl (fun w hm => nX hm (by rw [show ks = [] from List.length_eq_zero_iff.1 (by omega)]; rfl)))
  ·
    refine aX (hK2 _ _ ?_); clear hK2
    refine aG fun K5 bS => ?_
    refine iD [own b2 183 k.cells, old w] (by repeat (first | exact List.Sublist.refl _ | apply List.Sublist.cons_cons | apply List.Sublist.cons)) ?_
    refine ay 0 rfl aH ?_
    refine ay 1 rfl bJ ?_
    refine ay 2 rfl eu ?_
    refine ay 3 rfl aH ?_
    refine gH 4 rfl rfl (aD 4) ?_
    refine gH 5 rfl rfl aJ ?_
    refine gH 6 rfl rfl iy ?_
    refine ay 7 rfl dI ?_
    refine ay 8 rfl aH ?_
    refine gH 9 rfl rfl (aD 4) ?_
    refine gH 10 rfl rfl aJ ?_
    refine gH 11 rfl rfl aH ?_
    refine gH 12 rfl rfl (Gp 6 (fun hg => hs.addr (by rw [Vi]; simp at hg; omega))) ?_
    refine gH 13 rfl rfl (aD 4) ?_
    refine gH 14 rfl rfl (Dp (v := .int .i64 (ks.getD 0 iX).point) (by first | exact .plain rfl | exact .cond rfl id) (by kernel_rfl) (fun hg w hm => KZ (j := 0 * 6 + 4) hs (Vh (j := 4) (by simp at hg; omega) rfl) (Nat.le_refl _) (by repeat (first | exact Has.head | apply Has.tail)) w hm)) ?_
    refine gH 15 rfl rfl eu ?_
    refine ay 16 rfl dI ?_
    refine ay 17 rfl aH ?_
    refine gH 18 rfl rfl (aD 5) ?_
    refine gH 19 rfl rfl aJ ?_
    refine gH 20 rfl rfl aH ?_
    refine gH 21 rfl rfl (Gp 6 (fun hg => hs.addr (by rw [Vi]; simp at hg; omega))) ?_
    refine gH 22 rfl rfl (aD 5) ?_
    refine gH 23 rfl rfl (Dp (v := .int .i64 (ks.getD 0 iX).pos) (by first | exact .plain rfl | exact .cond rfl id) (by kernel_rfl) (fun hg w hm => KZ (j := 0 * 6 + 5) hs (Vh (j := 5) (by simp at hg; omega) rfl) (Nat.le_refl _) (by repeat (first | exact Has.head | apply Has.tail)) w hm)) ?_
    refine gH 24 rfl rfl iy ?_
    refine ay 25 rfl dI ?_
    refine ay 26 rfl dx ?_
    refine dY (bS _ _ ?_); clear bS
    refine aW (ow rfl rfl (fun w hm => nX hm (by rw [aiP hc1])))
end Go.Proofs.YtcalibhfgdncaaaGreatDoor
namespace Go.Proofs.YtcalibhfgdncaaaGreatDoor
open Go.iK Go.RowKit
set_option maxRecDepth 10000
def Gc(done:List fJ)(m:Nat)(rows:List Row):Prop:=
 rows.length=m∧∀(i:Nat) (r:Row),rows[i]?=some r→r.n=(atEnd done i).length∧r.xs=(atEnd done i).flatMap fJ.cells
theorem Gc.get{done:List fJ}{m:Nat}{rows:List Row}(h:Gc done m rows)(e:Int)(h0:0≤e)(h1:e.toNat<m):
  ∃aa ca,rows[e.toNat*1]?=some ⟨aa,(atEnd done e).length,ca,(atEnd done e).flatMap fJ.cells⟩:=by
 rw[Nat.mul_one]
 have hlt:e.toNat<rows.length:=by rw[h.1];exact h1
 have hr:=h.2 e.toNat rows[e.toNat] (by simp[hlt])
 rw[show ((e.toNat:Nat):Int)=e by omega] at hr
 refine⟨rows[e.toNat].a,rows[e.toNat].cap,?_⟩
 rw[List.getElem?_eq_getElem hlt,←hr.1,←hr.2]
theorem ace(done:List fJ)(e:Int):(atEnd done e).length≤done.length:=List.length_filter_le _ _
theorem ahM(done:List fJ)(k:fJ)(e:Int):atEnd (done++[k]) e=atEnd done e++if 2*k.a+k.kD=e∨2*k.b+k.lN=e then [k] else []:=by
 unfold atEnd
 rw[List.filter_append]
 congr 1
 by_cases h1:2*k.a+k.kD=e<;>by_cases h2:2*k.b+k.lN=e<;>simp[h1,h2]
theorem Gc.step{done:List fJ}{m:Nat}{rows:List Row}(h:Gc done m rows)(k:fJ)(ea eb:Int)(ha:2*k.a+k.kD=ea)(hb:2*k.b+k.lN=eb)(hne:ea≠eb)(ha0:0≤ea)(hb0:0≤eb)
  (a1 a2:Option Addr)(c1 c2:Nat):
  Gc (done++[k]) m ((rows.set (ea.toNat*1) ⟨a1,(atEnd done ea).length+1,c1,(atEnd done ea).flatMap fJ.cells++k.cells⟩).set (eb.toNat*1) ⟨a2,(atEnd done eb).length+1,c2,(atEnd done eb).flatMap fJ.cells++k.cells⟩):=by
 rw[Nat.mul_one,Nat.mul_one]
 refine⟨by rw[List.length_set,List.length_set];exact h.1,fun i r hr=>?_⟩
 rw[ahM,ha,hb]
 by_cases hib:i=eb.toNat
 ·have he:eb=(i:Int):=by omega
  rw[List.getElem?_set] at hr
  rw[if_pos hib.symm] at hr
  split at hr
  ·cases hr
   subst he
   simp
  ·cases hr
 ·rw[List.getElem?_set_ne (Ne.symm hib)] at hr
  by_cases hia:i=ea.toNat
  ·have he:ea=(i:Int):=by omega
   rw[List.getElem?_set,if_pos hia.symm] at hr
   split at hr
   ·cases hr
    subst he
    simp
   ·cases hr
  ·rw[List.getElem?_set_ne (Ne.symm hia)] at hr
   have h1:¬ea=(i:Int):=by omega
   have h2:¬eb=(i:Int):=by omega
   simp only[h1,h2,or_self,if_false,List.append_nil]
   exact h.2 i r hr
theorem amv{l:Lay}{xs:List fJ}{j:Nat}(hj:j<xs.length){E:Int}(h:uo l (xs.take j) (xs.drop j)=E):
  (yI l (xs.getD j iX)=false→E=4)∧(yI l (xs.getD j iX)=true→
   ((xs.getD j iX).a=(xs.getD j iX).b∧(xs.getD j iX).kD=(xs.getD j iX).lN→E=1)∧(¬((xs.getD j iX).a=(xs.getD j iX).b∧(xs.getD j iX).kD=(xs.getD j iX).lN)→
   ((atEnd (xs.take j) (2*(xs.getD j iX).a+(xs.getD j iX).kD)).any (Qd (xs.getD j iX).a (xs.getD j iX).kD (xs.getD j iX).b (xs.getD j iX).lN)=true→E=5)∧
   ((atEnd (xs.take j) (2*(xs.getD j iX).a+(xs.getD j iX).kD)).any (Qd (xs.getD j iX).a (xs.getD j iX).kD (xs.getD j iX).b (xs.getD j iX).lN)=false→
   ((!Ay (xs.getD j iX) (atEnd (xs.take j) (2*(xs.getD j iX).a+(xs.getD j iX).kD))|| !Ay (xs.getD j iX) (atEnd (xs.take j) (2*(xs.getD j iX).b+(xs.getD j iX).lN)))=true→E=11)∧
   ((!Ay (xs.getD j iX) (atEnd (xs.take j) (2*(xs.getD j iX).a+(xs.getD j iX).kD))|| !Ay (xs.getD j iX) (atEnd (xs.take j) (2*(xs.getD j iX).b+(xs.getD j iX).lN)))=false→
    uo l (xs.take (j+1)) (xs.drop (j+1))=E∧xs.take (j+1)=xs.take j++[xs.getD j iX])))):=by
 have hd:xs.drop j=xs[j]::xs.drop (j+1):=List.drop_eq_getElem_cons hj
 have hg:xs.getD j iX=xs[j]:=by simp[List.getD_eq_getElem?_getD,hj]
 have ht:xs.take (j+1)=xs.take j++[xs[j]]:=by rw[List.take_succ_eq_append_getElem hj]
 rw[hd,uo] at h
 rw[hg,ht]
 generalize xs[j]=k at*
 refine⟨fun h1=>?_,fun h1=>⟨fun h2=>?_,fun h2=>⟨fun h3=>?_,fun h3=>⟨fun h4=>?_,fun h4=>?_⟩⟩⟩⟩
 ·rw[if_pos h1] at h;exact h.symm
 ·rw[if_neg (by simp[h1]),if_pos h2] at h;exact h.symm
 ·rw[if_neg (by simp[h1]),if_neg h2,if_pos h3] at h;exact h.symm
 ·rw[if_neg (by simp[h1]),if_neg h2,if_neg (by simp[h3]),if_pos (by simpa using h4)] at h;exact h.symm
 ·rw[if_neg (by simp[h1]),if_neg h2,if_neg (by simp[h3]),if_neg (by simp only[Bool.or_eq_false_iff,Bool.not_eq_false'] at h4;simp[h4.1,h4.2])] at h;exact⟨h,rfl⟩
theorem amt{l:Lay}{xs:List fJ}{j:Nat}(hj:xs.length≤j){E:Int}(h:uo l (xs.take j) (xs.drop j)=E):E=0:=by
 rw[←h,List.drop_eq_nil_of_le hj,uo]
theorem PG{rows:List Row}{i:Nat}{r:Row}(h:rows[i]?=some r):(rows.map Row.hdr)[i]?=some (.slice r.a r.n r.cap):=by simp[h,Row.hdr]
theorem amr{l:Lay}{k:fJ}(h:yI l k=true):(0≤k.a∧k.a<l.sections.length∧0≤k.b∧k.b<l.sections.length)∧(0≤k.kD∧k.kD≤1)∧(0≤k.lN∧k.lN≤1):=by
 simp only[yI,Bool.and_eq_true,Bool.or_eq_true,decide_eq_true_eq] at h
 omega
theorem aoz{m:Nat}:Gc [] m (List.replicate m (⟨none,0,0,[]⟩:Row)):=by
 refine⟨by simp,fun i r hr=>?_⟩
 rw[List.getElem?_replicate] at hr
 split at hr
 ·cases hr;exact⟨rfl,rfl⟩
 ·cases hr
theorem ah7 (w : World) (v : yt) (l : Lay) (hl : F9 0 w.heap.size w v l) (hb : l.sections.length ≤ 96 ∧ l.links.length ≤ 192) : Calls Tryz.prog 98 #[.agg (v.cells l).toArray] w (cu w (.int .i64 (uo l [] l.links))) := by
  obtain ⟨hb1, hb2⟩ := hb
  refine bP (args := [_]) Tryz.func98 rfl (Mem.start w) rfl ?_
  refine aG fun K1 hK1 => ?_
  refine aZ ?_
  refine bn (zU (k := fun b1 => ?_))
  refine aT dx ?_
  refine bf (hK1 _ _ ?_); clear hK1
  refine aG fun K2 hK2 => ?_
  refine aZ ?_
  refine aT (aD 2) ?_
  refine aT aJ ?_
  refine aT bJ ?_
  refine aT sQ ?_
  refine bn (apA (m := 2 * l.sections.length) (e := 24) (z := .slice none 0 0) 24 (k := fun a ha => ?_) (hb := by omega) (hm' := by omega))
  refine rQ (H' := [row 24 1 a (2 * l.sections.length) (2 * l.sections.length) ((List.replicate (2 * l.sections.length) (⟨none, 0, 0, []⟩ : Row)).map Row.hdr), pq (fun _ => True) 183 6 (List.replicate (2 * l.sections.length) (⟨none, 0, 0, []⟩ : Row)), own b1 26 (v.cells l), old w]) (fun w hm => by rw [List.map_replicate]; exact (aoA (e := 183) (sz := 6) (m := 2 * l.sections.length) hm).perm (.swap _ _ _)) ?_
  refine aT dx ?_
  refine bf (hK2 _ _ ?_); clear hK2
  refine aG fun K3 hK3 => ?_
  refine aG fun K4 hK4 => ?_
  refine aZ ?_
  refine aT (aD 3) ?_
  refine aT aJ ?_
  refine aT bJ ?_
  refine aT aH ?_
  refine bf (hK4 _ _ ?_); clear hK4
  refine bF ?_
  refine EA (γ := Int × List Row) (env := fun g => [(1, .v (.pointer (some ⟨b1, 0, none⟩))), (3, .v (.slice a (2 * l.sections.length) (2 * l.sections.length))), (16, .v (.slice v.a4 l.links.length v.c4)), (17, .v (.int .i64 (l.links.length : Int))), (18, .v (.int .i64 g.1))]) (mem := fun g => [row 24 1 a (2 * l.sections.length) (2 * l.sections.length) (g.2.map Row.hdr), pq (fun _ => True) 183 6 g.2, own b1 26 (v.cells l), old w]) (R := fun g => 0 ≤ g.1 ∧ g.1 ≤ l.links.length ∧ Gc (l.links.take g.1.toNat) (2 * l.sections.length) g.2 ∧ uo l (l.links.take g.1.toNat) (l.links.drop g.1.toNat) = uo l [] l.links) (μ := fun g => (l.links.length - g.1).toNat) ((0, List.replicate (2 * l.sections.length) ⟨none, 0, 0, []⟩)) (⟨by show (0 : Int) ≤ 0; omega, by show (0 : Int) ≤ _; omega, aoz, rfl⟩) ⟨rfl, rfl, rfl, rfl, rfl, trivial⟩ (fun _ h => h) ?_
  intro g Lj gu hL1
  obtain ⟨j, rows⟩ := g
  dsimp only at Lj ⊢
  obtain ⟨hj0, hj1, hrows, hj2⟩ := Lj
  refine aG fun K5 bS => ?_
  refine aZ ?_
  refine aT cO ?_
  refine bf (bS _ _ ?_); clear bS
  refine aG fun K6 bZ => ?_
  refine vU rfl (fun hc1 => ?_) (fun hc1 => ?_)  -- t19
  ·
    refine aX (bZ _ _ ?_); clear bZ
    refine aG fun K7 dZ => ?_
    refine bF ?_
    refine aG fun K8 eZ => ?_
    refine aZ ?_
    have hst := amv (l := l) (j := j.toNat) (by omega) hj2
    have hdl : (l.links.take j.toNat).length ≤ 192 := by rw [List.length_take]; omega
    generalize hdone : l.links.take j.toNat = done at *
    obtain ⟨k, hk⟩ : ∃ k, k = l.links.getD j.toNat iX := ⟨_, rfl⟩
    rw [← hk] at hst
    refine aT (Gp 6 (fun _ => hl.li.addr (by rw [Vi]; omega))) ?_
    refine aT (Yv (l := k.cells) (fun w hm q u hu => by subst hk; rw [Nat.add_assoc]; exact KZ hl.li (Vh (by omega) hu) (Nat.le_refl _) (by repeat (first | exact Has.head | apply Has.tail)) w hm)) ?_
    refine bn (gF rfl (k := fun b5 => ?_))
    refine bn (ku (k := ?_))
    refine bf (eZ _ _ ?_); clear eZ
    refine aG fun K9 dU => ?_
    refine aG fun uN gX => ?_
    refine aZ ?_
    refine aT bX ?_
    refine aT bX ?_
    refine bn (jO (fun w hm => ams w v l k) ?_)
    refine aT fF ?_
    refine bf (gX _ _ ?_); clear gX
    refine rX rfl (fun hc2 => ?_) (fun hc2 => ?_)  -- t25
    ·
      refine aG fun o7 eH => ?_
      refine aZ ?_
      refine aT dx ?_
      refine bf (eH _ _ ?_); clear eH
      refine aW (ow rfl rfl (fun w hm => nX hm (by rw [hst.1 (by simpa using hc2)])))
    ·
      have hlk : yI l k = true := by simpa using hc2
      replace hst := hst.2 hlk
      obtain ⟨⟨ha0, ha1, aqk, aql⟩, hae, hbe⟩ := amr hlk
      obtain ⟨ea, Zd⟩ : ∃ e, e = 2 * k.a + k.kD := ⟨_, rfl⟩
      obtain ⟨eb, Zg⟩ : ∃ e, e = 2 * k.b + k.lN := ⟨_, rfl⟩
      have hea : 0 ≤ ea ∧ ea < 2 * l.sections.length := by omega
      have heb : 0 ≤ eb ∧ eb < 2 * l.sections.length := by omega
      obtain ⟨aA, cA, Jo⟩ := hrows.get ea hea.1 (by omega)
      obtain ⟨aB, cB, UO⟩ := hrows.get eb heb.1 (by omega)
      have hlA := ace done ea
      have hlB := ace done eb
      rw [← Zd, ← Zg] at hst
      refine aX (dU _ _ ?_); clear dU
      refine aG fun CX lZ => ?_
      refine aZ ?_
      refine aT bX ?_
      refine bn (jO (fun w hm => acY w k) ?_)
      refine aT aH ?_
      refine aT eO ?_
      refine aT eO ?_
      refine bn (gF rfl (k := fun b6 => ?_))
      refine bn (gF rfl (k := fun b7 => ?_))
      refine bn (ku (k := ?_))
      refine bn (ku (k := ?_))
      refine bf (lZ _ _ ?_); clear lZ
      refine aG fun BA kS => ?_
      refine iD [own b7 209 [.int .i64 k.b, .int .i64 k.lN], own b6 209 [.int .i64 k.a, .int .i64 k.kD], own b5 183 k.cells, row 24 1 a (2 * l.sections.length) (2 * l.sections.length) (rows.map Row.hdr), pq (fun _ => True) 183 6 rows, own b1 26 (v.cells l), old w] (by repeat (first | exact List.Sublist.refl _ | apply List.Sublist.cons_cons | apply List.Sublist.cons)) ?_
      refine ay 0 rfl aH ?_
      refine ay 1 rfl bX ?_
      refine ay 4 rfl aH ?_
      refine ay 5 rfl bX ?_
      refine eD 2 rfl (jO (fun w hm => acX w k.a k.kD (by omega) (by omega)) ⟨fun w hm => hm.sub (by repeat (first | exact List.Sublist.refl _ | apply List.Sublist.cons_cons | apply List.Sublist.cons)), ?_⟩)
      rw [← Zd]
      refine ay 3 rfl (Gp (ad := a) 1 (fun _ => by rw [ha]; rfl)) ?_
      refine eD 6 rfl (jO (fun w hm => acX w k.b k.lN (by omega) (by omega)) ⟨fun w hm => hm.sub (by repeat (first | exact List.Sublist.refl _ | apply List.Sublist.cons_cons | apply List.Sublist.cons)), ?_⟩)
      rw [← Zg]
      refine ay 7 rfl (Gp (ad := a) 1 (fun _ => by rw [ha]; rfl)) ?_
      refine ay 8 rfl dx ?_
      refine ay 9 rfl dx ?_
      refine dY (kS _ _ ?_); clear kS
      refine aG fun Ej ng => ?_
      refine bF ?_
      refine aG fun CY l7 => ?_
      refine aZ ?_
      refine aT bX ?_
      refine aT bX ?_
      refine aT O7 ?_
      refine aT dx ?_
      refine bf (l7 _ _ ?_); clear l7
      refine vU rfl (fun hc3 => ?_) (fun hc3 => ?_)  -- t39
      ·
        refine aG fun F6 oL => ?_
        refine aZ ?_
        refine aT dx ?_
        refine bf (oL _ _ ?_); clear oL
        refine aW (ow rfl rfl (fun w hm => nX hm (by rw [hst.1 hc3])))
      ·
        replace hst := hst.2 hc3
        have hne : ea ≠ eb := by omega
        refine aG fun T9 yD => ?_
        refine iD [own b7 209 [.int .i64 k.b, .int .i64 k.lN], own b6 209 [.int .i64 k.a, .int .i64 k.kD], own b5 183 k.cells, row 24 1 a (2 * l.sections.length) (2 * l.sections.length) (rows.map Row.hdr), pq (fun _ => True) 183 6 rows, own b1 26 (v.cells l), old w] (by repeat (first | exact List.Sublist.refl _ | apply List.Sublist.cons_cons | apply List.Sublist.cons)) ?_
        refine ay 0 rfl aH ?_
        refine ay 1 rfl bY ?_
        refine ay 2 rfl (Lf (v := .slice aA (atEnd done ea).length cA) (OJ (PG Jo) (by repeat (first | exact Has.head | apply Has.tail)))) ?_
        refine ay 3 rfl bX ?_
        refine ay 4 rfl bX ?_
        refine eD 5 rfl (jO (fun w hm => alL w aA cA (atEnd done ea) _ _ _ _ (abo Jo trivial hm (by repeat (first | exact Has.head | apply Has.tail))) (by omega)) ⟨fun w hm => hm.sub (by repeat (first | exact List.Sublist.refl _ | apply List.Sublist.cons_cons | apply List.Sublist.cons)), ?_⟩)
        refine ay 6 rfl dx ?_
        refine dY (yD _ _ ?_); clear yD
        refine rX rfl (fun hc4 => ?_) (fun hc4 => ?_)  -- t43
        ·
          refine aG fun F7 oM => ?_
          refine aZ ?_
          refine aT dx ?_
          refine bf (oM _ _ ?_); clear oM
          refine aW (ow rfl rfl (fun w hm => nX hm (by rw [hst.1 hc4])))
        ·
          replace hst := hst.2 hc4
          refine OQ (γ := Bool) (env := fun q => [(5, .v (.pointer (some ⟨b5, 0, none⟩))), (8, .v (.pointer (some ⟨sb a, so a + ea.toNat * 1, none⟩))), (9, .v (.pointer (some ⟨sb a, so a + eb.toNat * 1, none⟩))), (50, .v (.bool q)), (1, .v (.pointer (some ⟨b1, 0, none⟩))), (3, .v (.slice a (2 * l.sections.length) (2 * l.sections.length))), (16, .v (.slice v.a4 l.links.length v.c4)), (17, .v (.int .i64 (l.links.length : Int))), (18, .v (.int .i64 j))]) (mem := fun q => [own b7 209 [.int .i64 k.b, .int .i64 k.lN], own b6 209 [.int .i64 k.a, .int .i64 k.kD], own b5 183 k.cells, row 24 1 a (2 * l.sections.length) (2 * l.sections.length) (rows.map Row.hdr), pq (fun _ => True) 183 6 rows, own b1 26 (v.cells l), old w]) (R := fun q => q = (!Ay k (atEnd done ea) || !Ay k (atEnd done eb))) ?_ ?_
          · intro aqi adh
            refine aG fun IW qx => ?_
            refine iD [own b7 209 [.int .i64 k.b, .int .i64 k.lN], own b6 209 [.int .i64 k.a, .int .i64 k.kD], own b5 183 k.cells, row 24 1 a (2 * l.sections.length) (2 * l.sections.length) (rows.map Row.hdr), pq (fun _ => True) 183 6 rows, own b1 26 (v.cells l), old w] (by repeat (first | exact List.Sublist.refl _ | apply List.Sublist.cons_cons | apply List.Sublist.cons)) ?_
            refine ay 0 rfl bX ?_
            refine ay 1 rfl aH ?_
            refine ay 2 rfl bY ?_
            refine ay 3 rfl (Lf (v := .slice aA (atEnd done ea).length cA) (OJ (PG Jo) (by repeat (first | exact Has.head | apply Has.tail)))) ?_
            refine eD 4 rfl (jO (fun w hm => ac6 w k aA cA (atEnd done ea) (abo Jo trivial hm (by repeat (first | exact Has.head | apply Has.tail)))) ⟨fun w hm => hm.sub (by repeat (first | exact List.Sublist.refl _ | apply List.Sublist.cons_cons | apply List.Sublist.cons)), ?_⟩)
            refine ay 5 rfl fF ?_
            refine ay 6 rfl dx ?_
            refine dY (qx _ _ ?_); clear qx
            refine rX rfl (fun jA => ?_) (fun jA => ?_)  -- t50
            ·
              refine aX (adh (_) _ _ (by rw [jA]; rfl) ⟨rfl, rfl, rfl, rfl, rfl, rfl, rfl, rfl, rfl, trivial⟩ (fun _ h => h))
            ·
              refine iD [own b7 209 [.int .i64 k.b, .int .i64 k.lN], own b6 209 [.int .i64 k.a, .int .i64 k.kD], own b5 183 k.cells, row 24 1 a (2 * l.sections.length) (2 * l.sections.length) (rows.map Row.hdr), pq (fun _ => True) 183 6 rows, own b1 26 (v.cells l), old w] (by repeat (first | exact List.Sublist.refl _ | apply List.Sublist.cons_cons | apply List.Sublist.cons)) ?_
              refine ay 0 rfl bX ?_
              refine ay 1 rfl aH ?_
              refine ay 2 rfl bY ?_
              refine ay 3 rfl (Lf (v := .slice aB (atEnd done eb).length cB) (OJ (PG UO) (by repeat (first | exact Has.head | apply Has.tail)))) ?_
              refine eD 4 rfl (jO (fun w hm => ac6 w k aB cB (atEnd done eb) (abo UO trivial hm (by repeat (first | exact Has.head | apply Has.tail)))) ⟨fun w hm => hm.sub (by repeat (first | exact List.Sublist.refl _ | apply List.Sublist.cons_cons | apply List.Sublist.cons)), ?_⟩)
              refine ay 5 rfl fF ?_
              refine ay 6 rfl dx ?_
              refine dY (adh (_) _ _ (by rw [jA]; rfl) ⟨rfl, rfl, rfl, rfl, rfl, rfl, rfl, rfl, rfl, trivial⟩ (fun _ h => h))
          · intro q hR
            refine rX rfl (fun hc6 => ?_) (fun hc6 => ?_)  -- t50
            ·
              refine aG fun K21 Gr => ?_
              refine aZ ?_
              refine aT dx ?_
              refine bf (Gr _ _ ?_); clear Gr
              refine aW (ow rfl rfl (fun w hm => nX hm (by rw [hst.1 (by rw [← hR, hc6])])))
            ·
              have ht := hst.2 (by rw [← hR, hc6])
              refine aX (ng _ _ ?_); clear ng
              refine aG fun Oe uS => ?_
              refine iV [own b7 209 [.int .i64 k.b, .int .i64 k.lN], own b6 209 [.int .i64 k.a, .int .i64 k.kD], own b5 183 k.cells, row 24 1 a (2 * l.sections.length) (2 * l.sections.length) (rows.map Row.hdr), own b1 26 (v.cells l), old w] 8 ?_
              refine aF 0 rfl aH ?_
              refine aF 1 rfl aH ?_
              refine aF 2 rfl bY ?_
              refine aF 3 rfl (Lf (v := .slice aA (atEnd done ea).length cA) (OJ (PG Jo) (by repeat (first | exact Has.head | apply Has.tail)))) ?_
              refine aF 4 rfl bX ?_
              refine dA 5 rfl (agE 183 k.cells (k := fun Yd => ⟨fun w hm => hm.sub (by repeat (first | exact List.Sublist.refl _ | apply List.Sublist.cons_cons | apply List.Sublist.cons)), ?_⟩))
              refine rF (fun w hm => af5 Jo trivial (hm.front (c := pq (fun _ => True) 183 6 rows) (by repeat (first | exact jv.head | apply jv.tail)))) ?_
              refine dA 6 rfl (agD 48 (k := fun a' cap' => ⟨fun w hm => hm.sub (by repeat (first | exact List.Sublist.refl _ | apply List.Sublist.cons_cons | apply List.Sublist.cons)), ?_⟩))
              refine aF 7 rfl bY ?_
              refine iU rfl (agJ (j := ea.toNat * 1) (hu := by repeat (first | exact dQ.head | apply dQ.tail)) (hj := by rw [List.length_map, hrows.1]; omega) (h1 := rfl) (hx := .plain rfl) (hy := .plain rfl) (k := ?_))
              refine iR (uS _ _ ?_); clear uS
              refine bQ (H' := [row 24 1 a (2 * l.sections.length) (2 * l.sections.length) ((rows.set (ea.toNat * 1) (⟨a', (atEnd done ea).length + 1, cap', (atEnd done ea).flatMap fJ.cells ++ k.cells⟩ : Row)).map Row.hdr), pq (fun _ => True) 183 6 (rows.set (ea.toNat * 1) (⟨a', (atEnd done ea).length + 1, cap', (atEnd done ea).flatMap fJ.cells ++ k.cells⟩ : Row)), own b7 209 [.int .i64 k.b, .int .i64 k.lN], own b6 209 [.int .i64 k.a, .int .i64 k.kD], own b5 183 k.cells, own b1 26 (v.cells l), old w]) (fun w hm => by rw [List.map_set]; exact ((af4 (r := ⟨a', (atEnd done ea).length + 1, cap', (atEnd done ea).flatMap fJ.cells ++ k.cells⟩) (by rw [hrows.1]; omega) hm).front (c := row 24 1 a (2 * l.sections.length) (2 * l.sections.length) ((rows.map Row.hdr).set (ea.toNat * 1) (Row.hdr ⟨a', (atEnd done ea).length + 1, cap', (atEnd done ea).flatMap fJ.cells ++ k.cells⟩))) (by repeat (first | exact jv.head | apply jv.tail))).sub (by repeat (first | exact List.Sublist.refl _ | apply List.Sublist.cons_cons | apply List.Sublist.cons))) ?_
              have adE : (rows.set (ea.toNat * 1) ⟨a', (atEnd done ea).length + 1, cap', (atEnd done ea).flatMap fJ.cells ++ k.cells⟩)[eb.toNat * 1]? = some ⟨aB, (atEnd done eb).length, cB, (atEnd done eb).flatMap fJ.cells⟩ := by rw [List.getElem?_set_ne (by omega)]; exact UO
              have hlen1 : (rows.set (ea.toNat * 1) ⟨a', (atEnd done ea).length + 1, cap', (atEnd done ea).flatMap fJ.cells ++ k.cells⟩).length = 2 * l.sections.length := by rw [List.length_set]; exact hrows.1
              clear Jo UO
              generalize akV : rows.set (ea.toNat * 1) ⟨a', (atEnd done ea).length + 1, cap', (atEnd done ea).flatMap fJ.cells ++ k.cells⟩ = SC at *
              refine iV [row 24 1 a (2 * l.sections.length) (2 * l.sections.length) (SC.map Row.hdr), own b7 209 [.int .i64 k.b, .int .i64 k.lN], own b6 209 [.int .i64 k.a, .int .i64 k.kD], own b5 183 k.cells, own b1 26 (v.cells l), old w] 8 ?_
              refine aF 0 rfl aH ?_
              refine aF 1 rfl aH ?_
              refine aF 2 rfl bY ?_
              refine aF 3 rfl (Lf (v := .slice aB (atEnd done eb).length cB) (OJ (PG adE) (by repeat (first | exact Has.head | apply Has.tail)))) ?_
              refine aF 4 rfl bX ?_
              refine dA 5 rfl (agE 183 k.cells (k := fun b76 => ⟨fun w hm => hm.sub (by repeat (first | exact List.Sublist.refl _ | apply List.Sublist.cons_cons | apply List.Sublist.cons)), ?_⟩))
              refine rF (fun w hm => af5 adE trivial (hm.front (c := pq (fun _ => True) 183 6 SC) (by repeat (first | exact jv.head | apply jv.tail)))) ?_
              refine dA 6 rfl (agD 48 (k := fun a2 cap2 => ⟨fun w hm => hm.sub (by repeat (first | exact List.Sublist.refl _ | apply List.Sublist.cons_cons | apply List.Sublist.cons)), ?_⟩))
              refine aF 7 rfl bY ?_
              refine iU rfl (agJ (j := eb.toNat * 1) (hu := by repeat (first | exact dQ.head | apply dQ.tail)) (hj := by rw [List.length_map, hlen1]; omega) (h1 := rfl) (hx := .plain rfl) (hy := .plain rfl) (k := ?_))
              refine iR (dZ _ _ ?_); clear dZ
              refine bQ (H' := [row 24 1 a (2 * l.sections.length) (2 * l.sections.length) ((SC.set (eb.toNat * 1) (⟨a2, (atEnd done eb).length + 1, cap2, (atEnd done eb).flatMap fJ.cells ++ k.cells⟩ : Row)).map Row.hdr), pq (fun _ => True) 183 6 (SC.set (eb.toNat * 1) (⟨a2, (atEnd done eb).length + 1, cap2, (atEnd done eb).flatMap fJ.cells ++ k.cells⟩ : Row)), own b1 26 (v.cells l), old w]) (fun w hm => by rw [List.map_set]; exact ((af4 (r := ⟨a2, (atEnd done eb).length + 1, cap2, (atEnd done eb).flatMap fJ.cells ++ k.cells⟩) (by rw [hlen1]; omega) hm).front (c := row 24 1 a (2 * l.sections.length) (2 * l.sections.length) ((SC.map Row.hdr).set (eb.toNat * 1) (Row.hdr ⟨a2, (atEnd done eb).length + 1, cap2, (atEnd done eb).flatMap fJ.cells ++ k.cells⟩))) (by repeat (first | exact jv.head | apply jv.tail))).sub (by repeat (first | exact List.Sublist.refl _ | apply List.Sublist.cons_cons | apply List.Sublist.cons))) ?_
              subst akV
              refine aZ ?_
              refine aT dH ?_
              refine aT aH ?_
              refine bf (hL1 ((j + 1, (rows.set (ea.toNat * 1) (⟨a', (atEnd done ea).length + 1, cap', (atEnd done ea).flatMap fJ.cells ++ k.cells⟩ : Row)).set (eb.toNat * 1) (⟨a2, (atEnd done eb).length + 1, cap2, (atEnd done eb).flatMap fJ.cells ++ k.cells⟩ : Row))) _ _ (⟨by show (0 : Int) ≤ j + 1; omega, by show j + 1 ≤ _; omega, by show Gc (l.links.take (j + 1).toNat) _ _; rw [show (j + 1).toNat = j.toNat + 1 by omega, ht.2]; exact hrows.step k ea eb Zd.symm Zg.symm hne hea.1 heb.1 _ _ _ _, by show uo l (l.links.take (j + 1).toNat) (l.links.drop (j + 1).toNat) = _; rw [show (j + 1).toNat = j.toNat + 1 by omega]; exact ht.1⟩) (by show (_ - (j + 1)).toNat < _; omega) ⟨rfl, rfl, rfl, rfl, rfl, trivial⟩ (fun w hm => hm.sub (by repeat (first | exact List.Sublist.refl _ | apply List.Sublist.cons_cons | apply List.Sublist.cons))))
  ·
    refine dL (hK3 _ _ ?_); clear hK3
    refine aG fun K23 Gs => ?_
    refine aZ ?_
    refine aT dx ?_
    refine bf (Gs _ _ ?_); clear Gs
    refine aW (ow rfl rfl (fun w hm => nX hm (by rw [amt (by omega) hj2])))
end Go.Proofs.YtcalibhfgdncaaaGreatDoor
namespace Go.Proofs.YtcalibhfgdncaaaGreatDoor
open Go.iK Go.RowKit
set_option maxRecDepth 10000
def lQ:List ByteArray→List ByteArray→Int
 |_,[]=>0
 |seen,s::r=>if oz s seen≠0 then oz s seen else lQ (seen++[s]) r
def oI(rO:Nat):List ByteArray→List lW→Int
 |_,[]=>0
 |seen,s::r=>if oz s.name seen≠0 then oz s.name seen else if Bl rO s=false then 4 else oI rO (seen++[s.name]) r
def yC(l:Lay):Bool:=decide (24<l.nG.length∨48<l.points.length∨96<l.sections.length∨192<l.links.length)
def ko(l:Lay):Int:=
 if yC l=true then 7 else if l.sections.length=0 then 1 else
 if lQ [] l.nG≠0 then lQ [] l.nG else if lQ [] l.points≠0 then lQ [] l.points else
 if oI l.nG.length [] l.sections≠0 then oI l.nG.length [] l.sections else uo l [] l.links
theorem amS{names:List ByteArray}{j:Nat}(hj:j<names.length)(h:lQ (names.take j) (names.drop j)=lQ [] names):
  (oz (names.getD j ByteArray.empty) (names.take j)≠0→lQ [] names=oz (names.getD j ByteArray.empty) (names.take j))∧
  (oz (names.getD j ByteArray.empty) (names.take j)=0→lQ (names.take (j+1)) (names.drop (j+1))=lQ [] names∧Kw (names.getD j ByteArray.empty) (names.take j)=names.take (j+1)):=by
 have hd:names.drop j=names[j]::names.drop (j+1):=List.drop_eq_getElem_cons hj
 have hg:names.getD j ByteArray.empty=names[j]:=by simp[List.getD_eq_getElem?_getD,hj]
 have ht:names.take (j+1)=names.take j++[names[j]]:=by rw[List.take_succ_eq_append_getElem hj]
 rw[hd,lQ] at h
 rw[hg]
 constructor
 ·intro hn;rw[if_pos hn] at h;exact h.symm
 ·intro hn
  rw[if_neg (by simp[hn])] at h
  rw[ht]
  exact⟨h,se2 hn⟩
theorem amP{names:List ByteArray}{j:Nat}(hj:names.length≤j)(h:lQ (names.take j) (names.drop j)=lQ [] names):lQ [] names=0:=by
 rw[←h,List.drop_eq_nil_of_le hj,lQ]
def tq(l:Lay)(i:Int):List ByteArray:=if i=0 then l.nG else l.points
def Ol(v:yt)(i:Int):Option Addr:=if i=0 then v.a1 else v.a2
def Yj(v:yt)(i:Int):Nat:=if i=0 then v.c1 else v.c2
theorem apJ{names:List ByteArray}{j:Nat}(hj:j<names.length):(strCells names)[j]?=some (.string (names.getD j ByteArray.empty)):=by
 simp[strCells,hj]
theorem flat_get{α:Type}{enc:α→List Value}{sz:Nat}(he:∀x,(enc x).length=sz):∀(xs:List α) (i j:Nat),j<sz→(xs.flatMap enc)[i*sz+j]?=(xs[i]?).bind (fun x=>(enc x)[j]?)
 |[],i,j,_=>by simp
 |x::xs,0,j,hj=>by
  simp only[List.flatMap_cons,Nat.zero_mul,Nat.zero_add]
  rw[List.getElem?_append_left (by rw[he];exact hj)]
  rfl
 |x::xs,i+1,j,hj=>by
  simp only[List.flatMap_cons]
  rw[List.getElem?_append_right (by rw[he,Nat.add_mul];omega),he]
  rw[show (i+1)*sz+j-sz=i*sz+j by rw[Nat.add_mul];omega]
  rw[flat_get he xs i j hj]
  simp
theorem aiS{α:Type}{enc:α→List Value}{sz:Nat}(he:∀x,(enc x).length=sz)(xs:List α):(xs.flatMap enc).length=xs.length*sz:=by
 induction xs with
 |nil=>simp
 |cons x xs ih=>simp only[List.flatMap_cons,List.length_append,he,ih,List.length_cons,Nat.add_mul];omega
def CB:lW:=⟨ByteArray.empty,0,0,0,0⟩
theorem ao6{xs:List lW}{i j:Nat}{u:Value}(hi:i<xs.length)(hj:(lW.cells (xs.getD i CB))[j]?=some u):(xs.flatMap lW.cells)[i*5+j]?=some u:=by
 have hjl:j<5:=by have:=(List.getElem?_eq_some_iff.1 hj).1;simpa [lW.cells] using this
 rw[flat_get (enc:=lW.cells) (sz:=5) (fun _=>rfl) xs i j hjl]
 have:xs[i]?=some (xs.getD i CB):=by simp[hi]
 rw[this]
 exact hj
theorem ao8{rO:Nat}{xs:List lW}{j:Nat}(hj:j<xs.length)(h:oI rO ((xs.take j).map lW.name) (xs.drop j)=oI rO [] xs):
  (oz (xs.getD j CB).name ((xs.take j).map lW.name)≠0→oI rO [] xs=oz (xs.getD j CB).name ((xs.take j).map lW.name))∧
  (oz (xs.getD j CB).name ((xs.take j).map lW.name)=0→Kw (xs.getD j CB).name ((xs.take j).map lW.name)=(xs.take (j+1)).map lW.name∧
   (Bl rO (xs.getD j CB)=false→oI rO [] xs=4)∧(Bl rO (xs.getD j CB)=true→oI rO ((xs.take (j+1)).map lW.name) (xs.drop (j+1))=oI rO [] xs)):=by
 have hd:xs.drop j=xs[j]::xs.drop (j+1):=List.drop_eq_getElem_cons hj
 have hg:xs.getD j CB=xs[j]:=by simp[List.getD_eq_getElem?_getD,hj]
 have ht:(xs.take (j+1)).map lW.name=(xs.take j).map lW.name++[xs[j].name]:=by rw[List.take_succ_eq_append_getElem hj,List.map_append];rfl
 rw[hd,oI] at h
 rw[hg]
 constructor
 ·intro hn;rw[if_pos hn] at h;exact h.symm
 ·intro hn
  rw[if_neg (fun h=>h hn)] at h
  rw[ht]
  refine⟨se2 hn,fun hb=>?_,fun hb=>?_⟩
  ·rw[if_pos hb] at h;exact h.symm
  ·rw[if_neg (by simp[hb])] at h;exact h
theorem ao7{rO:Nat}{xs:List lW}{j:Nat}(hj:xs.length≤j)(h:oI rO ((xs.take j).map lW.name) (xs.drop j)=oI rO [] xs):oI rO [] xs=0:=by
 rw[←h,List.drop_eq_nil_of_le hj,oI]
theorem amW{v:yt}{l:Lay}{i:Int}(h0:0≤i)(h:i<2):([.slice v.a1 l.nG.length v.c1,.slice v.a2 l.points.length v.c2]:List Value)[i.toNat]?=some (.slice (Ol v i) (tq l i).length (Yj v i)):=by
 have:i=0∨i=1:=by omega
 rcases this with rfl|rfl<;>rfl
theorem amQ{l:Lay}{i:Int}(h0:0≤i)(h2:i<2)(hst:1≤i→lQ [] l.nG=0)(hn:lQ [] (tq l i)=0):
  0≤i+1∧i+1≤2∧(1≤i+1→lQ [] l.nG=0)∧(2≤i+1→lQ [] l.points=0):=by
 have:i=0∨i=1:=by omega
 rcases this with rfl|rfl
 ·exact⟨by omega,by omega,fun _=>hn,by omega⟩
 ·exact⟨by omega,by omega,fun _=>hst (by omega),fun _=>hn⟩
theorem amR{l:Lay}{i e:Int}(h0:0≤i)(h2:i<2)(hf:yC l=false)(hs:¬l.sections.length=0)(hst:1≤i→lQ [] l.nG=0)(he:lQ [] (tq l i)=e)(hne:e≠0):ko l=e:=by
 have:i=0∨i=1:=by omega
 rcases this with rfl|rfl
 ·have he':lQ [] l.nG=e:=he
  rw[ko,if_neg (by simp[hf]),if_neg hs,if_pos (by rw[he'];exact hne),he']
 ·have he':lQ [] l.points=e:=he
  rw[ko,if_neg (by simp[hf]),if_neg hs,if_neg (by simp[hst (by omega)]),if_pos (by rw[he'];exact hne),he']
theorem agm{l:Lay}{e:Int}(hf:yC l=false)(hs:¬l.sections.length=0)(hst:lQ [] l.nG=0)(hpt:lQ [] l.points=0)(he:oI l.nG.length [] l.sections=e)(hne:e≠0):ko l=e:=by
 rw[ko,if_neg (by simp[hf]),if_neg hs,if_neg (by simp[hst]),if_neg (by simp[hpt]),if_pos (by rw[he];exact hne),he]
theorem amu{l:Lay}(hf:yC l=false)(hs:¬l.sections.length=0)(hst:lQ [] l.nG=0)(hpt:lQ [] l.points=0)(he:oI l.nG.length [] l.sections=0):ko l=uo l [] l.links:=by
 rw[ko,if_neg (by simp[hf]),if_neg hs,if_neg (by simp[hst]),if_neg (by simp[hpt]),if_neg (by simp[he])]
theorem aif (w : World) (v : yt) (l : Lay) (hl : F9 0 w.heap.size w v l)
    (hck : l.sections.length ≤ 96 ∧ l.links.length ≤ 192 → ∀ w' : World, F9 0 w'.heap.size w' v l → Calls Tryz.prog 98 #[.agg (v.cells l).toArray] w' (cu w' (.int .i64 (uo l [] l.links)))) : Calls Tryz.prog 44 #[.agg (v.cells l).toArray] w (cu w (.int .i64 (ko l))) := by
  refine bP (args := [_]) Tryz.func44 rfl (Mem.start w) rfl ?_
  refine aG fun K1 hK1 => ?_
  refine aZ ?_
  refine bn (zU (k := fun b1 => ?_))
  refine aT dx ?_
  refine bf (hK1 _ _ ?_); clear hK1
  refine aG fun K2 hK2 => ?_
  refine bF ?_
  refine OQ (γ := Bool) (env := fun q => [(1, .v (.pointer (some ⟨b1, 0, none⟩))), (13, .v (.bool q))]) (mem := fun q => [own b1 26 (v.cells l), old w]) (R := fun q => q = yC l) ?_ ?_
  · intro Og hJ3
    refine aG fun K4 hK4 => ?_
    refine aZ ?_
    refine aT (aD 0) ?_
    refine aT aJ ?_
    refine aT bJ ?_
    refine aT iw ?_
    refine aT dx ?_
    refine bf (hK4 _ _ ?_); clear hK4
    refine vU rfl (fun hc1 => ?_) (fun hc1 => ?_)  -- t13
    ·
      refine aX (hJ3 (_) _ _ (by simp only [yC]; congr 1; simp only [eq_iff_iff]; omega) ⟨rfl, rfl, trivial⟩ (fun _ h => h))
    ·
      refine aG fun K5 bS => ?_
      refine aZ ?_
      refine aT (aD 1) ?_
      refine aT aJ ?_
      refine aT bJ ?_
      refine aT iw ?_
      refine aT dx ?_
      refine bf (bS _ _ ?_); clear bS
      refine vU rfl (fun hc2 => ?_) (fun hc2 => ?_)  -- t13
      ·
        refine aX (hJ3 (_) _ _ (by simp only [yC]; congr 1; simp only [eq_iff_iff]; omega) ⟨rfl, rfl, trivial⟩ (fun _ h => h))
      ·
        refine aG fun K6 bZ => ?_
        refine aZ ?_
        refine aT (aD 2) ?_
        refine aT aJ ?_
        refine aT bJ ?_
        refine aT iw ?_
        refine aT dx ?_
        refine bf (bZ _ _ ?_); clear bZ
        refine vU rfl (fun hc3 => ?_) (fun hc3 => ?_)  -- t13
        ·
          refine aX (hJ3 (_) _ _ (by simp only [yC]; congr 1; simp only [eq_iff_iff]; omega) ⟨rfl, rfl, trivial⟩ (fun _ h => h))
        ·
          refine aZ ?_
          refine aT (aD 3) ?_
          refine aT aJ ?_
          refine aT bJ ?_
          refine aT iw ?_
          refine aT dx ?_
          refine bf (hJ3 (_) _ _ (by simp only [yC]; congr 1; simp only [eq_iff_iff]; omega) ⟨rfl, rfl, trivial⟩ (fun _ h => h))
  · intro q hR
    refine rX rfl (fun hc4 => ?_) (fun hc4 => ?_)  -- t13
    ·
      refine aG fun K7 dZ => ?_
      refine aZ ?_
      refine aT dx ?_
      refine bf (dZ _ _ ?_); clear dZ
      refine aW (ow rfl rfl (fun w hm => nX hm (by rw [ko, if_pos (by rw [← hR, hc4])])))
    ·
      have hfull : yC l = false := by rw [← hR, hc4]
      have hb : l.nG.length ≤ 24 ∧ l.points.length ≤ 48 ∧ l.sections.length ≤ 96 ∧ l.links.length ≤ 192 := by simp only [yC, decide_eq_false_iff_not] at hfull; omega
      obtain ⟨hb1, hb2, hb3, hb4⟩ := hb
      refine aG fun K8 eZ => ?_
      refine aZ ?_
      refine aT (aD 2) ?_
      refine aT aJ ?_
      refine aT bJ ?_
      refine aT eu ?_
      refine aT dx ?_
      refine bf (eZ _ _ ?_); clear eZ
      refine vU rfl (fun jA => ?_) (fun jA => ?_)  -- t30
      ·
        refine aG fun K9 dU => ?_
        refine aZ ?_
        refine aT dx ?_
        refine bf (dU _ _ ?_); clear dU
        refine aW (ow rfl rfl (fun w hm => nX hm (by rw [ko, if_neg (by simp [hfull]), if_pos (by omega)])))
      ·
        refine aX (hK2 _ _ ?_); clear hK2
        refine aG fun uN gX => ?_
        refine aG fun o7 eH => ?_
        refine aZ ?_
        refine aT (aD 0) ?_
        refine aT aJ ?_
        refine aT (aD 1) ?_
        refine aT aJ ?_
        refine aT Yu ?_
        refine aT aH ?_
        refine bf (eH _ _ ?_); clear eH
        refine bF ?_
        refine EA (γ := Int) (env := fun i => [(1, .v (.pointer (some ⟨b1, 0, none⟩))), (39, .v (.agg #[.slice v.a1 l.nG.length v.c1, .slice v.a2 l.points.length v.c2])), (40, .v (.int .i64 i))]) (mem := fun i => [own b1 26 (v.cells l), old w]) (R := fun i => 0 ≤ i ∧ i ≤ 2 ∧ (1 ≤ i → lQ [] l.nG = 0) ∧ (2 ≤ i → lQ [] l.points = 0)) (μ := fun i => (2 - i).toNat) (0) (⟨by omega, by omega, by omega, by omega⟩) ⟨rfl, rfl, rfl, trivial⟩ (fun _ h => h) ?_
        intro i Lj gu hL1
        obtain ⟨hi0, hi2, PO, Zm⟩ := Lj
        refine aG fun CX lZ => ?_
        refine aZ ?_
        refine aT cO ?_
        refine bf (lZ _ _ ?_); clear lZ
        refine aG fun BA kS => ?_
        refine vU rfl (fun hc6 => ?_) (fun hc6 => ?_)  -- t41
        ·
          refine aX (kS _ _ ?_); clear kS
          refine aG fun Ej ng => ?_
          refine bF ?_
          refine aG fun CY l7 => ?_
          refine aZ ?_
          refine aT (aiD (v := .slice (Ol v i) (tq l i).length (Yj v i)) 2 (fun _ => by omega) (fun _ => amW hi0 hc6)) ?_
          refine aT dx ?_
          refine bf (l7 _ _ ?_); clear l7
          refine aG fun F6 oL => ?_
          refine aZ ?_
          refine bn (agI (k := fun b5 => ?_))
          refine aT dx ?_
          refine bf (oL _ _ ?_); clear oL
          refine aG fun T9 yD => ?_
          refine aZ ?_
          refine aT aH ?_
          have hnl : (tq l i).length ≤ 48 := by unfold tq; split <;> omega
          have hns : Sl 0 w.heap.size w (Ol v i) (strCells (tq l i)) := by unfold Ol tq; split; exact hl.st; exact hl.pt
          refine aT bJ ?_
          refine aT aH ?_
          refine bf (yD _ _ ?_); clear yD
          refine bF ?_
          refine EA (γ := Int) (env := fun j => [(1, .v (.pointer (some ⟨b1, 0, none⟩))), (39, .v (.agg #[.slice v.a1 l.nG.length v.c1, .slice v.a2 l.points.length v.c2])), (40, .v (.int .i64 i)), (5, .v (.map (some b5))), (44, .v (.slice (Ol v i) (tq l i).length (Yj v i))), (45, .v (.int .i64 ((tq l i).length : Int))), (46, .v (.int .i64 j))]) (mem := fun j => [yF b5 ((tq l i).take j.toNat), own b1 26 (v.cells l), old w]) (R := fun j => 0 ≤ j ∧ j ≤ (tq l i).length ∧ lQ ((tq l i).take j.toNat) ((tq l i).drop j.toNat) = lQ [] (tq l i)) (μ := fun j => ((tq l i).length - j).toNat) (0) (⟨by omega, by omega, rfl⟩) ⟨rfl, rfl, rfl, rfl, rfl, rfl, rfl, trivial⟩ (fun _ h => h) ?_
          intro j hR2 BD hL2
          obtain ⟨hj0, hj1, hj2⟩ := hR2
          refine aG fun F7 oM => ?_
          refine aZ ?_
          refine aT cO ?_
          refine bf (oM _ _ ?_); clear oM
          refine aG fun KJ rZ => ?_
          refine vU rfl (fun jR => ?_) (fun jR => ?_)  -- t47
          ·
            refine aX (rZ _ _ ?_); clear rZ
            refine aG fun IW qx => ?_
            refine bF ?_
            refine aG fun K21 Gr => ?_
            refine aZ ?_
            refine aT (Gp 1 (fun _ => hns.addr (by simp [strCells]; omega))) ?_
            refine aT (Lf (KZ (j := j.toNat * 1) hns (by rw [Nat.mul_one]; exact apJ (by omega)) (Nat.le_refl _) (by repeat (first | exact Has.head | apply Has.tail)))) ?_
            refine aT dx ?_
            refine bf (Gr _ _ ?_); clear Gr
            refine aG fun Oe uS => ?_
            refine aZ ?_
            refine aT aH ?_
            refine aT aH ?_
            have hstep := amS (names := tq l i) (j := j.toNat) (by omega) hj2
            refine bn (agF (hc := fun w hm hφ hfp => acw w _ b5 _ hφ hfp) (k := fun _ _ => ?_))
            refine aT dx ?_
            refine bf (uS _ _ ?_); clear uS
            refine aG fun K23 Gs => ?_
            refine aZ ?_
            refine aT aH ?_
            refine aT iy ?_
            refine bf (Gs _ _ ?_); clear Gs
            refine vU rfl (fun hc8 => ?_) (fun hc8 => ?_)  -- t54
            ·
              refine aG fun K24 Gt => ?_
              refine aZ ?_
              refine aT aH ?_
              refine aT dx ?_
              refine bf (Gt _ _ ?_); clear Gt
              refine aW (ow rfl rfl (fun w hm => nX hm (by rw [amR hi0 hc6 hfull (by omega) PO (hstep.1 hc8) hc8])))
            ·
              refine aX (qx _ _ ?_); clear qx
              refine aZ ?_
              refine aT dH ?_
              refine aT aH ?_
              have hz : oz ((tq l i).getD j.toNat ByteArray.empty) ((tq l i).take j.toNat) = 0 := Decidable.of_not_not hc8
              refine bf (hL2 (j + 1) _ _ (⟨by omega, by omega, by rw [show (j + 1).toNat = j.toNat + 1 by omega]; exact (hstep.2 hz).1⟩) (by omega) ⟨rfl, rfl, rfl, rfl, rfl, rfl, rfl, trivial⟩ (fun w hm => by rw [show (j + 1).toNat = j.toNat + 1 by omega, ← (hstep.2 hz).2]; exact hm))
          ·
            refine dL (ng _ _ ?_); clear ng
            refine aZ ?_
            refine aT dH ?_
            refine aT aH ?_
            refine bf (hL1 (i + 1) _ _ (amQ hi0 hc6 PO (amP (by omega) hj2)) (by omega) ⟨rfl, rfl, rfl, trivial⟩ (fun w hm => hm.sub (by repeat (first | exact List.Sublist.refl _ | apply List.Sublist.cons_cons | apply List.Sublist.cons))))
        ·
          refine dL (gX _ _ ?_); clear gX
          refine aG fun K25 Gu => ?_
          refine aZ ?_
          refine bn (agI (k := fun b9 => ?_))
          refine aT dx ?_
          refine bf (Gu _ _ ?_); clear Gu
          refine aG fun XO BO => ?_
          refine aG fun K27 Pk => ?_
          refine aZ ?_
          refine aT (aD 2) ?_
          refine aT aJ ?_
          refine aT bJ ?_
          refine aT aH ?_
          refine bf (Pk _ _ ?_); clear Pk
          refine bF ?_
          refine EA (γ := Int) (env := fun j => [(1, .v (.pointer (some ⟨b1, 0, none⟩))), (9, .v (.map (some b9))), (60, .v (.slice v.a3 l.sections.length v.c3)), (61, .v (.int .i64 (l.sections.length : Int))), (62, .v (.int .i64 j))]) (mem := fun j => [yF b9 ((l.sections.take j.toNat).map lW.name), own b1 26 (v.cells l), old w]) (R := fun j => 0 ≤ j ∧ j ≤ l.sections.length ∧ oI l.nG.length ((l.sections.take j.toNat).map lW.name) (l.sections.drop j.toNat) = oI l.nG.length [] l.sections) (μ := fun j => (l.sections.length - j).toNat) (0) (⟨by omega, by omega, rfl⟩) ⟨rfl, rfl, rfl, rfl, rfl, trivial⟩ (fun _ h => h) ?_
          intro j hR3 Oh hL3
          obtain ⟨hj0, hj1, hj2⟩ := hR3
          refine aG fun K28 Gv => ?_
          refine aZ ?_
          refine aT cO ?_
          refine bf (Gv _ _ ?_); clear Gv
          refine aG fun XP BP => ?_
          refine vU rfl (fun uV => ?_) (fun uV => ?_)  -- t63
          ·
            refine aX (BP _ _ ?_); clear BP
            refine aG fun K30 Gw => ?_
            refine bF ?_
            refine aG fun K31 Gx => ?_
            refine aZ ?_
            refine aT (Gp 5 (fun _ => hl.se.addr (by rw [aiS (sz := 5) (fun _ => rfl)]; omega))) ?_
            refine aT (Yv (l := (l.sections.getD j.toNat CB).cells) (fun w hm q u hu => by rw [Nat.add_assoc]; exact KZ hl.se (ao6 (by omega) hu) (Nat.le_refl _) (by repeat (first | exact Has.head | apply Has.tail)) w hm)) ?_
            refine bn (gF rfl (k := fun b11 => ?_))
            refine bn (ku (k := ?_))
            refine bf (Gx _ _ ?_); clear Gx
            refine aG fun K32 Pm => ?_
            refine aG fun K33 Gy => ?_
            refine aZ ?_
            refine aT (aD 0) ?_
            refine aT aJ ?_
            refine aT aH ?_
            have hstep := ao8 (rO := l.nG.length) (xs := l.sections) (j := j.toNat) (by omega) hj2
            refine bn (agF (hc := fun w hm hφ hfp => acw w _ b9 _ hφ hfp) (k := fun _ _ => ?_))
            refine aT dx ?_
            refine bf (Gy _ _ ?_); clear Gy
            refine aG fun K34 Gz => ?_
            refine aZ ?_
            refine aT aH ?_
            refine aT iy ?_
            refine bf (Gz _ _ ?_); clear Gz
            refine vU rfl (fun uh => ?_) (fun uh => ?_)  -- t71
            ·
              refine aG fun K35 GA => ?_
              refine aZ ?_
              refine aT aH ?_
              refine aT dx ?_
              refine bf (GA _ _ ?_); clear GA
              refine aW (ow rfl rfl (fun w hm => nX hm (by rw [agm hfull (by omega) (PO (by omega)) (Zm (by omega)) (hstep.1 uh) uh])))
            ·
              have hz : oz (l.sections.getD j.toNat CB).name ((l.sections.take j.toNat).map lW.name) = 0 := Decidable.of_not_not uh
              refine aX (Pm _ _ ?_); clear Pm
              refine aG fun K36 adi => ?_
              refine aZ ?_
              refine aT bX ?_
              refine aT bX ?_
              refine bn (jO (fun w hm => ao9 w v l _) ?_)
              refine aT fF ?_
              refine bf (adi _ _ ?_); clear adi
              refine rX rfl (fun BR => ?_) (fun BR => ?_)  -- t76
              ·
                refine aG fun K37 GD => ?_
                refine aZ ?_
                refine aT dx ?_
                refine bf (GD _ _ ?_); clear GD
                refine aW (ow rfl rfl (fun w hm => nX hm (by rw [agm hfull (by omega) (PO (by omega)) (Zm (by omega)) ((hstep.2 hz).2.1 (by simpa using BR)) (by decide)])))
              ·
                refine aX (Gw _ _ ?_); clear Gw
                refine aZ ?_
                refine aT dH ?_
                refine aT aH ?_
                refine bf (hL3 (j + 1) _ _ (⟨by omega, by omega, by rw [show (j + 1).toNat = j.toNat + 1 by omega]; exact (hstep.2 hz).2.2 (by simpa using BR)⟩) (by omega) ⟨rfl, rfl, rfl, rfl, rfl, trivial⟩ (fun w hm => by rw [show (j + 1).toNat = j.toNat + 1 by omega, ← (hstep.2 hz).1]; exact hm.sub (by repeat (first | exact List.Sublist.refl _ | apply List.Sublist.cons_cons | apply List.Sublist.cons))))
          ·
            refine dL (BO _ _ ?_); clear BO
            refine aG fun K38 adj => ?_
            refine aZ ?_
            refine aT bX ?_
            refine bn (jO (fun w hm => hck (by omega) w (F9.below hl (hm.below (by repeat (first | exact Has.head | apply Has.tail))))) ?_)
            refine aT dx ?_
            refine bf (adj _ _ ?_); clear adj
            refine aW (ow rfl rfl (fun w hm => nX hm (by rw [amu hfull (by omega) (PO (by omega)) (Zm (by omega)) (ao7 (by omega) hj2)])))
theorem aii(w:World)(v:yt)(l:Lay)(hl:F9 0 w.heap.size w v l):Calls Tryz.prog 44 #[.agg (v.cells l).toArray] w (cu w (.int .i64 (ko l))):=
 aif w v l hl fun hb w' hl'=>ah7 w' v l hl' hb
end Go.Proofs.YtcalibhfgdncaaaGreatDoor
namespace Go.Proofs.YtcalibhfgdncaaaGreatDoor
open Go.Dc Go.RowKit
theorem Wu{α:Type}[ak α]{S:bB}{w:World}{r:SR (ak.R α)}{xs:List α}(f:α→List Value)(hf:∀(q:ak.R α) x,ak.enc q x=f x)(hS:∀k,S k→k<w.heap.size)(h:qM S w r xs):
  Go.iK.Sl 0 w.heap.size w r.a (xs.flatMap f):=by
 have he:∀(l:List α) (i:Nat),l.flatMap f=gP r.es l i:=by
  intro l
  induction l with
  |nil=>intro i;rfl
  |cons x l ih=>intro i;rw[List.flatMap_cons,gP,hf,ih (i+1)]
 intro j v hv
 rw[he xs 0] at hv
 obtain⟨i,j',x,rfl,hj,hx,hv⟩:=Uq r.es hv
 obtain⟨h1,h2,h3,_⟩:=h.2.2 i x hx
 exact⟨h1,Nat.zero_le _,hS _ h2,h3 j' v hv⟩
def xS(s:Section):lW:=⟨s.Name.ba,s.Length,s.Limit,s.lJ,s.pQ⟩
def Ml(k:Link):fJ:=⟨k.A,k.lg,k.B,k.lu,k.Point,k.Pos⟩
def iY(l:Layout):Lay:=⟨l.aM.map Str.ba,l.aV.map Str.ba,l.Sections.map xS,l.Links.map Ml⟩
def LY(l:Layout):Option Int:=some (ko (iY l))
theorem aaj(S:bB)(w:World)(l0:Layout)(aC:ak.R Layout)(y:Int)(hM:LY l0=some y)(hS:∀k,S k→k<w.heap.size)(fG:ak.ok S w aC l0):
  Calls Tryz.prog 44 #[.agg #[.slice aC.1.a l0.aM.length aC.1.cap,.slice aC.2.1.a l0.aV.length aC.2.1.cap,.slice aC.2.2.1.a l0.Sections.length aC.2.2.1.cap,.slice aC.2.2.2.a l0.Links.length aC.2.2.2.cap]] w (cu w (.int .i64 y)):=by
 obtain rfl:=some_inj hM
 obtain⟨h1,h2,h3,h4⟩:=fG
 have hstr:∀l:List Str,strCells (l.map Str.ba)=l.flatMap (fun s=>[.string s.ba]):=by
  intro l
  unfold strCells
  induction l with
  |nil=>rfl
  |cons x l ih=>simp only[List.map_cons,List.flatMap_cons,ih];rfl
 have:=aii w ⟨aC.1.a,aC.1.cap,aC.2.1.a,aC.2.1.cap,aC.2.2.1.a,aC.2.2.1.cap,aC.2.2.2.a,aC.2.2.2.cap⟩ (iY l0)
  ⟨by show Go.iK.Sl _ _ _ aC.1.a (strCells (l0.aM.map Str.ba));rw[hstr];exact Wu _ (fun _ _=>rfl) hS h1,
   by show Go.iK.Sl _ _ _ aC.2.1.a (strCells (l0.aV.map Str.ba));rw[hstr];exact Wu _ (fun _ _=>rfl) hS h2,
   by show Go.iK.Sl _ _ _ aC.2.2.1.a ((l0.Sections.map xS).flatMap lW.cells);rw[List.flatMap_map];exact Wu _ (fun _ _=>rfl) hS h3,
   by show Go.iK.Sl _ _ _ aC.2.2.2.a ((l0.Links.map Ml).flatMap fJ.cells);rw[List.flatMap_map];exact Wu _ (fun _ _=>rfl) hS h4⟩
 have hc:(yt.cells ⟨aC.1.a,aC.1.cap,aC.2.1.a,aC.2.1.cap,aC.2.2.1.a,aC.2.2.1.cap,aC.2.2.2.a,aC.2.2.2.cap⟩ (iY l0))=[.slice aC.1.a l0.aM.length aC.1.cap,.slice aC.2.1.a l0.aV.length aC.2.1.cap,.slice aC.2.2.1.a l0.Sections.length aC.2.2.1.cap,.slice aC.2.2.2.a l0.Links.length aC.2.2.2.cap]:=by
  simp[yt.cells,iY]
 rw[hc] at this
 exact this
end Go.Proofs.YtcalibhfgdncaaaGreatDoor
