/- Several parts of the engine, one behind the other. -/
import Derived.Test.YtcalibhfgdncaaaGreatEm
import Derived.Test.YtcalibhfgdncaaaGreatProg
import Derived.Test.YtcalibhfgdncaaaGreatTypes
set_option linter.all false
namespace Go.Proofs.YtcalibhfgdncaaaGreat
open Go.iD Go.RowKit
set_option maxRecDepth 10000
def tQ(c:Int):Bool:=(decide (65≤c)&&decide (c≤90))||(decide (97≤c)&&decide (c≤122))
def BM(c:Int):Bool:=decide (48≤c)&&decide (c≤57)
theorem aer(w:World)(c:Int):Calls Tryz.prog 101 #[.int .u8 c] w (dw w (.bool (tQ c))):=by
 refine bW (args:=[_]) Tryz.func101 rfl (Mem.start w) rfl ?_
 refine aF fun K1 hK1=>?_
 refine aT ?_
 refine aZ dL ?_
 refine aU (hK1 _ _ ?_);clear hK1
 refine aF fun K2 hK2=>?_
 refine aT ?_
 refine aZ aH ?_
 refine aZ ig ?_
 refine aZ aH ?_
 refine au rfl aH ?_
 refine au rfl kD ?_
 refine aZ dB ?_
 refine aZ aH ?_
 refine au rfl aH ?_
 refine au rfl ig ?_
 refine au rfl aH ?_
 refine au rfl aH ?_
 refine au rfl kD ?_
 refine au rfl dB ?_
 refine aZ bP ?_
 refine aZ dL ?_
 refine aU (hK2 _ _ ?_);clear hK2
 refine aP (pY rfl rfl (fun w hm=>qj hm rfl))
theorem ak1(w:World)(c:Int):Calls Tryz.prog 102 #[.int .u8 c] w (dw w (.bool (BM c))):=by
 refine bW (args:=[_]) Tryz.func102 rfl (Mem.start w) rfl ?_
 refine aF fun K1 hK1=>?_
 refine aT ?_
 refine aZ dL ?_
 refine aU (hK1 _ _ ?_);clear hK1
 refine aF fun K2 hK2=>?_
 refine aT ?_
 refine aZ aH ?_
 refine aZ ig ?_
 refine aZ aH ?_
 refine au rfl aH ?_
 refine au rfl kD ?_
 refine aZ dB ?_
 refine aZ dL ?_
 refine aU (hK2 _ _ ?_);clear hK2
 refine aP (pY rfl rfl (fun w hm=>qj hm rfl))
def uq(c:Int):Bool:=tQ c||BM c||decide (c=95)
def qd(s:ByteArray):Bool:=decide (1≤s.size)&&decide (s.size≤12)&&tQ (bt s 0)&&(List.range s.size).all fun i=>uq (bt s i)
theorem ahC{c:Int}(h:((!tQ c&& !BM c)&&decide (c≠95))=false):uq c=true:=by
 unfold uq
 cases hl:tQ c<;>cases hd:BM c<;>simp[hl,hd] at h ⊢
 exact h
theorem alT{s:ByteArray}(h:((decide ((s.size:Int)<1)||decide (12<(s.size:Int)))|| !tQ (bt s 0))=true):qd s=false:=by
 unfold qd
 cases hl:tQ (bt s 0)
 ·simp
 ·simp[hl] at h
  rcases h with h|h
  ·have:¬(1≤s.size):=by omega
   simp[this]
  ·have:¬(s.size≤12):=by omega
   simp[this]
theorem alU{s:ByteArray}{i:Int}(h0:0≤i)(h1:i<s.size)(h:((!tQ (bt s i.toNat)&& !BM (bt s i.toNat))&&decide (bt s i.toNat≠95))=true):qd s=false:=by
 have hc:uq (bt s i.toNat)=false:=by
  unfold uq
  cases hl:tQ (bt s i.toNat)<;>cases hd:BM (bt s i.toNat)<;>simp_all
 have:((List.range s.size).all fun i=>uq (bt s i))=false:=by
  rw[List.all_eq_false]
  exact⟨i.toNat,by rw[List.mem_range];omega,by simp[hc]⟩
 unfold qd
 rw[this]
 simp
theorem alW{s:ByteArray}{i:Int}(h:((¬(s.size:Int)<1)∧¬12<(s.size:Int))∧tQ (bt s 0)=true)(hi:i=s.size)(hall:∀j,j<i.toNat→uq (bt s j)=true):qd s=true:=by
 unfold qd
 have h1:1≤s.size:=by omega
 have h2:s.size≤12:=by omega
 simp only[h1,h2,decide_true,h.2,Bool.true_and,List.all_eq_true,List.mem_range]
 intro j hj
 exact hall j (by omega)
theorem alV (w : World) (s : ByteArray) : Calls Tryz.prog 65 #[.string s] w (dw w (.bool (qd s))) := by
  refine bW (args := [_]) Tryz.func65 rfl (Mem.start w) rfl ?_
  refine aF fun K1 hK1 => ?_
  refine aT ?_
  refine aZ dL ?_
  refine aU (hK1 _ _ ?_); clear hK1
  refine aF fun K2 hK2 => ?_
  refine aF fun K3 hK3 => ?_
  refine aT ?_
  refine aZ aH ?_
  refine aZ OL ?_
  refine aZ bK ?_
  refine aZ aH ?_
  refine au rfl aH ?_
  refine au rfl OL ?_
  refine au rfl eO ?_
  refine aZ bP ?_
  refine aZ aH ?_
  refine au rfl aH ?_
  refine au rfl TA ?_
  refine UU rfl (fun _ w _ => aer w _) ?_
  refine au rfl dN ?_
  refine aZ bP ?_
  refine aU (hK3 _ _ ?_); clear hK3
  refine vR rfl (fun hc1 => ?_) (fun hc1 => ?_)  -- t17
  ·
    refine aF fun K4 hK4 => ?_
    refine aT ?_
    refine aZ dL ?_
    refine aU (hK4 _ _ ?_); clear hK4
    refine aP (pY rfl rfl (fun w hm => qj hm (congrArg Value.bool (alT hc1).symm)))
  ·
    refine aM (hK2 _ _ ?_); clear hK2
    refine aF fun K5 bT => ?_
    refine aF fun K6 bU => ?_
    refine aT ?_
    refine aZ aH ?_
    refine aZ OL ?_
    refine aZ aH ?_
    refine aU (bU _ _ ?_); clear bU
    refine aV ?_  -- block 0
    simp only [Bool.or_eq_false_iff, decide_eq_false_iff_not, Bool.not_eq_false'] at hc1
    refine GN (γ := Int) (env := fun i => [(0, .v (.string s)), (19, .v (.int .i64 (s.size : Int))), (20, .v (.int .i64 i))]) (mem := fun _ => [old w])
      (R := fun i => 0 ≤ i ∧ i ≤ s.size ∧ ∀ j, j < i.toNat → uq (bt s j) = true) (μ := fun i => (s.size - i).toNat) 0 ⟨by omega, by omega, fun j hj => by simp at hj⟩ ⟨rfl, rfl, rfl, trivial⟩ (fun _ h => h) ?_
    · intro i hR KL hL
      obtain ⟨hi0, hi1, hall⟩ := hR
      refine aF fun K7 eU => ?_
      refine aT ?_
      refine aZ bK ?_
      refine aU (eU _ _ ?_); clear eU
      refine aF fun K8 fu => ?_
      refine xG rfl (fun hc => ?_) (fun hc => ?_)  -- t21
      ·
        refine aM (fu _ _ ?_); clear fu
        refine aF fun K9 dY => ?_
        refine aV ?_  -- block 1
        refine aF fun sK gy => ?_
        refine aT ?_
        refine aZ aH ?_
        refine aZ dL ?_
        refine aU (gy _ _ ?_); clear gy
        refine aF fun pR eH => ?_
        refine aT ?_
        refine aZ aH ?_
        refine aZ aH ?_
        refine aZ TA ?_
        refine aY (nW (fun w _ => aer w _) ?_)
        refine aZ dN ?_
        refine aZ aH ?_
        refine au rfl aH ?_
        refine au rfl aH ?_
        refine au rfl TA ?_
        refine UU rfl (fun _ w _ => ak1 w _) ?_
        refine au rfl dN ?_
        refine aZ dB ?_
        refine aZ aH ?_
        refine au rfl aH ?_
        refine au rfl aH ?_
        refine au rfl TA ?_
        refine au rfl gH ?_
        refine aZ dB ?_
        refine aU (eH _ _ ?_); clear eH
        refine vR rfl (fun hc2 => ?_) (fun hc2 => ?_)  -- t40
        ·
          refine aF fun vN iI => ?_
          refine aT ?_
          refine aZ dL ?_
          refine aU (iI _ _ ?_); clear iI
          refine aP (pY rfl rfl (fun w hm => qj hm (congrArg Value.bool (alU hi0 (by assumption) hc2).symm)))
        ·
          refine aM (dY _ _ ?_); clear dY
          refine aT ?_
          refine aZ dh ?_
          refine aZ aH ?_
          refine aU (hL (i + 1) _ _ ⟨by omega, by omega, fun j hj => ?_⟩ (by omega) ⟨rfl, rfl, rfl, trivial⟩ (fun _ h => h))
          by_cases hji : j < i.toNat
          · exact hall j hji
          · obtain rfl : j = i.toNat := by omega
            exact ahC hc2
      ·
        -- exit 0
        refine bX (bT _ _ ?_); clear bT
        refine aF fun rU fT => ?_
        refine aT ?_
        refine aZ dL ?_
        refine aU (fT _ _ ?_); clear fT
        refine aP (pY rfl rfl (fun w hm => qj hm (congrArg Value.bool (alW hc1 (by omega) hall).symm)))
end Go.Proofs.YtcalibhfgdncaaaGreat
namespace Go.Proofs.YtcalibhfgdncaaaGreat
open Go.iD Go.RowKit
set_option maxRecDepth 10000
structure nM where
 name:ByteArray
 len:Int
 lim:Int
 Yj:Int
 aa9:Int
def nM.cells(s:nM):List Value:=[.string s.name,.int .i64 s.len,.int .i64 s.lim,.int .i64 s.Yj,.int .i64 s.aa9]
structure fU where
 a:Int
 lW:Int
 b:Int
 mY:Int
 point:Int
 pos:Int
def fU.cells(k:fU):List Value:=[.int .i64 k.a,.int .i64 k.lW,.int .i64 k.b,.int .i64 k.mY,.int .i64 k.point,.int .i64 k.pos]
structure Lay where
 ow:List ByteArray
 points:List ByteArray
 sections:List nM
 links:List fU
def strCells(l:List ByteArray):List Value:=l.map .string
structure zD where
 a1:Option Addr
 c1:Nat
 a2:Option Addr
 c2:Nat
 a3:Option Addr
 c3:Nat
 a4:Option Addr
 c4:Nat
def zD.cells(v:zD)(l:Lay):List Value:=[.slice v.a1 l.ow.length v.c1,.slice v.a2 l.points.length v.c2,.slice v.a3 l.sections.length v.c3,.slice v.a4 l.links.length v.c4]
structure GA(lo hi:Nat)(w:World)(v:zD)(l:Lay):Prop where
 st:Sl lo hi w v.a1 (strCells l.ow)
 pt:Sl lo hi w v.a2 (strCells l.points)
 se:Sl lo hi w v.a3 (l.sections.flatMap nM.cells)
 li:Sl lo hi w v.a4 (l.links.flatMap fU.cells)
def qg(s:ByteArray)(seen:List ByteArray):Int:=if qd s=false then 3 else if s∈seen then 5 else 0
def Kq(s:ByteArray)(seen:List ByteArray):List ByteArray:=if qg s seen=0 then seen++[s] else seen
def zh(wo:Nat)(s:nM):Bool:=((((((decide (1≤s.len)&&decide (s.len≤400))&&decide (1000≤s.lim))&&decide (s.lim≤100000))&&decide (-40≤s.Yj))&&decide (s.Yj≤40))&&decide (-1≤s.aa9))&&decide (s.aa9<(wo:Int))
theorem anl(w:World)(v:zD)(l:Lay)(s:nM):Calls Tryz.prog 99 #[.agg (v.cells l).toArray,.agg s.cells.toArray] w (dw w (.bool (zh l.ow.length s))):=by
 refine bW (args:=[_,_]) Tryz.func99 rfl (Mem.start w) rfl ?_
 refine aF fun K1 hK1=>?_
 refine aT ?_
 refine aY (zi (k:=fun b2=>?_))
 refine aY (zi (k:=fun b3=>?_))
 refine aZ dL ?_
 refine aU (hK1 _ _ ?_);clear hK1
 refine aF fun K2 hK2=>?_
 refine aT ?_
 refine aZ (ay 1) ?_
 refine aZ aD ?_
 refine aZ ig ?_
 refine aZ aH ?_
 refine au rfl (ay 1) ?_
 refine au rfl aD ?_
 refine au rfl kD ?_
 refine aZ dB ?_
 refine aZ aH ?_
 refine au rfl (ay 2) ?_
 refine au rfl aD ?_
 refine au rfl ig ?_
 refine aZ dB ?_
 refine aZ aH ?_
 refine au rfl (ay 2) ?_
 refine au rfl aD ?_
 refine au rfl kD ?_
 refine aZ dB ?_
 refine aZ aH ?_
 refine au rfl (ay 3) ?_
 refine au rfl aD ?_
 refine au rfl ig ?_
 refine aZ dB ?_
 refine aZ aH ?_
 refine au rfl (ay 3) ?_
 refine au rfl aD ?_
 refine au rfl kD ?_
 refine aZ dB ?_
 refine aZ aH ?_
 refine au rfl (ay 4) ?_
 refine au rfl aD ?_
 refine au rfl ig ?_
 refine aZ dB ?_
 refine aZ aH ?_
 refine au rfl (ay 4) ?_
 refine au rfl aD ?_
 refine au rfl (ay 0) ?_
 refine au rfl aD ?_
 refine au rfl bf ?_
 refine au rfl bK ?_
 refine aZ dB ?_
 refine aZ dL ?_
 refine aU (hK2 _ _ ?_);clear hK2
 refine aP (pY rfl rfl (fun w hm=>qj hm rfl))
theorem ne1{s:ByteArray}{S:List ByteArray}(h:(!qd s)=true):qg s S=3:=by simp at h;simp[qg,h]
theorem ne2{s:ByteArray}{S:List ByteArray}(h:(!qd s)=false)(h2:s∈S):qg s S=5:=by simp at h;simp[qg,h,h2]
theorem ne3{s:ByteArray}{S:List ByteArray}(h:(!qd s)=false)(h2:¬s∈S):qg s S=0:=by simp at h;simp[qg,h,h2]
theorem se1{s:ByteArray}{S:List ByteArray}(h:qg s S≠0):Kq s S=S:=by simp[Kq,h]
theorem se2{s:ByteArray}{S:List ByteArray}(h:qg s S=0):Kq s S=S++[s]:=by simp[Kq,h]
theorem abV (w : World) (s : ByteArray) (b : Nat) (S : List ByteArray) (hφ : (zU b S).φ w) (hb : ∀ k, (zU b S).fp k → k < w.heap.size) :
    Calls Tryz.prog 98 #[.string s, .map (some b)] w (Mut (zU b S) (fun _ : Unit => .int .i64 (qg s S)) (fun _ => True) (fun _ => zU b (Kq s S)) w) := by
  refine bW (args := [_, _]) Tryz.func98 rfl (Mem.anJ (zU b S) hφ hb) rfl ?_
  refine aF fun K1 hK1 => ?_
  refine aT ?_
  refine aZ dL ?_
  refine aU (hK1 _ _ ?_); clear hK1
  refine aF fun K2 hK2 => ?_
  refine aV ?_
  refine aF fun K3 hK3 => ?_
  refine aT ?_
  refine aZ aH ?_
  refine aY (nW (fun w hm => alV w _) ?_)
  refine aZ dN ?_
  refine aZ dL ?_
  refine aU (hK3 _ _ ?_); clear hK3
  refine vR rfl (fun hc1 => ?_) (fun hc1 => ?_)  -- t5
  ·
    refine aF fun K4 hK4 => ?_
    refine aT ?_
    refine aZ dL ?_
    refine aU (hK4 _ _ ?_); clear hK4
    refine aP (pY rfl rfl (fun w hm => ⟨(), by rw [ne1 hc1], trivial, by rw [se1 (by rw [ne1 hc1]; decide)]; exact Has.head.φ hm, fun k hk => ⟨.inl hk, Has.lt (c := zU b S) Has.head hm hk⟩, hm.frame (.tail .head)⟩))
  ·
    refine aF fun K5 bT => ?_
    refine aT ?_
    refine aZ aH ?_
    refine aZ aH ?_
    refine aZ aii ?_
    refine aZ dL ?_
    refine aU (bT _ _ ?_); clear bT
    refine xG rfl (fun hc2 => ?_) (fun hc2 => ?_)  -- t9
    ·
      refine aF fun K6 bU => ?_
      refine aT ?_
      refine aZ dL ?_
      refine aU (bU _ _ ?_); clear bU
      refine aP (pY rfl rfl (fun w hm => ⟨(), by rw [ne2 hc1 hc2], trivial, by rw [se1 (by rw [ne2 hc1 hc2]; decide)]; exact Has.head.φ hm, fun k hk => ⟨.inl hk, Has.lt (c := zU b S) Has.head hm hk⟩, hm.frame (.tail .head)⟩))
    ·
      refine aM (hK2 _ _ ?_); clear hK2
      refine aF fun K7 eU => ?_
      refine aT ?_
      refine aZ aH ?_
      refine aZ aH ?_
      refine aY (anH hc2 .head ?_)
      refine aU (eU _ _ ?_); clear eU
      refine aF fun K8 fu => ?_
      refine aT ?_
      refine aZ dL ?_
      refine aU (fu _ _ ?_); clear fu
      refine aP (pY rfl rfl (fun w hm => ⟨(), by rw [ne3 hc1 hc2], trivial, by rw [se2 (ne3 hc1 hc2)]; exact Has.head.φ hm, fun k hk => ⟨.inl hk, Has.lt (c := zU b (S ++ [s])) Has.head hm hk⟩, hm.frame (.tail .head)⟩))
end Go.Proofs.YtcalibhfgdncaaaGreat
namespace Go.Proofs.YtcalibhfgdncaaaGreat
open Go.iD Go.RowKit
set_option maxRecDepth 10000
theorem GA.below{w w':World}{v:zD}{l:Lay}(h:GA 0 w.heap.size w v l)(hb:Below w.heap.size w w'):GA 0 w'.heap.size w' v l:=
 ⟨h.st.mono (Nat.le_refl _) hb.size (fun k _ hk=>hb.block k hk),h.pt.mono (Nat.le_refl _) hb.size (fun k _ hk=>hb.block k hk),h.se.mono (Nat.le_refl _) hb.size (fun k _ hk=>hb.block k hk),h.li.mono (Nat.le_refl _) hb.size (fun k _ hk=>hb.block k hk)⟩
def atEnd(done:List fU)(e:Int):List fU:=done.filter (fun k=>decide (2*k.a+k.lW=e)||decide (2*k.b+k.mY=e))
def Jr(a ae b be:Int)(k:fU):Bool:=(decide (a=k.a∧ae=k.lW)&&decide (b=k.b∧be=k.mY))||(decide (a=k.b∧ae=k.mY)&&decide (b=k.a∧be=k.lW))
def yJ(k:fU):List fU→Bool
 |[]=>true
 |[x]=>(decide (k.point≠ -1)&&decide (k.point=x.point))&&decide (k.pos≠x.pos)
 |_=>false
def qc(l:Lay)(k:fU):Bool:=
 (((((((decide (0≤k.a)&&decide (k.a<(l.sections.length:Int)))&&decide (0≤k.b))&&decide (k.b<(l.sections.length:Int)))&&(decide (k.lW=0)||decide (k.lW=1)))&&(decide (k.mY=0)||decide (k.mY=1)))&&decide (-1≤k.point))&&decide (k.point<(l.points.length:Int)))&&(decide (k.pos=0)||(decide (k.pos=1)&&decide (k.point≠ -1)))
def qD(l:Lay):List fU→List fU→Int
 |_,[]=>0
 |done,k::r=>
  if qc l k=false then 4 else if k.a=k.b∧k.lW=k.mY then 1 else
  if (atEnd done (2*k.a+k.lW)).any (Jr k.a k.lW k.b k.mY)=true then 5 else
  if yJ k (atEnd done (2*k.a+k.lW))=false∨yJ k (atEnd done (2*k.b+k.mY))=false then 11 else qD l (done++[k]) r
theorem alB(w:World)(v:zD)(l:Lay)(k:fU):Calls Tryz.prog 119 #[.agg (v.cells l).toArray,.agg k.cells.toArray] w (dw w (.bool (qc l k))):=by
 refine bW (args:=[_,_]) Tryz.func119 rfl (Mem.start w) rfl ?_
 refine aF fun K1 hK1=>?_
 refine aT ?_
 refine aY (zi (k:=fun b2=>?_))
 refine aY (zi (k:=fun b3=>?_))
 refine aZ dL ?_
 refine aU (hK1 _ _ ?_);clear hK1
 refine aF fun K2 hK2=>?_
 refine aT ?_
 refine aZ (ay 0) ?_
 refine aZ aD ?_
 refine aZ ig ?_
 refine aZ aH ?_
 refine au rfl (ay 0) ?_
 refine au rfl aD ?_
 refine au rfl (ay 2) ?_
 refine au rfl aD ?_
 refine au rfl bf ?_
 refine au rfl bK ?_
 refine aZ dB ?_
 refine aZ aH ?_
 refine au rfl (ay 2) ?_
 refine au rfl aD ?_
 refine au rfl ig ?_
 refine aZ dB ?_
 refine aZ aH ?_
 refine au rfl (ay 2) ?_
 refine au rfl aD ?_
 refine au rfl (ay 2) ?_
 refine au rfl aD ?_
 refine au rfl bf ?_
 refine au rfl bK ?_
 refine aZ dB ?_
 refine aZ aH ?_
 refine au rfl (ay 1) ?_
 refine au rfl aD ?_
 refine au rfl fI ?_
 refine au rfl aH ?_
 refine au rfl (ay 1) ?_
 refine au rfl aD ?_
 refine au rfl fI ?_
 refine au rfl bP ?_
 refine aZ dB ?_
 refine aZ aH ?_
 refine au rfl (ay 3) ?_
 refine au rfl aD ?_
 refine au rfl fI ?_
 refine au rfl aH ?_
 refine au rfl (ay 3) ?_
 refine au rfl aD ?_
 refine au rfl fI ?_
 refine au rfl bP ?_
 refine aZ dB ?_
 refine aZ aH ?_
 refine au rfl (ay 4) ?_
 refine au rfl aD ?_
 refine au rfl ig ?_
 refine aZ dB ?_
 refine aZ aH ?_
 refine au rfl (ay 4) ?_
 refine au rfl aD ?_
 refine au rfl (ay 1) ?_
 refine au rfl aD ?_
 refine au rfl bf ?_
 refine au rfl bK ?_
 refine aZ dB ?_
 refine aZ aH ?_
 refine au rfl (ay 5) ?_
 refine au rfl aD ?_
 refine au rfl fI ?_
 refine au rfl aH ?_
 refine au rfl (ay 5) ?_
 refine au rfl aD ?_
 refine au rfl fI ?_
 refine au rfl aH ?_
 refine au rfl (ay 4) ?_
 refine au rfl aD ?_
 refine au rfl gH ?_
 refine au rfl dB ?_
 refine au rfl bP ?_
 refine aZ dB ?_
 refine aZ dL ?_
 refine aU (hK2 _ _ ?_);clear hK2
 refine aP (pY rfl rfl (fun w hm=>qj hm rfl))
theorem acO(w:World)(k:fU):Calls Tryz.prog 120 #[.agg k.cells.toArray] w (dw w (.tuple #[.agg #[.int .i64 k.a,.int .i64 k.lW],.agg #[.int .i64 k.b,.int .i64 k.mY]])):=by
 refine bW (args:=[_]) Tryz.func120 rfl (Mem.start w) rfl ?_
 refine aF fun K1 hK1=>?_
 refine aT ?_
 refine aY (zi (k:=fun b1=>?_))
 refine aY (iP rfl (k:=fun b2=>?_))
 refine aY (iP rfl (k:=fun b3=>?_))
 refine aU (hK1 _ _ ?_);clear hK1
 refine aF fun K2 hK2=>?_
 refine fE [own b1 144 k.cells,old w] (by repeat (first|exact List.Sublist.refl _|apply List.Sublist.cons_cons|apply List.Sublist.cons)) ?_
 refine aj 0 rfl (ay 0) ?_
 refine aj 1 rfl aD ?_
 refine aj 2 rfl (ay 1) ?_
 refine aj 3 rfl aD ?_
 refine aj 4 rfl XV ?_
 refine aj 5 rfl (ay 2) ?_
 refine aj 6 rfl aD ?_
 refine aj 7 rfl (ay 3) ?_
 refine aj 8 rfl aD ?_
 refine aj 9 rfl XV ?_
 refine dX 10 rfl (zk (k:=⟨fun w hm=>hm.sub (by repeat (first|exact List.Sublist.refl _|apply List.Sublist.cons_cons|apply List.Sublist.cons)),?_⟩))
 refine dX 11 rfl (zk (k:=⟨fun w hm=>hm.sub (by repeat (first|exact List.Sublist.refl _|apply List.Sublist.cons_cons|apply List.Sublist.cons)),?_⟩))
 refine dK (hK2 _ _ ?_);clear hK2
 refine aP (nu (fun w hm=>qj hm rfl))
theorem acN(w:World)(s d:Int)(hs:0≤s∧s≤1000000)(hd:0≤d∧d≤1000000):Calls Tryz.prog 121 #[.agg #[.int .i64 s,.int .i64 d]] w (dw w (.int .i64 (2*s+d))):=by
 refine bW (args:=[_]) Tryz.func121 rfl (Mem.start w) rfl ?_
 refine aF fun K1 hK1=>?_
 refine aT ?_
 refine aY (zi (k:=fun b1=>?_))
 refine aZ dL ?_
 refine aU (hK1 _ _ ?_);clear hK1
 refine aF fun K2 hK2=>?_
 refine aT ?_
 refine aZ (ay 0) ?_
 refine aZ aD ?_
 refine aZ rC ?_
 refine aZ (ay 1) ?_
 refine aZ aD ?_
 refine aZ dh ?_
 refine aZ dL ?_
 refine aU (hK2 _ _ ?_);clear hK2
 refine aP (pY rfl rfl (fun w hm=>qj hm rfl))
def jP:fU:=⟨0,0,0,0,0,0⟩
theorem ac2:∀(xs:List fU) (i j:Nat),j<6→(xs.flatMap fU.cells)[i*6+j]?=(xs[i]?).bind (fun x=>(fU.cells x)[j]?)
 |[],i,j,_=>by simp
 |x::xs,0,j,hj=>by
  simp only[List.flatMap_cons,Nat.zero_mul,Nat.zero_add]
  rw[List.getElem?_append_left (by show j<6;exact hj)]
  rfl
 |x::xs,i+1,j,hj=>by
  simp only[List.flatMap_cons]
  have h6:(fU.cells x).length=6:=rfl
  rw[List.getElem?_append_right (by rw[h6,Nat.add_mul];omega),h6]
  rw[show (i+1)*6+j-6=i*6+j by rw[Nat.add_mul];omega]
  rw[ac2 xs i j hj]
  simp
theorem UM{xs:List fU}{i j:Nat}{u:Value}(hi:i<xs.length)(hj:(fU.cells (xs.getD i jP))[j]?=some u):(xs.flatMap fU.cells)[i*6+j]?=some u:=by
 have hjl:j<6:=by have:=(List.getElem?_eq_some_iff.1 hj).1;simpa [fU.cells] using this
 rw[ac2 xs i j hjl]
 have:xs[i]?=some (xs.getD i jP):=by simp[hi]
 rw[this]
 exact hj
theorem UN(xs:List fU):(xs.flatMap fU.cells).length=xs.length*6:=by
 induction xs with
 |nil=>simp
 |cons x xs ih=>simp only[List.flatMap_cons,List.length_append,ih,List.length_cons,Nat.add_mul];simp[fU.cells];omega
theorem ahk{ks:List fU}{p:fU→Bool}{i:Nat}(hi:i<ks.length)(h:p (ks.getD i jP)=true):ks.any p=true:=by
 rw[List.any_eq_true]
 exact⟨ks[i],List.getElem_mem hi,by simpa [List.getD_eq_getElem?_getD,hi] using h⟩
theorem ahj{ks:List fU}{p:fU→Bool}{i:Nat}(hi:ks.length≤i)(h:∀j,j<i→p (ks.getD j jP)=false):ks.any p=false:=by
 rw[List.any_eq_false]
 intro x hx
 obtain⟨j,hj,rfl⟩:=List.mem_iff_getElem.1 hx
 have:=h j (by omega)
 simpa [List.getD_eq_getElem?_getD,hj] using this
theorem ale (w : World) (a : Option Addr) (cap : Nat) (ks : List fU) (x xe y ye : Int) (hs : Sl 0 w.heap.size w a (ks.flatMap fU.cells)) (hlen : ks.length ≤ 1000000) :
    Calls Tryz.prog 122 #[.slice a ks.length cap, .agg #[.int .i64 x, .int .i64 xe], .agg #[.int .i64 y, .int .i64 ye]] w (dw w (.bool (ks.any (Jr x xe y ye)))) := by
  refine bW (args := [_, _, _]) Tryz.func122 rfl (Mem.start w) rfl ?_
  refine aF fun K1 hK1 => ?_
  refine aT ?_
  refine aY (zi (k := fun b4 => ?_))
  refine aY (zi (k := fun b5 => ?_))
  refine aZ dL ?_
  refine aU (hK1 _ _ ?_); clear hK1
  refine aF fun K2 hK2 => ?_
  refine aF fun K3 hK3 => ?_
  refine aT ?_
  refine aZ aH ?_
  refine aZ bf ?_
  refine aZ aH ?_
  refine aU (hK3 _ _ ?_); clear hK3
  refine aV ?_
  refine GN (γ := Int) (env := fun i => [(4, .v (.pointer (some ⟨b4, 0, none⟩))), (5, .v (.pointer (some ⟨b5, 0, none⟩))), (11, .v (.slice a ks.length cap)), (12, .v (.int .i64 (ks.length : Int))), (13, .v (.int .i64 i))]) (mem := fun i => [own b5 199 [.int .i64 y, .int .i64 ye], own b4 199 [.int .i64 x, .int .i64 xe], old w]) (R := fun i => 0 ≤ i ∧ i ≤ ks.length ∧ ∀ j, j < i.toNat → Jr x xe y ye (ks.getD j jP) = false) (μ := fun i => (ks.length - i).toNat) (0) (⟨by omega, by omega, fun j hj => by simp at hj⟩) ⟨rfl, rfl, rfl, rfl, rfl, trivial⟩ (fun _ h => h) ?_
  intro i Li fQ hL1
  obtain ⟨hi0, hi1, hall⟩ := Li
  refine aF fun K4 hK4 => ?_
  refine aT ?_
  refine aZ bK ?_
  refine aU (hK4 _ _ ?_); clear hK4
  refine aF fun K5 bT => ?_
  refine xG rfl (fun hc1 => ?_) (fun hc1 => ?_)  -- t14
  ·
    refine aM (bT _ _ ?_); clear bT
    refine aF fun K6 bU => ?_
    refine aV ?_
    refine aF fun K7 eU => ?_
    refine aT ?_
    refine aZ (GV 6 (fun _ => hs.addr (by rw [UN]; omega))) ?_
    refine aZ (XY (l := (ks.getD i.toNat jP).cells) (fun w hm q u hu => by rw [Nat.add_assoc]; exact KS hs (UM (by omega) hu) (Nat.le_refl _) (by repeat (first | exact Has.head | apply Has.tail)) w hm)) ?_
    refine aY (iP rfl (k := fun b8 => ?_))
    refine aY (zk (k := ?_))
    refine aU (eU _ _ ?_); clear eU
    refine aF fun K8 fu => ?_
    refine aT ?_
    refine aZ bM ?_
    refine aY (nW (fun w hm => acO w _) ?_)
    refine aZ aH ?_
    refine aZ jl ?_
    refine aZ jl ?_
    refine aY (iP rfl (k := fun b9 => ?_))
    refine aY (iP rfl (k := fun b10 => ?_))
    refine aY (zk (k := ?_))
    refine aY (zk (k := ?_))
    refine aU (fu _ _ ?_); clear fu
    refine aF fun K9 dY => ?_
    refine aT ?_
    refine aZ bM ?_
    refine aZ bM ?_
    refine aZ OO ?_
    refine aZ aH ?_
    refine au rfl bM ?_
    refine au rfl bM ?_
    refine au rfl OO ?_
    refine aZ dB ?_
    refine aZ aH ?_
    refine au rfl bM ?_
    refine au rfl bM ?_
    refine au rfl OO ?_
    refine au rfl aH ?_
    refine au rfl bM ?_
    refine au rfl bM ?_
    refine au rfl OO ?_
    refine au rfl dB ?_
    refine aZ bP ?_
    refine aU (dY _ _ ?_); clear dY
    refine vR rfl (fun hc2 => ?_) (fun hc2 => ?_)  -- t39
    ·
      refine aF fun sK gy => ?_
      refine aT ?_
      refine aZ dL ?_
      refine aU (gy _ _ ?_); clear gy
      refine aP (pY rfl rfl (fun w hm => qj hm (congrArg Value.bool (ahk (by omega) hc2).symm)))
    ·
      refine aM (bU _ _ ?_); clear bU
      refine aT ?_
      refine aZ dh ?_
      refine aZ aH ?_
      refine aU (hL1 (i + 1) _ _ (⟨by omega, by omega, fun j hj => ?_⟩) (by omega) ⟨rfl, rfl, rfl, rfl, rfl, trivial⟩ (fun w hm => hm.sub (by repeat (first | exact List.Sublist.refl _ | apply List.Sublist.cons_cons | apply List.Sublist.cons))))
      by_cases hji : j < i.toNat
      · exact hall j hji
      · obtain rfl : j = i.toNat := by omega
        exact hc2
  ·
    refine bX (hK2 _ _ ?_); clear hK2
    refine aF fun pR eH => ?_
    refine aT ?_
    refine aZ dL ?_
    refine aU (eH _ _ ?_); clear eH
    refine aP (pY rfl rfl (fun w hm => qj hm (congrArg Value.bool (ahj (i := i.toNat) (by omega) hall).symm)))
theorem aiu{k:fU}{ks:List fU}(h:¬(ks.length:Int)=0):yJ k ks=(((decide ((ks.length:Int)=1)&&decide (k.point≠ -1))&&decide (k.point=(ks.getD 0 jP).point))&&decide (k.pos≠(ks.getD 0 jP).pos)):=by
 match ks,h with
 |[],h=>simp at h
 |[x],_=>simp[yJ]
 |x::y::r,_=>simp[yJ];omega
theorem acY (w : World) (k : fU) (a : Option Addr) (cap : Nat) (ks : List fU) (hs : Sl 0 w.heap.size w a (ks.flatMap fU.cells)) :
    Calls Tryz.prog 123 #[.agg k.cells.toArray, .slice a ks.length cap] w (dw w (.bool (yJ k ks))) := by
  refine bW (args := [_, _]) Tryz.func123 rfl (Mem.start w) rfl ?_
  refine aF fun K1 hK1 => ?_
  refine aT ?_
  refine aY (zi (k := fun b2 => ?_))
  refine aZ dL ?_
  refine aU (hK1 _ _ ?_); clear hK1
  refine aF fun K2 hK2 => ?_
  refine aF fun K3 hK3 => ?_
  refine aT ?_
  refine aZ aH ?_
  refine aZ bf ?_
  refine aZ fI ?_
  refine aU (hK3 _ _ ?_); clear hK3
  refine xG rfl (fun hc1 => ?_) (fun hc1 => ?_)  -- t7
  ·
    refine aF fun K4 hK4 => ?_
    refine aT ?_
    refine aZ dL ?_
    refine aU (hK4 _ _ ?_); clear hK4
    refine aP (pY rfl rfl (fun w hm => qj hm (by rw [show ks = [] from List.length_eq_zero_iff.1 (by omega)]; rfl)))
  ·
    refine aM (hK2 _ _ ?_); clear hK2
    refine aF fun K5 bT => ?_
    refine fE [own b2 144 k.cells, old w] (by repeat (first | exact List.Sublist.refl _ | apply List.Sublist.cons_cons | apply List.Sublist.cons)) ?_
    refine aj 0 rfl aH ?_
    refine aj 1 rfl bf ?_
    refine aj 2 rfl fI ?_
    refine aj 3 rfl aH ?_
    refine bO 4 rfl rfl (ay 4) ?_
    refine bO 5 rfl rfl aD ?_
    refine bO 6 rfl rfl gH ?_
    refine aj 7 rfl dB ?_
    refine aj 8 rfl aH ?_
    refine bO 9 rfl rfl (ay 4) ?_
    refine bO 10 rfl rfl aD ?_
    refine bO 11 rfl rfl aH ?_
    refine bO 12 rfl rfl (GV 6 (fun hg => hs.addr (by rw [UN]; simp at hg; omega))) ?_
    refine bO 13 rfl rfl (ay 4) ?_
    refine bO 14 rfl rfl (Dk (v := .int .i64 (ks.getD 0 jP).point) (by first | exact .plain rfl | exact .cond rfl id) (by kernel_rfl) (fun hg w hm => KS (j := 0 * 6 + 4) hs (UM (j := 4) (by simp at hg; omega) rfl) (Nat.le_refl _) (by repeat (first | exact Has.head | apply Has.tail)) w hm)) ?_
    refine bO 15 rfl rfl fI ?_
    refine aj 16 rfl dB ?_
    refine aj 17 rfl aH ?_
    refine bO 18 rfl rfl (ay 5) ?_
    refine bO 19 rfl rfl aD ?_
    refine bO 20 rfl rfl aH ?_
    refine bO 21 rfl rfl (GV 6 (fun hg => hs.addr (by rw [UN]; simp at hg; omega))) ?_
    refine bO 22 rfl rfl (ay 5) ?_
    refine bO 23 rfl rfl (Dk (v := .int .i64 (ks.getD 0 jP).pos) (by first | exact .plain rfl | exact .cond rfl id) (by kernel_rfl) (fun hg w hm => KS (j := 0 * 6 + 5) hs (UM (j := 5) (by simp at hg; omega) rfl) (Nat.le_refl _) (by repeat (first | exact Has.head | apply Has.tail)) w hm)) ?_
    refine bO 24 rfl rfl gH ?_
    refine aj 25 rfl dB ?_
    refine aj 26 rfl dL ?_
    refine dK (bT _ _ ?_); clear bT
    refine aP (pY rfl rfl (fun w hm => qj hm (by rw [aiu hc1])))
end Go.Proofs.YtcalibhfgdncaaaGreat
namespace Go.Proofs.YtcalibhfgdncaaaGreat
open Go.iD Go.RowKit
set_option maxRecDepth 10000
def GI(done:List fU)(m:Nat)(rows:List Row):Prop:=
 rows.length=m∧∀(i:Nat) (r:Row),rows[i]?=some r→r.n=(atEnd done i).length∧r.xs=(atEnd done i).flatMap fU.cells
theorem GI.get{done:List fU}{m:Nat}{rows:List Row}(h:GI done m rows)(e:Int)(h0:0≤e)(h1:e.toNat<m):
  ∃aa ca,rows[e.toNat*1]?=some ⟨aa,(atEnd done e).length,ca,(atEnd done e).flatMap fU.cells⟩:=by
 rw[Nat.mul_one]
 have hlt:e.toNat<rows.length:=by rw[h.1];exact h1
 have hr:=h.2 e.toNat rows[e.toNat] (by simp[hlt])
 rw[show ((e.toNat:Nat):Int)=e by omega] at hr
 refine⟨rows[e.toNat].a,rows[e.toNat].cap,?_⟩
 rw[List.getElem?_eq_getElem hlt,←hr.1,←hr.2]
theorem abO(done:List fU)(e:Int):(atEnd done e).length≤done.length:=List.length_filter_le _ _
theorem ahm(done:List fU)(k:fU)(e:Int):atEnd (done++[k]) e=atEnd done e++if 2*k.a+k.lW=e∨2*k.b+k.mY=e then [k] else []:=by
 unfold atEnd
 rw[List.filter_append]
 congr 1
 by_cases h1:2*k.a+k.lW=e<;>by_cases h2:2*k.b+k.mY=e<;>simp[h1,h2]
theorem GI.step{done:List fU}{m:Nat}{rows:List Row}(h:GI done m rows)(k:fU)(ea eb:Int)(ha:2*k.a+k.lW=ea)(hb:2*k.b+k.mY=eb)(hne:ea≠eb)(ha0:0≤ea)(hb0:0≤eb)
  (a1 a2:Option Addr)(c1 c2:Nat):
  GI (done++[k]) m ((rows.set (ea.toNat*1) ⟨a1,(atEnd done ea).length+1,c1,(atEnd done ea).flatMap fU.cells++k.cells⟩).set (eb.toNat*1) ⟨a2,(atEnd done eb).length+1,c2,(atEnd done eb).flatMap fU.cells++k.cells⟩):=by
 rw[Nat.mul_one,Nat.mul_one]
 refine⟨by rw[List.length_set,List.length_set];exact h.1,fun i r hr=>?_⟩
 rw[ahm,ha,hb]
 by_cases hib:i=eb.toNat
 ·have he:eb=(i:Int):=by omega
  rw[List.getElem?_set] at hr
  rw[if_pos hib.symm] at hr
  split at hr
  ·cases hr
   subst he
   simp
  ·cases hr
 ·rw[List.getElem?_set_ne (Ne.symm hib)] at hr
  by_cases hia:i=ea.toNat
  ·have he:ea=(i:Int):=by omega
   rw[List.getElem?_set,if_pos hia.symm] at hr
   split at hr
   ·cases hr
    subst he
    simp
   ·cases hr
  ·rw[List.getElem?_set_ne (Ne.symm hia)] at hr
   have h1:¬ea=(i:Int):=by omega
   have h2:¬eb=(i:Int):=by omega
   simp only[h1,h2,or_self,if_false,List.append_nil]
   exact h.2 i r hr
theorem alF{l:Lay}{xs:List fU}{j:Nat}(hj:j<xs.length){E:Int}(h:qD l (xs.take j) (xs.drop j)=E):
  (qc l (xs.getD j jP)=false→E=4)∧(qc l (xs.getD j jP)=true→
   ((xs.getD j jP).a=(xs.getD j jP).b∧(xs.getD j jP).lW=(xs.getD j jP).mY→E=1)∧(¬((xs.getD j jP).a=(xs.getD j jP).b∧(xs.getD j jP).lW=(xs.getD j jP).mY)→
   ((atEnd (xs.take j) (2*(xs.getD j jP).a+(xs.getD j jP).lW)).any (Jr (xs.getD j jP).a (xs.getD j jP).lW (xs.getD j jP).b (xs.getD j jP).mY)=true→E=5)∧
   ((atEnd (xs.take j) (2*(xs.getD j jP).a+(xs.getD j jP).lW)).any (Jr (xs.getD j jP).a (xs.getD j jP).lW (xs.getD j jP).b (xs.getD j jP).mY)=false→
   ((!yJ (xs.getD j jP) (atEnd (xs.take j) (2*(xs.getD j jP).a+(xs.getD j jP).lW))|| !yJ (xs.getD j jP) (atEnd (xs.take j) (2*(xs.getD j jP).b+(xs.getD j jP).mY)))=true→E=11)∧
   ((!yJ (xs.getD j jP) (atEnd (xs.take j) (2*(xs.getD j jP).a+(xs.getD j jP).lW))|| !yJ (xs.getD j jP) (atEnd (xs.take j) (2*(xs.getD j jP).b+(xs.getD j jP).mY)))=false→
    qD l (xs.take (j+1)) (xs.drop (j+1))=E∧xs.take (j+1)=xs.take j++[xs.getD j jP])))):=by
 have hd:xs.drop j=xs[j]::xs.drop (j+1):=List.drop_eq_getElem_cons hj
 have hg:xs.getD j jP=xs[j]:=by simp[List.getD_eq_getElem?_getD,hj]
 have ht:xs.take (j+1)=xs.take j++[xs[j]]:=by rw[List.take_succ_eq_append_getElem hj]
 rw[hd,qD] at h
 rw[hg,ht]
 generalize xs[j]=k at*
 refine⟨fun h1=>?_,fun h1=>⟨fun h2=>?_,fun h2=>⟨fun h3=>?_,fun h3=>⟨fun h4=>?_,fun h4=>?_⟩⟩⟩⟩
 ·rw[if_pos h1] at h;exact h.symm
 ·rw[if_neg (by simp[h1]),if_pos h2] at h;exact h.symm
 ·rw[if_neg (by simp[h1]),if_neg h2,if_pos h3] at h;exact h.symm
 ·rw[if_neg (by simp[h1]),if_neg h2,if_neg (by simp[h3]),if_pos (by simpa using h4)] at h;exact h.symm
 ·rw[if_neg (by simp[h1]),if_neg h2,if_neg (by simp[h3]),if_neg (by simp only[Bool.or_eq_false_iff,Bool.not_eq_false'] at h4;simp[h4.1,h4.2])] at h;exact⟨h,rfl⟩
theorem alC{l:Lay}{xs:List fU}{j:Nat}(hj:xs.length≤j){E:Int}(h:qD l (xs.take j) (xs.drop j)=E):E=0:=by
 rw[←h,List.drop_eq_nil_of_le hj,qD]
theorem Pt{rows:List Row}{i:Nat}{r:Row}(h:rows[i]?=some r):(rows.map Row.hdr)[i]?=some (.slice r.a r.n r.cap):=by simp[h,Row.hdr]
theorem aly{l:Lay}{k:fU}(h:qc l k=true):(0≤k.a∧k.a<l.sections.length∧0≤k.b∧k.b<l.sections.length)∧(0≤k.lW∧k.lW≤1)∧(0≤k.mY∧k.mY≤1):=by
 simp only[qc,Bool.and_eq_true,Bool.or_eq_true,decide_eq_true_eq] at h
 omega
theorem am4{m:Nat}:GI [] m (List.replicate m (⟨none,0,0,[]⟩:Row)):=by
 refine⟨by simp,fun i r hr=>?_⟩
 rw[List.getElem?_replicate] at hr
 split at hr
 ·cases hr;exact⟨rfl,rfl⟩
 ·cases hr
theorem ahH (w : World) (v : zD) (l : Lay) (hl : GA 0 w.heap.size w v l) (hb : l.sections.length ≤ 96 ∧ l.links.length ≤ 192) : Calls Tryz.prog 100 #[.agg (v.cells l).toArray] w (dw w (.int .i64 (qD l [] l.links))) := by
  obtain ⟨hb1, hb2⟩ := hb
  refine bW (args := [_]) Tryz.func100 rfl (Mem.start w) rfl ?_
  refine aF fun K1 hK1 => ?_
  refine aT ?_
  refine aY (zi (k := fun b1 => ?_))
  refine aZ dL ?_
  refine aU (hK1 _ _ ?_); clear hK1
  refine aF fun K2 hK2 => ?_
  refine aT ?_
  refine aZ (ay 2) ?_
  refine aZ aD ?_
  refine aZ bf ?_
  refine aZ rC ?_
  refine aY (anG (m := 2 * l.sections.length) (e := 25) (z := .slice none 0 0) 24 (k := fun a ha => ?_) (hb := by omega) (hm' := by omega))
  refine qG (H' := [row 25 1 a (2 * l.sections.length) (2 * l.sections.length) ((List.replicate (2 * l.sections.length) (⟨none, 0, 0, []⟩ : Row)).map Row.hdr), qU (fun _ => True) 144 6 (List.replicate (2 * l.sections.length) (⟨none, 0, 0, []⟩ : Row)), own b1 27 (v.cells l), old w]) (fun w hm => by rw [List.map_replicate]; exact (am5 (e := 144) (sz := 6) (m := 2 * l.sections.length) hm).perm (.swap _ _ _)) ?_
  refine aZ dL ?_
  refine aU (hK2 _ _ ?_); clear hK2
  refine aF fun K3 hK3 => ?_
  refine aF fun K4 hK4 => ?_
  refine aT ?_
  refine aZ (ay 3) ?_
  refine aZ aD ?_
  refine aZ bf ?_
  refine aZ aH ?_
  refine aU (hK4 _ _ ?_); clear hK4
  refine aV ?_
  refine GN (γ := Int × List Row) (env := fun g => [(1, .v (.pointer (some ⟨b1, 0, none⟩))), (3, .v (.slice a (2 * l.sections.length) (2 * l.sections.length))), (16, .v (.slice v.a4 l.links.length v.c4)), (17, .v (.int .i64 (l.links.length : Int))), (18, .v (.int .i64 g.1))]) (mem := fun g => [row 25 1 a (2 * l.sections.length) (2 * l.sections.length) (g.2.map Row.hdr), qU (fun _ => True) 144 6 g.2, own b1 27 (v.cells l), old w]) (R := fun g => 0 ≤ g.1 ∧ g.1 ≤ l.links.length ∧ GI (l.links.take g.1.toNat) (2 * l.sections.length) g.2 ∧ qD l (l.links.take g.1.toNat) (l.links.drop g.1.toNat) = qD l [] l.links) (μ := fun g => (l.links.length - g.1).toNat) ((0, List.replicate (2 * l.sections.length) ⟨none, 0, 0, []⟩)) (⟨by show (0 : Int) ≤ 0; omega, by show (0 : Int) ≤ _; omega, am4, rfl⟩) ⟨rfl, rfl, rfl, rfl, rfl, trivial⟩ (fun _ h => h) ?_
  intro g Li fQ hL1
  obtain ⟨j, rows⟩ := g
  dsimp only at Li ⊢
  obtain ⟨hj0, hj1, hrows, hj2⟩ := Li
  refine aF fun K5 bT => ?_
  refine aT ?_
  refine aZ bK ?_
  refine aU (bT _ _ ?_); clear bT
  refine aF fun K6 bU => ?_
  refine xG rfl (fun hc1 => ?_) (fun hc1 => ?_)  -- t19
  ·
    refine aM (bU _ _ ?_); clear bU
    refine aF fun K7 eU => ?_
    refine aV ?_
    refine aF fun K8 fu => ?_
    refine aT ?_
    have hst := alF (l := l) (j := j.toNat) (by omega) hj2
    have hdl : (l.links.take j.toNat).length ≤ 192 := by rw [List.length_take]; omega
    generalize hdone : l.links.take j.toNat = done at *
    obtain ⟨k, hk⟩ : ∃ k, k = l.links.getD j.toNat jP := ⟨_, rfl⟩
    rw [← hk] at hst
    refine aZ (GV 6 (fun _ => hl.li.addr (by rw [UN]; omega))) ?_
    refine aZ (XY (l := k.cells) (fun w hm q u hu => by subst hk; rw [Nat.add_assoc]; exact KS hl.li (UM (by omega) hu) (Nat.le_refl _) (by repeat (first | exact Has.head | apply Has.tail)) w hm)) ?_
    refine aY (iP rfl (k := fun b5 => ?_))
    refine aY (zk (k := ?_))
    refine aU (fu _ _ ?_); clear fu
    refine aF fun K9 dY => ?_
    refine aF fun sK gy => ?_
    refine aT ?_
    refine aZ bM ?_
    refine aZ bM ?_
    refine aY (nW (fun w hm => alB w v l k) ?_)
    refine aZ dN ?_
    refine aU (gy _ _ ?_); clear gy
    refine vR rfl (fun hc2 => ?_) (fun hc2 => ?_)  -- t25
    ·
      refine aF fun pR eH => ?_
      refine aT ?_
      refine aZ dL ?_
      refine aU (eH _ _ ?_); clear eH
      refine aP (pY rfl rfl (fun w hm => qj hm (by rw [hst.1 (by simpa using hc2)])))
    ·
      have hlk : qc l k = true := by simpa using hc2
      replace hst := hst.2 hlk
      obtain ⟨⟨ha0, ha1, an6, an7⟩, hae, hbe⟩ := aly hlk
      obtain ⟨ea, YV⟩ : ∃ e, e = 2 * k.a + k.lW := ⟨_, rfl⟩
      obtain ⟨eb, YZ⟩ : ∃ e, e = 2 * k.b + k.mY := ⟨_, rfl⟩
      have hea : 0 ≤ ea ∧ ea < 2 * l.sections.length := by omega
      have heb : 0 ≤ eb ∧ eb < 2 * l.sections.length := by omega
      obtain ⟨aA, cA, Jk⟩ := hrows.get ea hea.1 (by omega)
      obtain ⟨aB, cB, Uh⟩ := hrows.get eb heb.1 (by omega)
      have hlA := abO done ea
      have hlB := abO done eb
      rw [← YV, ← YZ] at hst
      refine aM (dY _ _ ?_); clear dY
      refine aF fun vN iI => ?_
      refine aT ?_
      refine aZ bM ?_
      refine aY (nW (fun w hm => acO w k) ?_)
      refine aZ aH ?_
      refine aZ jl ?_
      refine aZ jl ?_
      refine aY (iP rfl (k := fun b6 => ?_))
      refine aY (iP rfl (k := fun b7 => ?_))
      refine aY (zk (k := ?_))
      refine aY (zk (k := ?_))
      refine aU (iI _ _ ?_); clear iI
      refine aF fun rU fT => ?_
      refine fE [own b7 199 [.int .i64 k.b, .int .i64 k.mY], own b6 199 [.int .i64 k.a, .int .i64 k.lW], own b5 144 k.cells, row 25 1 a (2 * l.sections.length) (2 * l.sections.length) (rows.map Row.hdr), qU (fun _ => True) 144 6 rows, own b1 27 (v.cells l), old w] (by repeat (first | exact List.Sublist.refl _ | apply List.Sublist.cons_cons | apply List.Sublist.cons)) ?_
      refine aj 0 rfl aH ?_
      refine aj 1 rfl bM ?_
      refine aj 4 rfl aH ?_
      refine aj 5 rfl bM ?_
      refine dX 2 rfl (nW (fun w hm => acN w k.a k.lW (by omega) (by omega)) ⟨fun w hm => hm.sub (by repeat (first | exact List.Sublist.refl _ | apply List.Sublist.cons_cons | apply List.Sublist.cons)), ?_⟩)
      rw [← YV]
      refine aj 3 rfl (GV (ad := a) 1 (fun _ => by rw [ha]; rfl)) ?_
      refine dX 6 rfl (nW (fun w hm => acN w k.b k.mY (by omega) (by omega)) ⟨fun w hm => hm.sub (by repeat (first | exact List.Sublist.refl _ | apply List.Sublist.cons_cons | apply List.Sublist.cons)), ?_⟩)
      rw [← YZ]
      refine aj 7 rfl (GV (ad := a) 1 (fun _ => by rw [ha]; rfl)) ?_
      refine aj 8 rfl dL ?_
      refine aj 9 rfl dL ?_
      refine dK (fT _ _ ?_); clear fT
      refine aF fun zA kg => ?_
      refine aV ?_
      refine aF fun yE jN => ?_
      refine aT ?_
      refine aZ bM ?_
      refine aZ bM ?_
      refine aZ OO ?_
      refine aZ dL ?_
      refine aU (jN _ _ ?_); clear jN
      refine xG rfl (fun hc3 => ?_) (fun hc3 => ?_)  -- t39
      ·
        refine aF fun yF jC => ?_
        refine aT ?_
        refine aZ dL ?_
        refine aU (jC _ _ ?_); clear jC
        refine aP (pY rfl rfl (fun w hm => qj hm (by rw [hst.1 hc3])))
      ·
        replace hst := hst.2 hc3
        have hne : ea ≠ eb := by omega
        refine aF fun Fh oG => ?_
        refine fE [own b7 199 [.int .i64 k.b, .int .i64 k.mY], own b6 199 [.int .i64 k.a, .int .i64 k.lW], own b5 144 k.cells, row 25 1 a (2 * l.sections.length) (2 * l.sections.length) (rows.map Row.hdr), qU (fun _ => True) 144 6 rows, own b1 27 (v.cells l), old w] (by repeat (first | exact List.Sublist.refl _ | apply List.Sublist.cons_cons | apply List.Sublist.cons)) ?_
        refine aj 0 rfl aH ?_
        refine aj 1 rfl dH ?_
        refine aj 2 rfl (Lc (v := .slice aA (atEnd done ea).length cA) (Ou (Pt Jk) (by repeat (first | exact Has.head | apply Has.tail)))) ?_
        refine aj 3 rfl bM ?_
        refine aj 4 rfl bM ?_
        refine dX 5 rfl (nW (fun w hm => ale w aA cA (atEnd done ea) _ _ _ _ (aa4 Jk trivial hm (by repeat (first | exact Has.head | apply Has.tail))) (by omega)) ⟨fun w hm => hm.sub (by repeat (first | exact List.Sublist.refl _ | apply List.Sublist.cons_cons | apply List.Sublist.cons)), ?_⟩)
        refine aj 6 rfl dL ?_
        refine dK (oG _ _ ?_); clear oG
        refine vR rfl (fun hc4 => ?_) (fun hc4 => ?_)  -- t43
        ·
          refine aF fun El nH => ?_
          refine aT ?_
          refine aZ dL ?_
          refine aU (nH _ _ ?_); clear nH
          refine aP (pY rfl rfl (fun w hm => qj hm (by rw [hst.1 hc4])))
        ·
          replace hst := hst.2 hc4
          refine OG (γ := Bool) (env := fun q => [(5, .v (.pointer (some ⟨b5, 0, none⟩))), (8, .v (.pointer (some ⟨sb a, so a + ea.toNat * 1, none⟩))), (9, .v (.pointer (some ⟨sb a, so a + eb.toNat * 1, none⟩))), (50, .v (.bool q)), (1, .v (.pointer (some ⟨b1, 0, none⟩))), (3, .v (.slice a (2 * l.sections.length) (2 * l.sections.length))), (16, .v (.slice v.a4 l.links.length v.c4)), (17, .v (.int .i64 (l.links.length : Int))), (18, .v (.int .i64 j))]) (mem := fun q => [own b7 199 [.int .i64 k.b, .int .i64 k.mY], own b6 199 [.int .i64 k.a, .int .i64 k.lW], own b5 144 k.cells, row 25 1 a (2 * l.sections.length) (2 * l.sections.length) (rows.map Row.hdr), qU (fun _ => True) 144 6 rows, own b1 27 (v.cells l), old w]) (R := fun q => q = (!yJ k (atEnd done ea) || !yJ k (atEnd done eb))) ?_ ?_
          · intro an3 adP
            refine aF fun CY mF => ?_
            refine fE [own b7 199 [.int .i64 k.b, .int .i64 k.mY], own b6 199 [.int .i64 k.a, .int .i64 k.lW], own b5 144 k.cells, row 25 1 a (2 * l.sections.length) (2 * l.sections.length) (rows.map Row.hdr), qU (fun _ => True) 144 6 rows, own b1 27 (v.cells l), old w] (by repeat (first | exact List.Sublist.refl _ | apply List.Sublist.cons_cons | apply List.Sublist.cons)) ?_
            refine aj 0 rfl bM ?_
            refine aj 1 rfl aH ?_
            refine aj 2 rfl dH ?_
            refine aj 3 rfl (Lc (v := .slice aA (atEnd done ea).length cA) (Ou (Pt Jk) (by repeat (first | exact Has.head | apply Has.tail)))) ?_
            refine dX 4 rfl (nW (fun w hm => acY w k aA cA (atEnd done ea) (aa4 Jk trivial hm (by repeat (first | exact Has.head | apply Has.tail)))) ⟨fun w hm => hm.sub (by repeat (first | exact List.Sublist.refl _ | apply List.Sublist.cons_cons | apply List.Sublist.cons)), ?_⟩)
            refine aj 5 rfl dN ?_
            refine aj 6 rfl dL ?_
            refine dK (mF _ _ ?_); clear mF
            refine vR rfl (fun jO => ?_) (fun jO => ?_)  -- t50
            ·
              refine aM (adP (_) _ _ (by rw [jO]; rfl) ⟨rfl, rfl, rfl, rfl, rfl, rfl, rfl, rfl, rfl, trivial⟩ (fun _ h => h))
            ·
              refine fE [own b7 199 [.int .i64 k.b, .int .i64 k.mY], own b6 199 [.int .i64 k.a, .int .i64 k.lW], own b5 144 k.cells, row 25 1 a (2 * l.sections.length) (2 * l.sections.length) (rows.map Row.hdr), qU (fun _ => True) 144 6 rows, own b1 27 (v.cells l), old w] (by repeat (first | exact List.Sublist.refl _ | apply List.Sublist.cons_cons | apply List.Sublist.cons)) ?_
              refine aj 0 rfl bM ?_
              refine aj 1 rfl aH ?_
              refine aj 2 rfl dH ?_
              refine aj 3 rfl (Lc (v := .slice aB (atEnd done eb).length cB) (Ou (Pt Uh) (by repeat (first | exact Has.head | apply Has.tail)))) ?_
              refine dX 4 rfl (nW (fun w hm => acY w k aB cB (atEnd done eb) (aa4 Uh trivial hm (by repeat (first | exact Has.head | apply Has.tail)))) ⟨fun w hm => hm.sub (by repeat (first | exact List.Sublist.refl _ | apply List.Sublist.cons_cons | apply List.Sublist.cons)), ?_⟩)
              refine aj 5 rfl dN ?_
              refine aj 6 rfl dL ?_
              refine dK (adP (_) _ _ (by rw [jO]; rfl) ⟨rfl, rfl, rfl, rfl, rfl, rfl, rfl, rfl, rfl, trivial⟩ (fun _ h => h))
          · intro q hR
            refine vR rfl (fun hc6 => ?_) (fun hc6 => ?_)  -- t50
            ·
              refine aF fun KC uw => ?_
              refine aT ?_
              refine aZ dL ?_
              refine aU (uw _ _ ?_); clear uw
              refine aP (pY rfl rfl (fun w hm => qj hm (by rw [hst.1 (by rw [← hR, hc6])])))
            ·
              have ht := hst.2 (by rw [← hR, hc6])
              refine aM (kg _ _ ?_); clear kg
              refine aF fun CZ ni => ?_
              refine mZ [own b7 199 [.int .i64 k.b, .int .i64 k.mY], own b6 199 [.int .i64 k.a, .int .i64 k.lW], own b5 144 k.cells, row 25 1 a (2 * l.sections.length) (2 * l.sections.length) (rows.map Row.hdr), own b1 27 (v.cells l), old w] 8 ?_
              refine aI 0 rfl aH ?_
              refine aI 1 rfl aH ?_
              refine aI 2 rfl dH ?_
              refine aI 3 rfl (Lc (v := .slice aA (atEnd done ea).length cA) (Ou (Pt Jk) (by repeat (first | exact Has.head | apply Has.tail)))) ?_
              refine aI 4 rfl bM ?_
              refine jf 5 rfl (agE 144 k.cells (k := fun XC => ⟨fun w hm => hm.sub (by repeat (first | exact List.Sublist.refl _ | apply List.Sublist.cons_cons | apply List.Sublist.cons)), ?_⟩))
              refine yG (fun w hm => agc Jk trivial (hm.front (c := qU (fun _ => True) 144 6 rows) (by repeat (first | exact lH.head | apply lH.tail)))) ?_
              refine jf 6 rfl (agD 48 (k := fun a' cap' => ⟨fun w hm => hm.sub (by repeat (first | exact List.Sublist.refl _ | apply List.Sublist.cons_cons | apply List.Sublist.cons)), ?_⟩))
              refine aI 7 rfl dH ?_
              refine mX rfl (agK (j := ea.toNat * 1) (hu := by repeat (first | exact eG.head | apply eG.tail)) (hj := by rw [List.length_map, hrows.1]; omega) (h1 := rfl) (hx := .plain rfl) (hy := .plain rfl) (k := ?_))
              refine mW (ni _ _ ?_); clear ni
              refine dJ (H' := [row 25 1 a (2 * l.sections.length) (2 * l.sections.length) ((rows.set (ea.toNat * 1) (⟨a', (atEnd done ea).length + 1, cap', (atEnd done ea).flatMap fU.cells ++ k.cells⟩ : Row)).map Row.hdr), qU (fun _ => True) 144 6 (rows.set (ea.toNat * 1) (⟨a', (atEnd done ea).length + 1, cap', (atEnd done ea).flatMap fU.cells ++ k.cells⟩ : Row)), own b7 199 [.int .i64 k.b, .int .i64 k.mY], own b6 199 [.int .i64 k.a, .int .i64 k.lW], own b5 144 k.cells, own b1 27 (v.cells l), old w]) (fun w hm => by rw [List.map_set]; exact ((agb (r := ⟨a', (atEnd done ea).length + 1, cap', (atEnd done ea).flatMap fU.cells ++ k.cells⟩) (by rw [hrows.1]; omega) hm).front (c := row 25 1 a (2 * l.sections.length) (2 * l.sections.length) ((rows.map Row.hdr).set (ea.toNat * 1) (Row.hdr ⟨a', (atEnd done ea).length + 1, cap', (atEnd done ea).flatMap fU.cells ++ k.cells⟩))) (by repeat (first | exact lH.head | apply lH.tail))).sub (by repeat (first | exact List.Sublist.refl _ | apply List.Sublist.cons_cons | apply List.Sublist.cons))) ?_
              have aee : (rows.set (ea.toNat * 1) ⟨a', (atEnd done ea).length + 1, cap', (atEnd done ea).flatMap fU.cells ++ k.cells⟩)[eb.toNat * 1]? = some ⟨aB, (atEnd done eb).length, cB, (atEnd done eb).flatMap fU.cells⟩ := by rw [List.getElem?_set_ne (by omega)]; exact Uh
              have hlen1 : (rows.set (ea.toNat * 1) ⟨a', (atEnd done ea).length + 1, cap', (atEnd done ea).flatMap fU.cells ++ k.cells⟩).length = 2 * l.sections.length := by rw [List.length_set]; exact hrows.1
              clear Jk Uh
              generalize akD : rows.set (ea.toNat * 1) ⟨a', (atEnd done ea).length + 1, cap', (atEnd done ea).flatMap fU.cells ++ k.cells⟩ = RO at *
              refine mZ [row 25 1 a (2 * l.sections.length) (2 * l.sections.length) (RO.map Row.hdr), own b7 199 [.int .i64 k.b, .int .i64 k.mY], own b6 199 [.int .i64 k.a, .int .i64 k.lW], own b5 144 k.cells, own b1 27 (v.cells l), old w] 8 ?_
              refine aI 0 rfl aH ?_
              refine aI 1 rfl aH ?_
              refine aI 2 rfl dH ?_
              refine aI 3 rfl (Lc (v := .slice aB (atEnd done eb).length cB) (Ou (Pt aee) (by repeat (first | exact Has.head | apply Has.tail)))) ?_
              refine aI 4 rfl bM ?_
              refine jf 5 rfl (agE 144 k.cells (k := fun b76 => ⟨fun w hm => hm.sub (by repeat (first | exact List.Sublist.refl _ | apply List.Sublist.cons_cons | apply List.Sublist.cons)), ?_⟩))
              refine yG (fun w hm => agc aee trivial (hm.front (c := qU (fun _ => True) 144 6 RO) (by repeat (first | exact lH.head | apply lH.tail)))) ?_
              refine jf 6 rfl (agD 48 (k := fun a2 cap2 => ⟨fun w hm => hm.sub (by repeat (first | exact List.Sublist.refl _ | apply List.Sublist.cons_cons | apply List.Sublist.cons)), ?_⟩))
              refine aI 7 rfl dH ?_
              refine mX rfl (agK (j := eb.toNat * 1) (hu := by repeat (first | exact eG.head | apply eG.tail)) (hj := by rw [List.length_map, hlen1]; omega) (h1 := rfl) (hx := .plain rfl) (hy := .plain rfl) (k := ?_))
              refine mW (eU _ _ ?_); clear eU
              refine dJ (H' := [row 25 1 a (2 * l.sections.length) (2 * l.sections.length) ((RO.set (eb.toNat * 1) (⟨a2, (atEnd done eb).length + 1, cap2, (atEnd done eb).flatMap fU.cells ++ k.cells⟩ : Row)).map Row.hdr), qU (fun _ => True) 144 6 (RO.set (eb.toNat * 1) (⟨a2, (atEnd done eb).length + 1, cap2, (atEnd done eb).flatMap fU.cells ++ k.cells⟩ : Row)), own b1 27 (v.cells l), old w]) (fun w hm => by rw [List.map_set]; exact ((agb (r := ⟨a2, (atEnd done eb).length + 1, cap2, (atEnd done eb).flatMap fU.cells ++ k.cells⟩) (by rw [hlen1]; omega) hm).front (c := row 25 1 a (2 * l.sections.length) (2 * l.sections.length) ((RO.map Row.hdr).set (eb.toNat * 1) (Row.hdr ⟨a2, (atEnd done eb).length + 1, cap2, (atEnd done eb).flatMap fU.cells ++ k.cells⟩))) (by repeat (first | exact lH.head | apply lH.tail))).sub (by repeat (first | exact List.Sublist.refl _ | apply List.Sublist.cons_cons | apply List.Sublist.cons))) ?_
              subst akD
              refine aT ?_
              refine aZ dh ?_
              refine aZ aH ?_
              refine aU (hL1 ((j + 1, (rows.set (ea.toNat * 1) (⟨a', (atEnd done ea).length + 1, cap', (atEnd done ea).flatMap fU.cells ++ k.cells⟩ : Row)).set (eb.toNat * 1) (⟨a2, (atEnd done eb).length + 1, cap2, (atEnd done eb).flatMap fU.cells ++ k.cells⟩ : Row))) _ _ (⟨by show (0 : Int) ≤ j + 1; omega, by show j + 1 ≤ _; omega, by show GI (l.links.take (j + 1).toNat) _ _; rw [show (j + 1).toNat = j.toNat + 1 by omega, ht.2]; exact hrows.step k ea eb YV.symm YZ.symm hne hea.1 heb.1 _ _ _ _, by show qD l (l.links.take (j + 1).toNat) (l.links.drop (j + 1).toNat) = _; rw [show (j + 1).toNat = j.toNat + 1 by omega]; exact ht.1⟩) (by show (_ - (j + 1)).toNat < _; omega) ⟨rfl, rfl, rfl, rfl, rfl, trivial⟩ (fun w hm => hm.sub (by repeat (first | exact List.Sublist.refl _ | apply List.Sublist.cons_cons | apply List.Sublist.cons))))
  ·
    refine bX (hK3 _ _ ?_); clear hK3
    refine aF fun SC xJ => ?_
    refine aT ?_
    refine aZ dL ?_
    refine aU (xJ _ _ ?_); clear xJ
    refine aP (pY rfl rfl (fun w hm => qj hm (by rw [alC (by omega) hj2])))
end Go.Proofs.YtcalibhfgdncaaaGreat
namespace Go.Proofs.YtcalibhfgdncaaaGreat
open Go.iD Go.RowKit
set_option maxRecDepth 10000
def lu:List ByteArray→List ByteArray→Int
 |_,[]=>0
 |seen,s::r=>if qg s seen≠0 then qg s seen else lu (seen++[s]) r
def nJ(wo:Nat):List ByteArray→List nM→Int
 |_,[]=>0
 |seen,s::r=>if qg s.name seen≠0 then qg s.name seen else if zh wo s=false then 4 else nJ wo (seen++[s.name]) r
def wQ(l:Lay):Bool:=decide (24<l.ow.length∨48<l.points.length∨96<l.sections.length∨192<l.links.length)
def kZ(l:Lay):Int:=
 if wQ l=true then 7 else if l.sections.length=0 then 1 else
 if lu [] l.ow≠0 then lu [] l.ow else if lu [] l.points≠0 then lu [] l.points else
 if nJ l.ow.length [] l.sections≠0 then nJ l.ow.length [] l.sections else qD l [] l.links
theorem al2{names:List ByteArray}{j:Nat}(hj:j<names.length)(h:lu (names.take j) (names.drop j)=lu [] names):
  (qg (names.getD j ByteArray.empty) (names.take j)≠0→lu [] names=qg (names.getD j ByteArray.empty) (names.take j))∧
  (qg (names.getD j ByteArray.empty) (names.take j)=0→lu (names.take (j+1)) (names.drop (j+1))=lu [] names∧Kq (names.getD j ByteArray.empty) (names.take j)=names.take (j+1)):=by
 have hd:names.drop j=names[j]::names.drop (j+1):=List.drop_eq_getElem_cons hj
 have hg:names.getD j ByteArray.empty=names[j]:=by simp[List.getD_eq_getElem?_getD,hj]
 have ht:names.take (j+1)=names.take j++[names[j]]:=by rw[List.take_succ_eq_append_getElem hj]
 rw[hd,lu] at h
 rw[hg]
 constructor
 ·intro hn;rw[if_pos hn] at h;exact h.symm
 ·intro hn
  rw[if_neg (by simp[hn])] at h
  rw[ht]
  exact⟨h,se2 hn⟩
theorem alZ{names:List ByteArray}{j:Nat}(hj:names.length≤j)(h:lu (names.take j) (names.drop j)=lu [] names):lu [] names=0:=by
 rw[←h,List.drop_eq_nil_of_le hj,lu]
def u7(l:Lay)(i:Int):List ByteArray:=if i=0 then l.ow else l.points
def Ob(v:zD)(i:Int):Option Addr:=if i=0 then v.a1 else v.a2
def XQ(v:zD)(i:Int):Nat:=if i=0 then v.c1 else v.c2
theorem anM{names:List ByteArray}{j:Nat}(hj:j<names.length):(strCells names)[j]?=some (.string (names.getD j ByteArray.empty)):=by
 simp[strCells,hj]
theorem flat_get{α:Type}{enc:α→List Value}{sz:Nat}(he:∀x,(enc x).length=sz):∀(xs:List α) (i j:Nat),j<sz→(xs.flatMap enc)[i*sz+j]?=(xs[i]?).bind (fun x=>(enc x)[j]?)
 |[],i,j,_=>by simp
 |x::xs,0,j,hj=>by
  simp only[List.flatMap_cons,Nat.zero_mul,Nat.zero_add]
  rw[List.getElem?_append_left (by rw[he];exact hj)]
  rfl
 |x::xs,i+1,j,hj=>by
  simp only[List.flatMap_cons]
  rw[List.getElem?_append_right (by rw[he,Nat.add_mul];omega),he]
  rw[show (i+1)*sz+j-sz=i*sz+j by rw[Nat.add_mul];omega]
  rw[flat_get he xs i j hj]
  simp
theorem aix{α:Type}{enc:α→List Value}{sz:Nat}(he:∀x,(enc x).length=sz)(xs:List α):(xs.flatMap enc).length=xs.length*sz:=by
 induction xs with
 |nil=>simp
 |cons x xs ih=>simp only[List.flatMap_cons,List.length_append,he,ih,List.length_cons,Nat.add_mul];omega
def Eb:nM:=⟨ByteArray.empty,0,0,0,0⟩
theorem anh{xs:List nM}{i j:Nat}{u:Value}(hi:i<xs.length)(hj:(nM.cells (xs.getD i Eb))[j]?=some u):(xs.flatMap nM.cells)[i*5+j]?=some u:=by
 have hjl:j<5:=by have:=(List.getElem?_eq_some_iff.1 hj).1;simpa [nM.cells] using this
 rw[flat_get (enc:=nM.cells) (sz:=5) (fun _=>rfl) xs i j hjl]
 have:xs[i]?=some (xs.getD i Eb):=by simp[hi]
 rw[this]
 exact hj
theorem ank{wo:Nat}{xs:List nM}{j:Nat}(hj:j<xs.length)(h:nJ wo ((xs.take j).map nM.name) (xs.drop j)=nJ wo [] xs):
  (qg (xs.getD j Eb).name ((xs.take j).map nM.name)≠0→nJ wo [] xs=qg (xs.getD j Eb).name ((xs.take j).map nM.name))∧
  (qg (xs.getD j Eb).name ((xs.take j).map nM.name)=0→Kq (xs.getD j Eb).name ((xs.take j).map nM.name)=(xs.take (j+1)).map nM.name∧
   (zh wo (xs.getD j Eb)=false→nJ wo [] xs=4)∧(zh wo (xs.getD j Eb)=true→nJ wo ((xs.take (j+1)).map nM.name) (xs.drop (j+1))=nJ wo [] xs)):=by
 have hd:xs.drop j=xs[j]::xs.drop (j+1):=List.drop_eq_getElem_cons hj
 have hg:xs.getD j Eb=xs[j]:=by simp[List.getD_eq_getElem?_getD,hj]
 have ht:(xs.take (j+1)).map nM.name=(xs.take j).map nM.name++[xs[j].name]:=by rw[List.take_succ_eq_append_getElem hj,List.map_append];rfl
 rw[hd,nJ] at h
 rw[hg]
 constructor
 ·intro hn;rw[if_pos hn] at h;exact h.symm
 ·intro hn
  rw[if_neg (fun h=>h hn)] at h
  rw[ht]
  refine⟨se2 hn,fun hb=>?_,fun hb=>?_⟩
  ·rw[if_pos hb] at h;exact h.symm
  ·rw[if_neg (by simp[hb])] at h;exact h
theorem ani{wo:Nat}{xs:List nM}{j:Nat}(hj:xs.length≤j)(h:nJ wo ((xs.take j).map nM.name) (xs.drop j)=nJ wo [] xs):nJ wo [] xs=0:=by
 rw[←h,List.drop_eq_nil_of_le hj,nJ]
theorem al3{v:zD}{l:Lay}{i:Int}(h0:0≤i)(h:i<2):([.slice v.a1 l.ow.length v.c1,.slice v.a2 l.points.length v.c2]:List Value)[i.toNat]?=some (.slice (Ob v i) (u7 l i).length (XQ v i)):=by
 have:i=0∨i=1:=by omega
 rcases this with rfl|rfl<;>rfl
theorem al0{l:Lay}{i:Int}(h0:0≤i)(h2:i<2)(hst:1≤i→lu [] l.ow=0)(hn:lu [] (u7 l i)=0):
  0≤i+1∧i+1≤2∧(1≤i+1→lu [] l.ow=0)∧(2≤i+1→lu [] l.points=0):=by
 have:i=0∨i=1:=by omega
 rcases this with rfl|rfl
 ·exact⟨by omega,by omega,fun _=>hn,by omega⟩
 ·exact⟨by omega,by omega,fun _=>hst (by omega),fun _=>hn⟩
theorem al1{l:Lay}{i e:Int}(h0:0≤i)(h2:i<2)(hf:wQ l=false)(hs:¬l.sections.length=0)(hst:1≤i→lu [] l.ow=0)(he:lu [] (u7 l i)=e)(hne:e≠0):kZ l=e:=by
 have:i=0∨i=1:=by omega
 rcases this with rfl|rfl
 ·have he':lu [] l.ow=e:=he
  rw[kZ,if_neg (by simp[hf]),if_neg hs,if_pos (by rw[he'];exact hne),he']
 ·have he':lu [] l.points=e:=he
  rw[kZ,if_neg (by simp[hf]),if_neg hs,if_neg (by simp[hst (by omega)]),if_pos (by rw[he'];exact hne),he']
theorem agp{l:Lay}{e:Int}(hf:wQ l=false)(hs:¬l.sections.length=0)(hst:lu [] l.ow=0)(hpt:lu [] l.points=0)(he:nJ l.ow.length [] l.sections=e)(hne:e≠0):kZ l=e:=by
 rw[kZ,if_neg (by simp[hf]),if_neg hs,if_neg (by simp[hst]),if_neg (by simp[hpt]),if_pos (by rw[he];exact hne),he]
theorem alE{l:Lay}(hf:wQ l=false)(hs:¬l.sections.length=0)(hst:lu [] l.ow=0)(hpt:lu [] l.points=0)(he:nJ l.ow.length [] l.sections=0):kZ l=qD l [] l.links:=by
 rw[kZ,if_neg (by simp[hf]),if_neg hs,if_neg (by simp[hst]),if_neg (by simp[hpt]),if_neg (by simp[he])]
theorem ahP (w : World) (v : zD) (l : Lay) (hl : GA 0 w.heap.size w v l)
    (hck : l.sections.length ≤ 96 ∧ l.links.length ≤ 192 → ∀ w' : World, GA 0 w'.heap.size w' v l → Calls Tryz.prog 100 #[.agg (v.cells l).toArray] w' (dw w' (.int .i64 (qD l [] l.links)))) : Calls Tryz.prog 64 #[.agg (v.cells l).toArray] w (dw w (.int .i64 (kZ l))) := by
  refine bW (args := [_]) Tryz.func64 rfl (Mem.start w) rfl ?_
  refine aF fun K1 hK1 => ?_
  refine aT ?_
  refine aY (zi (k := fun b1 => ?_))
  refine aZ dL ?_
  refine aU (hK1 _ _ ?_); clear hK1
  refine aF fun K2 hK2 => ?_
  refine aV ?_
  refine OG (γ := Bool) (env := fun q => [(1, .v (.pointer (some ⟨b1, 0, none⟩))), (13, .v (.bool q))]) (mem := fun q => [own b1 27 (v.cells l), old w]) (R := fun q => q = wQ l) ?_ ?_
  · intro IU hJ3
    refine aF fun K4 hK4 => ?_
    refine aT ?_
    refine aZ (ay 0) ?_
    refine aZ aD ?_
    refine aZ bf ?_
    refine aZ eO ?_
    refine aZ dL ?_
    refine aU (hK4 _ _ ?_); clear hK4
    refine xG rfl (fun hc1 => ?_) (fun hc1 => ?_)  -- t13
    ·
      refine aM (hJ3 (_) _ _ (by simp only [wQ]; congr 1; simp only [eq_iff_iff]; omega) ⟨rfl, rfl, trivial⟩ (fun _ h => h))
    ·
      refine aF fun K5 bT => ?_
      refine aT ?_
      refine aZ (ay 1) ?_
      refine aZ aD ?_
      refine aZ bf ?_
      refine aZ eO ?_
      refine aZ dL ?_
      refine aU (bT _ _ ?_); clear bT
      refine xG rfl (fun hc2 => ?_) (fun hc2 => ?_)  -- t13
      ·
        refine aM (hJ3 (_) _ _ (by simp only [wQ]; congr 1; simp only [eq_iff_iff]; omega) ⟨rfl, rfl, trivial⟩ (fun _ h => h))
      ·
        refine aF fun K6 bU => ?_
        refine aT ?_
        refine aZ (ay 2) ?_
        refine aZ aD ?_
        refine aZ bf ?_
        refine aZ eO ?_
        refine aZ dL ?_
        refine aU (bU _ _ ?_); clear bU
        refine xG rfl (fun hc3 => ?_) (fun hc3 => ?_)  -- t13
        ·
          refine aM (hJ3 (_) _ _ (by simp only [wQ]; congr 1; simp only [eq_iff_iff]; omega) ⟨rfl, rfl, trivial⟩ (fun _ h => h))
        ·
          refine aT ?_
          refine aZ (ay 3) ?_
          refine aZ aD ?_
          refine aZ bf ?_
          refine aZ eO ?_
          refine aZ dL ?_
          refine aU (hJ3 (_) _ _ (by simp only [wQ]; congr 1; simp only [eq_iff_iff]; omega) ⟨rfl, rfl, trivial⟩ (fun _ h => h))
  · intro q hR
    refine vR rfl (fun hc4 => ?_) (fun hc4 => ?_)  -- t13
    ·
      refine aF fun K7 eU => ?_
      refine aT ?_
      refine aZ dL ?_
      refine aU (eU _ _ ?_); clear eU
      refine aP (pY rfl rfl (fun w hm => qj hm (by rw [kZ, if_pos (by rw [← hR, hc4])])))
    ·
      have hfull : wQ l = false := by rw [← hR, hc4]
      have hb : l.ow.length ≤ 24 ∧ l.points.length ≤ 48 ∧ l.sections.length ≤ 96 ∧ l.links.length ≤ 192 := by simp only [wQ, decide_eq_false_iff_not] at hfull; omega
      obtain ⟨hb1, hb2, hb3, hb4⟩ := hb
      refine aF fun K8 fu => ?_
      refine aT ?_
      refine aZ (ay 2) ?_
      refine aZ aD ?_
      refine aZ bf ?_
      refine aZ fI ?_
      refine aZ dL ?_
      refine aU (fu _ _ ?_); clear fu
      refine xG rfl (fun jO => ?_) (fun jO => ?_)  -- t30
      ·
        refine aF fun K9 dY => ?_
        refine aT ?_
        refine aZ dL ?_
        refine aU (dY _ _ ?_); clear dY
        refine aP (pY rfl rfl (fun w hm => qj hm (by rw [kZ, if_neg (by simp [hfull]), if_pos (by omega)])))
      ·
        refine aM (hK2 _ _ ?_); clear hK2
        refine aF fun sK gy => ?_
        refine aF fun pR eH => ?_
        refine aT ?_
        refine aZ (ay 0) ?_
        refine aZ aD ?_
        refine aZ (ay 1) ?_
        refine aZ aD ?_
        refine aZ XV ?_
        refine aZ aH ?_
        refine aU (eH _ _ ?_); clear eH
        refine aV ?_
        refine GN (γ := Int) (env := fun i => [(1, .v (.pointer (some ⟨b1, 0, none⟩))), (39, .v (.agg #[.slice v.a1 l.ow.length v.c1, .slice v.a2 l.points.length v.c2])), (40, .v (.int .i64 i))]) (mem := fun i => [own b1 27 (v.cells l), old w]) (R := fun i => 0 ≤ i ∧ i ≤ 2 ∧ (1 ≤ i → lu [] l.ow = 0) ∧ (2 ≤ i → lu [] l.points = 0)) (μ := fun i => (2 - i).toNat) (0) (⟨by omega, by omega, by omega, by omega⟩) ⟨rfl, rfl, rfl, trivial⟩ (fun _ h => h) ?_
        intro i Li fQ hL1
        obtain ⟨hi0, hi2, Px, Y8⟩ := Li
        refine aF fun vN iI => ?_
        refine aT ?_
        refine aZ bK ?_
        refine aU (iI _ _ ?_); clear iI
        refine aF fun rU fT => ?_
        refine xG rfl (fun hc6 => ?_) (fun hc6 => ?_)  -- t41
        ·
          refine aM (fT _ _ ?_); clear fT
          refine aF fun zA kg => ?_
          refine aV ?_
          refine aF fun yE jN => ?_
          refine aT ?_
          refine aZ (aie (v := .slice (Ob v i) (u7 l i).length (XQ v i)) 2 (fun _ => by omega) (fun _ => al3 hi0 hc6)) ?_
          refine aZ dL ?_
          refine aU (jN _ _ ?_); clear jN
          refine aF fun yF jC => ?_
          refine aT ?_
          refine aY (agH (k := fun b5 => ?_))
          refine aZ dL ?_
          refine aU (jC _ _ ?_); clear jC
          refine aF fun Fh oG => ?_
          refine aT ?_
          refine aZ aH ?_
          have hnl : (u7 l i).length ≤ 48 := by unfold u7; split <;> omega
          have hns : Sl 0 w.heap.size w (Ob v i) (strCells (u7 l i)) := by unfold Ob u7; split; exact hl.st; exact hl.pt
          refine aZ bf ?_
          refine aZ aH ?_
          refine aU (oG _ _ ?_); clear oG
          refine aV ?_
          refine GN (γ := Int) (env := fun j => [(1, .v (.pointer (some ⟨b1, 0, none⟩))), (39, .v (.agg #[.slice v.a1 l.ow.length v.c1, .slice v.a2 l.points.length v.c2])), (40, .v (.int .i64 i)), (5, .v (.map (some b5))), (44, .v (.slice (Ob v i) (u7 l i).length (XQ v i))), (45, .v (.int .i64 ((u7 l i).length : Int))), (46, .v (.int .i64 j))]) (mem := fun j => [zU b5 ((u7 l i).take j.toNat), own b1 27 (v.cells l), old w]) (R := fun j => 0 ≤ j ∧ j ≤ (u7 l i).length ∧ lu ((u7 l i).take j.toNat) ((u7 l i).drop j.toNat) = lu [] (u7 l i)) (μ := fun j => ((u7 l i).length - j).toNat) (0) (⟨by omega, by omega, rfl⟩) ⟨rfl, rfl, rfl, rfl, rfl, rfl, rfl, trivial⟩ (fun _ h => h) ?_
          intro j hR2 qM hL2
          obtain ⟨hj0, hj1, hj2⟩ := hR2
          refine aF fun El nH => ?_
          refine aT ?_
          refine aZ bK ?_
          refine aU (nH _ _ ?_); clear nH
          refine aF fun CX mE => ?_
          refine xG rfl (fun lY => ?_) (fun lY => ?_)  -- t47
          ·
            refine aM (mE _ _ ?_); clear mE
            refine aF fun CY mF => ?_
            refine aV ?_
            refine aF fun KC uw => ?_
            refine aT ?_
            refine aZ (GV 1 (fun _ => hns.addr (by simp [strCells]; omega))) ?_
            refine aZ (Lc (KS (j := j.toNat * 1) hns (by rw [Nat.mul_one]; exact anM (by omega)) (Nat.le_refl _) (by repeat (first | exact Has.head | apply Has.tail)))) ?_
            refine aZ dL ?_
            refine aU (uw _ _ ?_); clear uw
            refine aF fun CZ ni => ?_
            refine aT ?_
            refine aZ aH ?_
            refine aZ aH ?_
            have hstep := al2 (names := u7 l i) (j := j.toNat) (by omega) hj2
            refine aY (agF (hc := fun w hm hφ hfp => abV w _ b5 _ hφ hfp) (k := fun _ _ => ?_))
            refine aZ dL ?_
            refine aU (ni _ _ ?_); clear ni
            refine aF fun SC xJ => ?_
            refine aT ?_
            refine aZ aH ?_
            refine aZ gH ?_
            refine aU (xJ _ _ ?_); clear xJ
            refine xG rfl (fun hc8 => ?_) (fun hc8 => ?_)  -- t54
            ·
              refine aF fun Gy qz => ?_
              refine aT ?_
              refine aZ aH ?_
              refine aZ dL ?_
              refine aU (qz _ _ ?_); clear qz
              refine aP (pY rfl rfl (fun w hm => qj hm (by rw [al1 hi0 hc6 hfull (by omega) Px (hstep.1 hc8) hc8])))
            ·
              refine aM (mF _ _ ?_); clear mF
              refine aT ?_
              refine aZ dh ?_
              refine aZ aH ?_
              have hz : qg ((u7 l i).getD j.toNat ByteArray.empty) ((u7 l i).take j.toNat) = 0 := Decidable.of_not_not hc8
              refine aU (hL2 (j + 1) _ _ (⟨by omega, by omega, by rw [show (j + 1).toNat = j.toNat + 1 by omega]; exact (hstep.2 hz).1⟩) (by omega) ⟨rfl, rfl, rfl, rfl, rfl, rfl, rfl, trivial⟩ (fun w hm => by rw [show (j + 1).toNat = j.toNat + 1 by omega, ← (hstep.2 hz).2]; exact hm))
          ·
            refine bX (kg _ _ ?_); clear kg
            refine aT ?_
            refine aZ dh ?_
            refine aZ aH ?_
            refine aU (hL1 (i + 1) _ _ (al0 hi0 hc6 Px (alZ (by omega) hj2)) (by omega) ⟨rfl, rfl, rfl, trivial⟩ (fun w hm => hm.sub (by repeat (first | exact List.Sublist.refl _ | apply List.Sublist.cons_cons | apply List.Sublist.cons))))
        ·
          refine bX (gy _ _ ?_); clear gy
          refine aF fun Xi Dm => ?_
          refine aT ?_
          refine aY (agH (k := fun b9 => ?_))
          refine aZ dL ?_
          refine aU (Dm _ _ ?_); clear Dm
          refine aF fun Gz qA => ?_
          refine aF fun N7 wR => ?_
          refine aT ?_
          refine aZ (ay 2) ?_
          refine aZ aD ?_
          refine aZ bf ?_
          refine aZ aH ?_
          refine aU (wR _ _ ?_); clear wR
          refine aV ?_
          refine GN (γ := Int) (env := fun j => [(1, .v (.pointer (some ⟨b1, 0, none⟩))), (9, .v (.map (some b9))), (60, .v (.slice v.a3 l.sections.length v.c3)), (61, .v (.int .i64 (l.sections.length : Int))), (62, .v (.int .i64 j))]) (mem := fun j => [zU b9 ((l.sections.take j.toNat).map nM.name), own b1 27 (v.cells l), old w]) (R := fun j => 0 ≤ j ∧ j ≤ l.sections.length ∧ nJ l.ow.length ((l.sections.take j.toNat).map nM.name) (l.sections.drop j.toNat) = nJ l.ow.length [] l.sections) (μ := fun j => (l.sections.length - j).toNat) (0) (⟨by omega, by omega, rfl⟩) ⟨rfl, rfl, rfl, rfl, rfl, trivial⟩ (fun _ h => h) ?_
          intro j hR3 zC hL3
          obtain ⟨hj0, hj1, hj2⟩ := hR3
          refine aF fun SE zM => ?_
          refine aT ?_
          refine aZ bK ?_
          refine aU (zM _ _ ?_); clear zM
          refine aF fun IQ rX => ?_
          refine xG rfl (fun rY => ?_) (fun rY => ?_)  -- t63
          ·
            refine aM (rX _ _ ?_); clear rX
            refine aF fun KD uy => ?_
            refine aV ?_
            refine aF fun SF zN => ?_
            refine aT ?_
            refine aZ (GV 5 (fun _ => hl.se.addr (by rw [aix (sz := 5) (fun _ => rfl)]; omega))) ?_
            refine aZ (XY (l := (l.sections.getD j.toNat Eb).cells) (fun w hm q u hu => by rw [Nat.add_assoc]; exact KS hl.se (anh (by omega) hu) (Nat.le_refl _) (by repeat (first | exact Has.head | apply Has.tail)) w hm)) ?_
            refine aY (iP rfl (k := fun b11 => ?_))
            refine aY (zk (k := ?_))
            refine aU (zN _ _ ?_); clear zN
            refine aF fun K32 GZ => ?_
            refine aF fun SG xK => ?_
            refine aT ?_
            refine aZ (ay 0) ?_
            refine aZ aD ?_
            refine aZ aH ?_
            have hstep := ank (wo := l.ow.length) (xs := l.sections) (j := j.toNat) (by omega) hj2
            refine aY (agF (hc := fun w hm hφ hfp => abV w _ b9 _ hφ hfp) (k := fun _ _ => ?_))
            refine aZ dL ?_
            refine aU (xK _ _ ?_); clear xK
            refine aF fun K34 G5 => ?_
            refine aT ?_
            refine aZ aH ?_
            refine aZ gH ?_
            refine aU (G5 _ _ ?_); clear G5
            refine xG rfl (fun uQ => ?_) (fun uQ => ?_)  -- t71
            ·
              refine aF fun Xj Dn => ?_
              refine aT ?_
              refine aZ aH ?_
              refine aZ dL ?_
              refine aU (Dn _ _ ?_); clear Dn
              refine aP (pY rfl rfl (fun w hm => qj hm (by rw [agp hfull (by omega) (Px (by omega)) (Y8 (by omega)) (hstep.1 uQ) uQ])))
            ·
              have hz : qg (l.sections.getD j.toNat Eb).name ((l.sections.take j.toNat).map nM.name) = 0 := Decidable.of_not_not uQ
              refine aM (GZ _ _ ?_); clear GZ
              refine aF fun K36 Pb => ?_
              refine aT ?_
              refine aZ bM ?_
              refine aZ bM ?_
              refine aY (nW (fun w hm => anl w v l _) ?_)
              refine aZ dN ?_
              refine aU (Pb _ _ ?_); clear Pb
              refine vR rfl (fun uS => ?_) (fun uS => ?_)  -- t76
              ·
                refine aF fun Xk Dp => ?_
                refine aT ?_
                refine aZ dL ?_
                refine aU (Dp _ _ ?_); clear Dp
                refine aP (pY rfl rfl (fun w hm => qj hm (by rw [agp hfull (by omega) (Px (by omega)) (Y8 (by omega)) ((hstep.2 hz).2.1 (by simpa using uS)) (by decide)])))
              ·
                refine aM (uy _ _ ?_); clear uy
                refine aT ?_
                refine aZ dh ?_
                refine aZ aH ?_
                refine aU (hL3 (j + 1) _ _ (⟨by omega, by omega, by rw [show (j + 1).toNat = j.toNat + 1 by omega]; exact (hstep.2 hz).2.2 (by simpa using uS)⟩) (by omega) ⟨rfl, rfl, rfl, rfl, rfl, trivial⟩ (fun w hm => by rw [show (j + 1).toNat = j.toNat + 1 by omega, ← (hstep.2 hz).1]; exact hm.sub (by repeat (first | exact List.Sublist.refl _ | apply List.Sublist.cons_cons | apply List.Sublist.cons))))
          ·
            refine bX (qA _ _ ?_); clear qA
            refine aF fun K38 Pf => ?_
            refine aT ?_
            refine aZ bM ?_
            refine aY (nW (fun w hm => hck (by omega) w (GA.below hl (hm.below (by repeat (first | exact Has.head | apply Has.tail))))) ?_)
            refine aZ dL ?_
            refine aU (Pf _ _ ?_); clear Pf
            refine aP (pY rfl rfl (fun w hm => qj hm (by rw [alE hfull (by omega) (Px (by omega)) (Y8 (by omega)) (ani (by omega) hj2)])))
theorem ahQ(w:World)(v:zD)(l:Lay)(hl:GA 0 w.heap.size w v l):Calls Tryz.prog 64 #[.agg (v.cells l).toArray] w (dw w (.int .i64 (kZ l))):=
 ahP w v l hl fun hb w' hl'=>ahH w' v l hl' hb
end Go.Proofs.YtcalibhfgdncaaaGreat
namespace Go.Proofs.YtcalibhfgdncaaaGreat
open Go.Dc Go.RowKit
theorem V4{α:Type}[ak α]{S:bF}{w:World}{r:SR (ak.R α)}{xs:List α}(f:α→List Value)(hf:∀(q:ak.R α) x,ak.enc q x=f x)(hS:∀k,S k→k<w.heap.size)(h:tK S w r xs):
  Go.iD.Sl 0 w.heap.size w r.a (xs.flatMap f):=by
 have he:∀(l:List α) (i:Nat),l.flatMap f=iZ r.es l i:=by
  intro l
  induction l with
  |nil=>intro i;rfl
  |cons x l ih=>intro i;rw[List.flatMap_cons,iZ,hf,ih (i+1)]
 intro j v hv
 rw[he xs 0] at hv
 obtain⟨i,j',x,rfl,hj,hx,hv⟩:=Tx r.es hv
 obtain⟨h1,h2,h3,_⟩:=h.2.2 i x hx
 exact⟨h1,Nat.zero_le _,hS _ h2,h3 j' v hv⟩
def rR(s:Section):nM:=⟨s.Name.ba,s.Length,s.Limit,s.kr,s.nN⟩
def kJ(k:Link):fU:=⟨k.A,k.dQ,k.B,k.dV,k.Point,k.Pos⟩
def fG(l:Layout):Lay:=⟨l.bB.map Str.ba,l.bN.map Str.ba,l.Sections.map rR,l.Links.map kJ⟩
def Qg(l:Layout):Option Int:=some (kZ (fG l))
theorem aeJ(S:bF)(w:World)(l0:Layout)(aG:ak.R Layout)(y:Int)(hM:Qg l0=some y)(hS:∀k,S k→k<w.heap.size)(eT:ak.ok S w aG l0):
  Calls Tryz.prog 64 #[.agg #[.slice aG.1.a l0.bB.length aG.1.cap,.slice aG.2.1.a l0.bN.length aG.2.1.cap,.slice aG.2.2.1.a l0.Sections.length aG.2.2.1.cap,.slice aG.2.2.2.a l0.Links.length aG.2.2.2.cap]] w (dw w (.int .i64 y)):=by
 obtain rfl:=some_inj hM
 obtain⟨h1,h2,h3,h4⟩:=eT
 have hstr:∀l:List Str,strCells (l.map Str.ba)=l.flatMap (fun s=>[.string s.ba]):=by
  intro l
  unfold strCells
  induction l with
  |nil=>rfl
  |cons x l ih=>simp only[List.map_cons,List.flatMap_cons,ih];rfl
 have:=ahQ w ⟨aG.1.a,aG.1.cap,aG.2.1.a,aG.2.1.cap,aG.2.2.1.a,aG.2.2.1.cap,aG.2.2.2.a,aG.2.2.2.cap⟩ (fG l0)
  ⟨by show Go.iD.Sl _ _ _ aG.1.a (strCells (l0.bB.map Str.ba));rw[hstr];exact V4 _ (fun _ _=>rfl) hS h1,
   by show Go.iD.Sl _ _ _ aG.2.1.a (strCells (l0.bN.map Str.ba));rw[hstr];exact V4 _ (fun _ _=>rfl) hS h2,
   by show Go.iD.Sl _ _ _ aG.2.2.1.a ((l0.Sections.map rR).flatMap nM.cells);rw[List.flatMap_map];exact V4 _ (fun _ _=>rfl) hS h3,
   by show Go.iD.Sl _ _ _ aG.2.2.2.a ((l0.Links.map kJ).flatMap fU.cells);rw[List.flatMap_map];exact V4 _ (fun _ _=>rfl) hS h4⟩
 have hc:(zD.cells ⟨aG.1.a,aG.1.cap,aG.2.1.a,aG.2.1.cap,aG.2.2.1.a,aG.2.2.1.cap,aG.2.2.2.a,aG.2.2.2.cap⟩ (fG l0))=[.slice aG.1.a l0.bB.length aG.1.cap,.slice aG.2.1.a l0.bN.length aG.2.1.cap,.slice aG.2.2.1.a l0.Sections.length aG.2.2.1.cap,.slice aG.2.2.2.a l0.Links.length aG.2.2.2.cap]:=by
  simp[zD.cells,fG]
 rw[hc] at this
 exact this
end Go.Proofs.YtcalibhfgdncaaaGreat
