/- Several parts of the engine, one behind the other. -/
import Derived.Test.YtcalibhfgdncaaaGreatDoorEm
import Derived.Test.YtcalibhfgdncaaaGreatDoorProg
import Derived.Test.YtcalibhfgdncaaaGreatDoorTypes
set_option linter.all false
namespace Go.Proofs.YtcalibhfgdncaaaGreatDoor
open Go.eT Go.RowKit
set_option maxRecDepth 10000
def mI (c : Int) : Bool := (decide (65 ≤ c) && decide (c ≤ 90)) || (decide (97 ≤ c) && decide (c ≤ 122))
def rX (c : Int) : Bool := decide (48 ≤ c) && decide (c ≤ 57)
theorem WV (w : World) (c : Int) : Calls Tryz.prog 134 #[.int .u8 c] w (bW w (.bool (mI c))) := by
  refine bR (args := [_]) Tryz.func134 rfl (Mem.start w) rfl ?_
  refine aD fun K1 hK1 => ?_
  refine aR ?_
  refine aH bX ?_
  refine aU (hK1 _ _ ?_); clear hK1
  refine aD fun K2 hK2 => ?_
  refine aR ?_
  refine aH aG ?_
  refine aH gW ?_
  refine aH aG ?_
  refine av rfl aG ?_
  refine av rfl kr ?_
  refine aH cO ?_
  refine aH aG ?_
  refine av rfl aG ?_
  refine av rfl gW ?_
  refine av rfl aG ?_
  refine av rfl aG ?_
  refine av rfl kr ?_
  refine av rfl cO ?_
  refine aH dw ?_
  refine aH bX ?_
  refine aU (hK2 _ _ ?_); clear hK2
  refine aL (kJ rfl rfl (fun w hm => aW hm rfl))
theorem aeT (w : World) (c : Int) : Calls Tryz.prog 135 #[.int .u8 c] w (bW w (.bool (rX c))) := by
  refine bR (args := [_]) Tryz.func135 rfl (Mem.start w) rfl ?_
  refine aD fun K1 hK1 => ?_
  refine aR ?_
  refine aH bX ?_
  refine aU (hK1 _ _ ?_); clear hK1
  refine aD fun K2 hK2 => ?_
  refine aR ?_
  refine aH aG ?_
  refine aH gW ?_
  refine aH aG ?_
  refine av rfl aG ?_
  refine av rfl kr ?_
  refine aH cO ?_
  refine aH bX ?_
  refine aU (hK2 _ _ ?_); clear hK2
  refine aL (kJ rfl rfl (fun w hm => aW hm rfl))
def mF (c : Int) : Bool := mI c || rX c || decide (c = 95)
def jH (s : ByteArray) : Bool := decide (1 ≤ s.size) && decide (s.size ≤ 12) && mI (bt s 0) && (List.range s.size).all fun i => mF (bt s i)
theorem aaL {c : Int} (h : ((!mI c && !rX c) && decide (c ≠ 95)) = false) : mF c = true := by
  unfold mF
  cases hl : mI c <;> cases hd : rX c <;> simp [hl, hd] at h ⊢
  exact h
theorem afy {s : ByteArray} (h : ((decide ((s.size : Int) < 1) || decide (12 < (s.size : Int))) || !mI (bt s 0)) = true) : jH s = false := by
  unfold jH
  cases hl : mI (bt s 0)
  · simp
  · simp [hl] at h
    rcases h with h | h
    · have : ¬ (1 ≤ s.size) := by omega
      simp [this]
    · have : ¬ (s.size ≤ 12) := by omega
      simp [this]
theorem afz {s : ByteArray} {i : Int} (h0 : 0 ≤ i) (h1 : i < s.size) (h : ((!mI (bt s i.toNat) && !rX (bt s i.toNat)) && decide (bt s i.toNat ≠ 95)) = true) : jH s = false := by
  have hc : mF (bt s i.toNat) = false := by
    unfold mF
    cases hl : mI (bt s i.toNat) <;> cases hd : rX (bt s i.toNat) <;> simp_all
  have : ((List.range s.size).all fun i => mF (bt s i)) = false := by
    rw [List.all_eq_false]
    exact ⟨i.toNat, by rw [List.mem_range]; omega, by simp [hc]⟩
  unfold jH
  rw [this]
  simp
theorem afB {s : ByteArray} {i : Int} (h : ((¬ (s.size : Int) < 1) ∧ ¬ 12 < (s.size : Int)) ∧ mI (bt s 0) = true) (hi : i = s.size) (hall : ∀ j, j < i.toNat → mF (bt s j) = true) : jH s = true := by
  unfold jH
  have h1 : 1 ≤ s.size := by omega
  have h2 : s.size ≤ 12 := by omega
  simp only [h1, h2, decide_true, h.2, Bool.true_and, List.all_eq_true, List.mem_range]
  intro j hj
  exact hall j (by omega)
theorem afA (w : World) (s : ByteArray) : Calls Tryz.prog 78 #[.string s] w (bW w (.bool (jH s))) := by
  refine bR (args := [_]) Tryz.func78 rfl (Mem.start w) rfl ?_
  refine aD fun K1 hK1 => ?_
  refine aR ?_
  refine aH bX ?_
  refine aU (hK1 _ _ ?_); clear hK1
  refine aD fun K2 hK2 => ?_
  refine aD fun K3 hK3 => ?_
  refine aR ?_
  refine aH aG ?_
  refine aH Ii ?_
  refine aH bN ?_
  refine aH aG ?_
  refine av rfl aG ?_
  refine av rfl Ii ?_
  refine av rfl fP ?_
  refine aH dw ?_
  refine aH aG ?_
  refine av rfl aG ?_
  refine av rfl Ml ?_
  refine iX rfl (fun _ w _ => WV w _) ?_
  refine av rfl dN ?_
  refine aH dw ?_
  refine aU (hK3 _ _ ?_); clear hK3
  refine pG rfl (fun hc1 => ?_) (fun hc1 => ?_)  -- t17
  ·
    refine aD fun K4 hK4 => ?_
    refine aR ?_
    refine aH bX ?_
    refine aU (hK4 _ _ ?_); clear hK4
    refine aL (kJ rfl rfl (fun w hm => aW hm (congrArg Value.bool (afy hc1).symm)))
  ·
    refine aM (hK2 _ _ ?_); clear hK2
    refine aD fun K5 cu => ?_
    refine aD fun K6 cK => ?_
    refine aR ?_
    refine aH aG ?_
    refine aH Ii ?_
    refine aH aG ?_
    refine aU (cK _ _ ?_); clear cK
    refine bf ?_  -- block 0
    simp only [Bool.or_eq_false_iff, decide_eq_false_iff_not, Bool.not_eq_false'] at hc1
    refine dF (γ := Int) (env := fun i => [(0, .v (.string s)), (19, .v (.int .i64 (s.size : Int))), (20, .v (.int .i64 i))]) (mem := fun _ => [old w])
      (R := fun i => 0 ≤ i ∧ i ≤ s.size ∧ ∀ j, j < i.toNat → mF (bt s j) = true) (μ := fun i => (s.size - i).toNat) 0 ⟨by omega, by omega, fun j hj => by simp at hj⟩ ⟨rfl, rfl, rfl, trivial⟩ (fun _ h => h) ?_
    · intro i hR KL hL
      obtain ⟨hi0, hi1, hall⟩ := hR
      refine aD fun K7 dI => ?_
      refine aR ?_
      refine aH bN ?_
      refine aU (dI _ _ ?_); clear dI
      refine aD fun K8 fE => ?_
      refine pI rfl (fun hc => ?_) (fun hc => ?_)  -- t21
      ·
        refine aM (fE _ _ ?_); clear fE
        refine aD fun K9 eZ => ?_
        refine bf ?_  -- block 1
        refine aD fun pE gu => ?_
        refine aR ?_
        refine aH aG ?_
        refine aH bX ?_
        refine aU (gu _ _ ?_); clear gu
        refine aD fun oG fM => ?_
        refine aR ?_
        refine aH aG ?_
        refine aH aG ?_
        refine aH Ml ?_
        refine aF (bg (fun w _ => WV w _) ?_)
        refine aH dN ?_
        refine aH aG ?_
        refine av rfl aG ?_
        refine av rfl aG ?_
        refine av rfl Ml ?_
        refine iX rfl (fun _ w _ => aeT w _) ?_
        refine av rfl dN ?_
        refine aH cO ?_
        refine aH aG ?_
        refine av rfl aG ?_
        refine av rfl aG ?_
        refine av rfl Ml ?_
        refine av rfl fB ?_
        refine aH cO ?_
        refine aU (fM _ _ ?_); clear fM
        refine pG rfl (fun hc2 => ?_) (fun hc2 => ?_)  -- t40
        ·
          refine aD fun uq iU => ?_
          refine aR ?_
          refine aH bX ?_
          refine aU (iU _ _ ?_); clear iU
          refine aL (kJ rfl rfl (fun w hm => aW hm (congrArg Value.bool (afz hi0 (by assumption) hc2).symm)))
        ·
          refine aM (eZ _ _ ?_); clear eZ
          refine aR ?_
          refine aH dh ?_
          refine aH aG ?_
          refine aU (hL (i + 1) _ _ ⟨by omega, by omega, fun j hj => ?_⟩ (by omega) ⟨rfl, rfl, rfl, trivial⟩ (fun _ h => h))
          by_cases hji : j < i.toNat
          · exact hall j hji
          · obtain rfl : j = i.toNat := by omega
            exact aaL hc2
      ·
        -- exit 0
        refine dD (cu _ _ ?_); clear cu
        refine aD fun uM jr => ?_
        refine aR ?_
        refine aH bX ?_
        refine aU (jr _ _ ?_); clear jr
        refine aL (kJ rfl rfl (fun w hm => aW hm (congrArg Value.bool (afB hc1 (by omega) hall).symm)))
end Go.Proofs.YtcalibhfgdncaaaGreatDoor
namespace Go.Proofs.YtcalibhfgdncaaaGreatDoor
open Go.eT Go.RowKit
set_option maxRecDepth 10000
structure jM where
  name : ByteArray
  len : Int
  lim : Int
  Pz : Int
  Tj : Int
def jM.cells (s : jM) : List Value := [.string s.name, .int .i64 s.len, .int .i64 s.lim, .int .i64 s.Pz, .int .i64 s.Tj]
structure dY where
  a : Int
  ji : Int
  b : Int
  jG : Int
  point : Int
  pos : Int
def dY.cells (k : dY) : List Value := [.int .i64 k.a, .int .i64 k.ji, .int .i64 k.b, .int .i64 k.jG, .int .i64 k.point, .int .i64 k.pos]
structure Lay where
  kW : List ByteArray
  points : List ByteArray
  sections : List jM
  links : List dY
def strCells (l : List ByteArray) : List Value := l.map .string
structure qL where
  a1 : Option Addr
  c1 : Nat
  a2 : Option Addr
  c2 : Nat
  a3 : Option Addr
  c3 : Nat
  a4 : Option Addr
  c4 : Nat
def qL.cells (v : qL) (l : Lay) : List Value := [.slice v.a1 l.kW.length v.c1, .slice v.a2 l.points.length v.c2, .slice v.a3 l.sections.length v.c3, .slice v.a4 l.links.length v.c4]
structure zf (lo hi : Nat) (w : World) (v : qL) (l : Lay) : Prop where
  st : Sl lo hi w v.a1 (strCells l.kW)
  pt : Sl lo hi w v.a2 (strCells l.points)
  se : Sl lo hi w v.a3 (l.sections.flatMap jM.cells)
  li : Sl lo hi w v.a4 (l.links.flatMap dY.cells)
def jR (s : ByteArray) (seen : List ByteArray) : Int := if jH s = false then 3 else if s ∈ seen then 5 else 0
def CP (s : ByteArray) (seen : List ByteArray) : List ByteArray := if jR s seen = 0 then seen ++ [s] else seen
def tV (mW : Nat) (s : jM) : Bool := ((((((decide (1 ≤ s.len) && decide (s.len ≤ 400)) && decide (1000 ≤ s.lim)) && decide (s.lim ≤ 100000)) && decide (-40 ≤ s.Pz)) && decide (s.Pz ≤ 40)) && decide (-1 ≤ s.Tj)) && decide (s.Tj < (mW : Int))
theorem ahk (w : World) (v : qL) (l : Lay) (s : jM) : Calls Tryz.prog 97 #[.agg (v.cells l).toArray, .agg s.cells.toArray] w (bW w (.bool (tV l.kW.length s))) := by
  refine bR (args := [_, _]) Tryz.func97 rfl (Mem.start w) rfl ?_
  refine aD fun K1 hK1 => ?_
  refine aR ?_
  refine aF (bU (k := fun b2 => ?_))
  refine aF (bU (k := fun b3 => ?_))
  refine aH bX ?_
  refine aU (hK1 _ _ ?_); clear hK1
  refine aD fun K2 hK2 => ?_
  refine aR ?_
  refine aH (ay 1) ?_
  refine aH aC ?_
  refine aH gW ?_
  refine aH aG ?_
  refine av rfl (ay 1) ?_
  refine av rfl aC ?_
  refine av rfl kr ?_
  refine aH cO ?_
  refine aH aG ?_
  refine av rfl (ay 2) ?_
  refine av rfl aC ?_
  refine av rfl gW ?_
  refine aH cO ?_
  refine aH aG ?_
  refine av rfl (ay 2) ?_
  refine av rfl aC ?_
  refine av rfl kr ?_
  refine aH cO ?_
  refine aH aG ?_
  refine av rfl (ay 3) ?_
  refine av rfl aC ?_
  refine av rfl gW ?_
  refine aH cO ?_
  refine aH aG ?_
  refine av rfl (ay 3) ?_
  refine av rfl aC ?_
  refine av rfl kr ?_
  refine aH cO ?_
  refine aH aG ?_
  refine av rfl (ay 4) ?_
  refine av rfl aC ?_
  refine av rfl gW ?_
  refine aH cO ?_
  refine aH aG ?_
  refine av rfl (ay 4) ?_
  refine av rfl aC ?_
  refine av rfl (ay 0) ?_
  refine av rfl aC ?_
  refine av rfl bE ?_
  refine av rfl bN ?_
  refine aH cO ?_
  refine aH bX ?_
  refine aU (hK2 _ _ ?_); clear hK2
  refine aL (kJ rfl rfl (fun w hm => aW hm rfl))
theorem ne1 {s : ByteArray} {S : List ByteArray} (h : (!jH s) = true) : jR s S = 3 := by simp at h; simp [jR, h]
theorem Xr {s : ByteArray} {S : List ByteArray} (h : (!jH s) = false) (h2 : s ∈ S) : jR s S = 5 := by simp at h; simp [jR, h, h2]
theorem Xt {s : ByteArray} {S : List ByteArray} (h : (!jH s) = false) (h2 : ¬ s ∈ S) : jR s S = 0 := by simp at h; simp [jR, h, h2]
theorem ZB {s : ByteArray} {S : List ByteArray} (h : jR s S ≠ 0) : CP s S = S := by simp [CP, h]
theorem SX {s : ByteArray} {S : List ByteArray} (h : jR s S = 0) : CP s S = S ++ [s] := by simp [CP, h]
theorem Vd (w : World) (s : ByteArray) (b : Nat) (S : List ByteArray) (hφ : (qX b S).φ w) (hb : ∀ k, (qX b S).fp k → k < w.heap.size) :
    Calls Tryz.prog 96 #[.string s, .map (some b)] w (Ut (qX b S) (fun _ : Unit => .int .i64 (jR s S)) (fun _ => True) (fun _ => qX b (CP s S)) w) := by
  refine bR (args := [_, _]) Tryz.func96 rfl (Mem.ahA (qX b S) hφ hb) rfl ?_
  refine aD fun K1 hK1 => ?_
  refine aR ?_
  refine aH bX ?_
  refine aU (hK1 _ _ ?_); clear hK1
  refine aD fun K2 hK2 => ?_
  refine bf ?_
  refine aD fun K3 hK3 => ?_
  refine aR ?_
  refine aH aG ?_
  refine aF (bg (fun w hm => afA w _) ?_)
  refine aH dN ?_
  refine aH bX ?_
  refine aU (hK3 _ _ ?_); clear hK3
  refine pG rfl (fun hc1 => ?_) (fun hc1 => ?_)  -- t5
  ·
    refine aD fun K4 hK4 => ?_
    refine aR ?_
    refine aH bX ?_
    refine aU (hK4 _ _ ?_); clear hK4
    refine aL (kJ rfl rfl (fun w hm => ⟨(), by rw [ne1 hc1], trivial, by rw [ZB (by rw [ne1 hc1]; decide)]; exact Has.head.φ hm, fun k hk => ⟨.inl hk, Has.lt (c := qX b S) Has.head hm hk⟩, hm.frame (.tail .head)⟩))
  ·
    refine aD fun K5 cu => ?_
    refine aR ?_
    refine aH aG ?_
    refine aH aG ?_
    refine aH abf ?_
    refine aH bX ?_
    refine aU (cu _ _ ?_); clear cu
    refine pI rfl (fun hc2 => ?_) (fun hc2 => ?_)  -- t9
    ·
      refine aD fun K6 cK => ?_
      refine aR ?_
      refine aH bX ?_
      refine aU (cK _ _ ?_); clear cK
      refine aL (kJ rfl rfl (fun w hm => ⟨(), by rw [Xr hc1 hc2], trivial, by rw [ZB (by rw [Xr hc1 hc2]; decide)]; exact Has.head.φ hm, fun k hk => ⟨.inl hk, Has.lt (c := qX b S) Has.head hm hk⟩, hm.frame (.tail .head)⟩))
    ·
      refine aM (hK2 _ _ ?_); clear hK2
      refine aD fun K7 dI => ?_
      refine aR ?_
      refine aH aG ?_
      refine aH aG ?_
      refine aF (ahx hc2 .head ?_)
      refine aU (dI _ _ ?_); clear dI
      refine aD fun K8 fE => ?_
      refine aR ?_
      refine aH bX ?_
      refine aU (fE _ _ ?_); clear fE
      refine aL (kJ rfl rfl (fun w hm => ⟨(), by rw [Xt hc1 hc2], trivial, by rw [SX (Xt hc1 hc2)]; exact Has.head.φ hm, fun k hk => ⟨.inl hk, Has.lt (c := qX b (S ++ [s])) Has.head hm hk⟩, hm.frame (.tail .head)⟩))
end Go.Proofs.YtcalibhfgdncaaaGreatDoor
namespace Go.Proofs.YtcalibhfgdncaaaGreatDoor
open Go.eT Go.RowKit
set_option maxRecDepth 10000
theorem zf.below {w w' : World} {v : qL} {l : Lay} (h : zf 0 w.heap.size w v l) (hb : Below w.heap.size w w') : zf 0 w'.heap.size w' v l :=
  ⟨h.st.mono (Nat.le_refl _) hb.size (fun k _ hk => hb.block k hk), h.pt.mono (Nat.le_refl _) hb.size (fun k _ hk => hb.block k hk), h.se.mono (Nat.le_refl _) hb.size (fun k _ hk => hb.block k hk), h.li.mono (Nat.le_refl _) hb.size (fun k _ hk => hb.block k hk)⟩
def atEnd (done : List dY) (e : Int) : List dY := done.filter (fun k => decide (2 * k.a + k.ji = e) || decide (2 * k.b + k.jG = e))
def BO (a ae b be : Int) (k : dY) : Bool := (decide (a = k.a ∧ ae = k.ji) && decide (b = k.b ∧ be = k.jG)) || (decide (a = k.b ∧ ae = k.jG) && decide (b = k.a ∧ be = k.ji))
def qp (k : dY) : List dY → Bool
  | [] => true
  | [x] => (decide (k.point ≠ -1) && decide (k.point = x.point)) && decide (k.pos ≠ x.pos)
  | _ => false
def lq (l : Lay) (k : dY) : Bool :=
  (((((((decide (0 ≤ k.a) && decide (k.a < (l.sections.length : Int))) && decide (0 ≤ k.b)) && decide (k.b < (l.sections.length : Int))) && (decide (k.ji = 0) || decide (k.ji = 1))) && (decide (k.jG = 0) || decide (k.jG = 1))) && decide (-1 ≤ k.point)) && decide (k.point < (l.points.length : Int))) && (decide (k.pos = 0) || (decide (k.pos = 1) && decide (k.point ≠ -1)))
def l7 (l : Lay) : List dY → List dY → Int
  | _, [] => 0
  | done, k :: r =>
    if lq l k = false then 4 else if k.a = k.b ∧ k.ji = k.jG then 1 else
    if (atEnd done (2 * k.a + k.ji)).any (BO k.a k.ji k.b k.jG) = true then 5 else
    if qp k (atEnd done (2 * k.a + k.ji)) = false ∨ qp k (atEnd done (2 * k.b + k.jG)) = false then 11 else l7 l (done ++ [k]) r
theorem afk (w : World) (v : qL) (l : Lay) (k : dY) : Calls Tryz.prog 147 #[.agg (v.cells l).toArray, .agg k.cells.toArray] w (bW w (.bool (lq l k))) := by
  refine bR (args := [_, _]) Tryz.func147 rfl (Mem.start w) rfl ?_
  refine aD fun K1 hK1 => ?_
  refine aR ?_
  refine aF (bU (k := fun b2 => ?_))
  refine aF (bU (k := fun b3 => ?_))
  refine aH bX ?_
  refine aU (hK1 _ _ ?_); clear hK1
  refine aD fun K2 hK2 => ?_
  refine aR ?_
  refine aH (ay 0) ?_
  refine aH aC ?_
  refine aH gW ?_
  refine aH aG ?_
  refine av rfl (ay 0) ?_
  refine av rfl aC ?_
  refine av rfl (ay 2) ?_
  refine av rfl aC ?_
  refine av rfl bE ?_
  refine av rfl bN ?_
  refine aH cO ?_
  refine aH aG ?_
  refine av rfl (ay 2) ?_
  refine av rfl aC ?_
  refine av rfl gW ?_
  refine aH cO ?_
  refine aH aG ?_
  refine av rfl (ay 2) ?_
  refine av rfl aC ?_
  refine av rfl (ay 2) ?_
  refine av rfl aC ?_
  refine av rfl bE ?_
  refine av rfl bN ?_
  refine aH cO ?_
  refine aH aG ?_
  refine av rfl (ay 1) ?_
  refine av rfl aC ?_
  refine av rfl dS ?_
  refine av rfl aG ?_
  refine av rfl (ay 1) ?_
  refine av rfl aC ?_
  refine av rfl dS ?_
  refine av rfl dw ?_
  refine aH cO ?_
  refine aH aG ?_
  refine av rfl (ay 3) ?_
  refine av rfl aC ?_
  refine av rfl dS ?_
  refine av rfl aG ?_
  refine av rfl (ay 3) ?_
  refine av rfl aC ?_
  refine av rfl dS ?_
  refine av rfl dw ?_
  refine aH cO ?_
  refine aH aG ?_
  refine av rfl (ay 4) ?_
  refine av rfl aC ?_
  refine av rfl gW ?_
  refine aH cO ?_
  refine aH aG ?_
  refine av rfl (ay 4) ?_
  refine av rfl aC ?_
  refine av rfl (ay 1) ?_
  refine av rfl aC ?_
  refine av rfl bE ?_
  refine av rfl bN ?_
  refine aH cO ?_
  refine aH aG ?_
  refine av rfl (ay 5) ?_
  refine av rfl aC ?_
  refine av rfl dS ?_
  refine av rfl aG ?_
  refine av rfl (ay 5) ?_
  refine av rfl aC ?_
  refine av rfl dS ?_
  refine av rfl aG ?_
  refine av rfl (ay 4) ?_
  refine av rfl aC ?_
  refine av rfl fB ?_
  refine av rfl cO ?_
  refine av rfl dw ?_
  refine aH cO ?_
  refine aH bX ?_
  refine aU (hK2 _ _ ?_); clear hK2
  refine aL (kJ rfl rfl (fun w hm => aW hm rfl))
theorem Vp (w : World) (k : dY) : Calls Tryz.prog 148 #[.agg k.cells.toArray] w (bW w (.tuple #[.agg #[.int .i64 k.a, .int .i64 k.ji], .agg #[.int .i64 k.b, .int .i64 k.jG]])) := by
  refine bR (args := [_]) Tryz.func148 rfl (Mem.start w) rfl ?_
  refine aD fun K1 hK1 => ?_
  refine aR ?_
  refine aF (bU (k := fun b1 => ?_))
  refine aF (bQ rfl (k := fun b2 => ?_))
  refine aF (bQ rfl (k := fun b3 => ?_))
  refine aU (hK1 _ _ ?_); clear hK1
  refine aD fun K2 hK2 => ?_
  refine fA [own b1 183 k.cells, old w] (by repeat (first | exact List.Sublist.refl _ | apply List.Sublist.cons_cons | apply List.Sublist.cons)) ?_
  refine au 0 rfl (ay 0) ?_
  refine au 1 rfl aC ?_
  refine au 2 rfl (ay 1) ?_
  refine au 3 rfl aC ?_
  refine au 4 rfl Pn ?_
  refine au 5 rfl (ay 2) ?_
  refine au 6 rfl aC ?_
  refine au 7 rfl (ay 3) ?_
  refine au 8 rfl aC ?_
  refine au 9 rfl Pn ?_
  refine bB 10 rfl (bI (k := ⟨fun w hm => hm.sub (by repeat (first | exact List.Sublist.refl _ | apply List.Sublist.cons_cons | apply List.Sublist.cons)), ?_⟩))
  refine bB 11 rfl (bI (k := ⟨fun w hm => hm.sub (by repeat (first | exact List.Sublist.refl _ | apply List.Sublist.cons_cons | apply List.Sublist.cons)), ?_⟩))
  refine dG (hK2 _ _ ?_); clear hK2
  refine aL (jQ (fun w hm => aW hm rfl))
theorem Vo (w : World) (s d : Int) (hs : 0 ≤ s ∧ s ≤ 1000000) (hd : 0 ≤ d ∧ d ≤ 1000000) : Calls Tryz.prog 149 #[.agg #[.int .i64 s, .int .i64 d]] w (bW w (.int .i64 (2 * s + d))) := by
  refine bR (args := [_]) Tryz.func149 rfl (Mem.start w) rfl ?_
  refine aD fun K1 hK1 => ?_
  refine aR ?_
  refine aF (bU (k := fun b1 => ?_))
  refine aH bX ?_
  refine aU (hK1 _ _ ?_); clear hK1
  refine aD fun K2 hK2 => ?_
  refine aR ?_
  refine aH (ay 0) ?_
  refine aH aC ?_
  refine aH Ik ?_
  refine aH (ay 1) ?_
  refine aH aC ?_
  refine aH dh ?_
  refine aH bX ?_
  refine aU (hK2 _ _ ?_); clear hK2
  refine aL (kJ rfl rfl (fun w hm => aW hm rfl))
def gG : dY := ⟨0, 0, 0, 0, 0, 0⟩
theorem Vy : ∀ (xs : List dY) (i j : Nat), j < 6 → (xs.flatMap dY.cells)[i * 6 + j]? = (xs[i]?).bind (fun x => (dY.cells x)[j]?)
  | [], i, j, _ => by simp
  | x :: xs, 0, j, hj => by
    simp only [List.flatMap_cons, Nat.zero_mul, Nat.zero_add]
    rw [List.getElem?_append_left (by show j < 6; exact hj)]
    rfl
  | x :: xs, i + 1, j, hj => by
    simp only [List.flatMap_cons]
    have h6 : (dY.cells x).length = 6 := rfl
    rw [List.getElem?_append_right (by rw [h6, Nat.add_mul]; omega), h6]
    rw [show (i + 1) * 6 + j - 6 = i * 6 + j by rw [Nat.add_mul]; omega]
    rw [Vy xs i j hj]
    simp
theorem ML {xs : List dY} {i j : Nat} {u : Value} (hi : i < xs.length) (hj : (dY.cells (xs.getD i gG))[j]? = some u) : (xs.flatMap dY.cells)[i * 6 + j]? = some u := by
  have hjl : j < 6 := by have := (List.getElem?_eq_some_iff.1 hj).1; simpa [dY.cells] using this
  rw [Vy xs i j hjl]
  have : xs[i]? = some (xs.getD i gG) := by simp [hi]
  rw [this]
  exact hj
theorem MN (xs : List dY) : (xs.flatMap dY.cells).length = xs.length * 6 := by
  induction xs with
  | nil => simp
  | cons x xs ih => simp only [List.flatMap_cons, List.length_append, ih, List.length_cons, Nat.add_mul]; simp [dY.cells]; omega
theorem aav {ks : List dY} {p : dY → Bool} {i : Nat} (hi : i < ks.length) (h : p (ks.getD i gG) = true) : ks.any p = true := by
  rw [List.any_eq_true]
  exact ⟨ks[i], List.getElem_mem hi, by simpa [List.getD_eq_getElem?_getD, hi] using h⟩
theorem aau {ks : List dY} {p : dY → Bool} {i : Nat} (hi : ks.length ≤ i) (h : ∀ j, j < i → p (ks.getD j gG) = false) : ks.any p = false := by
  rw [List.any_eq_false]
  intro x hx
  obtain ⟨j, hj, rfl⟩ := List.mem_iff_getElem.1 hx
  have := h j (by omega)
  simpa [List.getD_eq_getElem?_getD, hj] using this
theorem ae8 (w : World) (a : Option Addr) (cap : Nat) (ks : List dY) (x xe y ye : Int) (hs : Sl 0 w.heap.size w a (ks.flatMap dY.cells)) (hlen : ks.length ≤ 1000000) :
    Calls Tryz.prog 150 #[.slice a ks.length cap, .agg #[.int .i64 x, .int .i64 xe], .agg #[.int .i64 y, .int .i64 ye]] w (bW w (.bool (ks.any (BO x xe y ye)))) := by
  refine bR (args := [_, _, _]) Tryz.func150 rfl (Mem.start w) rfl ?_
  refine aD fun K1 hK1 => ?_
  refine aR ?_
  refine aF (bU (k := fun b4 => ?_))
  refine aF (bU (k := fun b5 => ?_))
  refine aH bX ?_
  refine aU (hK1 _ _ ?_); clear hK1
  refine aD fun K2 hK2 => ?_
  refine aD fun K3 hK3 => ?_
  refine aR ?_
  refine aH aG ?_
  refine aH bE ?_
  refine aH aG ?_
  refine aU (hK3 _ _ ?_); clear hK3
  refine bf ?_
  refine dF (γ := Int) (env := fun i => [(4, .v (.pointer (some ⟨b4, 0, none⟩))), (5, .v (.pointer (some ⟨b5, 0, none⟩))), (11, .v (.slice a ks.length cap)), (12, .v (.int .i64 (ks.length : Int))), (13, .v (.int .i64 i))]) (mem := fun i => [own b5 209 [.int .i64 y, .int .i64 ye], own b4 209 [.int .i64 x, .int .i64 xe], old w]) (R := fun i => 0 ≤ i ∧ i ≤ ks.length ∧ ∀ j, j < i.toNat → BO x xe y ye (ks.getD j gG) = false) (μ := fun i => (ks.length - i).toNat) (0) (⟨by omega, by omega, fun j hj => by simp at hj⟩) ⟨rfl, rfl, rfl, rfl, rfl, trivial⟩ (fun _ h => h) ?_
  intro i DC gy hL1
  obtain ⟨hi0, hi1, hall⟩ := DC
  refine aD fun K4 hK4 => ?_
  refine aR ?_
  refine aH bN ?_
  refine aU (hK4 _ _ ?_); clear hK4
  refine aD fun K5 cu => ?_
  refine pI rfl (fun hc1 => ?_) (fun hc1 => ?_)  -- t14
  ·
    refine aM (cu _ _ ?_); clear cu
    refine aD fun K6 cK => ?_
    refine bf ?_
    refine aD fun K7 dI => ?_
    refine aR ?_
    refine aH (zC 6 (fun _ => hs.addr (by rw [MN]; omega))) ?_
    refine aH (Po (l := (ks.getD i.toNat gG).cells) (fun w hm q u hu => by rw [Nat.add_assoc]; exact Dm hs (ML (by omega) hu) (Nat.le_refl _) (by repeat (first | exact Has.head | apply Has.tail)) w hm)) ?_
    refine aF (bQ rfl (k := fun b8 => ?_))
    refine aF (bI (k := ?_))
    refine aU (dI _ _ ?_); clear dI
    refine aD fun K8 fE => ?_
    refine aR ?_
    refine aH bH ?_
    refine aF (bg (fun w hm => Vp w _) ?_)
    refine aH aG ?_
    refine aH gF ?_
    refine aH gF ?_
    refine aF (bQ rfl (k := fun b9 => ?_))
    refine aF (bQ rfl (k := fun b10 => ?_))
    refine aF (bI (k := ?_))
    refine aF (bI (k := ?_))
    refine aU (fE _ _ ?_); clear fE
    refine aD fun K9 eZ => ?_
    refine aR ?_
    refine aH bH ?_
    refine aH bH ?_
    refine aH Io ?_
    refine aH aG ?_
    refine av rfl bH ?_
    refine av rfl bH ?_
    refine av rfl Io ?_
    refine aH cO ?_
    refine aH aG ?_
    refine av rfl bH ?_
    refine av rfl bH ?_
    refine av rfl Io ?_
    refine av rfl aG ?_
    refine av rfl bH ?_
    refine av rfl bH ?_
    refine av rfl Io ?_
    refine av rfl cO ?_
    refine aH dw ?_
    refine aU (eZ _ _ ?_); clear eZ
    refine pG rfl (fun hc2 => ?_) (fun hc2 => ?_)  -- t39
    ·
      refine aD fun pE gu => ?_
      refine aR ?_
      refine aH bX ?_
      refine aU (gu _ _ ?_); clear gu
      refine aL (kJ rfl rfl (fun w hm => aW hm (congrArg Value.bool (aav (by omega) hc2).symm)))
    ·
      refine aM (cK _ _ ?_); clear cK
      refine aR ?_
      refine aH dh ?_
      refine aH aG ?_
      refine aU (hL1 (i + 1) _ _ (⟨by omega, by omega, fun j hj => ?_⟩) (by omega) ⟨rfl, rfl, rfl, rfl, rfl, trivial⟩ (fun w hm => hm.sub (by repeat (first | exact List.Sublist.refl _ | apply List.Sublist.cons_cons | apply List.Sublist.cons))))
      by_cases hji : j < i.toNat
      · exact hall j hji
      · obtain rfl : j = i.toNat := by omega
        exact hc2
  ·
    refine dD (hK2 _ _ ?_); clear hK2
    refine aD fun oG fM => ?_
    refine aR ?_
    refine aH bX ?_
    refine aU (fM _ _ ?_); clear fM
    refine aL (kJ rfl rfl (fun w hm => aW hm (congrArg Value.bool (aau (i := i.toNat) (by omega) hall).symm)))
theorem abl {k : dY} {ks : List dY} (h : ¬ (ks.length : Int) = 0) : qp k ks = (((decide ((ks.length : Int) = 1) && decide (k.point ≠ -1)) && decide (k.point = (ks.getD 0 gG).point)) && decide (k.pos ≠ (ks.getD 0 gG).pos)) := by
  match ks, h with
  | [], h => simp at h
  | [x], _ => simp [qp]
  | x :: y :: r, _ => simp [qp]; omega
theorem Vw (w : World) (k : dY) (a : Option Addr) (cap : Nat) (ks : List dY) (hs : Sl 0 w.heap.size w a (ks.flatMap dY.cells)) :
    Calls Tryz.prog 151 #[.agg k.cells.toArray, .slice a ks.length cap] w (bW w (.bool (qp k ks))) := by
  refine bR (args := [_, _]) Tryz.func151 rfl (Mem.start w) rfl ?_
  refine aD fun K1 hK1 => ?_
  refine aR ?_
  refine aF (bU (k := fun b2 => ?_))
  refine aH bX ?_
  refine aU (hK1 _ _ ?_); clear hK1
  refine aD fun K2 hK2 => ?_
  refine aD fun K3 hK3 => ?_
  refine aR ?_
  refine aH aG ?_
  refine aH bE ?_
  refine aH dS ?_
  refine aU (hK3 _ _ ?_); clear hK3
  refine pI rfl (fun hc1 => ?_) (fun hc1 => ?_)  -- t7
  ·
    refine aD fun K4 hK4 => ?_
    refine aR ?_
    refine aH bX ?_
    refine aU (hK4 _ _ ?_); clear hK4
    refine aL (kJ rfl rfl (fun w hm => aW hm (by rw [show ks = [] from List.length_eq_zero_iff.1 (by omega)]; rfl)))
  ·
    refine aM (hK2 _ _ ?_); clear hK2
    refine aD fun K5 cu => ?_
    refine fA [own b2 183 k.cells, old w] (by repeat (first | exact List.Sublist.refl _ | apply List.Sublist.cons_cons | apply List.Sublist.cons)) ?_
    refine au 0 rfl aG ?_
    refine au 1 rfl bE ?_
    refine au 2 rfl dS ?_
    refine au 3 rfl aG ?_
    refine dQ 4 rfl rfl (ay 4) ?_
    refine dQ 5 rfl rfl aC ?_
    refine dQ 6 rfl rfl fB ?_
    refine au 7 rfl cO ?_
    refine au 8 rfl aG ?_
    refine dQ 9 rfl rfl (ay 4) ?_
    refine dQ 10 rfl rfl aC ?_
    refine dQ 11 rfl rfl aG ?_
    refine dQ 12 rfl rfl (zC 6 (fun hg => hs.addr (by rw [MN]; simp at hg; omega))) ?_
    refine dQ 13 rfl rfl (ay 4) ?_
    refine dQ 14 rfl rfl (zD (v := .int .i64 (ks.getD 0 gG).point) (by first | exact .plain rfl | exact .cond rfl id) (by kernel_rfl) (fun hg w hm => Dm (j := 0 * 6 + 4) hs (ML (j := 4) (by simp at hg; omega) rfl) (Nat.le_refl _) (by repeat (first | exact Has.head | apply Has.tail)) w hm)) ?_
    refine dQ 15 rfl rfl dS ?_
    refine au 16 rfl cO ?_
    refine au 17 rfl aG ?_
    refine dQ 18 rfl rfl (ay 5) ?_
    refine dQ 19 rfl rfl aC ?_
    refine dQ 20 rfl rfl aG ?_
    refine dQ 21 rfl rfl (zC 6 (fun hg => hs.addr (by rw [MN]; simp at hg; omega))) ?_
    refine dQ 22 rfl rfl (ay 5) ?_
    refine dQ 23 rfl rfl (zD (v := .int .i64 (ks.getD 0 gG).pos) (by first | exact .plain rfl | exact .cond rfl id) (by kernel_rfl) (fun hg w hm => Dm (j := 0 * 6 + 5) hs (ML (j := 5) (by simp at hg; omega) rfl) (Nat.le_refl _) (by repeat (first | exact Has.head | apply Has.tail)) w hm)) ?_
    refine dQ 24 rfl rfl fB ?_
    refine au 25 rfl cO ?_
    refine au 26 rfl bX ?_
    refine dG (cu _ _ ?_); clear cu
    refine aL (kJ rfl rfl (fun w hm => aW hm (by rw [abl hc1])))
end Go.Proofs.YtcalibhfgdncaaaGreatDoor
namespace Go.Proofs.YtcalibhfgdncaaaGreatDoor
open Go.eT Go.RowKit
set_option maxRecDepth 10000
def zi (done : List dY) (m : Nat) (rows : List Row) : Prop :=
  rows.length = m ∧ ∀ (i : Nat) (r : Row), rows[i]? = some r → r.n = (atEnd done i).length ∧ r.xs = (atEnd done i).flatMap dY.cells
theorem zi.get {done : List dY} {m : Nat} {rows : List Row} (h : zi done m rows) (e : Int) (h0 : 0 ≤ e) (h1 : e.toNat < m) :
    ∃ aa ca, rows[e.toNat * 1]? = some ⟨aa, (atEnd done e).length, ca, (atEnd done e).flatMap dY.cells⟩ := by
  rw [Nat.mul_one]
  have hlt : e.toNat < rows.length := by rw [h.1]; exact h1
  have hr := h.2 e.toNat rows[e.toNat] (by simp [hlt])
  rw [show ((e.toNat : Nat) : Int) = e by omega] at hr
  refine ⟨rows[e.toNat].a, rows[e.toNat].cap, ?_⟩
  rw [List.getElem?_eq_getElem hlt, ← hr.1, ← hr.2]
theorem UF (done : List dY) (e : Int) : (atEnd done e).length ≤ done.length := List.length_filter_le _ _
theorem aax (done : List dY) (k : dY) (e : Int) : atEnd (done ++ [k]) e = atEnd done e ++ if 2 * k.a + k.ji = e ∨ 2 * k.b + k.jG = e then [k] else [] := by
  unfold atEnd
  rw [List.filter_append]
  congr 1
  by_cases h1 : 2 * k.a + k.ji = e <;> by_cases h2 : 2 * k.b + k.jG = e <;> simp [h1, h2]
theorem zi.step {done : List dY} {m : Nat} {rows : List Row} (h : zi done m rows) (k : dY) (ea eb : Int) (ha : 2 * k.a + k.ji = ea) (hb : 2 * k.b + k.jG = eb) (hne : ea ≠ eb) (ha0 : 0 ≤ ea) (hb0 : 0 ≤ eb)
    (a1 a2 : Option Addr) (c1 c2 : Nat) :
    zi (done ++ [k]) m ((rows.set (ea.toNat * 1) ⟨a1, (atEnd done ea).length + 1, c1, (atEnd done ea).flatMap dY.cells ++ k.cells⟩).set (eb.toNat * 1) ⟨a2, (atEnd done eb).length + 1, c2, (atEnd done eb).flatMap dY.cells ++ k.cells⟩) := by
  rw [Nat.mul_one, Nat.mul_one]
  refine ⟨by rw [List.length_set, List.length_set]; exact h.1, fun i r hr => ?_⟩
  rw [aax, ha, hb]
  by_cases hib : i = eb.toNat
  · have he : eb = (i : Int) := by omega
    rw [List.getElem?_set] at hr
    rw [if_pos hib.symm] at hr
    split at hr
    · cases hr
      subst he
      simp
    · cases hr
  · rw [List.getElem?_set_ne (Ne.symm hib)] at hr
    by_cases hia : i = ea.toNat
    · have he : ea = (i : Int) := by omega
      rw [List.getElem?_set, if_pos hia.symm] at hr
      split at hr
      · cases hr
        subst he
        simp
      · cases hr
    · rw [List.getElem?_set_ne (Ne.symm hia)] at hr
      have h1 : ¬ ea = (i : Int) := by omega
      have h2 : ¬ eb = (i : Int) := by omega
      simp only [h1, h2, or_self, if_false, List.append_nil]
      exact h.2 i r hr
theorem afo {l : Lay} {xs : List dY} {j : Nat} (hj : j < xs.length) {E : Int} (h : l7 l (xs.take j) (xs.drop j) = E) :
    (lq l (xs.getD j gG) = false → E = 4) ∧ (lq l (xs.getD j gG) = true →
      ((xs.getD j gG).a = (xs.getD j gG).b ∧ (xs.getD j gG).ji = (xs.getD j gG).jG → E = 1) ∧ (¬ ((xs.getD j gG).a = (xs.getD j gG).b ∧ (xs.getD j gG).ji = (xs.getD j gG).jG) →
      ((atEnd (xs.take j) (2 * (xs.getD j gG).a + (xs.getD j gG).ji)).any (BO (xs.getD j gG).a (xs.getD j gG).ji (xs.getD j gG).b (xs.getD j gG).jG) = true → E = 5) ∧
      ((atEnd (xs.take j) (2 * (xs.getD j gG).a + (xs.getD j gG).ji)).any (BO (xs.getD j gG).a (xs.getD j gG).ji (xs.getD j gG).b (xs.getD j gG).jG) = false →
      ((!qp (xs.getD j gG) (atEnd (xs.take j) (2 * (xs.getD j gG).a + (xs.getD j gG).ji)) || !qp (xs.getD j gG) (atEnd (xs.take j) (2 * (xs.getD j gG).b + (xs.getD j gG).jG))) = true → E = 11) ∧
      ((!qp (xs.getD j gG) (atEnd (xs.take j) (2 * (xs.getD j gG).a + (xs.getD j gG).ji)) || !qp (xs.getD j gG) (atEnd (xs.take j) (2 * (xs.getD j gG).b + (xs.getD j gG).jG))) = false →
        l7 l (xs.take (j + 1)) (xs.drop (j + 1)) = E ∧ xs.take (j + 1) = xs.take j ++ [xs.getD j gG])))) := by
  have hd : xs.drop j = xs[j] :: xs.drop (j + 1) := List.drop_eq_getElem_cons hj
  have hg : xs.getD j gG = xs[j] := by simp [List.getD_eq_getElem?_getD, hj]
  have ht : xs.take (j + 1) = xs.take j ++ [xs[j]] := by rw [List.take_succ_eq_append_getElem hj]
  rw [hd, l7] at h
  rw [hg, ht]
  generalize xs[j] = k at *
  refine ⟨fun h1 => ?_, fun h1 => ⟨fun h2 => ?_, fun h2 => ⟨fun h3 => ?_, fun h3 => ⟨fun h4 => ?_, fun h4 => ?_⟩⟩⟩⟩
  · rw [if_pos h1] at h; exact h.symm
  · rw [if_neg (by simp [h1]), if_pos h2] at h; exact h.symm
  · rw [if_neg (by simp [h1]), if_neg h2, if_pos h3] at h; exact h.symm
  · rw [if_neg (by simp [h1]), if_neg h2, if_neg (by simp [h3]), if_pos (by simpa using h4)] at h; exact h.symm
  · rw [if_neg (by simp [h1]), if_neg h2, if_neg (by simp [h3]), if_neg (by simp only [Bool.or_eq_false_iff, Bool.not_eq_false'] at h4; simp [h4.1, h4.2])] at h; exact ⟨h, rfl⟩
theorem afl {l : Lay} {xs : List dY} {j : Nat} (hj : xs.length ≤ j) {E : Int} (h : l7 l (xs.take j) (xs.drop j) = E) : E = 0 := by
  rw [← h, List.drop_eq_nil_of_le hj, l7]
theorem Jc {rows : List Row} {i : Nat} {r : Row} (h : rows[i]? = some r) : (rows.map Row.hdr)[i]? = some (.slice r.a r.n r.cap) := by simp [h, Row.hdr]
theorem afh {l : Lay} {k : dY} (h : lq l k = true) : (0 ≤ k.a ∧ k.a < l.sections.length ∧ 0 ≤ k.b ∧ k.b < l.sections.length) ∧ (0 ≤ k.ji ∧ k.ji ≤ 1) ∧ (0 ≤ k.jG ∧ k.jG ≤ 1) := by
  simp only [lq, Bool.and_eq_true, Bool.or_eq_true, decide_eq_true_eq] at h
  omega
theorem ag2 {m : Nat} : zi [] m (List.replicate m (⟨none, 0, 0, []⟩ : Row)) := by
  refine ⟨by simp, fun i r hr => ?_⟩
  rw [List.getElem?_replicate] at hr
  split at hr
  · cases hr; exact ⟨rfl, rfl⟩
  · cases hr
theorem aaQ (w : World) (v : qL) (l : Lay) (hl : zf 0 w.heap.size w v l) (hb : l.sections.length ≤ 96 ∧ l.links.length ≤ 192) : Calls Tryz.prog 98 #[.agg (v.cells l).toArray] w (bW w (.int .i64 (l7 l [] l.links))) := by
  obtain ⟨hb1, hb2⟩ := hb
  refine bR (args := [_]) Tryz.func98 rfl (Mem.start w) rfl ?_
  refine aD fun K1 hK1 => ?_
  refine aR ?_
  refine aF (bU (k := fun b1 => ?_))
  refine aH bX ?_
  refine aU (hK1 _ _ ?_); clear hK1
  refine aD fun K2 hK2 => ?_
  refine aR ?_
  refine aH (ay 2) ?_
  refine aH aC ?_
  refine aH bE ?_
  refine aH Ik ?_
  refine aF (ahw (m := 2 * l.sections.length) (e := 24) (z := .slice none 0 0) 24 (k := fun a ha => ?_) (hb := by omega) (hm' := by omega))
  refine p9 (H' := [row 24 1 a (2 * l.sections.length) (2 * l.sections.length) ((List.replicate (2 * l.sections.length) (⟨none, 0, 0, []⟩ : Row)).map Row.hdr), lu (fun _ => True) 183 6 (List.replicate (2 * l.sections.length) (⟨none, 0, 0, []⟩ : Row)), own b1 26 (v.cells l), old w]) (fun w hm => by rw [List.map_replicate]; exact (ag3 (e := 183) (sz := 6) (m := 2 * l.sections.length) hm).perm (.swap _ _ _)) ?_
  refine aH bX ?_
  refine aU (hK2 _ _ ?_); clear hK2
  refine aD fun K3 hK3 => ?_
  refine aD fun K4 hK4 => ?_
  refine aR ?_
  refine aH (ay 3) ?_
  refine aH aC ?_
  refine aH bE ?_
  refine aH aG ?_
  refine aU (hK4 _ _ ?_); clear hK4
  refine bf ?_
  refine dF (γ := Int × List Row) (env := fun g => [(1, .v (.pointer (some ⟨b1, 0, none⟩))), (3, .v (.slice a (2 * l.sections.length) (2 * l.sections.length))), (16, .v (.slice v.a4 l.links.length v.c4)), (17, .v (.int .i64 (l.links.length : Int))), (18, .v (.int .i64 g.1))]) (mem := fun g => [row 24 1 a (2 * l.sections.length) (2 * l.sections.length) (g.2.map Row.hdr), lu (fun _ => True) 183 6 g.2, own b1 26 (v.cells l), old w]) (R := fun g => 0 ≤ g.1 ∧ g.1 ≤ l.links.length ∧ zi (l.links.take g.1.toNat) (2 * l.sections.length) g.2 ∧ l7 l (l.links.take g.1.toNat) (l.links.drop g.1.toNat) = l7 l [] l.links) (μ := fun g => (l.links.length - g.1).toNat) ((0, List.replicate (2 * l.sections.length) ⟨none, 0, 0, []⟩)) (⟨by show (0 : Int) ≤ 0; omega, by show (0 : Int) ≤ _; omega, ag2, rfl⟩) ⟨rfl, rfl, rfl, rfl, rfl, trivial⟩ (fun _ h => h) ?_
  intro g DC gy hL1
  obtain ⟨j, rows⟩ := g
  dsimp only at DC ⊢
  obtain ⟨hj0, hj1, hrows, hj2⟩ := DC
  refine aD fun K5 cu => ?_
  refine aR ?_
  refine aH bN ?_
  refine aU (cu _ _ ?_); clear cu
  refine aD fun K6 cK => ?_
  refine pI rfl (fun hc1 => ?_) (fun hc1 => ?_)  -- t19
  ·
    refine aM (cK _ _ ?_); clear cK
    refine aD fun K7 dI => ?_
    refine bf ?_
    refine aD fun K8 fE => ?_
    refine aR ?_
    have hst := afo (l := l) (j := j.toNat) (by omega) hj2
    have hdl : (l.links.take j.toNat).length ≤ 192 := by rw [List.length_take]; omega
    generalize hdone : l.links.take j.toNat = done at *
    obtain ⟨k, hk⟩ : ∃ k, k = l.links.getD j.toNat gG := ⟨_, rfl⟩
    rw [← hk] at hst
    refine aH (zC 6 (fun _ => hl.li.addr (by rw [MN]; omega))) ?_
    refine aH (Po (l := k.cells) (fun w hm q u hu => by subst hk; rw [Nat.add_assoc]; exact Dm hl.li (ML (by omega) hu) (Nat.le_refl _) (by repeat (first | exact Has.head | apply Has.tail)) w hm)) ?_
    refine aF (bQ rfl (k := fun b5 => ?_))
    refine aF (bI (k := ?_))
    refine aU (fE _ _ ?_); clear fE
    refine aD fun K9 eZ => ?_
    refine aD fun pE gu => ?_
    refine aR ?_
    refine aH bH ?_
    refine aH bH ?_
    refine aF (bg (fun w hm => afk w v l k) ?_)
    refine aH dN ?_
    refine aU (gu _ _ ?_); clear gu
    refine pG rfl (fun hc2 => ?_) (fun hc2 => ?_)  -- t25
    ·
      refine aD fun oG fM => ?_
      refine aR ?_
      refine aH bX ?_
      refine aU (fM _ _ ?_); clear fM
      refine aL (kJ rfl rfl (fun w hm => aW hm (by rw [hst.1 (by simpa using hc2)])))
    ·
      have hlk : lq l k = true := by simpa using hc2
      replace hst := hst.2 hlk
      obtain ⟨⟨ha0, ha1, ah4, ah5⟩, hae, hbe⟩ := afh hlk
      obtain ⟨ea, Qo⟩ : ∃ e, e = 2 * k.a + k.ji := ⟨_, rfl⟩
      obtain ⟨eb, Qr⟩ : ∃ e, e = 2 * k.b + k.jG := ⟨_, rfl⟩
      have V3 : 0 ≤ ea ∧ ea < 2 * l.sections.length := by omega
      have V4 : 0 ≤ eb ∧ eb < 2 * l.sections.length := by omega
      obtain ⟨aA, cA, BF⟩ := hrows.get ea V3.1 (by omega)
      obtain ⟨aB, cB, MB⟩ := hrows.get eb V4.1 (by omega)
      have hlA := UF done ea
      have hlB := UF done eb
      rw [← Qo, ← Qr] at hst
      refine aM (eZ _ _ ?_); clear eZ
      refine aD fun uq iU => ?_
      refine aR ?_
      refine aH bH ?_
      refine aF (bg (fun w hm => Vp w k) ?_)
      refine aH aG ?_
      refine aH gF ?_
      refine aH gF ?_
      refine aF (bQ rfl (k := fun b6 => ?_))
      refine aF (bQ rfl (k := fun b7 => ?_))
      refine aF (bI (k := ?_))
      refine aF (bI (k := ?_))
      refine aU (iU _ _ ?_); clear iU
      refine aD fun uM jr => ?_
      refine fA [own b7 209 [.int .i64 k.b, .int .i64 k.jG], own b6 209 [.int .i64 k.a, .int .i64 k.ji], own b5 183 k.cells, row 24 1 a (2 * l.sections.length) (2 * l.sections.length) (rows.map Row.hdr), lu (fun _ => True) 183 6 rows, own b1 26 (v.cells l), old w] (by repeat (first | exact List.Sublist.refl _ | apply List.Sublist.cons_cons | apply List.Sublist.cons)) ?_
      refine au 0 rfl aG ?_
      refine au 1 rfl bH ?_
      refine au 4 rfl aG ?_
      refine au 5 rfl bH ?_
      refine bB 2 rfl (bg (fun w hm => Vo w k.a k.ji (by omega) (by omega)) ⟨fun w hm => hm.sub (by repeat (first | exact List.Sublist.refl _ | apply List.Sublist.cons_cons | apply List.Sublist.cons)), ?_⟩)
      rw [← Qo]
      refine au 3 rfl (zC (ad := a) 1 (fun _ => by rw [ha]; rfl)) ?_
      refine bB 6 rfl (bg (fun w hm => Vo w k.b k.jG (by omega) (by omega)) ⟨fun w hm => hm.sub (by repeat (first | exact List.Sublist.refl _ | apply List.Sublist.cons_cons | apply List.Sublist.cons)), ?_⟩)
      rw [← Qr]
      refine au 7 rfl (zC (ad := a) 1 (fun _ => by rw [ha]; rfl)) ?_
      refine au 8 rfl bX ?_
      refine au 9 rfl bX ?_
      refine dG (jr _ _ ?_); clear jr
      refine aD fun uN jv => ?_
      refine bf ?_
      refine aD fun wh jN => ?_
      refine aR ?_
      refine aH bH ?_
      refine aH bH ?_
      refine aH Io ?_
      refine aH bX ?_
      refine aU (jN _ _ ?_); clear jN
      refine pI rfl (fun hc3 => ?_) (fun hc3 => ?_)  -- t39
      ·
        refine aD fun xu j5 => ?_
        refine aR ?_
        refine aH bX ?_
        refine aU (j5 _ _ ?_); clear j5
        refine aL (kJ rfl rfl (fun w hm => aW hm (by rw [hst.1 hc3])))
      ·
        replace hst := hst.2 hc3
        have hne : ea ≠ eb := by omega
        refine aD fun CV ny => ?_
        refine fA [own b7 209 [.int .i64 k.b, .int .i64 k.jG], own b6 209 [.int .i64 k.a, .int .i64 k.ji], own b5 183 k.cells, row 24 1 a (2 * l.sections.length) (2 * l.sections.length) (rows.map Row.hdr), lu (fun _ => True) 183 6 rows, own b1 26 (v.cells l), old w] (by repeat (first | exact List.Sublist.refl _ | apply List.Sublist.cons_cons | apply List.Sublist.cons)) ?_
        refine au 0 rfl aG ?_
        refine au 1 rfl jU ?_
        refine au 2 rfl (Dv (v := .slice aA (atEnd done ea).length cA) (H9 (Jc BF) (by repeat (first | exact Has.head | apply Has.tail)))) ?_
        refine au 3 rfl bH ?_
        refine au 4 rfl bH ?_
        refine bB 5 rfl (bg (fun w hm => ae8 w aA cA (atEnd done ea) _ _ _ _ (Tc BF trivial hm (by repeat (first | exact Has.head | apply Has.tail))) (by omega)) ⟨fun w hm => hm.sub (by repeat (first | exact List.Sublist.refl _ | apply List.Sublist.cons_cons | apply List.Sublist.cons)), ?_⟩)
        refine au 6 rfl bX ?_
        refine dG (ny _ _ ?_); clear ny
        refine pG rfl (fun hc4 => ?_) (fun hc4 => ?_)  -- t43
        ·
          refine aD fun G9 oJ => ?_
          refine aR ?_
          refine aH bX ?_
          refine aU (oJ _ _ ?_); clear oJ
          refine aL (kJ rfl rfl (fun w hm => aW hm (by rw [hst.1 hc4])))
        ·
          replace hst := hst.2 hc4
          refine iH (γ := Bool) (env := fun q => [(5, .v (.pointer (some ⟨b5, 0, none⟩))), (8, .v (.pointer (some ⟨sb a, so a + ea.toNat * 1, none⟩))), (9, .v (.pointer (some ⟨sb a, so a + eb.toNat * 1, none⟩))), (50, .v (.bool q)), (1, .v (.pointer (some ⟨b1, 0, none⟩))), (3, .v (.slice a (2 * l.sections.length) (2 * l.sections.length))), (16, .v (.slice v.a4 l.links.length v.c4)), (17, .v (.int .i64 (l.links.length : Int))), (18, .v (.int .i64 j))]) (mem := fun q => [own b7 209 [.int .i64 k.b, .int .i64 k.jG], own b6 209 [.int .i64 k.a, .int .i64 k.ji], own b5 183 k.cells, row 24 1 a (2 * l.sections.length) (2 * l.sections.length) (rows.map Row.hdr), lu (fun _ => True) 183 6 rows, own b1 26 (v.cells l), old w]) (R := fun q => q = (!qp k (atEnd done ea) || !qp k (atEnd done eb))) ?_ ?_
          · intro ah0 VB
            refine aD fun LJ qP => ?_
            refine fA [own b7 209 [.int .i64 k.b, .int .i64 k.jG], own b6 209 [.int .i64 k.a, .int .i64 k.ji], own b5 183 k.cells, row 24 1 a (2 * l.sections.length) (2 * l.sections.length) (rows.map Row.hdr), lu (fun _ => True) 183 6 rows, own b1 26 (v.cells l), old w] (by repeat (first | exact List.Sublist.refl _ | apply List.Sublist.cons_cons | apply List.Sublist.cons)) ?_
            refine au 0 rfl bH ?_
            refine au 1 rfl aG ?_
            refine au 2 rfl jU ?_
            refine au 3 rfl (Dv (v := .slice aA (atEnd done ea).length cA) (H9 (Jc BF) (by repeat (first | exact Has.head | apply Has.tail)))) ?_
            refine bB 4 rfl (bg (fun w hm => Vw w k aA cA (atEnd done ea) (Tc BF trivial hm (by repeat (first | exact Has.head | apply Has.tail)))) ⟨fun w hm => hm.sub (by repeat (first | exact List.Sublist.refl _ | apply List.Sublist.cons_cons | apply List.Sublist.cons)), ?_⟩)
            refine au 5 rfl dN ?_
            refine au 6 rfl bX ?_
            refine dG (qP _ _ ?_); clear qP
            refine pG rfl (fun gX => ?_) (fun gX => ?_)  -- t50
            ·
              refine aM (VB (_) _ _ (by rw [gX]; rfl) ⟨rfl, rfl, rfl, rfl, rfl, rfl, rfl, rfl, rfl, trivial⟩ (fun _ h => h))
            ·
              refine fA [own b7 209 [.int .i64 k.b, .int .i64 k.jG], own b6 209 [.int .i64 k.a, .int .i64 k.ji], own b5 183 k.cells, row 24 1 a (2 * l.sections.length) (2 * l.sections.length) (rows.map Row.hdr), lu (fun _ => True) 183 6 rows, own b1 26 (v.cells l), old w] (by repeat (first | exact List.Sublist.refl _ | apply List.Sublist.cons_cons | apply List.Sublist.cons)) ?_
              refine au 0 rfl bH ?_
              refine au 1 rfl aG ?_
              refine au 2 rfl jU ?_
              refine au 3 rfl (Dv (v := .slice aB (atEnd done eb).length cB) (H9 (Jc MB) (by repeat (first | exact Has.head | apply Has.tail)))) ?_
              refine bB 4 rfl (bg (fun w hm => Vw w k aB cB (atEnd done eb) (Tc MB trivial hm (by repeat (first | exact Has.head | apply Has.tail)))) ⟨fun w hm => hm.sub (by repeat (first | exact List.Sublist.refl _ | apply List.Sublist.cons_cons | apply List.Sublist.cons)), ?_⟩)
              refine au 5 rfl dN ?_
              refine au 6 rfl bX ?_
              refine dG (VB (_) _ _ (by rw [gX]; rfl) ⟨rfl, rfl, rfl, rfl, rfl, rfl, rfl, rfl, rfl, trivial⟩ (fun _ h => h))
          · intro q hR
            refine pG rfl (fun hc6 => ?_) (fun hc6 => ?_)  -- t50
            ·
              refine aD fun LK qQ => ?_
              refine aR ?_
              refine aH bX ?_
              refine aU (qQ _ _ ?_); clear qQ
              refine aL (kJ rfl rfl (fun w hm => aW hm (by rw [hst.1 (by rw [← hR, hc6])])))
            ·
              have ht := hst.2 (by rw [← hR, hc6])
              refine aM (jv _ _ ?_); clear jv
              refine aD fun He oK => ?_
              refine nY [own b7 209 [.int .i64 k.b, .int .i64 k.jG], own b6 209 [.int .i64 k.a, .int .i64 k.ji], own b5 183 k.cells, row 24 1 a (2 * l.sections.length) (2 * l.sections.length) (rows.map Row.hdr), own b1 26 (v.cells l), old w] 8 ?_
              refine aP 0 rfl aG ?_
              refine aP 1 rfl aG ?_
              refine aP 2 rfl jU ?_
              refine aP 3 rfl (Dv (v := .slice aA (atEnd done ea).length cA) (H9 (Jc BF) (by repeat (first | exact Has.head | apply Has.tail)))) ?_
              refine aP 4 rfl bH ?_
              refine kF 5 rfl (ZQ 183 k.cells (k := fun OP => ⟨fun w hm => hm.sub (by repeat (first | exact List.Sublist.refl _ | apply List.Sublist.cons_cons | apply List.Sublist.cons)), ?_⟩))
              refine wo (fun w hm => Zp BF trivial (hm.front (c := lu (fun _ => True) 183 6 rows) (by repeat (first | exact jC.head | apply jC.tail)))) ?_
              refine kF 6 rfl (ZP 48 (k := fun a' cap' => ⟨fun w hm => hm.sub (by repeat (first | exact List.Sublist.refl _ | apply List.Sublist.cons_cons | apply List.Sublist.cons)), ?_⟩))
              refine aP 7 rfl jU ?_
              refine nW rfl (ZX (j := ea.toNat * 1) (hu := by repeat (first | exact eD.head | apply eD.tail)) (hj := by rw [List.length_map, hrows.1]; omega) (h1 := rfl) (hx := .plain rfl) (hy := .plain rfl) (k := ?_))
              refine nV (oK _ _ ?_); clear oK
              refine fZ (H' := [row 24 1 a (2 * l.sections.length) (2 * l.sections.length) ((rows.set (ea.toNat * 1) (⟨a', (atEnd done ea).length + 1, cap', (atEnd done ea).flatMap dY.cells ++ k.cells⟩ : Row)).map Row.hdr), lu (fun _ => True) 183 6 (rows.set (ea.toNat * 1) (⟨a', (atEnd done ea).length + 1, cap', (atEnd done ea).flatMap dY.cells ++ k.cells⟩ : Row)), own b7 209 [.int .i64 k.b, .int .i64 k.jG], own b6 209 [.int .i64 k.a, .int .i64 k.ji], own b5 183 k.cells, own b1 26 (v.cells l), old w]) (fun w hm => by rw [List.map_set]; exact ((Zo (r := ⟨a', (atEnd done ea).length + 1, cap', (atEnd done ea).flatMap dY.cells ++ k.cells⟩) (by rw [hrows.1]; omega) hm).front (c := row 24 1 a (2 * l.sections.length) (2 * l.sections.length) ((rows.map Row.hdr).set (ea.toNat * 1) (Row.hdr ⟨a', (atEnd done ea).length + 1, cap', (atEnd done ea).flatMap dY.cells ++ k.cells⟩))) (by repeat (first | exact jC.head | apply jC.tail))).sub (by repeat (first | exact List.Sublist.refl _ | apply List.Sublist.cons_cons | apply List.Sublist.cons))) ?_
              have V9 : (rows.set (ea.toNat * 1) ⟨a', (atEnd done ea).length + 1, cap', (atEnd done ea).flatMap dY.cells ++ k.cells⟩)[eb.toNat * 1]? = some ⟨aB, (atEnd done eb).length, cB, (atEnd done eb).flatMap dY.cells⟩ := by rw [List.getElem?_set_ne (by omega)]; exact MB
              have hlen1 : (rows.set (ea.toNat * 1) ⟨a', (atEnd done ea).length + 1, cap', (atEnd done ea).flatMap dY.cells ++ k.cells⟩).length = 2 * l.sections.length := by rw [List.length_set]; exact hrows.1
              clear BF MB
              generalize aee : rows.set (ea.toNat * 1) ⟨a', (atEnd done ea).length + 1, cap', (atEnd done ea).flatMap dY.cells ++ k.cells⟩ = KI at *
              refine nY [row 24 1 a (2 * l.sections.length) (2 * l.sections.length) (KI.map Row.hdr), own b7 209 [.int .i64 k.b, .int .i64 k.jG], own b6 209 [.int .i64 k.a, .int .i64 k.ji], own b5 183 k.cells, own b1 26 (v.cells l), old w] 8 ?_
              refine aP 0 rfl aG ?_
              refine aP 1 rfl aG ?_
              refine aP 2 rfl jU ?_
              refine aP 3 rfl (Dv (v := .slice aB (atEnd done eb).length cB) (H9 (Jc V9) (by repeat (first | exact Has.head | apply Has.tail)))) ?_
              refine aP 4 rfl bH ?_
              refine kF 5 rfl (ZQ 183 k.cells (k := fun b76 => ⟨fun w hm => hm.sub (by repeat (first | exact List.Sublist.refl _ | apply List.Sublist.cons_cons | apply List.Sublist.cons)), ?_⟩))
              refine wo (fun w hm => Zp V9 trivial (hm.front (c := lu (fun _ => True) 183 6 KI) (by repeat (first | exact jC.head | apply jC.tail)))) ?_
              refine kF 6 rfl (ZP 48 (k := fun a2 cap2 => ⟨fun w hm => hm.sub (by repeat (first | exact List.Sublist.refl _ | apply List.Sublist.cons_cons | apply List.Sublist.cons)), ?_⟩))
              refine aP 7 rfl jU ?_
              refine nW rfl (ZX (j := eb.toNat * 1) (hu := by repeat (first | exact eD.head | apply eD.tail)) (hj := by rw [List.length_map, hlen1]; omega) (h1 := rfl) (hx := .plain rfl) (hy := .plain rfl) (k := ?_))
              refine nV (dI _ _ ?_); clear dI
              refine fZ (H' := [row 24 1 a (2 * l.sections.length) (2 * l.sections.length) ((KI.set (eb.toNat * 1) (⟨a2, (atEnd done eb).length + 1, cap2, (atEnd done eb).flatMap dY.cells ++ k.cells⟩ : Row)).map Row.hdr), lu (fun _ => True) 183 6 (KI.set (eb.toNat * 1) (⟨a2, (atEnd done eb).length + 1, cap2, (atEnd done eb).flatMap dY.cells ++ k.cells⟩ : Row)), own b1 26 (v.cells l), old w]) (fun w hm => by rw [List.map_set]; exact ((Zo (r := ⟨a2, (atEnd done eb).length + 1, cap2, (atEnd done eb).flatMap dY.cells ++ k.cells⟩) (by rw [hlen1]; omega) hm).front (c := row 24 1 a (2 * l.sections.length) (2 * l.sections.length) ((KI.map Row.hdr).set (eb.toNat * 1) (Row.hdr ⟨a2, (atEnd done eb).length + 1, cap2, (atEnd done eb).flatMap dY.cells ++ k.cells⟩))) (by repeat (first | exact jC.head | apply jC.tail))).sub (by repeat (first | exact List.Sublist.refl _ | apply List.Sublist.cons_cons | apply List.Sublist.cons))) ?_
              subst aee
              refine aR ?_
              refine aH dh ?_
              refine aH aG ?_
              refine aU (hL1 ((j + 1, (rows.set (ea.toNat * 1) (⟨a', (atEnd done ea).length + 1, cap', (atEnd done ea).flatMap dY.cells ++ k.cells⟩ : Row)).set (eb.toNat * 1) (⟨a2, (atEnd done eb).length + 1, cap2, (atEnd done eb).flatMap dY.cells ++ k.cells⟩ : Row))) _ _ (⟨by show (0 : Int) ≤ j + 1; omega, by show j + 1 ≤ _; omega, by show zi (l.links.take (j + 1).toNat) _ _; rw [show (j + 1).toNat = j.toNat + 1 by omega, ht.2]; exact hrows.step k ea eb Qo.symm Qr.symm hne V3.1 V4.1 _ _ _ _, by show l7 l (l.links.take (j + 1).toNat) (l.links.drop (j + 1).toNat) = _; rw [show (j + 1).toNat = j.toNat + 1 by omega]; exact ht.1⟩) (by show (_ - (j + 1)).toNat < _; omega) ⟨rfl, rfl, rfl, rfl, rfl, trivial⟩ (fun w hm => hm.sub (by repeat (first | exact List.Sublist.refl _ | apply List.Sublist.cons_cons | apply List.Sublist.cons))))
  ·
    refine dD (hK3 _ _ ?_); clear hK3
    refine aD fun Hf nK => ?_
    refine aR ?_
    refine aH bX ?_
    refine aU (nK _ _ ?_); clear nK
    refine aL (kJ rfl rfl (fun w hm => aW hm (by rw [afl (by omega) hj2])))
end Go.Proofs.YtcalibhfgdncaaaGreatDoor
namespace Go.Proofs.YtcalibhfgdncaaaGreatDoor
open Go.eT Go.RowKit
set_option maxRecDepth 10000
def iC : List ByteArray → List ByteArray → Int
  | _, [] => 0
  | seen, s :: r => if jR s seen ≠ 0 then jR s seen else iC (seen ++ [s]) r
def kg (mW : Nat) : List ByteArray → List jM → Int
  | _, [] => 0
  | seen, s :: r => if jR s.name seen ≠ 0 then jR s.name seen else if tV mW s = false then 4 else kg mW (seen ++ [s.name]) r
def pR (l : Lay) : Bool := decide (24 < l.kW.length ∨ 48 < l.points.length ∨ 96 < l.sections.length ∨ 192 < l.links.length)
def jD (l : Lay) : Int :=
  if pR l = true then 7 else if l.sections.length = 0 then 1 else
  if iC [] l.kW ≠ 0 then iC [] l.kW else if iC [] l.points ≠ 0 then iC [] l.points else
  if kg l.kW.length [] l.sections ≠ 0 then kg l.kW.length [] l.sections else l7 l [] l.links
theorem afF {names : List ByteArray} {j : Nat} (hj : j < names.length) (h : iC (names.take j) (names.drop j) = iC [] names) :
    (jR (names.getD j ByteArray.empty) (names.take j) ≠ 0 → iC [] names = jR (names.getD j ByteArray.empty) (names.take j)) ∧
    (jR (names.getD j ByteArray.empty) (names.take j) = 0 → iC (names.take (j + 1)) (names.drop (j + 1)) = iC [] names ∧ CP (names.getD j ByteArray.empty) (names.take j) = names.take (j + 1)) := by
  have hd : names.drop j = names[j] :: names.drop (j + 1) := List.drop_eq_getElem_cons hj
  have hg : names.getD j ByteArray.empty = names[j] := by simp [List.getD_eq_getElem?_getD, hj]
  have ht : names.take (j + 1) = names.take j ++ [names[j]] := by rw [List.take_succ_eq_append_getElem hj]
  rw [hd, iC] at h
  rw [hg]
  constructor
  · intro hn; rw [if_pos hn] at h; exact h.symm
  · intro hn
    rw [if_neg (by simp [hn])] at h
    rw [ht]
    exact ⟨h, SX hn⟩
theorem afC {names : List ByteArray} {j : Nat} (hj : names.length ≤ j) (h : iC (names.take j) (names.drop j) = iC [] names) : iC [] names = 0 := by
  rw [← h, List.drop_eq_nil_of_le hj, iC]
def nO (l : Lay) (i : Int) : List ByteArray := if i = 0 then l.kW else l.points
def Hq (v : qL) (i : Int) : Option Addr := if i = 0 then v.a1 else v.a2
def O6 (v : qL) (i : Int) : Nat := if i = 0 then v.c1 else v.c2
theorem ahD {names : List ByteArray} {j : Nat} (hj : j < names.length) : (strCells names)[j]? = some (.string (names.getD j ByteArray.empty)) := by
  simp [strCells, hj]
theorem flat_get {α : Type} {enc : α → List Value} {sz : Nat} (he : ∀ x, (enc x).length = sz) : ∀ (xs : List α) (i j : Nat), j < sz → (xs.flatMap enc)[i * sz + j]? = (xs[i]?).bind (fun x => (enc x)[j]?)
  | [], i, j, _ => by simp
  | x :: xs, 0, j, hj => by
    simp only [List.flatMap_cons, Nat.zero_mul, Nat.zero_add]
    rw [List.getElem?_append_left (by rw [he]; exact hj)]
    rfl
  | x :: xs, i + 1, j, hj => by
    simp only [List.flatMap_cons]
    rw [List.getElem?_append_right (by rw [he, Nat.add_mul]; omega), he]
    rw [show (i + 1) * sz + j - sz = i * sz + j by rw [Nat.add_mul]; omega]
    rw [flat_get he xs i j hj]
    simp
theorem abn {α : Type} {enc : α → List Value} {sz : Nat} (he : ∀ x, (enc x).length = sz) (xs : List α) : (xs.flatMap enc).length = xs.length * sz := by
  induction xs with
  | nil => simp
  | cons x xs ih => simp only [List.flatMap_cons, List.length_append, he, ih, List.length_cons, Nat.add_mul]; omega
def vT : jM := ⟨ByteArray.empty, 0, 0, 0, 0⟩
theorem ahg {xs : List jM} {i j : Nat} {u : Value} (hi : i < xs.length) (hj : (jM.cells (xs.getD i vT))[j]? = some u) : (xs.flatMap jM.cells)[i * 5 + j]? = some u := by
  have hjl : j < 5 := by have := (List.getElem?_eq_some_iff.1 hj).1; simpa [jM.cells] using this
  rw [flat_get (enc := jM.cells) (sz := 5) (fun _ => rfl) xs i j hjl]
  have : xs[i]? = some (xs.getD i vT) := by simp [hi]
  rw [this]
  exact hj
theorem ahj {mW : Nat} {xs : List jM} {j : Nat} (hj : j < xs.length) (h : kg mW ((xs.take j).map jM.name) (xs.drop j) = kg mW [] xs) :
    (jR (xs.getD j vT).name ((xs.take j).map jM.name) ≠ 0 → kg mW [] xs = jR (xs.getD j vT).name ((xs.take j).map jM.name)) ∧
    (jR (xs.getD j vT).name ((xs.take j).map jM.name) = 0 → CP (xs.getD j vT).name ((xs.take j).map jM.name) = (xs.take (j + 1)).map jM.name ∧
      (tV mW (xs.getD j vT) = false → kg mW [] xs = 4) ∧ (tV mW (xs.getD j vT) = true → kg mW ((xs.take (j + 1)).map jM.name) (xs.drop (j + 1)) = kg mW [] xs)) := by
  have hd : xs.drop j = xs[j] :: xs.drop (j + 1) := List.drop_eq_getElem_cons hj
  have hg : xs.getD j vT = xs[j] := by simp [List.getD_eq_getElem?_getD, hj]
  have ht : (xs.take (j + 1)).map jM.name = (xs.take j).map jM.name ++ [xs[j].name] := by rw [List.take_succ_eq_append_getElem hj, List.map_append]; rfl
  rw [hd, kg] at h
  rw [hg]
  constructor
  · intro hn; rw [if_pos hn] at h; exact h.symm
  · intro hn
    rw [if_neg (fun h => h hn)] at h
    rw [ht]
    refine ⟨SX hn, fun hb => ?_, fun hb => ?_⟩
    · rw [if_pos hb] at h; exact h.symm
    · rw [if_neg (by simp [hb])] at h; exact h
theorem ahh {mW : Nat} {xs : List jM} {j : Nat} (hj : xs.length ≤ j) (h : kg mW ((xs.take j).map jM.name) (xs.drop j) = kg mW [] xs) : kg mW [] xs = 0 := by
  rw [← h, List.drop_eq_nil_of_le hj, kg]
theorem afG {v : qL} {l : Lay} {i : Int} (h0 : 0 ≤ i) (h : i < 2) : ([.slice v.a1 l.kW.length v.c1, .slice v.a2 l.points.length v.c2] : List Value)[i.toNat]? = some (.slice (Hq v i) (nO l i).length (O6 v i)) := by
  have : i = 0 ∨ i = 1 := by omega
  rcases this with rfl | rfl <;> rfl
theorem afD {l : Lay} {i : Int} (h0 : 0 ≤ i) (h2 : i < 2) (hst : 1 ≤ i → iC [] l.kW = 0) (hn : iC [] (nO l i) = 0) :
    0 ≤ i + 1 ∧ i + 1 ≤ 2 ∧ (1 ≤ i + 1 → iC [] l.kW = 0) ∧ (2 ≤ i + 1 → iC [] l.points = 0) := by
  have : i = 0 ∨ i = 1 := by omega
  rcases this with rfl | rfl
  · exact ⟨by omega, by omega, fun _ => hn, by omega⟩
  · exact ⟨by omega, by omega, fun _ => hst (by omega), fun _ => hn⟩
theorem afE {l : Lay} {i e : Int} (h0 : 0 ≤ i) (h2 : i < 2) (hf : pR l = false) (hs : ¬ l.sections.length = 0) (hst : 1 ≤ i → iC [] l.kW = 0) (he : iC [] (nO l i) = e) (hne : e ≠ 0) : jD l = e := by
  have : i = 0 ∨ i = 1 := by omega
  rcases this with rfl | rfl
  · have he' : iC [] l.kW = e := he
    rw [jD, if_neg (by simp [hf]), if_neg hs, if_pos (by rw [he']; exact hne), he']
  · have he' : iC [] l.points = e := he
    rw [jD, if_neg (by simp [hf]), if_neg hs, if_neg (by simp [hst (by omega)]), if_pos (by rw [he']; exact hne), he']
theorem ZH {l : Lay} {e : Int} (hf : pR l = false) (hs : ¬ l.sections.length = 0) (hst : iC [] l.kW = 0) (hpt : iC [] l.points = 0) (he : kg l.kW.length [] l.sections = e) (hne : e ≠ 0) : jD l = e := by
  rw [jD, if_neg (by simp [hf]), if_neg hs, if_neg (by simp [hst]), if_neg (by simp [hpt]), if_pos (by rw [he]; exact hne), he]
theorem afn {l : Lay} (hf : pR l = false) (hs : ¬ l.sections.length = 0) (hst : iC [] l.kW = 0) (hpt : iC [] l.points = 0) (he : kg l.kW.length [] l.sections = 0) : jD l = l7 l [] l.links := by
  rw [jD, if_neg (by simp [hf]), if_neg hs, if_neg (by simp [hst]), if_neg (by simp [hpt]), if_neg (by simp [he])]
theorem aaW (w : World) (v : qL) (l : Lay) (hl : zf 0 w.heap.size w v l)
    (hck : l.sections.length ≤ 96 ∧ l.links.length ≤ 192 → ∀ w' : World, zf 0 w'.heap.size w' v l → Calls Tryz.prog 98 #[.agg (v.cells l).toArray] w' (bW w' (.int .i64 (l7 l [] l.links)))) : Calls Tryz.prog 44 #[.agg (v.cells l).toArray] w (bW w (.int .i64 (jD l))) := by
  refine bR (args := [_]) Tryz.func44 rfl (Mem.start w) rfl ?_
  refine aD fun K1 hK1 => ?_
  refine aR ?_
  refine aF (bU (k := fun b1 => ?_))
  refine aH bX ?_
  refine aU (hK1 _ _ ?_); clear hK1
  refine aD fun K2 hK2 => ?_
  refine bf ?_
  refine iH (γ := Bool) (env := fun q => [(1, .v (.pointer (some ⟨b1, 0, none⟩))), (13, .v (.bool q))]) (mem := fun q => [own b1 26 (v.cells l), old w]) (R := fun q => q = pR l) ?_ ?_
  · intro A9 hJ3
    refine aD fun K4 hK4 => ?_
    refine aR ?_
    refine aH (ay 0) ?_
    refine aH aC ?_
    refine aH bE ?_
    refine aH fP ?_
    refine aH bX ?_
    refine aU (hK4 _ _ ?_); clear hK4
    refine pI rfl (fun hc1 => ?_) (fun hc1 => ?_)  -- t13
    ·
      refine aM (hJ3 (_) _ _ (by simp only [pR]; congr 1; simp only [eq_iff_iff]; omega) ⟨rfl, rfl, trivial⟩ (fun _ h => h))
    ·
      refine aD fun K5 cu => ?_
      refine aR ?_
      refine aH (ay 1) ?_
      refine aH aC ?_
      refine aH bE ?_
      refine aH fP ?_
      refine aH bX ?_
      refine aU (cu _ _ ?_); clear cu
      refine pI rfl (fun hc2 => ?_) (fun hc2 => ?_)  -- t13
      ·
        refine aM (hJ3 (_) _ _ (by simp only [pR]; congr 1; simp only [eq_iff_iff]; omega) ⟨rfl, rfl, trivial⟩ (fun _ h => h))
      ·
        refine aD fun K6 cK => ?_
        refine aR ?_
        refine aH (ay 2) ?_
        refine aH aC ?_
        refine aH bE ?_
        refine aH fP ?_
        refine aH bX ?_
        refine aU (cK _ _ ?_); clear cK
        refine pI rfl (fun hc3 => ?_) (fun hc3 => ?_)  -- t13
        ·
          refine aM (hJ3 (_) _ _ (by simp only [pR]; congr 1; simp only [eq_iff_iff]; omega) ⟨rfl, rfl, trivial⟩ (fun _ h => h))
        ·
          refine aR ?_
          refine aH (ay 3) ?_
          refine aH aC ?_
          refine aH bE ?_
          refine aH fP ?_
          refine aH bX ?_
          refine aU (hJ3 (_) _ _ (by simp only [pR]; congr 1; simp only [eq_iff_iff]; omega) ⟨rfl, rfl, trivial⟩ (fun _ h => h))
  · intro q hR
    refine pG rfl (fun hc4 => ?_) (fun hc4 => ?_)  -- t13
    ·
      refine aD fun K7 dI => ?_
      refine aR ?_
      refine aH bX ?_
      refine aU (dI _ _ ?_); clear dI
      refine aL (kJ rfl rfl (fun w hm => aW hm (by rw [jD, if_pos (by rw [← hR, hc4])])))
    ·
      have hfull : pR l = false := by rw [← hR, hc4]
      have hb : l.kW.length ≤ 24 ∧ l.points.length ≤ 48 ∧ l.sections.length ≤ 96 ∧ l.links.length ≤ 192 := by simp only [pR, decide_eq_false_iff_not] at hfull; omega
      obtain ⟨hb1, hb2, hb3, hb4⟩ := hb
      refine aD fun K8 fE => ?_
      refine aR ?_
      refine aH (ay 2) ?_
      refine aH aC ?_
      refine aH bE ?_
      refine aH dS ?_
      refine aH bX ?_
      refine aU (fE _ _ ?_); clear fE
      refine pI rfl (fun gX => ?_) (fun gX => ?_)  -- t30
      ·
        refine aD fun K9 eZ => ?_
        refine aR ?_
        refine aH bX ?_
        refine aU (eZ _ _ ?_); clear eZ
        refine aL (kJ rfl rfl (fun w hm => aW hm (by rw [jD, if_neg (by simp [hfull]), if_pos (by omega)])))
      ·
        refine aM (hK2 _ _ ?_); clear hK2
        refine aD fun pE gu => ?_
        refine aD fun oG fM => ?_
        refine aR ?_
        refine aH (ay 0) ?_
        refine aH aC ?_
        refine aH (ay 1) ?_
        refine aH aC ?_
        refine aH Pn ?_
        refine aH aG ?_
        refine aU (fM _ _ ?_); clear fM
        refine bf ?_
        refine dF (γ := Int) (env := fun i => [(1, .v (.pointer (some ⟨b1, 0, none⟩))), (39, .v (.agg #[.slice v.a1 l.kW.length v.c1, .slice v.a2 l.points.length v.c2])), (40, .v (.int .i64 i))]) (mem := fun i => [own b1 26 (v.cells l), old w]) (R := fun i => 0 ≤ i ∧ i ≤ 2 ∧ (1 ≤ i → iC [] l.kW = 0) ∧ (2 ≤ i → iC [] l.points = 0)) (μ := fun i => (2 - i).toNat) (0) (⟨by omega, by omega, by omega, by omega⟩) ⟨rfl, rfl, rfl, trivial⟩ (fun _ h => h) ?_
        intro i DC gy hL1
        obtain ⟨hi0, hi2, Jf, Qw⟩ := DC
        refine aD fun uq iU => ?_
        refine aR ?_
        refine aH bN ?_
        refine aU (iU _ _ ?_); clear iU
        refine aD fun uM jr => ?_
        refine pI rfl (fun hc6 => ?_) (fun hc6 => ?_)  -- t41
        ·
          refine aM (jr _ _ ?_); clear jr
          refine aD fun uN jv => ?_
          refine bf ?_
          refine aD fun wh jN => ?_
          refine aR ?_
          refine aH (abb (v := .slice (Hq v i) (nO l i).length (O6 v i)) 2 (fun _ => by omega) (fun _ => afG hi0 hc6)) ?_
          refine aH bX ?_
          refine aU (jN _ _ ?_); clear jN
          refine aD fun xu j5 => ?_
          refine aR ?_
          refine aF (ZV (k := fun b5 => ?_))
          refine aH bX ?_
          refine aU (j5 _ _ ?_); clear j5
          refine aD fun CV ny => ?_
          refine aR ?_
          refine aH aG ?_
          have hnl : (nO l i).length ≤ 48 := by unfold nO; split <;> omega
          have hns : Sl 0 w.heap.size w (Hq v i) (strCells (nO l i)) := by unfold Hq nO; split; exact hl.st; exact hl.pt
          refine aH bE ?_
          refine aH aG ?_
          refine aU (ny _ _ ?_); clear ny
          refine bf ?_
          refine dF (γ := Int) (env := fun j => [(1, .v (.pointer (some ⟨b1, 0, none⟩))), (39, .v (.agg #[.slice v.a1 l.kW.length v.c1, .slice v.a2 l.points.length v.c2])), (40, .v (.int .i64 i)), (5, .v (.map (some b5))), (44, .v (.slice (Hq v i) (nO l i).length (O6 v i))), (45, .v (.int .i64 ((nO l i).length : Int))), (46, .v (.int .i64 j))]) (mem := fun j => [qX b5 ((nO l i).take j.toNat), own b1 26 (v.cells l), old w]) (R := fun j => 0 ≤ j ∧ j ≤ (nO l i).length ∧ iC ((nO l i).take j.toNat) ((nO l i).drop j.toNat) = iC [] (nO l i)) (μ := fun j => ((nO l i).length - j).toNat) (0) (⟨by omega, by omega, rfl⟩) ⟨rfl, rfl, rfl, rfl, rfl, rfl, rfl, trivial⟩ (fun _ h => h) ?_
          intro j hR2 uP hL2
          obtain ⟨hj0, hj1, hj2⟩ := hR2
          refine aD fun G9 oJ => ?_
          refine aR ?_
          refine aH bN ?_
          refine aU (oJ _ _ ?_); clear oJ
          refine aD fun ze kQ => ?_
          refine pI rfl (fun ku => ?_) (fun ku => ?_)  -- t47
          ·
            refine aM (kQ _ _ ?_); clear kQ
            refine aD fun LJ qP => ?_
            refine bf ?_
            refine aD fun LK qQ => ?_
            refine aR ?_
            refine aH (zC 1 (fun _ => hns.addr (by simp [strCells]; omega))) ?_
            refine aH (Dv (Dm (j := j.toNat * 1) hns (by rw [Nat.mul_one]; exact ahD (by omega)) (Nat.le_refl _) (by repeat (first | exact Has.head | apply Has.tail)))) ?_
            refine aH bX ?_
            refine aU (qQ _ _ ?_); clear qQ
            refine aD fun He oK => ?_
            refine aR ?_
            refine aH aG ?_
            refine aH aG ?_
            have hstep := afF (names := nO l i) (j := j.toNat) (by omega) hj2
            refine aF (ZR (hc := fun w hm hφ hfp => Vd w _ b5 _ hφ hfp) (k := fun _ _ => ?_))
            refine aH bX ?_
            refine aU (oK _ _ ?_); clear oK
            refine aD fun Hf nK => ?_
            refine aR ?_
            refine aH aG ?_
            refine aH fB ?_
            refine aU (nK _ _ ?_); clear nK
            refine pI rfl (fun hc8 => ?_) (fun hc8 => ?_)  -- t54
            ·
              refine aD fun Ug zG => ?_
              refine aR ?_
              refine aH aG ?_
              refine aH bX ?_
              refine aU (zG _ _ ?_); clear zG
              refine aL (kJ rfl rfl (fun w hm => aW hm (by rw [afE hi0 hc6 hfull (by omega) Jf (hstep.1 hc8) hc8])))
            ·
              refine aM (qP _ _ ?_); clear qP
              refine aR ?_
              refine aH dh ?_
              refine aH aG ?_
              have hz : jR ((nO l i).getD j.toNat ByteArray.empty) ((nO l i).take j.toNat) = 0 := Decidable.of_not_not hc8
              refine aU (hL2 (j + 1) _ _ (⟨by omega, by omega, by rw [show (j + 1).toNat = j.toNat + 1 by omega]; exact (hstep.2 hz).1⟩) (by omega) ⟨rfl, rfl, rfl, rfl, rfl, rfl, rfl, trivial⟩ (fun w hm => by rw [show (j + 1).toNat = j.toNat + 1 by omega, ← (hstep.2 hz).2]; exact hm))
          ·
            refine dD (jv _ _ ?_); clear jv
            refine aR ?_
            refine aH dh ?_
            refine aH aG ?_
            refine aU (hL1 (i + 1) _ _ (afD hi0 hc6 Jf (afC (by omega) hj2)) (by omega) ⟨rfl, rfl, rfl, trivial⟩ (fun w hm => hm.sub (by repeat (first | exact List.Sublist.refl _ | apply List.Sublist.cons_cons | apply List.Sublist.cons))))
        ·
          refine dD (gu _ _ ?_); clear gu
          refine aD fun OD uX => ?_
          refine aR ?_
          refine aF (ZV (k := fun b9 => ?_))
          refine aH bX ?_
          refine aU (uX _ _ ?_); clear uX
          refine aD fun OE uY => ?_
          refine aD fun LM qR => ?_
          refine aR ?_
          refine aH (ay 2) ?_
          refine aH aC ?_
          refine aH bE ?_
          refine aH aG ?_
          refine aU (qR _ _ ?_); clear qR
          refine bf ?_
          refine dF (γ := Int) (env := fun j => [(1, .v (.pointer (some ⟨b1, 0, none⟩))), (9, .v (.map (some b9))), (60, .v (.slice v.a3 l.sections.length v.c3)), (61, .v (.int .i64 (l.sections.length : Int))), (62, .v (.int .i64 j))]) (mem := fun j => [qX b9 ((l.sections.take j.toNat).map jM.name), own b1 26 (v.cells l), old w]) (R := fun j => 0 ≤ j ∧ j ≤ l.sections.length ∧ kg l.kW.length ((l.sections.take j.toNat).map jM.name) (l.sections.drop j.toNat) = kg l.kW.length [] l.sections) (μ := fun j => (l.sections.length - j).toNat) (0) (⟨by omega, by omega, rfl⟩) ⟨rfl, rfl, rfl, rfl, rfl, trivial⟩ (fun _ h => h) ?_
          intro j hR3 CX hL3
          obtain ⟨hj0, hj1, hj2⟩ := hR3
          refine aD fun Uh zH => ?_
          refine aR ?_
          refine aH bN ?_
          refine aU (zH _ _ ?_); clear zH
          refine aD fun Hg oL => ?_
          refine pI rfl (fun nA => ?_) (fun nA => ?_)  -- t63
          ·
            refine aM (oL _ _ ?_); clear oL
            refine aD fun LP qU => ?_
            refine bf ?_
            refine aD fun OG uZ => ?_
            refine aR ?_
            refine aH (zC 5 (fun _ => hl.se.addr (by rw [abn (sz := 5) (fun _ => rfl)]; omega))) ?_
            refine aH (Po (l := (l.sections.getD j.toNat vT).cells) (fun w hm q u hu => by rw [Nat.add_assoc]; exact Dm hl.se (ahg (by omega) hu) (Nat.le_refl _) (by repeat (first | exact Has.head | apply Has.tail)) w hm)) ?_
            refine aF (bQ rfl (k := fun b11 => ?_))
            refine aF (bI (k := ?_))
            refine aU (uZ _ _ ?_); clear uZ
            refine aD fun Ui zI => ?_
            refine aD fun OH sj => ?_
            refine aR ?_
            refine aH (ay 0) ?_
            refine aH aC ?_
            refine aH aG ?_
            have hstep := ahj (mW := l.kW.length) (xs := l.sections) (j := j.toNat) (by omega) hj2
            refine aF (ZR (hc := fun w hm hφ hfp => Vd w _ b9 _ hφ hfp) (k := fun _ _ => ?_))
            refine aH bX ?_
            refine aU (sj _ _ ?_); clear sj
            refine aD fun Uj zJ => ?_
            refine aR ?_
            refine aH aG ?_
            refine aH fB ?_
            refine aU (zJ _ _ ?_); clear zJ
            refine pI rfl (fun pV => ?_) (fun pV => ?_)  -- t71
            ·
              refine aD fun Uk zK => ?_
              refine aR ?_
              refine aH aG ?_
              refine aH bX ?_
              refine aU (zK _ _ ?_); clear zK
              refine aL (kJ rfl rfl (fun w hm => aW hm (by rw [ZH hfull (by omega) (Jf (by omega)) (Qw (by omega)) (hstep.1 pV) pV])))
            ·
              have hz : jR (l.sections.getD j.toNat vT).name ((l.sections.take j.toNat).map jM.name) = 0 := Decidable.of_not_not pV
              refine aM (zI _ _ ?_); clear zI
              refine aD fun K36 IJ => ?_
              refine aR ?_
              refine aH bH ?_
              refine aH bH ?_
              refine aF (bg (fun w hm => ahk w v l _) ?_)
              refine aH dN ?_
              refine aU (IJ _ _ ?_); clear IJ
              refine pG rfl (fun su => ?_) (fun su => ?_)  -- t76
              ·
                refine aD fun OI u6 => ?_
                refine aR ?_
                refine aH bX ?_
                refine aU (u6 _ _ ?_); clear u6
                refine aL (kJ rfl rfl (fun w hm => aW hm (by rw [ZH hfull (by omega) (Jf (by omega)) (Qw (by omega)) ((hstep.2 hz).2.1 (by simpa using su)) (by decide)])))
              ·
                refine aM (qU _ _ ?_); clear qU
                refine aR ?_
                refine aH dh ?_
                refine aH aG ?_
                refine aU (hL3 (j + 1) _ _ (⟨by omega, by omega, by rw [show (j + 1).toNat = j.toNat + 1 by omega]; exact (hstep.2 hz).2.2 (by simpa using su)⟩) (by omega) ⟨rfl, rfl, rfl, rfl, rfl, trivial⟩ (fun w hm => by rw [show (j + 1).toNat = j.toNat + 1 by omega, ← (hstep.2 hz).1]; exact hm.sub (by repeat (first | exact List.Sublist.refl _ | apply List.Sublist.cons_cons | apply List.Sublist.cons))))
          ·
            refine dD (uY _ _ ?_); clear uY
            refine aD fun K38 IK => ?_
            refine aR ?_
            refine aH bH ?_
            refine aF (bg (fun w hm => hck (by omega) w (zf.below hl (hm.below (by repeat (first | exact Has.head | apply Has.tail))))) ?_)
            refine aH bX ?_
            refine aU (IK _ _ ?_); clear IK
            refine aL (kJ rfl rfl (fun w hm => aW hm (by rw [afn hfull (by omega) (Jf (by omega)) (Qw (by omega)) (ahh (by omega) hj2)])))
theorem aaX (w : World) (v : qL) (l : Lay) (hl : zf 0 w.heap.size w v l) : Calls Tryz.prog 44 #[.agg (v.cells l).toArray] w (bW w (.int .i64 (jD l))) :=
  aaW w v l hl fun hb w' hl' => aaQ w' v l hl' hb
end Go.Proofs.YtcalibhfgdncaaaGreatDoor
namespace Go.Proofs.YtcalibhfgdncaaaGreatDoor
open Go.Dc Go.RowKit
theorem NM {α : Type} [ak α] {S : bD} {w : World} {r : SR (ak.R α)} {xs : List α} (f : α → List Value) (hf : ∀ (q : ak.R α) x, ak.enc q x = f x) (hS : ∀ k, S k → k < w.heap.size) (h : ng S w r xs) :
    Go.eT.Sl 0 w.heap.size w r.a (xs.flatMap f) := by
  have he : ∀ (l : List α) (i : Nat), l.flatMap f = fU r.es l i := by
    intro l
    induction l with
    | nil => intro i; rfl
    | cons x l ih => intro i; rw [List.flatMap_cons, fU, hf, ih (i + 1)]
  intro j v hv
  rw [he xs 0] at hv
  obtain ⟨i, j', x, rfl, hj, hx, hv⟩ := Mi r.es hv
  obtain ⟨h1, h2, h3, _⟩ := h.2.2 i x hx
  exact ⟨h1, Nat.zero_le _, hS _ h2, h3 j' v hv⟩
def nQ (s : Section) : jM := ⟨s.Name.ba, s.Length, s.Limit, s.iE, s.mE⟩
def gY (k : Link) : dY := ⟨k.A, k.bY, k.B, k.dx, k.Point, k.Pos⟩
def fD (l : Layout) : Lay := ⟨l.aX.map Str.ba, l.bF.map Str.ba, l.Sections.map nQ, l.Links.map gY⟩
def Jw (l : Layout) : Option Int := some (jD (fD l))
theorem Xf (S : bD) (w : World) (l0 : Layout) (aj : ak.R Layout) (y : Int) (hM : Jw l0 = some y) (hS : ∀ k, S k → k < w.heap.size) (dH : ak.ok S w aj l0) :
    Calls Tryz.prog 44 #[.agg #[.slice aj.1.a l0.aX.length aj.1.cap, .slice aj.2.1.a l0.bF.length aj.2.1.cap, .slice aj.2.2.1.a l0.Sections.length aj.2.2.1.cap, .slice aj.2.2.2.a l0.Links.length aj.2.2.2.cap]] w (bW w (.int .i64 y)) := by
  obtain rfl := some_inj hM
  obtain ⟨h1, h2, h3, h4⟩ := dH
  have hstr : ∀ l : List Str, strCells (l.map Str.ba) = l.flatMap (fun s => [.string s.ba]) := by
    intro l
    unfold strCells
    induction l with
    | nil => rfl
    | cons x l ih => simp only [List.map_cons, List.flatMap_cons, ih]; rfl
  have := aaX w ⟨aj.1.a, aj.1.cap, aj.2.1.a, aj.2.1.cap, aj.2.2.1.a, aj.2.2.1.cap, aj.2.2.2.a, aj.2.2.2.cap⟩ (fD l0)
    ⟨by show Go.eT.Sl _ _ _ aj.1.a (strCells (l0.aX.map Str.ba)); rw [hstr]; exact NM _ (fun _ _ => rfl) hS h1,
     by show Go.eT.Sl _ _ _ aj.2.1.a (strCells (l0.bF.map Str.ba)); rw [hstr]; exact NM _ (fun _ _ => rfl) hS h2,
     by show Go.eT.Sl _ _ _ aj.2.2.1.a ((l0.Sections.map nQ).flatMap jM.cells); rw [List.flatMap_map]; exact NM _ (fun _ _ => rfl) hS h3,
     by show Go.eT.Sl _ _ _ aj.2.2.2.a ((l0.Links.map gY).flatMap dY.cells); rw [List.flatMap_map]; exact NM _ (fun _ _ => rfl) hS h4⟩
  have hc : (qL.cells ⟨aj.1.a, aj.1.cap, aj.2.1.a, aj.2.1.cap, aj.2.2.1.a, aj.2.2.1.cap, aj.2.2.2.a, aj.2.2.2.cap⟩ (fD l0)) = [.slice aj.1.a l0.aX.length aj.1.cap, .slice aj.2.1.a l0.bF.length aj.2.1.cap, .slice aj.2.2.1.a l0.Sections.length aj.2.2.1.cap, .slice aj.2.2.2.a l0.Links.length aj.2.2.2.cap] := by
    simp [qL.cells, fD]
  rw [hc] at this
  exact this
end Go.Proofs.YtcalibhfgdncaaaGreatDoor
