/- Several parts of the engine, one behind the other. -/
import Derived.Test.YtcalibhfgdncaaaEm
import Derived.Test.YtcalibhfgdncaaaProg
import Derived.Test.YtcalibhfgdncaaaTypes
set_option linter.all false
namespace Go.Proofs.Ytcalibhfgdncaaa
open Go.gY Go.RowKit
set_option maxRecDepth 10000
def sD (c : Int) : Bool := (decide (65 ≤ c) && decide (c ≤ 90)) || (decide (97 ≤ c) && decide (c ≤ 122))
def yQ (c : Int) : Bool := decide (48 ≤ c) && decide (c ≤ 57)
theorem Uz (w : World) (c : Int) : Calls Try.prog 58 #[.int .u8 c] w (dQ w (.bool (sD c))) := by
  refine dH (args := [_]) Try.func58 rfl (Mem.start w) rfl ?_
  refine aO fun K1 hK1 => ?_
  refine bE ?_
  refine aY d9 ?_
  refine bF (hK1 _ _ ?_); clear hK1
  refine aO fun K2 hK2 => ?_
  refine bE ?_
  refine aY aL ?_
  refine aY iM ?_
  refine aY aL ?_
  refine aF rfl aL ?_
  refine aF rfl nG ?_
  refine aY dO ?_
  refine aY aL ?_
  refine aF rfl aL ?_
  refine aF rfl iM ?_
  refine aF rfl aL ?_
  refine aF rfl aL ?_
  refine aF rfl nG ?_
  refine aF rfl dO ?_
  refine aY eu ?_
  refine aY d9 ?_
  refine bF (hK2 _ _ ?_); clear hK2
  refine bn (mG rfl rfl (fun w hm => bQ hm rfl))
theorem ab2 (w : World) (c : Int) : Calls Try.prog 59 #[.int .u8 c] w (dQ w (.bool (yQ c))) := by
  refine dH (args := [_]) Try.func59 rfl (Mem.start w) rfl ?_
  refine aO fun K1 hK1 => ?_
  refine bE ?_
  refine aY d9 ?_
  refine bF (hK1 _ _ ?_); clear hK1
  refine aO fun K2 hK2 => ?_
  refine bE ?_
  refine aY aL ?_
  refine aY iM ?_
  refine aY aL ?_
  refine aF rfl aL ?_
  refine aF rfl nG ?_
  refine aY dO ?_
  refine aY d9 ?_
  refine bF (hK2 _ _ ?_); clear hK2
  refine bn (mG rfl rfl (fun w hm => bQ hm rfl))
def uj (c : Int) : Bool := sD c || yQ c || decide (c = 95)
def qU (s : ByteArray) : Bool := decide (1 ≤ s.size) && decide (s.size ≤ 12) && sD (bt s 0) && (List.range s.size).all fun i => uj (bt s i)
theorem Yi {c : Int} (h : ((!sD c && !yQ c) && decide (c ≠ 95)) = false) : uj c = true := by
  unfold uj
  cases hl : sD c <;> cases hd : yQ c <;> simp [hl, hd] at h ⊢
  exact h
theorem acP {s : ByteArray} (h : ((decide ((s.size : Int) < 1) || decide (12 < (s.size : Int))) || !sD (bt s 0)) = true) : qU s = false := by
  unfold qU
  cases hl : sD (bt s 0)
  · simp
  · simp [hl] at h
    rcases h with h | h
    · have : ¬ (1 ≤ s.size) := by omega
      simp [this]
    · have : ¬ (s.size ≤ 12) := by omega
      simp [this]
theorem acQ {s : ByteArray} {i : Int} (h0 : 0 ≤ i) (h1 : i < s.size) (h : ((!sD (bt s i.toNat) && !yQ (bt s i.toNat)) && decide (bt s i.toNat ≠ 95)) = true) : qU s = false := by
  have hc : uj (bt s i.toNat) = false := by
    unfold uj
    cases hl : sD (bt s i.toNat) <;> cases hd : yQ (bt s i.toNat) <;> simp_all
  have : ((List.range s.size).all fun i => uj (bt s i)) = false := by
    rw [List.all_eq_false]
    exact ⟨i.toNat, by rw [List.mem_range]; omega, by simp [hc]⟩
  unfold qU
  rw [this]
  simp
theorem acS {s : ByteArray} {i : Int} (h : ((¬ (s.size : Int) < 1) ∧ ¬ 12 < (s.size : Int)) ∧ sD (bt s 0) = true) (hi : i = s.size) (hall : ∀ j, j < i.toNat → uj (bt s j) = true) : qU s = true := by
  unfold qU
  have h1 : 1 ≤ s.size := by omega
  have h2 : s.size ≤ 12 := by omega
  simp only [h1, h2, decide_true, h.2, Bool.true_and, List.all_eq_true, List.mem_range]
  intro j hj
  exact hall j (by omega)
theorem acR (w : World) (s : ByteArray) : Calls Try.prog 37 #[.string s] w (dQ w (.bool (qU s))) := by
  refine dH (args := [_]) Try.func37 rfl (Mem.start w) rfl ?_
  refine aO fun K1 hK1 => ?_
  refine bE ?_
  refine aY d9 ?_
  refine bF (hK1 _ _ ?_); clear hK1
  refine aO fun K2 hK2 => ?_
  refine aO fun K3 hK3 => ?_
  refine bE ?_
  refine aY aL ?_
  refine aY Gu ?_
  refine aY dJ ?_
  refine aY aL ?_
  refine aF rfl aL ?_
  refine aF rfl Gu ?_
  refine aF rfl iH ?_
  refine aY eu ?_
  refine aY aL ?_
  refine aF rfl aL ?_
  refine aF rfl J9 ?_
  refine nW rfl (fun _ w _ => Uz w _) ?_
  refine aF rfl gB ?_
  refine aY eu ?_
  refine bF (hK3 _ _ ?_); clear hK3
  refine qm rfl (fun hc1 => ?_) (fun hc1 => ?_)  -- t17
  ·
    refine aO fun K4 hK4 => ?_
    refine bE ?_
    refine aY d9 ?_
    refine bF (hK4 _ _ ?_); clear hK4
    refine bn (mG rfl rfl (fun w hm => bQ hm (congrArg Value.bool (acP hc1).symm)))
  ·
    refine bA (hK2 _ _ ?_); clear hK2
    refine aO fun K5 dW => ?_
    refine aO fun K6 dM => ?_
    refine bE ?_
    refine aY aL ?_
    refine aY Gu ?_
    refine aY aL ?_
    refine bF (dM _ _ ?_); clear dM
    refine bX ?_  -- block 0
    simp only [Bool.or_eq_false_iff, decide_eq_false_iff_not, Bool.not_eq_false'] at hc1
    refine fM (γ := Int) (env := fun i => [(0, .v (.string s)), (19, .v (.int .i64 (s.size : Int))), (20, .v (.int .i64 i))]) (mem := fun _ => [old w])
      (R := fun i => 0 ≤ i ∧ i ≤ s.size ∧ ∀ j, j < i.toNat → uj (bt s j) = true) (μ := fun i => (s.size - i).toNat) 0 ⟨by omega, by omega, fun j hj => by simp at hj⟩ ⟨rfl, rfl, rfl, trivial⟩ (fun _ h => h) ?_
    · intro i hR KL hL
      obtain ⟨hi0, hi1, hall⟩ := hR
      refine aO fun K7 eZ => ?_
      refine bE ?_
      refine aY dJ ?_
      refine bF (eZ _ _ ?_); clear eZ
      refine aO fun K8 jB => ?_
      refine rD rfl (fun hc => ?_) (fun hc => ?_)  -- t21
      ·
        refine bA (jB _ _ ?_); clear jB
        refine aO fun K9 gJ => ?_
        refine bX ?_  -- block 1
        refine aO fun rW iA => ?_
        refine bE ?_
        refine aY aL ?_
        refine aY d9 ?_
        refine bF (iA _ _ ?_); clear iA
        refine aO fun rX ig => ?_
        refine bE ?_
        refine aY aL ?_
        refine aY aL ?_
        refine aY J9 ?_
        refine aM (bJ (fun w _ => Uz w _) ?_)
        refine aY gB ?_
        refine aY aL ?_
        refine aF rfl aL ?_
        refine aF rfl aL ?_
        refine aF rfl J9 ?_
        refine nW rfl (fun _ w _ => ab2 w _) ?_
        refine aF rfl gB ?_
        refine aY dO ?_
        refine aY aL ?_
        refine aF rfl aL ?_
        refine aF rfl aL ?_
        refine aF rfl J9 ?_
        refine aF rfl jo ?_
        refine aY dO ?_
        refine bF (ig _ _ ?_); clear ig
        refine qm rfl (fun hc2 => ?_) (fun hc2 => ?_)  -- t40
        ·
          refine aO fun yH lK => ?_
          refine bE ?_
          refine aY d9 ?_
          refine bF (lK _ _ ?_); clear lK
          refine bn (mG rfl rfl (fun w hm => bQ hm (congrArg Value.bool (acQ hi0 (by assumption) hc2).symm)))
        ·
          refine bA (gJ _ _ ?_); clear gJ
          refine bE ?_
          refine aY dh ?_
          refine aY aL ?_
          refine bF (hL (i + 1) _ _ ⟨by omega, by omega, fun j hj => ?_⟩ (by omega) ⟨rfl, rfl, rfl, trivial⟩ (fun _ h => h))
          by_cases hji : j < i.toNat
          · exact hall j hji
          · obtain rfl : j = i.toNat := by omega
            exact Yi hc2
      ·
        -- exit 0
        refine fI (dW _ _ ?_); clear dW
        refine aO fun zP mM => ?_
        refine bE ?_
        refine aY d9 ?_
        refine bF (mM _ _ ?_); clear mM
        refine bn (mG rfl rfl (fun w hm => bQ hm (congrArg Value.bool (acS hc1 (by omega) hall).symm)))
end Go.Proofs.Ytcalibhfgdncaaa
namespace Go.Proofs.Ytcalibhfgdncaaa
open Go.gY Go.RowKit
set_option maxRecDepth 10000
structure kW where
  name : ByteArray
  len : Int
  lim : Int
  Nr : Int
  QY : Int
def kW.cells (s : kW) : List Value := [.string s.name, .int .i64 s.len, .int .i64 s.lim, .int .i64 s.Nr, .int .i64 s.QY]
structure eU where
  a : Int
  jJ : Int
  b : Int
  kE : Int
  point : Int
  pos : Int
def eU.cells (k : eU) : List Value := [.int .i64 k.a, .int .i64 k.jJ, .int .i64 k.b, .int .i64 k.kE, .int .i64 k.point, .int .i64 k.pos]
structure Lay where
  nu : List ByteArray
  points : List ByteArray
  sections : List kW
  links : List eU
def strCells (l : List ByteArray) : List Value := l.map .string
structure sK where
  a1 : Option Addr
  c1 : Nat
  a2 : Option Addr
  c2 : Nat
  a3 : Option Addr
  c3 : Nat
  a4 : Option Addr
  c4 : Nat
def sK.cells (v : sK) (l : Lay) : List Value := [.slice v.a1 l.nu.length v.c1, .slice v.a2 l.points.length v.c2, .slice v.a3 l.sections.length v.c3, .slice v.a4 l.links.length v.c4]
structure zS (lo hi : Nat) (w : World) (v : sK) (l : Lay) : Prop where
  st : Sl lo hi w v.a1 (strCells l.nu)
  pt : Sl lo hi w v.a2 (strCells l.points)
  se : Sl lo hi w v.a3 (l.sections.flatMap kW.cells)
  li : Sl lo hi w v.a4 (l.links.flatMap eU.cells)
def nU (s : ByteArray) (seen : List ByteArray) : Int := if qU s = false then 3 else if s ∈ seen then 5 else 0
def Db (s : ByteArray) (seen : List ByteArray) : List ByteArray := if nU s seen = 0 then seen ++ [s] else seen
def Da (qx : Nat) (s : kW) : Bool := ((((((decide (1 ≤ s.len) && decide (s.len ≤ 400)) && decide (1000 ≤ s.lim)) && decide (s.lim ≤ 100000)) && decide (-40 ≤ s.Nr)) && decide (s.Nr ≤ 40)) && decide (-1 ≤ s.QY)) && decide (s.QY < (qx : Int))
theorem ad6 (w : World) (v : sK) (l : Lay) (s : kW) : Calls Try.prog 56 #[.agg (v.cells l).toArray, .agg s.cells.toArray] w (dQ w (.bool (Da l.nu.length s))) := by
  refine dH (args := [_, _]) Try.func56 rfl (Mem.start w) rfl ?_
  refine aO fun K1 hK1 => ?_
  refine bE ?_
  refine aM (dU (k := fun b2 => ?_))
  refine aM (dU (k := fun b3 => ?_))
  refine aY d9 ?_
  refine bF (hK1 _ _ ?_); clear hK1
  refine aO fun K2 hK2 => ?_
  refine bE ?_
  refine aY (aH 1) ?_
  refine aY aN ?_
  refine aY iM ?_
  refine aY aL ?_
  refine aF rfl (aH 1) ?_
  refine aF rfl aN ?_
  refine aF rfl nG ?_
  refine aY dO ?_
  refine aY aL ?_
  refine aF rfl (aH 2) ?_
  refine aF rfl aN ?_
  refine aF rfl iM ?_
  refine aY dO ?_
  refine aY aL ?_
  refine aF rfl (aH 2) ?_
  refine aF rfl aN ?_
  refine aF rfl nG ?_
  refine aY dO ?_
  refine aY aL ?_
  refine aF rfl (aH 3) ?_
  refine aF rfl aN ?_
  refine aF rfl iM ?_
  refine aY dO ?_
  refine aY aL ?_
  refine aF rfl (aH 3) ?_
  refine aF rfl aN ?_
  refine aF rfl nG ?_
  refine aY dO ?_
  refine aY aL ?_
  refine aF rfl (aH 4) ?_
  refine aF rfl aN ?_
  refine aF rfl iM ?_
  refine aY dO ?_
  refine aY aL ?_
  refine aF rfl (aH 4) ?_
  refine aF rfl aN ?_
  refine aF rfl (aH 0) ?_
  refine aF rfl aN ?_
  refine aF rfl bR ?_
  refine aF rfl dJ ?_
  refine aY dO ?_
  refine aY d9 ?_
  refine bF (hK2 _ _ ?_); clear hK2
  refine bn (mG rfl rfl (fun w hm => bQ hm rfl))
theorem ne1 {s : ByteArray} {S : List ByteArray} (h : (!qU s) = true) : nU s S = 3 := by simp at h; simp [nU, h]
theorem U6 {s : ByteArray} {S : List ByteArray} (h : (!qU s) = false) (h2 : s ∈ S) : nU s S = 5 := by simp at h; simp [nU, h, h2]
theorem U7 {s : ByteArray} {S : List ByteArray} (h : (!qU s) = false) (h2 : ¬ s ∈ S) : nU s S = 0 := by simp at h; simp [nU, h, h2]
theorem Wx {s : ByteArray} {S : List ByteArray} (h : nU s S ≠ 0) : Db s S = S := by simp [Db, h]
theorem QS {s : ByteArray} {S : List ByteArray} (h : nU s S = 0) : Db s S = S ++ [s] := by simp [Db, h]
theorem SY (w : World) (s : ByteArray) (b : Nat) (S : List ByteArray) (hφ : (sW b S).φ w) (hb : ∀ k, (sW b S).fp k → k < w.heap.size) :
    Calls Try.prog 55 #[.string s, .map (some b)] w (Rv (sW b S) (fun _ : Unit => .int .i64 (nU s S)) (fun _ => True) (fun _ => sW b (Db s S)) w) := by
  refine dH (args := [_, _]) Try.func55 rfl (Mem.aem (sW b S) hφ hb) rfl ?_
  refine aO fun K1 hK1 => ?_
  refine bE ?_
  refine aY d9 ?_
  refine bF (hK1 _ _ ?_); clear hK1
  refine aO fun K2 hK2 => ?_
  refine bX ?_
  refine aO fun K3 hK3 => ?_
  refine bE ?_
  refine aY aL ?_
  refine aM (bJ (fun w hm => acR w _) ?_)
  refine aY gB ?_
  refine aY d9 ?_
  refine bF (hK3 _ _ ?_); clear hK3
  refine qm rfl (fun hc1 => ?_) (fun hc1 => ?_)  -- t5
  ·
    refine aO fun K4 hK4 => ?_
    refine bE ?_
    refine aY d9 ?_
    refine bF (hK4 _ _ ?_); clear hK4
    refine bn (mG rfl rfl (fun w hm => ⟨(), by rw [ne1 hc1], trivial, by rw [Wx (by rw [ne1 hc1]; decide)]; exact Has.head.φ hm, fun k hk => ⟨.inl hk, Has.lt (c := sW b S) Has.head hm hk⟩, hm.frame (.tail .head)⟩))
  ·
    refine aO fun K5 dW => ?_
    refine bE ?_
    refine aY aL ?_
    refine aY aL ?_
    refine aY YH ?_
    refine aY d9 ?_
    refine bF (dW _ _ ?_); clear dW
    refine rD rfl (fun hc2 => ?_) (fun hc2 => ?_)  -- t9
    ·
      refine aO fun K6 dM => ?_
      refine bE ?_
      refine aY d9 ?_
      refine bF (dM _ _ ?_); clear dM
      refine bn (mG rfl rfl (fun w hm => ⟨(), by rw [U6 hc1 hc2], trivial, by rw [Wx (by rw [U6 hc1 hc2]; decide)]; exact Has.head.φ hm, fun k hk => ⟨.inl hk, Has.lt (c := sW b S) Has.head hm hk⟩, hm.frame (.tail .head)⟩))
    ·
      refine bA (hK2 _ _ ?_); clear hK2
      refine aO fun K7 eZ => ?_
      refine bE ?_
      refine aY aL ?_
      refine aY aL ?_
      refine aM (ael hc2 .head ?_)
      refine bF (eZ _ _ ?_); clear eZ
      refine aO fun K8 jB => ?_
      refine bE ?_
      refine aY d9 ?_
      refine bF (jB _ _ ?_); clear jB
      refine bn (mG rfl rfl (fun w hm => ⟨(), by rw [U7 hc1 hc2], trivial, by rw [QS (U7 hc1 hc2)]; exact Has.head.φ hm, fun k hk => ⟨.inl hk, Has.lt (c := sW b (S ++ [s])) Has.head hm hk⟩, hm.frame (.tail .head)⟩))
end Go.Proofs.Ytcalibhfgdncaaa
namespace Go.Proofs.Ytcalibhfgdncaaa
open Go.gY Go.RowKit
set_option maxRecDepth 10000
theorem zS.below {w w' : World} {v : sK} {l : Lay} (h : zS 0 w.heap.size w v l) (hb : Below w.heap.size w w') : zS 0 w'.heap.size w' v l :=
  ⟨h.st.mono (Nat.le_refl _) hb.size (fun k _ hk => hb.block k hk), h.pt.mono (Nat.le_refl _) hb.size (fun k _ hk => hb.block k hk), h.se.mono (Nat.le_refl _) hb.size (fun k _ hk => hb.block k hk), h.li.mono (Nat.le_refl _) hb.size (fun k _ hk => hb.block k hk)⟩
def atEnd (done : List eU) (e : Int) : List eU := done.filter (fun k => decide (2 * k.a + k.jJ = e) || decide (2 * k.b + k.kE = e))
def Ih (a ae b be : Int) (k : eU) : Bool := (decide (a = k.a ∧ ae = k.jJ) && decide (b = k.b ∧ be = k.kE)) || (decide (a = k.b ∧ ae = k.kE) && decide (b = k.a ∧ be = k.jJ))
def vo (k : eU) : List eU → Bool
  | [] => true
  | [x] => (decide (k.point ≠ -1) && decide (k.point = x.point)) && decide (k.pos ≠ x.pos)
  | _ => false
def yc (l : Lay) (k : eU) : Bool :=
  (((((((decide (0 ≤ k.a) && decide (k.a < (l.sections.length : Int))) && decide (0 ≤ k.b)) && decide (k.b < (l.sections.length : Int))) && (decide (k.jJ = 0) || decide (k.jJ = 1))) && (decide (k.kE = 0) || decide (k.kE = 1))) && decide (-1 ≤ k.point)) && decide (k.point < (l.points.length : Int))) && (decide (k.pos = 0) || (decide (k.pos = 1) && decide (k.point ≠ -1)))
def sF (l : Lay) : List eU → List eU → Int
  | _, [] => 0
  | done, k :: r =>
    if yc l k = false then 4 else if k.a = k.b ∧ k.jJ = k.kE then 1 else
    if (atEnd done (2 * k.a + k.jJ)).any (Ih k.a k.jJ k.b k.kE) = true then 5 else
    if vo k (atEnd done (2 * k.a + k.jJ)) = false ∨ vo k (atEnd done (2 * k.b + k.kE)) = false then 11 else sF l (done ++ [k]) r
theorem acE (w : World) (v : sK) (l : Lay) (k : eU) : Calls Try.prog 68 #[.agg (v.cells l).toArray, .agg k.cells.toArray] w (dQ w (.bool (yc l k))) := by
  refine dH (args := [_, _]) Try.func68 rfl (Mem.start w) rfl ?_
  refine aO fun K1 hK1 => ?_
  refine bE ?_
  refine aM (dU (k := fun b2 => ?_))
  refine aM (dU (k := fun b3 => ?_))
  refine aY d9 ?_
  refine bF (hK1 _ _ ?_); clear hK1
  refine aO fun K2 hK2 => ?_
  refine bE ?_
  refine aY (aH 0) ?_
  refine aY aN ?_
  refine aY iM ?_
  refine aY aL ?_
  refine aF rfl (aH 0) ?_
  refine aF rfl aN ?_
  refine aF rfl (aH 2) ?_
  refine aF rfl aN ?_
  refine aF rfl bR ?_
  refine aF rfl dJ ?_
  refine aY dO ?_
  refine aY aL ?_
  refine aF rfl (aH 2) ?_
  refine aF rfl aN ?_
  refine aF rfl iM ?_
  refine aY dO ?_
  refine aY aL ?_
  refine aF rfl (aH 2) ?_
  refine aF rfl aN ?_
  refine aF rfl (aH 2) ?_
  refine aF rfl aN ?_
  refine aF rfl bR ?_
  refine aF rfl dJ ?_
  refine aY dO ?_
  refine aY aL ?_
  refine aF rfl (aH 1) ?_
  refine aF rfl aN ?_
  refine aF rfl eX ?_
  refine aF rfl aL ?_
  refine aF rfl (aH 1) ?_
  refine aF rfl aN ?_
  refine aF rfl eX ?_
  refine aF rfl eu ?_
  refine aY dO ?_
  refine aY aL ?_
  refine aF rfl (aH 3) ?_
  refine aF rfl aN ?_
  refine aF rfl eX ?_
  refine aF rfl aL ?_
  refine aF rfl (aH 3) ?_
  refine aF rfl aN ?_
  refine aF rfl eX ?_
  refine aF rfl eu ?_
  refine aY dO ?_
  refine aY aL ?_
  refine aF rfl (aH 4) ?_
  refine aF rfl aN ?_
  refine aF rfl iM ?_
  refine aY dO ?_
  refine aY aL ?_
  refine aF rfl (aH 4) ?_
  refine aF rfl aN ?_
  refine aF rfl (aH 1) ?_
  refine aF rfl aN ?_
  refine aF rfl bR ?_
  refine aF rfl dJ ?_
  refine aY dO ?_
  refine aY aL ?_
  refine aF rfl (aH 5) ?_
  refine aF rfl aN ?_
  refine aF rfl eX ?_
  refine aF rfl aL ?_
  refine aF rfl (aH 5) ?_
  refine aF rfl aN ?_
  refine aF rfl eX ?_
  refine aF rfl aL ?_
  refine aF rfl (aH 4) ?_
  refine aF rfl aN ?_
  refine aF rfl jo ?_
  refine aF rfl dO ?_
  refine aF rfl eu ?_
  refine aY dO ?_
  refine aY d9 ?_
  refine bF (hK2 _ _ ?_); clear hK2
  refine bn (mG rfl rfl (fun w hm => bQ hm rfl))
theorem Tg (w : World) (k : eU) : Calls Try.prog 69 #[.agg k.cells.toArray] w (dQ w (.tuple #[.agg #[.int .i64 k.a, .int .i64 k.jJ], .agg #[.int .i64 k.b, .int .i64 k.kE]])) := by
  refine dH (args := [_]) Try.func69 rfl (Mem.start w) rfl ?_
  refine aO fun K1 hK1 => ?_
  refine bE ?_
  refine aM (dU (k := fun b1 => ?_))
  refine aM (cO rfl (k := fun b2 => ?_))
  refine aM (cO rfl (k := fun b3 => ?_))
  refine bF (hK1 _ _ ?_); clear hK1
  refine aO fun K2 hK2 => ?_
  refine jh [own b1 112 k.cells, old w] (by repeat (first | exact List.Sublist.refl _ | apply List.Sublist.cons_cons | apply List.Sublist.cons)) ?_
  refine aJ 0 rfl (aH 0) ?_
  refine aJ 1 rfl aN ?_
  refine aJ 2 rfl (aH 1) ?_
  refine aJ 3 rfl aN ?_
  refine aJ 4 rfl Ni ?_
  refine aJ 5 rfl (aH 2) ?_
  refine aJ 6 rfl aN ?_
  refine aJ 7 rfl (aH 3) ?_
  refine aJ 8 rfl aN ?_
  refine aJ 9 rfl Ni ?_
  refine bO 10 rfl (bY (k := ⟨fun w hm => hm.sub (by repeat (first | exact List.Sublist.refl _ | apply List.Sublist.cons_cons | apply List.Sublist.cons)), ?_⟩))
  refine bO 11 rfl (bY (k := ⟨fun w hm => hm.sub (by repeat (first | exact List.Sublist.refl _ | apply List.Sublist.cons_cons | apply List.Sublist.cons)), ?_⟩))
  refine eT (hK2 _ _ ?_); clear hK2
  refine bn (lF (fun w hm => bQ hm rfl))
theorem Tf (w : World) (s d : Int) (hs : 0 ≤ s ∧ s ≤ 1000000) (hd : 0 ≤ d ∧ d ≤ 1000000) : Calls Try.prog 70 #[.agg #[.int .i64 s, .int .i64 d]] w (dQ w (.int .i64 (2 * s + d))) := by
  refine dH (args := [_]) Try.func70 rfl (Mem.start w) rfl ?_
  refine aO fun K1 hK1 => ?_
  refine bE ?_
  refine aM (dU (k := fun b1 => ?_))
  refine aY d9 ?_
  refine bF (hK1 _ _ ?_); clear hK1
  refine aO fun K2 hK2 => ?_
  refine bE ?_
  refine aY (aH 0) ?_
  refine aY aN ?_
  refine aY pJ ?_
  refine aY (aH 1) ?_
  refine aY aN ?_
  refine aY dh ?_
  refine aY d9 ?_
  refine bF (hK2 _ _ ?_); clear hK2
  refine bn (mG rfl rfl (fun w hm => bQ hm rfl))
def iB : eU := ⟨0, 0, 0, 0, 0, 0⟩
theorem TK : ∀ (xs : List eU) (i j : Nat), j < 6 → (xs.flatMap eU.cells)[i * 6 + j]? = (xs[i]?).bind (fun x => (eU.cells x)[j]?)
  | [], i, j, _ => by simp
  | x :: xs, 0, j, hj => by
    simp only [List.flatMap_cons, Nat.zero_mul, Nat.zero_add]
    rw [List.getElem?_append_left (by show j < 6; exact hj)]
    rfl
  | x :: xs, i + 1, j, hj => by
    simp only [List.flatMap_cons]
    have h6 : (eU.cells x).length = 6 := rfl
    rw [List.getElem?_append_right (by rw [h6, Nat.add_mul]; omega), h6]
    rw [show (i + 1) * 6 + j - 6 = i * 6 + j by rw [Nat.add_mul]; omega]
    rw [TK xs i j hj]
    simp
theorem Ld {xs : List eU} {i j : Nat} {u : Value} (hi : i < xs.length) (hj : (eU.cells (xs.getD i iB))[j]? = some u) : (xs.flatMap eU.cells)[i * 6 + j]? = some u := by
  have hjl : j < 6 := by have := (List.getElem?_eq_some_iff.1 hj).1; simpa [eU.cells] using this
  rw [TK xs i j hjl]
  have : xs[i]? = some (xs.getD i iB) := by simp [hi]
  rw [this]
  exact hj
theorem Le (xs : List eU) : (xs.flatMap eU.cells).length = xs.length * 6 := by
  induction xs with
  | nil => simp
  | cons x xs ih => simp only [List.flatMap_cons, List.length_append, ih, List.length_cons, Nat.add_mul]; simp [eU.cells]; omega
theorem XZ {ks : List eU} {p : eU → Bool} {i : Nat} (hi : i < ks.length) (h : p (ks.getD i iB) = true) : ks.any p = true := by
  rw [List.any_eq_true]
  exact ⟨ks[i], List.getElem_mem hi, by simpa [List.getD_eq_getElem?_getD, hi] using h⟩
theorem XY {ks : List eU} {p : eU → Bool} {i : Nat} (hi : ks.length ≤ i) (h : ∀ j, j < i → p (ks.getD j iB) = false) : ks.any p = false := by
  rw [List.any_eq_false]
  intro x hx
  obtain ⟨j, hj, rfl⟩ := List.mem_iff_getElem.1 hx
  have := h j (by omega)
  simpa [List.getD_eq_getElem?_getD, hj] using this
theorem ace (w : World) (a : Option Addr) (cap : Nat) (ks : List eU) (x xe y ye : Int) (hs : Sl 0 w.heap.size w a (ks.flatMap eU.cells)) (hlen : ks.length ≤ 1000000) :
    Calls Try.prog 71 #[.slice a ks.length cap, .agg #[.int .i64 x, .int .i64 xe], .agg #[.int .i64 y, .int .i64 ye]] w (dQ w (.bool (ks.any (Ih x xe y ye)))) := by
  refine dH (args := [_, _, _]) Try.func71 rfl (Mem.start w) rfl ?_
  refine aO fun K1 hK1 => ?_
  refine bE ?_
  refine aM (dU (k := fun b4 => ?_))
  refine aM (dU (k := fun b5 => ?_))
  refine aY d9 ?_
  refine bF (hK1 _ _ ?_); clear hK1
  refine aO fun K2 hK2 => ?_
  refine aO fun K3 hK3 => ?_
  refine bE ?_
  refine aY aL ?_
  refine aY bR ?_
  refine aY aL ?_
  refine bF (hK3 _ _ ?_); clear hK3
  refine bX ?_
  refine fM (γ := Int) (env := fun i => [(4, .v (.pointer (some ⟨b4, 0, none⟩))), (5, .v (.pointer (some ⟨b5, 0, none⟩))), (11, .v (.slice a ks.length cap)), (12, .v (.int .i64 (ks.length : Int))), (13, .v (.int .i64 i))]) (mem := fun i => [own b5 136 [.int .i64 y, .int .i64 ye], own b4 136 [.int .i64 x, .int .i64 xe], old w]) (R := fun i => 0 ≤ i ∧ i ≤ ks.length ∧ ∀ j, j < i.toNat → Ih x xe y ye (ks.getD j iB) = false) (μ := fun i => (ks.length - i).toNat) (0) (⟨by omega, by omega, fun j hj => by simp at hj⟩) ⟨rfl, rfl, rfl, rfl, rfl, trivial⟩ (fun _ h => h) ?_
  intro i DU jw hL1
  obtain ⟨hi0, hi1, hall⟩ := DU
  refine aO fun K4 hK4 => ?_
  refine bE ?_
  refine aY dJ ?_
  refine bF (hK4 _ _ ?_); clear hK4
  refine aO fun K5 dW => ?_
  refine rD rfl (fun hc1 => ?_) (fun hc1 => ?_)  -- t14
  ·
    refine bA (dW _ _ ?_); clear dW
    refine aO fun K6 dM => ?_
    refine bX ?_
    refine aO fun K7 eZ => ?_
    refine bE ?_
    refine aY (Aa 6 (fun _ => hs.addr (by rw [Le]; omega))) ?_
    refine aY (Nj (l := (ks.getD i.toNat iB).cells) (fun w hm q u hu => by rw [Nat.add_assoc]; exact DI hs (Ld (by omega) hu) (Nat.le_refl _) (by repeat (first | exact Has.head | apply Has.tail)) w hm)) ?_
    refine aM (cO rfl (k := fun b8 => ?_))
    refine aM (bY (k := ?_))
    refine bF (eZ _ _ ?_); clear eZ
    refine aO fun K8 jB => ?_
    refine bE ?_
    refine aY cu ?_
    refine aM (bJ (fun w hm => Tg w _) ?_)
    refine aY aL ?_
    refine aY jA ?_
    refine aY jA ?_
    refine aM (cO rfl (k := fun b9 => ?_))
    refine aM (cO rfl (k := fun b10 => ?_))
    refine aM (bY (k := ?_))
    refine aM (bY (k := ?_))
    refine bF (jB _ _ ?_); clear jB
    refine aO fun K9 gJ => ?_
    refine bE ?_
    refine aY cu ?_
    refine aY cu ?_
    refine aY Gx ?_
    refine aY aL ?_
    refine aF rfl cu ?_
    refine aF rfl cu ?_
    refine aF rfl Gx ?_
    refine aY dO ?_
    refine aY aL ?_
    refine aF rfl cu ?_
    refine aF rfl cu ?_
    refine aF rfl Gx ?_
    refine aF rfl aL ?_
    refine aF rfl cu ?_
    refine aF rfl cu ?_
    refine aF rfl Gx ?_
    refine aF rfl dO ?_
    refine aY eu ?_
    refine bF (gJ _ _ ?_); clear gJ
    refine qm rfl (fun hc2 => ?_) (fun hc2 => ?_)  -- t39
    ·
      refine aO fun rW iA => ?_
      refine bE ?_
      refine aY d9 ?_
      refine bF (iA _ _ ?_); clear iA
      refine bn (mG rfl rfl (fun w hm => bQ hm (congrArg Value.bool (XZ (by omega) hc2).symm)))
    ·
      refine bA (dM _ _ ?_); clear dM
      refine bE ?_
      refine aY dh ?_
      refine aY aL ?_
      refine bF (hL1 (i + 1) _ _ (⟨by omega, by omega, fun j hj => ?_⟩) (by omega) ⟨rfl, rfl, rfl, rfl, rfl, trivial⟩ (fun w hm => hm.sub (by repeat (first | exact List.Sublist.refl _ | apply List.Sublist.cons_cons | apply List.Sublist.cons))))
      by_cases hji : j < i.toNat
      · exact hall j hji
      · obtain rfl : j = i.toNat := by omega
        exact hc2
  ·
    refine fI (hK2 _ _ ?_); clear hK2
    refine aO fun rX ig => ?_
    refine bE ?_
    refine aY d9 ?_
    refine bF (ig _ _ ?_); clear ig
    refine bn (mG rfl rfl (fun w hm => bQ hm (congrArg Value.bool (XY (i := i.toNat) (by omega) hall).symm)))
theorem YK {k : eU} {ks : List eU} (h : ¬ (ks.length : Int) = 0) : vo k ks = (((decide ((ks.length : Int) = 1) && decide (k.point ≠ -1)) && decide (k.point = (ks.getD 0 iB).point)) && decide (k.pos ≠ (ks.getD 0 iB).pos)) := by
  match ks, h with
  | [], h => simp at h
  | [x], _ => simp [vo]
  | x :: y :: r, _ => simp [vo]; omega
theorem TG (w : World) (k : eU) (a : Option Addr) (cap : Nat) (ks : List eU) (hs : Sl 0 w.heap.size w a (ks.flatMap eU.cells)) :
    Calls Try.prog 72 #[.agg k.cells.toArray, .slice a ks.length cap] w (dQ w (.bool (vo k ks))) := by
  refine dH (args := [_, _]) Try.func72 rfl (Mem.start w) rfl ?_
  refine aO fun K1 hK1 => ?_
  refine bE ?_
  refine aM (dU (k := fun b2 => ?_))
  refine aY d9 ?_
  refine bF (hK1 _ _ ?_); clear hK1
  refine aO fun K2 hK2 => ?_
  refine aO fun K3 hK3 => ?_
  refine bE ?_
  refine aY aL ?_
  refine aY bR ?_
  refine aY eX ?_
  refine bF (hK3 _ _ ?_); clear hK3
  refine rD rfl (fun hc1 => ?_) (fun hc1 => ?_)  -- t7
  ·
    refine aO fun K4 hK4 => ?_
    refine bE ?_
    refine aY d9 ?_
    refine bF (hK4 _ _ ?_); clear hK4
    refine bn (mG rfl rfl (fun w hm => bQ hm (by rw [show ks = [] from List.length_eq_zero_iff.1 (by omega)]; rfl)))
  ·
    refine bA (hK2 _ _ ?_); clear hK2
    refine aO fun K5 dW => ?_
    refine jh [own b2 112 k.cells, old w] (by repeat (first | exact List.Sublist.refl _ | apply List.Sublist.cons_cons | apply List.Sublist.cons)) ?_
    refine aJ 0 rfl aL ?_
    refine aJ 1 rfl bR ?_
    refine aJ 2 rfl eX ?_
    refine aJ 3 rfl aL ?_
    refine dD 4 rfl rfl (aH 4) ?_
    refine dD 5 rfl rfl aN ?_
    refine dD 6 rfl rfl jo ?_
    refine aJ 7 rfl dO ?_
    refine aJ 8 rfl aL ?_
    refine dD 9 rfl rfl (aH 4) ?_
    refine dD 10 rfl rfl aN ?_
    refine dD 11 rfl rfl aL ?_
    refine dD 12 rfl rfl (Aa 6 (fun hg => hs.addr (by rw [Le]; simp at hg; omega))) ?_
    refine dD 13 rfl rfl (aH 4) ?_
    refine dD 14 rfl rfl (xG (v := .int .i64 (ks.getD 0 iB).point) (by first | exact .plain rfl | exact .cond rfl id) (by kernel_rfl) (fun hg w hm => DI (j := 0 * 6 + 4) hs (Ld (j := 4) (by simp at hg; omega) rfl) (Nat.le_refl _) (by repeat (first | exact Has.head | apply Has.tail)) w hm)) ?_
    refine dD 15 rfl rfl eX ?_
    refine aJ 16 rfl dO ?_
    refine aJ 17 rfl aL ?_
    refine dD 18 rfl rfl (aH 5) ?_
    refine dD 19 rfl rfl aN ?_
    refine dD 20 rfl rfl aL ?_
    refine dD 21 rfl rfl (Aa 6 (fun hg => hs.addr (by rw [Le]; simp at hg; omega))) ?_
    refine dD 22 rfl rfl (aH 5) ?_
    refine dD 23 rfl rfl (xG (v := .int .i64 (ks.getD 0 iB).pos) (by first | exact .plain rfl | exact .cond rfl id) (by kernel_rfl) (fun hg w hm => DI (j := 0 * 6 + 5) hs (Ld (j := 5) (by simp at hg; omega) rfl) (Nat.le_refl _) (by repeat (first | exact Has.head | apply Has.tail)) w hm)) ?_
    refine dD 24 rfl rfl jo ?_
    refine aJ 25 rfl dO ?_
    refine aJ 26 rfl d9 ?_
    refine eT (dW _ _ ?_); clear dW
    refine bn (mG rfl rfl (fun w hm => bQ hm (by rw [YK hc1])))
end Go.Proofs.Ytcalibhfgdncaaa
namespace Go.Proofs.Ytcalibhfgdncaaa
open Go.gY Go.RowKit
set_option maxRecDepth 10000
def zT (done : List eU) (m : Nat) (rows : List Row) : Prop :=
  rows.length = m ∧ ∀ (i : Nat) (r : Row), rows[i]? = some r → r.n = (atEnd done i).length ∧ r.xs = (atEnd done i).flatMap eU.cells
theorem zT.get {done : List eU} {m : Nat} {rows : List Row} (h : zT done m rows) (e : Int) (h0 : 0 ≤ e) (h1 : e.toNat < m) :
    ∃ aa ca, rows[e.toNat * 1]? = some ⟨aa, (atEnd done e).length, ca, (atEnd done e).flatMap eU.cells⟩ := by
  rw [Nat.mul_one]
  have hlt : e.toNat < rows.length := by rw [h.1]; exact h1
  have hr := h.2 e.toNat rows[e.toNat] (by simp [hlt])
  rw [show ((e.toNat : Nat) : Int) = e by omega] at hr
  refine ⟨rows[e.toNat].a, rows[e.toNat].cap, ?_⟩
  rw [List.getElem?_eq_getElem hlt, ← hr.1, ← hr.2]
theorem R8 (done : List eU) (e : Int) : (atEnd done e).length ≤ done.length := List.length_filter_le _ _
theorem X3 (done : List eU) (k : eU) (e : Int) : atEnd (done ++ [k]) e = atEnd done e ++ if 2 * k.a + k.jJ = e ∨ 2 * k.b + k.kE = e then [k] else [] := by
  unfold atEnd
  rw [List.filter_append]
  congr 1
  by_cases h1 : 2 * k.a + k.jJ = e <;> by_cases h2 : 2 * k.b + k.kE = e <;> simp [h1, h2]
theorem zT.step {done : List eU} {m : Nat} {rows : List Row} (h : zT done m rows) (k : eU) (ea eb : Int) (ha : 2 * k.a + k.jJ = ea) (hb : 2 * k.b + k.kE = eb) (hne : ea ≠ eb) (ha0 : 0 ≤ ea) (hb0 : 0 ≤ eb)
    (a1 a2 : Option Addr) (c1 c2 : Nat) :
    zT (done ++ [k]) m ((rows.set (ea.toNat * 1) ⟨a1, (atEnd done ea).length + 1, c1, (atEnd done ea).flatMap eU.cells ++ k.cells⟩).set (eb.toNat * 1) ⟨a2, (atEnd done eb).length + 1, c2, (atEnd done eb).flatMap eU.cells ++ k.cells⟩) := by
  rw [Nat.mul_one, Nat.mul_one]
  refine ⟨by rw [List.length_set, List.length_set]; exact h.1, fun i r hr => ?_⟩
  rw [X3, ha, hb]
  by_cases hib : i = eb.toNat
  · have he : eb = (i : Int) := by omega
    rw [List.getElem?_set] at hr
    rw [if_pos hib.symm] at hr
    split at hr
    · cases hr
      subst he
      simp
    · cases hr
  · rw [List.getElem?_set_ne (Ne.symm hib)] at hr
    by_cases hia : i = ea.toNat
    · have he : ea = (i : Int) := by omega
      rw [List.getElem?_set, if_pos hia.symm] at hr
      split at hr
      · cases hr
        subst he
        simp
      · cases hr
    · rw [List.getElem?_set_ne (Ne.symm hia)] at hr
      have h1 : ¬ ea = (i : Int) := by omega
      have h2 : ¬ eb = (i : Int) := by omega
      simp only [h1, h2, or_self, if_false, List.append_nil]
      exact h.2 i r hr
theorem acH {l : Lay} {xs : List eU} {j : Nat} (hj : j < xs.length) {E : Int} (h : sF l (xs.take j) (xs.drop j) = E) :
    (yc l (xs.getD j iB) = false → E = 4) ∧ (yc l (xs.getD j iB) = true →
      ((xs.getD j iB).a = (xs.getD j iB).b ∧ (xs.getD j iB).jJ = (xs.getD j iB).kE → E = 1) ∧ (¬ ((xs.getD j iB).a = (xs.getD j iB).b ∧ (xs.getD j iB).jJ = (xs.getD j iB).kE) →
      ((atEnd (xs.take j) (2 * (xs.getD j iB).a + (xs.getD j iB).jJ)).any (Ih (xs.getD j iB).a (xs.getD j iB).jJ (xs.getD j iB).b (xs.getD j iB).kE) = true → E = 5) ∧
      ((atEnd (xs.take j) (2 * (xs.getD j iB).a + (xs.getD j iB).jJ)).any (Ih (xs.getD j iB).a (xs.getD j iB).jJ (xs.getD j iB).b (xs.getD j iB).kE) = false →
      ((!vo (xs.getD j iB) (atEnd (xs.take j) (2 * (xs.getD j iB).a + (xs.getD j iB).jJ)) || !vo (xs.getD j iB) (atEnd (xs.take j) (2 * (xs.getD j iB).b + (xs.getD j iB).kE))) = true → E = 11) ∧
      ((!vo (xs.getD j iB) (atEnd (xs.take j) (2 * (xs.getD j iB).a + (xs.getD j iB).jJ)) || !vo (xs.getD j iB) (atEnd (xs.take j) (2 * (xs.getD j iB).b + (xs.getD j iB).kE))) = false →
        sF l (xs.take (j + 1)) (xs.drop (j + 1)) = E ∧ xs.take (j + 1) = xs.take j ++ [xs.getD j iB])))) := by
  have hd : xs.drop j = xs[j] :: xs.drop (j + 1) := List.drop_eq_getElem_cons hj
  have hg : xs.getD j iB = xs[j] := by simp [List.getD_eq_getElem?_getD, hj]
  have ht : xs.take (j + 1) = xs.take j ++ [xs[j]] := by rw [List.take_succ_eq_append_getElem hj]
  rw [hd, sF] at h
  rw [hg, ht]
  generalize xs[j] = k at *
  refine ⟨fun h1 => ?_, fun h1 => ⟨fun h2 => ?_, fun h2 => ⟨fun h3 => ?_, fun h3 => ⟨fun h4 => ?_, fun h4 => ?_⟩⟩⟩⟩
  · rw [if_pos h1] at h; exact h.symm
  · rw [if_neg (by simp [h1]), if_pos h2] at h; exact h.symm
  · rw [if_neg (by simp [h1]), if_neg h2, if_pos h3] at h; exact h.symm
  · rw [if_neg (by simp [h1]), if_neg h2, if_neg (by simp [h3]), if_pos (by simpa using h4)] at h; exact h.symm
  · rw [if_neg (by simp [h1]), if_neg h2, if_neg (by simp [h3]), if_neg (by simp only [Bool.or_eq_false_iff, Bool.not_eq_false'] at h4; simp [h4.1, h4.2])] at h; exact ⟨h, rfl⟩
theorem acF {l : Lay} {xs : List eU} {j : Nat} (hj : xs.length ≤ j) {E : Int} (h : sF l (xs.take j) (xs.drop j) = E) : E = 0 := by
  rw [← h, List.drop_eq_nil_of_le hj, sF]
theorem Hy {rows : List Row} {i : Nat} {r : Row} (h : rows[i]? = some r) : (rows.map Row.hdr)[i]? = some (.slice r.a r.n r.cap) := by simp [h, Row.hdr]
theorem acD {l : Lay} {k : eU} (h : yc l k = true) : (0 ≤ k.a ∧ k.a < l.sections.length ∧ 0 ≤ k.b ∧ k.b < l.sections.length) ∧ (0 ≤ k.jJ ∧ k.jJ ≤ 1) ∧ (0 ≤ k.kE ∧ k.kE ≤ 1) := by
  simp only [yc, Bool.and_eq_true, Bool.or_eq_true, decide_eq_true_eq] at h
  omega
theorem adR {m : Nat} : zT [] m (List.replicate m (⟨none, 0, 0, []⟩ : Row)) := by
  refine ⟨by simp, fun i r hr => ?_⟩
  rw [List.getElem?_replicate] at hr
  split at hr
  · cases hr; exact ⟨rfl, rfl⟩
  · cases hr
theorem Ym (w : World) (v : sK) (l : Lay) (hl : zS 0 w.heap.size w v l) (hb : l.sections.length ≤ 96 ∧ l.links.length ≤ 192) : Calls Try.prog 57 #[.agg (v.cells l).toArray] w (dQ w (.int .i64 (sF l [] l.links))) := by
  obtain ⟨hb1, hb2⟩ := hb
  refine dH (args := [_]) Try.func57 rfl (Mem.start w) rfl ?_
  refine aO fun K1 hK1 => ?_
  refine bE ?_
  refine aM (dU (k := fun b1 => ?_))
  refine aY d9 ?_
  refine bF (hK1 _ _ ?_); clear hK1
  refine aO fun K2 hK2 => ?_
  refine bE ?_
  refine aY (aH 2) ?_
  refine aY aN ?_
  refine aY bR ?_
  refine aY pJ ?_
  refine aM (aek (m := 2 * l.sections.length) (e := 25) (z := .slice none 0 0) 24 (k := fun a ha => ?_) (hb := by omega) (hm' := by omega))
  refine mH (H' := [row 25 1 a (2 * l.sections.length) (2 * l.sections.length) ((List.replicate (2 * l.sections.length) (⟨none, 0, 0, []⟩ : Row)).map Row.hdr), ni (fun _ => True) 112 6 (List.replicate (2 * l.sections.length) (⟨none, 0, 0, []⟩ : Row)), own b1 27 (v.cells l), old w]) (fun w hm => by rw [List.map_replicate]; exact (adS (e := 112) (sz := 6) (m := 2 * l.sections.length) hm).perm (.swap _ _ _)) ?_
  refine aY d9 ?_
  refine bF (hK2 _ _ ?_); clear hK2
  refine aO fun K3 hK3 => ?_
  refine aO fun K4 hK4 => ?_
  refine bE ?_
  refine aY (aH 3) ?_
  refine aY aN ?_
  refine aY bR ?_
  refine aY aL ?_
  refine bF (hK4 _ _ ?_); clear hK4
  refine bX ?_
  refine fM (γ := Int × List Row) (env := fun g => [(1, .v (.pointer (some ⟨b1, 0, none⟩))), (3, .v (.slice a (2 * l.sections.length) (2 * l.sections.length))), (16, .v (.slice v.a4 l.links.length v.c4)), (17, .v (.int .i64 (l.links.length : Int))), (18, .v (.int .i64 g.1))]) (mem := fun g => [row 25 1 a (2 * l.sections.length) (2 * l.sections.length) (g.2.map Row.hdr), ni (fun _ => True) 112 6 g.2, own b1 27 (v.cells l), old w]) (R := fun g => 0 ≤ g.1 ∧ g.1 ≤ l.links.length ∧ zT (l.links.take g.1.toNat) (2 * l.sections.length) g.2 ∧ sF l (l.links.take g.1.toNat) (l.links.drop g.1.toNat) = sF l [] l.links) (μ := fun g => (l.links.length - g.1).toNat) ((0, List.replicate (2 * l.sections.length) ⟨none, 0, 0, []⟩)) (⟨by show (0 : Int) ≤ 0; omega, by show (0 : Int) ≤ _; omega, adR, rfl⟩) ⟨rfl, rfl, rfl, rfl, rfl, trivial⟩ (fun _ h => h) ?_
  intro g DU jw hL1
  obtain ⟨j, rows⟩ := g
  dsimp only at DU ⊢
  obtain ⟨hj0, hj1, hrows, hj2⟩ := DU
  refine aO fun K5 dW => ?_
  refine bE ?_
  refine aY dJ ?_
  refine bF (dW _ _ ?_); clear dW
  refine aO fun K6 dM => ?_
  refine rD rfl (fun hc1 => ?_) (fun hc1 => ?_)  -- t19
  ·
    refine bA (dM _ _ ?_); clear dM
    refine aO fun K7 eZ => ?_
    refine bX ?_
    refine aO fun K8 jB => ?_
    refine bE ?_
    have hst := acH (l := l) (j := j.toNat) (by omega) hj2
    have hdl : (l.links.take j.toNat).length ≤ 192 := by rw [List.length_take]; omega
    generalize hdone : l.links.take j.toNat = done at *
    obtain ⟨k, hk⟩ : ∃ k, k = l.links.getD j.toNat iB := ⟨_, rfl⟩
    rw [← hk] at hst
    refine aY (Aa 6 (fun _ => hl.li.addr (by rw [Le]; omega))) ?_
    refine aY (Nj (l := k.cells) (fun w hm q u hu => by subst hk; rw [Nat.add_assoc]; exact DI hl.li (Ld (by omega) hu) (Nat.le_refl _) (by repeat (first | exact Has.head | apply Has.tail)) w hm)) ?_
    refine aM (cO rfl (k := fun b5 => ?_))
    refine aM (bY (k := ?_))
    refine bF (jB _ _ ?_); clear jB
    refine aO fun K9 gJ => ?_
    refine aO fun rW iA => ?_
    refine bE ?_
    refine aY cu ?_
    refine aY cu ?_
    refine aM (bJ (fun w hm => acE w v l k) ?_)
    refine aY gB ?_
    refine bF (iA _ _ ?_); clear iA
    refine qm rfl (fun hc2 => ?_) (fun hc2 => ?_)  -- t25
    ·
      refine aO fun rX ig => ?_
      refine bE ?_
      refine aY d9 ?_
      refine bF (ig _ _ ?_); clear ig
      refine bn (mG rfl rfl (fun w hm => bQ hm (by rw [hst.1 (by simpa using hc2)])))
    ·
      have hlk : yc l k = true := by simpa using hc2
      replace hst := hst.2 hlk
      obtain ⟨⟨ha0, ha1, aeE, aeF⟩, hae, hbe⟩ := acD hlk
      obtain ⟨ea, Ol⟩ : ∃ e, e = 2 * k.a + k.jJ := ⟨_, rfl⟩
      obtain ⟨eb, Oq⟩ : ∃ e, e = 2 * k.b + k.kE := ⟨_, rfl⟩
      have TW : 0 ≤ ea ∧ ea < 2 * l.sections.length := by omega
      have TY : 0 ≤ eb ∧ eb < 2 * l.sections.length := by omega
      obtain ⟨aA, cA, BM⟩ := hrows.get ea TW.1 (by omega)
      obtain ⟨aB, cB, Kt⟩ := hrows.get eb TY.1 (by omega)
      have hlA := R8 done ea
      have hlB := R8 done eb
      rw [← Ol, ← Oq] at hst
      refine bA (gJ _ _ ?_); clear gJ
      refine aO fun yH lK => ?_
      refine bE ?_
      refine aY cu ?_
      refine aM (bJ (fun w hm => Tg w k) ?_)
      refine aY aL ?_
      refine aY jA ?_
      refine aY jA ?_
      refine aM (cO rfl (k := fun b6 => ?_))
      refine aM (cO rfl (k := fun b7 => ?_))
      refine aM (bY (k := ?_))
      refine aM (bY (k := ?_))
      refine bF (lK _ _ ?_); clear lK
      refine aO fun zP mM => ?_
      refine jh [own b7 136 [.int .i64 k.b, .int .i64 k.kE], own b6 136 [.int .i64 k.a, .int .i64 k.jJ], own b5 112 k.cells, row 25 1 a (2 * l.sections.length) (2 * l.sections.length) (rows.map Row.hdr), ni (fun _ => True) 112 6 rows, own b1 27 (v.cells l), old w] (by repeat (first | exact List.Sublist.refl _ | apply List.Sublist.cons_cons | apply List.Sublist.cons)) ?_
      refine aJ 0 rfl aL ?_
      refine aJ 1 rfl cu ?_
      refine aJ 4 rfl aL ?_
      refine aJ 5 rfl cu ?_
      refine bO 2 rfl (bJ (fun w hm => Tf w k.a k.jJ (by omega) (by omega)) ⟨fun w hm => hm.sub (by repeat (first | exact List.Sublist.refl _ | apply List.Sublist.cons_cons | apply List.Sublist.cons)), ?_⟩)
      rw [← Ol]
      refine aJ 3 rfl (Aa (ad := a) 1 (fun _ => by rw [ha]; rfl)) ?_
      refine bO 6 rfl (bJ (fun w hm => Tf w k.b k.kE (by omega) (by omega)) ⟨fun w hm => hm.sub (by repeat (first | exact List.Sublist.refl _ | apply List.Sublist.cons_cons | apply List.Sublist.cons)), ?_⟩)
      rw [← Oq]
      refine aJ 7 rfl (Aa (ad := a) 1 (fun _ => by rw [ha]; rfl)) ?_
      refine aJ 8 rfl d9 ?_
      refine aJ 9 rfl d9 ?_
      refine eT (mM _ _ ?_); clear mM
      refine aO fun yI lM => ?_
      refine bX ?_
      refine aO fun yJ lN => ?_
      refine bE ?_
      refine aY cu ?_
      refine aY cu ?_
      refine aY Gx ?_
      refine aY d9 ?_
      refine bF (lN _ _ ?_); clear lN
      refine rD rfl (fun hc3 => ?_) (fun hc3 => ?_)  -- t39
      ·
        refine aO fun zQ mO => ?_
        refine bE ?_
        refine aY d9 ?_
        refine bF (mO _ _ ?_); clear mO
        refine bn (mG rfl rfl (fun w hm => bQ hm (by rw [hst.1 hc3])))
      ·
        replace hst := hst.2 hc3
        have hne : ea ≠ eb := by omega
        refine aO fun JO sS => ?_
        refine jh [own b7 136 [.int .i64 k.b, .int .i64 k.kE], own b6 136 [.int .i64 k.a, .int .i64 k.jJ], own b5 112 k.cells, row 25 1 a (2 * l.sections.length) (2 * l.sections.length) (rows.map Row.hdr), ni (fun _ => True) 112 6 rows, own b1 27 (v.cells l), old w] (by repeat (first | exact List.Sublist.refl _ | apply List.Sublist.cons_cons | apply List.Sublist.cons)) ?_
        refine aJ 0 rfl aL ?_
        refine aJ 1 rfl fG ?_
        refine aJ 2 rfl (DN (v := .slice aA (atEnd done ea).length cA) (Gn (Hy BM) (by repeat (first | exact Has.head | apply Has.tail)))) ?_
        refine aJ 3 rfl cu ?_
        refine aJ 4 rfl cu ?_
        refine bO 5 rfl (bJ (fun w hm => ace w aA cA (atEnd done ea) _ _ _ _ (QV BM trivial hm (by repeat (first | exact Has.head | apply Has.tail))) (by omega)) ⟨fun w hm => hm.sub (by repeat (first | exact List.Sublist.refl _ | apply List.Sublist.cons_cons | apply List.Sublist.cons)), ?_⟩)
        refine aJ 6 rfl d9 ?_
        refine eT (sS _ _ ?_); clear sS
        refine qm rfl (fun hc4 => ?_) (fun hc4 => ?_)  -- t43
        ·
          refine aO fun Dm oP => ?_
          refine bE ?_
          refine aY d9 ?_
          refine bF (oP _ _ ?_); clear oP
          refine bn (mG rfl rfl (fun w hm => bQ hm (by rw [hst.1 hc4])))
        ·
          replace hst := hst.2 hc4
          refine kL (γ := Bool) (env := fun q => [(5, .v (.pointer (some ⟨b5, 0, none⟩))), (8, .v (.pointer (some ⟨sb a, so a + ea.toNat * 1, none⟩))), (9, .v (.pointer (some ⟨sb a, so a + eb.toNat * 1, none⟩))), (50, .v (.bool q)), (1, .v (.pointer (some ⟨b1, 0, none⟩))), (3, .v (.slice a (2 * l.sections.length) (2 * l.sections.length))), (16, .v (.slice v.a4 l.links.length v.c4)), (17, .v (.int .i64 (l.links.length : Int))), (18, .v (.int .i64 j))]) (mem := fun q => [own b7 136 [.int .i64 k.b, .int .i64 k.kE], own b6 136 [.int .i64 k.a, .int .i64 k.jJ], own b5 112 k.cells, row 25 1 a (2 * l.sections.length) (2 * l.sections.length) (rows.map Row.hdr), ni (fun _ => True) 112 6 rows, own b1 27 (v.cells l), old w]) (R := fun q => q = (!vo k (atEnd done ea) || !vo k (atEnd done eb))) ?_ ?_
          · intro aeC TN
            refine aO fun Dn oQ => ?_
            refine jh [own b7 136 [.int .i64 k.b, .int .i64 k.kE], own b6 136 [.int .i64 k.a, .int .i64 k.jJ], own b5 112 k.cells, row 25 1 a (2 * l.sections.length) (2 * l.sections.length) (rows.map Row.hdr), ni (fun _ => True) 112 6 rows, own b1 27 (v.cells l), old w] (by repeat (first | exact List.Sublist.refl _ | apply List.Sublist.cons_cons | apply List.Sublist.cons)) ?_
            refine aJ 0 rfl cu ?_
            refine aJ 1 rfl aL ?_
            refine aJ 2 rfl fG ?_
            refine aJ 3 rfl (DN (v := .slice aA (atEnd done ea).length cA) (Gn (Hy BM) (by repeat (first | exact Has.head | apply Has.tail)))) ?_
            refine bO 4 rfl (bJ (fun w hm => TG w k aA cA (atEnd done ea) (QV BM trivial hm (by repeat (first | exact Has.head | apply Has.tail)))) ⟨fun w hm => hm.sub (by repeat (first | exact List.Sublist.refl _ | apply List.Sublist.cons_cons | apply List.Sublist.cons)), ?_⟩)
            refine aJ 5 rfl gB ?_
            refine aJ 6 rfl d9 ?_
            refine eT (oQ _ _ ?_); clear oQ
            refine qm rfl (fun mP => ?_) (fun mP => ?_)  -- t50
            ·
              refine bA (TN (_) _ _ (by rw [mP]; rfl) ⟨rfl, rfl, rfl, rfl, rfl, rfl, rfl, rfl, rfl, trivial⟩ (fun _ h => h))
            ·
              refine jh [own b7 136 [.int .i64 k.b, .int .i64 k.kE], own b6 136 [.int .i64 k.a, .int .i64 k.jJ], own b5 112 k.cells, row 25 1 a (2 * l.sections.length) (2 * l.sections.length) (rows.map Row.hdr), ni (fun _ => True) 112 6 rows, own b1 27 (v.cells l), old w] (by repeat (first | exact List.Sublist.refl _ | apply List.Sublist.cons_cons | apply List.Sublist.cons)) ?_
              refine aJ 0 rfl cu ?_
              refine aJ 1 rfl aL ?_
              refine aJ 2 rfl fG ?_
              refine aJ 3 rfl (DN (v := .slice aB (atEnd done eb).length cB) (Gn (Hy Kt) (by repeat (first | exact Has.head | apply Has.tail)))) ?_
              refine bO 4 rfl (bJ (fun w hm => TG w k aB cB (atEnd done eb) (QV Kt trivial hm (by repeat (first | exact Has.head | apply Has.tail)))) ⟨fun w hm => hm.sub (by repeat (first | exact List.Sublist.refl _ | apply List.Sublist.cons_cons | apply List.Sublist.cons)), ?_⟩)
              refine aJ 5 rfl gB ?_
              refine aJ 6 rfl d9 ?_
              refine eT (TN (_) _ _ (by rw [mP]; rfl) ⟨rfl, rfl, rfl, rfl, rfl, rfl, rfl, rfl, rfl, trivial⟩ (fun _ h => h))
          · intro q hR
            refine qm rfl (fun hc6 => ?_) (fun hc6 => ?_)  -- t50
            ·
              refine aO fun Ro Ad => ?_
              refine bE ?_
              refine aY d9 ?_
              refine bF (Ad _ _ ?_); clear Ad
              refine bn (mG rfl rfl (fun w hm => bQ hm (by rw [hst.1 (by rw [← hR, hc6])])))
            ·
              have ht := hst.2 (by rw [← hR, hc6])
              refine bA (lM _ _ ?_); clear lM
              refine aO fun F6 qL => ?_
              refine iI [own b7 136 [.int .i64 k.b, .int .i64 k.kE], own b6 136 [.int .i64 k.a, .int .i64 k.jJ], own b5 112 k.cells, row 25 1 a (2 * l.sections.length) (2 * l.sections.length) (rows.map Row.hdr), own b1 27 (v.cells l), old w] 8 ?_
              refine aK 0 rfl aL ?_
              refine aK 1 rfl aL ?_
              refine aK 2 rfl fG ?_
              refine aK 3 rfl (DN (v := .slice aA (atEnd done ea).length cA) (Gn (Hy BM) (by repeat (first | exact Has.head | apply Has.tail)))) ?_
              refine aK 4 rfl cu ?_
              refine dI 5 rfl (WO 112 k.cells (k := fun M0 => ⟨fun w hm => hm.sub (by repeat (first | exact List.Sublist.refl _ | apply List.Sublist.cons_cons | apply List.Sublist.cons)), ?_⟩))
              refine iV (fun w hm => Wq BM trivial (hm.front (c := ni (fun _ => True) 112 6 rows) (by repeat (first | exact kC.head | apply kC.tail)))) ?_
              refine dI 6 rfl (WM 48 (k := fun a' cap' => ⟨fun w hm => hm.sub (by repeat (first | exact List.Sublist.refl _ | apply List.Sublist.cons_cons | apply List.Sublist.cons)), ?_⟩))
              refine aK 7 rfl fG ?_
              refine iG rfl (WU (j := ea.toNat * 1) (hu := by repeat (first | exact eD.head | apply eD.tail)) (hj := by rw [List.length_map, hrows.1]; omega) (h1 := rfl) (hx := .plain rfl) (hy := .plain rfl) (k := ?_))
              refine iE (qL _ _ ?_); clear qL
              refine cK (H' := [row 25 1 a (2 * l.sections.length) (2 * l.sections.length) ((rows.set (ea.toNat * 1) (⟨a', (atEnd done ea).length + 1, cap', (atEnd done ea).flatMap eU.cells ++ k.cells⟩ : Row)).map Row.hdr), ni (fun _ => True) 112 6 (rows.set (ea.toNat * 1) (⟨a', (atEnd done ea).length + 1, cap', (atEnd done ea).flatMap eU.cells ++ k.cells⟩ : Row)), own b7 136 [.int .i64 k.b, .int .i64 k.kE], own b6 136 [.int .i64 k.a, .int .i64 k.jJ], own b5 112 k.cells, own b1 27 (v.cells l), old w]) (fun w hm => by rw [List.map_set]; exact ((Wp (r := ⟨a', (atEnd done ea).length + 1, cap', (atEnd done ea).flatMap eU.cells ++ k.cells⟩) (by rw [hrows.1]; omega) hm).front (c := row 25 1 a (2 * l.sections.length) (2 * l.sections.length) ((rows.map Row.hdr).set (ea.toNat * 1) (Row.hdr ⟨a', (atEnd done ea).length + 1, cap', (atEnd done ea).flatMap eU.cells ++ k.cells⟩))) (by repeat (first | exact kC.head | apply kC.tail))).sub (by repeat (first | exact List.Sublist.refl _ | apply List.Sublist.cons_cons | apply List.Sublist.cons))) ?_
              have Ud : (rows.set (ea.toNat * 1) ⟨a', (atEnd done ea).length + 1, cap', (atEnd done ea).flatMap eU.cells ++ k.cells⟩)[eb.toNat * 1]? = some ⟨aB, (atEnd done eb).length, cB, (atEnd done eb).flatMap eU.cells⟩ := by rw [List.getElem?_set_ne (by omega)]; exact Kt
              have hlen1 : (rows.set (ea.toNat * 1) ⟨a', (atEnd done ea).length + 1, cap', (atEnd done ea).flatMap eU.cells ++ k.cells⟩).length = 2 * l.sections.length := by rw [List.length_set]; exact hrows.1
              clear BM Kt
              generalize abl : rows.set (ea.toNat * 1) ⟨a', (atEnd done ea).length + 1, cap', (atEnd done ea).flatMap eU.cells ++ k.cells⟩ = Ji at *
              refine iI [row 25 1 a (2 * l.sections.length) (2 * l.sections.length) (Ji.map Row.hdr), own b7 136 [.int .i64 k.b, .int .i64 k.kE], own b6 136 [.int .i64 k.a, .int .i64 k.jJ], own b5 112 k.cells, own b1 27 (v.cells l), old w] 8 ?_
              refine aK 0 rfl aL ?_
              refine aK 1 rfl aL ?_
              refine aK 2 rfl fG ?_
              refine aK 3 rfl (DN (v := .slice aB (atEnd done eb).length cB) (Gn (Hy Ud) (by repeat (first | exact Has.head | apply Has.tail)))) ?_
              refine aK 4 rfl cu ?_
              refine dI 5 rfl (WO 112 k.cells (k := fun b76 => ⟨fun w hm => hm.sub (by repeat (first | exact List.Sublist.refl _ | apply List.Sublist.cons_cons | apply List.Sublist.cons)), ?_⟩))
              refine iV (fun w hm => Wq Ud trivial (hm.front (c := ni (fun _ => True) 112 6 Ji) (by repeat (first | exact kC.head | apply kC.tail)))) ?_
              refine dI 6 rfl (WM 48 (k := fun a2 cap2 => ⟨fun w hm => hm.sub (by repeat (first | exact List.Sublist.refl _ | apply List.Sublist.cons_cons | apply List.Sublist.cons)), ?_⟩))
              refine aK 7 rfl fG ?_
              refine iG rfl (WU (j := eb.toNat * 1) (hu := by repeat (first | exact eD.head | apply eD.tail)) (hj := by rw [List.length_map, hlen1]; omega) (h1 := rfl) (hx := .plain rfl) (hy := .plain rfl) (k := ?_))
              refine iE (eZ _ _ ?_); clear eZ
              refine cK (H' := [row 25 1 a (2 * l.sections.length) (2 * l.sections.length) ((Ji.set (eb.toNat * 1) (⟨a2, (atEnd done eb).length + 1, cap2, (atEnd done eb).flatMap eU.cells ++ k.cells⟩ : Row)).map Row.hdr), ni (fun _ => True) 112 6 (Ji.set (eb.toNat * 1) (⟨a2, (atEnd done eb).length + 1, cap2, (atEnd done eb).flatMap eU.cells ++ k.cells⟩ : Row)), own b1 27 (v.cells l), old w]) (fun w hm => by rw [List.map_set]; exact ((Wp (r := ⟨a2, (atEnd done eb).length + 1, cap2, (atEnd done eb).flatMap eU.cells ++ k.cells⟩) (by rw [hlen1]; omega) hm).front (c := row 25 1 a (2 * l.sections.length) (2 * l.sections.length) ((Ji.map Row.hdr).set (eb.toNat * 1) (Row.hdr ⟨a2, (atEnd done eb).length + 1, cap2, (atEnd done eb).flatMap eU.cells ++ k.cells⟩))) (by repeat (first | exact kC.head | apply kC.tail))).sub (by repeat (first | exact List.Sublist.refl _ | apply List.Sublist.cons_cons | apply List.Sublist.cons))) ?_
              subst abl
              refine bE ?_
              refine aY dh ?_
              refine aY aL ?_
              refine bF (hL1 ((j + 1, (rows.set (ea.toNat * 1) (⟨a', (atEnd done ea).length + 1, cap', (atEnd done ea).flatMap eU.cells ++ k.cells⟩ : Row)).set (eb.toNat * 1) (⟨a2, (atEnd done eb).length + 1, cap2, (atEnd done eb).flatMap eU.cells ++ k.cells⟩ : Row))) _ _ (⟨by show (0 : Int) ≤ j + 1; omega, by show j + 1 ≤ _; omega, by show zT (l.links.take (j + 1).toNat) _ _; rw [show (j + 1).toNat = j.toNat + 1 by omega, ht.2]; exact hrows.step k ea eb Ol.symm Oq.symm hne TW.1 TY.1 _ _ _ _, by show sF l (l.links.take (j + 1).toNat) (l.links.drop (j + 1).toNat) = _; rw [show (j + 1).toNat = j.toNat + 1 by omega]; exact ht.1⟩) (by show (_ - (j + 1)).toNat < _; omega) ⟨rfl, rfl, rfl, rfl, rfl, trivial⟩ (fun w hm => hm.sub (by repeat (first | exact List.Sublist.refl _ | apply List.Sublist.cons_cons | apply List.Sublist.cons))))
  ·
    refine fI (hK3 _ _ ?_); clear hK3
    refine aO fun Rp xJ => ?_
    refine bE ?_
    refine aY d9 ?_
    refine bF (xJ _ _ ?_); clear xJ
    refine bn (mG rfl rfl (fun w hm => bQ hm (by rw [acF (by omega) hj2])))
end Go.Proofs.Ytcalibhfgdncaaa
namespace Go.Proofs.Ytcalibhfgdncaaa
open Go.gY Go.RowKit
set_option maxRecDepth 10000
def lg : List ByteArray → List ByteArray → Int
  | _, [] => 0
  | seen, s :: r => if nU s seen ≠ 0 then nU s seen else lg (seen ++ [s]) r
def o7 (qx : Nat) : List ByteArray → List kW → Int
  | _, [] => 0
  | seen, s :: r => if nU s.name seen ≠ 0 then nU s.name seen else if Da qx s = false then 4 else o7 qx (seen ++ [s.name]) r
def rZ (l : Lay) : Bool := decide (24 < l.nu.length ∨ 48 < l.points.length ∨ 96 < l.sections.length ∨ 192 < l.links.length)
def lI (l : Lay) : Int :=
  if rZ l = true then 7 else if l.sections.length = 0 then 1 else
  if lg [] l.nu ≠ 0 then lg [] l.nu else if lg [] l.points ≠ 0 then lg [] l.points else
  if o7 l.nu.length [] l.sections ≠ 0 then o7 l.nu.length [] l.sections else sF l [] l.links
theorem acW {names : List ByteArray} {j : Nat} (hj : j < names.length) (h : lg (names.take j) (names.drop j) = lg [] names) :
    (nU (names.getD j ByteArray.empty) (names.take j) ≠ 0 → lg [] names = nU (names.getD j ByteArray.empty) (names.take j)) ∧
    (nU (names.getD j ByteArray.empty) (names.take j) = 0 → lg (names.take (j + 1)) (names.drop (j + 1)) = lg [] names ∧ Db (names.getD j ByteArray.empty) (names.take j) = names.take (j + 1)) := by
  have hd : names.drop j = names[j] :: names.drop (j + 1) := List.drop_eq_getElem_cons hj
  have hg : names.getD j ByteArray.empty = names[j] := by simp [List.getD_eq_getElem?_getD, hj]
  have ht : names.take (j + 1) = names.take j ++ [names[j]] := by rw [List.take_succ_eq_append_getElem hj]
  rw [hd, lg] at h
  rw [hg]
  constructor
  · intro hn; rw [if_pos hn] at h; exact h.symm
  · intro hn
    rw [if_neg (by simp [hn])] at h
    rw [ht]
    exact ⟨h, QS hn⟩
theorem acT {names : List ByteArray} {j : Nat} (hj : names.length ≤ j) (h : lg (names.take j) (names.drop j) = lg [] names) : lg [] names = 0 := by
  rw [← h, List.drop_eq_nil_of_le hj, lg]
def pV (l : Lay) (i : Int) : List ByteArray := if i = 0 then l.nu else l.points
def Ga (v : sK) (i : Int) : Option Addr := if i = 0 then v.a1 else v.a2
def M8 (v : sK) (i : Int) : Nat := if i = 0 then v.c1 else v.c2
theorem aen {names : List ByteArray} {j : Nat} (hj : j < names.length) : (strCells names)[j]? = some (.string (names.getD j ByteArray.empty)) := by
  simp [strCells, hj]
theorem flat_get {α : Type} {enc : α → List Value} {sz : Nat} (he : ∀ x, (enc x).length = sz) : ∀ (xs : List α) (i j : Nat), j < sz → (xs.flatMap enc)[i * sz + j]? = (xs[i]?).bind (fun x => (enc x)[j]?)
  | [], i, j, _ => by simp
  | x :: xs, 0, j, hj => by
    simp only [List.flatMap_cons, Nat.zero_mul, Nat.zero_add]
    rw [List.getElem?_append_left (by rw [he]; exact hj)]
    rfl
  | x :: xs, i + 1, j, hj => by
    simp only [List.flatMap_cons]
    rw [List.getElem?_append_right (by rw [he, Nat.add_mul]; omega), he]
    rw [show (i + 1) * sz + j - sz = i * sz + j by rw [Nat.add_mul]; omega]
    rw [flat_get he xs i j hj]
    simp
theorem YM {α : Type} {enc : α → List Value} {sz : Nat} (he : ∀ x, (enc x).length = sz) (xs : List α) : (xs.flatMap enc).length = xs.length * sz := by
  induction xs with
  | nil => simp
  | cons x xs ih => simp only [List.flatMap_cons, List.length_append, he, ih, List.length_cons, Nat.add_mul]; omega
def wR : kW := ⟨ByteArray.empty, 0, 0, 0, 0⟩
theorem ad3 {xs : List kW} {i j : Nat} {u : Value} (hi : i < xs.length) (hj : (kW.cells (xs.getD i wR))[j]? = some u) : (xs.flatMap kW.cells)[i * 5 + j]? = some u := by
  have hjl : j < 5 := by have := (List.getElem?_eq_some_iff.1 hj).1; simpa [kW.cells] using this
  rw [flat_get (enc := kW.cells) (sz := 5) (fun _ => rfl) xs i j hjl]
  have : xs[i]? = some (xs.getD i wR) := by simp [hi]
  rw [this]
  exact hj
theorem ad5 {qx : Nat} {xs : List kW} {j : Nat} (hj : j < xs.length) (h : o7 qx ((xs.take j).map kW.name) (xs.drop j) = o7 qx [] xs) :
    (nU (xs.getD j wR).name ((xs.take j).map kW.name) ≠ 0 → o7 qx [] xs = nU (xs.getD j wR).name ((xs.take j).map kW.name)) ∧
    (nU (xs.getD j wR).name ((xs.take j).map kW.name) = 0 → Db (xs.getD j wR).name ((xs.take j).map kW.name) = (xs.take (j + 1)).map kW.name ∧
      (Da qx (xs.getD j wR) = false → o7 qx [] xs = 4) ∧ (Da qx (xs.getD j wR) = true → o7 qx ((xs.take (j + 1)).map kW.name) (xs.drop (j + 1)) = o7 qx [] xs)) := by
  have hd : xs.drop j = xs[j] :: xs.drop (j + 1) := List.drop_eq_getElem_cons hj
  have hg : xs.getD j wR = xs[j] := by simp [List.getD_eq_getElem?_getD, hj]
  have ht : (xs.take (j + 1)).map kW.name = (xs.take j).map kW.name ++ [xs[j].name] := by rw [List.take_succ_eq_append_getElem hj, List.map_append]; rfl
  rw [hd, o7] at h
  rw [hg]
  constructor
  · intro hn; rw [if_pos hn] at h; exact h.symm
  · intro hn
    rw [if_neg (fun h => h hn)] at h
    rw [ht]
    refine ⟨QS hn, fun hb => ?_, fun hb => ?_⟩
    · rw [if_pos hb] at h; exact h.symm
    · rw [if_neg (by simp [hb])] at h; exact h
theorem ad4 {qx : Nat} {xs : List kW} {j : Nat} (hj : xs.length ≤ j) (h : o7 qx ((xs.take j).map kW.name) (xs.drop j) = o7 qx [] xs) : o7 qx [] xs = 0 := by
  rw [← h, List.drop_eq_nil_of_le hj, o7]
theorem acX {v : sK} {l : Lay} {i : Int} (h0 : 0 ≤ i) (h : i < 2) : ([.slice v.a1 l.nu.length v.c1, .slice v.a2 l.points.length v.c2] : List Value)[i.toNat]? = some (.slice (Ga v i) (pV l i).length (M8 v i)) := by
  have : i = 0 ∨ i = 1 := by omega
  rcases this with rfl | rfl <;> rfl
theorem acU {l : Lay} {i : Int} (h0 : 0 ≤ i) (h2 : i < 2) (hst : 1 ≤ i → lg [] l.nu = 0) (hn : lg [] (pV l i) = 0) :
    0 ≤ i + 1 ∧ i + 1 ≤ 2 ∧ (1 ≤ i + 1 → lg [] l.nu = 0) ∧ (2 ≤ i + 1 → lg [] l.points = 0) := by
  have : i = 0 ∨ i = 1 := by omega
  rcases this with rfl | rfl
  · exact ⟨by omega, by omega, fun _ => hn, by omega⟩
  · exact ⟨by omega, by omega, fun _ => hst (by omega), fun _ => hn⟩
theorem acV {l : Lay} {i e : Int} (h0 : 0 ≤ i) (h2 : i < 2) (hf : rZ l = false) (hs : ¬ l.sections.length = 0) (hst : 1 ≤ i → lg [] l.nu = 0) (he : lg [] (pV l i) = e) (hne : e ≠ 0) : lI l = e := by
  have : i = 0 ∨ i = 1 := by omega
  rcases this with rfl | rfl
  · have he' : lg [] l.nu = e := he
    rw [lI, if_neg (by simp [hf]), if_neg hs, if_pos (by rw [he']; exact hne), he']
  · have he' : lg [] l.points = e := he
    rw [lI, if_neg (by simp [hf]), if_neg hs, if_neg (by simp [hst (by omega)]), if_pos (by rw [he']; exact hne), he']
theorem WA {l : Lay} {e : Int} (hf : rZ l = false) (hs : ¬ l.sections.length = 0) (hst : lg [] l.nu = 0) (hpt : lg [] l.points = 0) (he : o7 l.nu.length [] l.sections = e) (hne : e ≠ 0) : lI l = e := by
  rw [lI, if_neg (by simp [hf]), if_neg hs, if_neg (by simp [hst]), if_neg (by simp [hpt]), if_pos (by rw [he]; exact hne), he]
theorem acG {l : Lay} (hf : rZ l = false) (hs : ¬ l.sections.length = 0) (hst : lg [] l.nu = 0) (hpt : lg [] l.points = 0) (he : o7 l.nu.length [] l.sections = 0) : lI l = sF l [] l.links := by
  rw [lI, if_neg (by simp [hf]), if_neg hs, if_neg (by simp [hst]), if_neg (by simp [hpt]), if_neg (by simp [he])]
theorem Yu (w : World) (v : sK) (l : Lay) (hl : zS 0 w.heap.size w v l)
    (hck : l.sections.length ≤ 96 ∧ l.links.length ≤ 192 → ∀ w' : World, zS 0 w'.heap.size w' v l → Calls Try.prog 57 #[.agg (v.cells l).toArray] w' (dQ w' (.int .i64 (sF l [] l.links)))) : Calls Try.prog 36 #[.agg (v.cells l).toArray] w (dQ w (.int .i64 (lI l))) := by
  refine dH (args := [_]) Try.func36 rfl (Mem.start w) rfl ?_
  refine aO fun K1 hK1 => ?_
  refine bE ?_
  refine aM (dU (k := fun b1 => ?_))
  refine aY d9 ?_
  refine bF (hK1 _ _ ?_); clear hK1
  refine aO fun K2 hK2 => ?_
  refine bX ?_
  refine kL (γ := Bool) (env := fun q => [(1, .v (.pointer (some ⟨b1, 0, none⟩))), (13, .v (.bool q))]) (mem := fun q => [own b1 27 (v.cells l), old w]) (R := fun q => q = rZ l) ?_ ?_
  · intro ME hJ3
    refine aO fun K4 hK4 => ?_
    refine bE ?_
    refine aY (aH 0) ?_
    refine aY aN ?_
    refine aY bR ?_
    refine aY iH ?_
    refine aY d9 ?_
    refine bF (hK4 _ _ ?_); clear hK4
    refine rD rfl (fun hc1 => ?_) (fun hc1 => ?_)  -- t13
    ·
      refine bA (hJ3 (_) _ _ (by simp only [rZ]; congr 1; simp only [eq_iff_iff]; omega) ⟨rfl, rfl, trivial⟩ (fun _ h => h))
    ·
      refine aO fun K5 dW => ?_
      refine bE ?_
      refine aY (aH 1) ?_
      refine aY aN ?_
      refine aY bR ?_
      refine aY iH ?_
      refine aY d9 ?_
      refine bF (dW _ _ ?_); clear dW
      refine rD rfl (fun hc2 => ?_) (fun hc2 => ?_)  -- t13
      ·
        refine bA (hJ3 (_) _ _ (by simp only [rZ]; congr 1; simp only [eq_iff_iff]; omega) ⟨rfl, rfl, trivial⟩ (fun _ h => h))
      ·
        refine aO fun K6 dM => ?_
        refine bE ?_
        refine aY (aH 2) ?_
        refine aY aN ?_
        refine aY bR ?_
        refine aY iH ?_
        refine aY d9 ?_
        refine bF (dM _ _ ?_); clear dM
        refine rD rfl (fun hc3 => ?_) (fun hc3 => ?_)  -- t13
        ·
          refine bA (hJ3 (_) _ _ (by simp only [rZ]; congr 1; simp only [eq_iff_iff]; omega) ⟨rfl, rfl, trivial⟩ (fun _ h => h))
        ·
          refine bE ?_
          refine aY (aH 3) ?_
          refine aY aN ?_
          refine aY bR ?_
          refine aY iH ?_
          refine aY d9 ?_
          refine bF (hJ3 (_) _ _ (by simp only [rZ]; congr 1; simp only [eq_iff_iff]; omega) ⟨rfl, rfl, trivial⟩ (fun _ h => h))
  · intro q hR
    refine qm rfl (fun hc4 => ?_) (fun hc4 => ?_)  -- t13
    ·
      refine aO fun K7 eZ => ?_
      refine bE ?_
      refine aY d9 ?_
      refine bF (eZ _ _ ?_); clear eZ
      refine bn (mG rfl rfl (fun w hm => bQ hm (by rw [lI, if_pos (by rw [← hR, hc4])])))
    ·
      have hfull : rZ l = false := by rw [← hR, hc4]
      have hb : l.nu.length ≤ 24 ∧ l.points.length ≤ 48 ∧ l.sections.length ≤ 96 ∧ l.links.length ≤ 192 := by simp only [rZ, decide_eq_false_iff_not] at hfull; omega
      obtain ⟨hb1, hb2, hb3, hb4⟩ := hb
      refine aO fun K8 jB => ?_
      refine bE ?_
      refine aY (aH 2) ?_
      refine aY aN ?_
      refine aY bR ?_
      refine aY eX ?_
      refine aY d9 ?_
      refine bF (jB _ _ ?_); clear jB
      refine rD rfl (fun mP => ?_) (fun mP => ?_)  -- t30
      ·
        refine aO fun K9 gJ => ?_
        refine bE ?_
        refine aY d9 ?_
        refine bF (gJ _ _ ?_); clear gJ
        refine bn (mG rfl rfl (fun w hm => bQ hm (by rw [lI, if_neg (by simp [hfull]), if_pos (by omega)])))
      ·
        refine bA (hK2 _ _ ?_); clear hK2
        refine aO fun rW iA => ?_
        refine aO fun rX ig => ?_
        refine bE ?_
        refine aY (aH 0) ?_
        refine aY aN ?_
        refine aY (aH 1) ?_
        refine aY aN ?_
        refine aY Ni ?_
        refine aY aL ?_
        refine bF (ig _ _ ?_); clear ig
        refine bX ?_
        refine fM (γ := Int) (env := fun i => [(1, .v (.pointer (some ⟨b1, 0, none⟩))), (39, .v (.agg #[.slice v.a1 l.nu.length v.c1, .slice v.a2 l.points.length v.c2])), (40, .v (.int .i64 i))]) (mem := fun i => [own b1 27 (v.cells l), old w]) (R := fun i => 0 ≤ i ∧ i ≤ 2 ∧ (1 ≤ i → lg [] l.nu = 0) ∧ (2 ≤ i → lg [] l.points = 0)) (μ := fun i => (2 - i).toNat) (0) (⟨by omega, by omega, by omega, by omega⟩) ⟨rfl, rfl, rfl, trivial⟩ (fun _ h => h) ?_
        intro i DU jw hL1
        obtain ⟨hi0, hi2, Hz, Oy⟩ := DU
        refine aO fun yH lK => ?_
        refine bE ?_
        refine aY dJ ?_
        refine bF (lK _ _ ?_); clear lK
        refine aO fun zP mM => ?_
        refine rD rfl (fun hc6 => ?_) (fun hc6 => ?_)  -- t41
        ·
          refine bA (mM _ _ ?_); clear mM
          refine aO fun yI lM => ?_
          refine bX ?_
          refine aO fun yJ lN => ?_
          refine bE ?_
          refine aY (YG (v := .slice (Ga v i) (pV l i).length (M8 v i)) 2 (fun _ => by omega) (fun _ => acX hi0 hc6)) ?_
          refine aY d9 ?_
          refine bF (lN _ _ ?_); clear lN
          refine aO fun zQ mO => ?_
          refine bE ?_
          refine aM (WT (k := fun b5 => ?_))
          refine aY d9 ?_
          refine bF (mO _ _ ?_); clear mO
          refine aO fun JO sS => ?_
          refine bE ?_
          refine aY aL ?_
          have hnl : (pV l i).length ≤ 48 := by unfold pV; split <;> omega
          have hns : Sl 0 w.heap.size w (Ga v i) (strCells (pV l i)) := by unfold Ga pV; split; exact hl.st; exact hl.pt
          refine aY bR ?_
          refine aY aL ?_
          refine bF (sS _ _ ?_); clear sS
          refine bX ?_
          refine fM (γ := Int) (env := fun j => [(1, .v (.pointer (some ⟨b1, 0, none⟩))), (39, .v (.agg #[.slice v.a1 l.nu.length v.c1, .slice v.a2 l.points.length v.c2])), (40, .v (.int .i64 i)), (5, .v (.map (some b5))), (44, .v (.slice (Ga v i) (pV l i).length (M8 v i))), (45, .v (.int .i64 ((pV l i).length : Int))), (46, .v (.int .i64 j))]) (mem := fun j => [sW b5 ((pV l i).take j.toNat), own b1 27 (v.cells l), old w]) (R := fun j => 0 ≤ j ∧ j ≤ (pV l i).length ∧ lg ((pV l i).take j.toNat) ((pV l i).drop j.toNat) = lg [] (pV l i)) (μ := fun j => ((pV l i).length - j).toNat) (0) (⟨by omega, by omega, rfl⟩) ⟨rfl, rfl, rfl, rfl, rfl, rfl, rfl, trivial⟩ (fun _ h => h) ?_
          intro j hR2 xk hL2
          obtain ⟨hj0, hj1, hj2⟩ := hR2
          refine aO fun Dm oP => ?_
          refine bE ?_
          refine aY dJ ?_
          refine bF (oP _ _ ?_); clear oP
          refine aO fun F5 qK => ?_
          refine rD rfl (fun oq => ?_) (fun oq => ?_)  -- t47
          ·
            refine bA (qK _ _ ?_); clear qK
            refine aO fun Dn oQ => ?_
            refine bX ?_
            refine aO fun Ro Ad => ?_
            refine bE ?_
            refine aY (Aa 1 (fun _ => hns.addr (by simp [strCells]; omega))) ?_
            refine aY (DN (DI (j := j.toNat * 1) hns (by rw [Nat.mul_one]; exact aen (by omega)) (Nat.le_refl _) (by repeat (first | exact Has.head | apply Has.tail)))) ?_
            refine aY d9 ?_
            refine bF (Ad _ _ ?_); clear Ad
            refine aO fun F6 qL => ?_
            refine bE ?_
            refine aY aL ?_
            refine aY aL ?_
            have hstep := acW (names := pV l i) (j := j.toNat) (by omega) hj2
            refine aM (WQ (hc := fun w hm hφ hfp => SY w _ b5 _ hφ hfp) (k := fun _ _ => ?_))
            refine aY d9 ?_
            refine bF (qL _ _ ?_); clear qL
            refine aO fun Rp xJ => ?_
            refine bE ?_
            refine aY aL ?_
            refine aY jo ?_
            refine bF (xJ _ _ ?_); clear xJ
            refine rD rfl (fun hc8 => ?_) (fun hc8 => ?_)  -- t54
            ·
              refine aO fun Rq Ae => ?_
              refine bE ?_
              refine aY aL ?_
              refine aY d9 ?_
              refine bF (Ae _ _ ?_); clear Ae
              refine bn (mG rfl rfl (fun w hm => bQ hm (by rw [acV hi0 hc6 hfull (by omega) Hz (hstep.1 hc8) hc8])))
            ·
              refine bA (oQ _ _ ?_); clear oQ
              refine bE ?_
              refine aY dh ?_
              refine aY aL ?_
              have hz : nU ((pV l i).getD j.toNat ByteArray.empty) ((pV l i).take j.toNat) = 0 := Decidable.of_not_not hc8
              refine bF (hL2 (j + 1) _ _ (⟨by omega, by omega, by rw [show (j + 1).toNat = j.toNat + 1 by omega]; exact (hstep.2 hz).1⟩) (by omega) ⟨rfl, rfl, rfl, rfl, rfl, rfl, rfl, trivial⟩ (fun w hm => by rw [show (j + 1).toNat = j.toNat + 1 by omega, ← (hstep.2 hz).2]; exact hm))
          ·
            refine fI (lM _ _ ?_); clear lM
            refine bE ?_
            refine aY dh ?_
            refine aY aL ?_
            refine bF (hL1 (i + 1) _ _ (acU hi0 hc6 Hz (acT (by omega) hj2)) (by omega) ⟨rfl, rfl, rfl, trivial⟩ (fun w hm => hm.sub (by repeat (first | exact List.Sublist.refl _ | apply List.Sublist.cons_cons | apply List.Sublist.cons))))
        ·
          refine fI (iA _ _ ?_); clear iA
          refine aO fun Xo GV => ?_
          refine bE ?_
          refine aM (WT (k := fun b9 => ?_))
          refine aY d9 ?_
          refine bF (GV _ _ ?_); clear GV
          refine aO fun F7 pK => ?_
          refine aO fun Xp GX => ?_
          refine bE ?_
          refine aY (aH 2) ?_
          refine aY aN ?_
          refine aY bR ?_
          refine aY aL ?_
          refine bF (GX _ _ ?_); clear GX
          refine bX ?_
          refine fM (γ := Int) (env := fun j => [(1, .v (.pointer (some ⟨b1, 0, none⟩))), (9, .v (.map (some b9))), (60, .v (.slice v.a3 l.sections.length v.c3)), (61, .v (.int .i64 (l.sections.length : Int))), (62, .v (.int .i64 j))]) (mem := fun j => [sW b9 ((l.sections.take j.toNat).map kW.name), own b1 27 (v.cells l), old w]) (R := fun j => 0 ≤ j ∧ j ≤ l.sections.length ∧ o7 l.nu.length ((l.sections.take j.toNat).map kW.name) (l.sections.drop j.toNat) = o7 l.nu.length [] l.sections) (μ := fun j => (l.sections.length - j).toNat) (0) (⟨by omega, by omega, rfl⟩) ⟨rfl, rfl, rfl, rfl, rfl, trivial⟩ (fun _ h => h) ?_
          intro j ZN F8 hL3
          obtain ⟨hj0, hj1, hj2⟩ := ZN
          refine aO fun Xq GY => ?_
          refine bE ?_
          refine aY dJ ?_
          refine bF (GY _ _ ?_); clear GY
          refine aO fun MC vZ => ?_
          refine rD rfl (fun sU => ?_) (fun sU => ?_)  -- t63
          ·
            refine bA (vZ _ _ ?_); clear vZ
            refine aO fun Rs Af => ?_
            refine bX ?_
            refine aO fun Xr GZ => ?_
            refine bE ?_
            refine aY (Aa 5 (fun _ => hl.se.addr (by rw [YM (sz := 5) (fun _ => rfl)]; omega))) ?_
            refine aY (Nj (l := (l.sections.getD j.toNat wR).cells) (fun w hm q u hu => by rw [Nat.add_assoc]; exact DI hl.se (ad3 (by omega) hu) (Nat.le_refl _) (by repeat (first | exact Has.head | apply Has.tail)) w hm)) ?_
            refine aM (cO rfl (k := fun b11 => ?_))
            refine aM (bY (k := ?_))
            refine bF (GZ _ _ ?_); clear GZ
            refine aO fun Xt G5 => ?_
            refine aO fun Rt Ag => ?_
            refine bE ?_
            refine aY (aH 0) ?_
            refine aY aN ?_
            refine aY aL ?_
            have hstep := ad5 (qx := l.nu.length) (xs := l.sections) (j := j.toNat) (by omega) hj2
            refine aM (WQ (hc := fun w hm hφ hfp => SY w _ b9 _ hφ hfp) (k := fun _ _ => ?_))
            refine aY d9 ?_
            refine bF (Ag _ _ ?_); clear Ag
            refine aO fun Xu G6 => ?_
            refine bE ?_
            refine aY aL ?_
            refine aY jo ?_
            refine bF (G6 _ _ ?_); clear G6
            refine rD rfl (fun vv => ?_) (fun vv => ?_)  -- t71
            ·
              refine aO fun Xv G7 => ?_
              refine bE ?_
              refine aY aL ?_
              refine aY d9 ?_
              refine bF (G7 _ _ ?_); clear G7
              refine bn (mG rfl rfl (fun w hm => bQ hm (by rw [WA hfull (by omega) (Hz (by omega)) (Oy (by omega)) (hstep.1 vv) vv])))
            ·
              have hz : nU (l.sections.getD j.toNat wR).name ((l.sections.take j.toNat).map kW.name) = 0 := Decidable.of_not_not vv
              refine bA (G5 _ _ ?_); clear G5
              refine aO fun K36 TP => ?_
              refine bE ?_
              refine aY cu ?_
              refine aY cu ?_
              refine aM (bJ (fun w hm => ad6 w v l _) ?_)
              refine aY gB ?_
              refine bF (TP _ _ ?_); clear TP
              refine qm rfl (fun yU => ?_) (fun yU => ?_)  -- t76
              ·
                refine aO fun Xw G8 => ?_
                refine bE ?_
                refine aY d9 ?_
                refine bF (G8 _ _ ?_); clear G8
                refine bn (mG rfl rfl (fun w hm => bQ hm (by rw [WA hfull (by omega) (Hz (by omega)) (Oy (by omega)) ((hstep.2 hz).2.1 (by simpa using yU)) (by decide)])))
              ·
                refine bA (Af _ _ ?_); clear Af
                refine bE ?_
                refine aY dh ?_
                refine aY aL ?_
                refine bF (hL3 (j + 1) _ _ (⟨by omega, by omega, by rw [show (j + 1).toNat = j.toNat + 1 by omega]; exact (hstep.2 hz).2.2 (by simpa using yU)⟩) (by omega) ⟨rfl, rfl, rfl, rfl, rfl, trivial⟩ (fun w hm => by rw [show (j + 1).toNat = j.toNat + 1 by omega, ← (hstep.2 hz).1]; exact hm.sub (by repeat (first | exact List.Sublist.refl _ | apply List.Sublist.cons_cons | apply List.Sublist.cons))))
          ·
            refine fI (pK _ _ ?_); clear pK
            refine aO fun K38 TQ => ?_
            refine bE ?_
            refine aY cu ?_
            refine aM (bJ (fun w hm => hck (by omega) w (zS.below hl (hm.below (by repeat (first | exact Has.head | apply Has.tail))))) ?_)
            refine aY d9 ?_
            refine bF (TQ _ _ ?_); clear TQ
            refine bn (mG rfl rfl (fun w hm => bQ hm (by rw [acG hfull (by omega) (Hz (by omega)) (Oy (by omega)) (ad4 (by omega) hj2)])))
theorem Yv (w : World) (v : sK) (l : Lay) (hl : zS 0 w.heap.size w v l) : Calls Try.prog 36 #[.agg (v.cells l).toArray] w (dQ w (.int .i64 (lI l))) :=
  Yu w v l hl fun hb w' hl' => Ym w' v l hl' hb
end Go.Proofs.Ytcalibhfgdncaaa
namespace Go.Proofs.Ytcalibhfgdncaaa
open Go.Dc Go.RowKit
theorem L9 {α : Type} [aj α] {S : bU} {w : World} {r : SR (aj.R α)} {xs : List α} (f : α → List Value) (hf : ∀ (q : aj.R α) x, aj.enc q x = f x) (hS : ∀ k, S k → k < w.heap.size) (h : qg S w r xs) :
    Go.gY.Sl 0 w.heap.size w r.a (xs.flatMap f) := by
  have he : ∀ (l : List α) (i : Nat), l.flatMap f = gL r.es l i := by
    intro l
    induction l with
    | nil => intro i; rfl
    | cons x l ih => intro i; rw [List.flatMap_cons, gL, hf, ih (i + 1)]
  intro j v hv
  rw [he xs 0] at hv
  obtain ⟨i, j', x, rfl, hj, hx, hv⟩ := J7 r.es hv
  obtain ⟨h1, h2, h3, _⟩ := h.2.2 i x hx
  exact ⟨h1, Nat.zero_le _, hS _ h2, h3 j' v hv⟩
def LZ (s : Section) : kW := ⟨s.Name.ba, s.Length, s.Limit, s.jT, s.og⟩
def Lc (k : Link) : eU := ⟨k.A, k.jR, k.B, k.jS, k.Point, k.Pos⟩
def nS (l : Layout) : Lay := ⟨l.aQ.map Str.ba, l.aR.map Str.ba, l.Sections.map LZ, l.Links.map Lc⟩
def Iy (l : Layout) : Option Int := some (lI (nS l))
theorem UN (S : bU) (w : World) (l0 : Layout) (aG : aj.R Layout) (y : Int) (hM : Iy l0 = some y) (hS : ∀ k, S k → k < w.heap.size) (fJ : aj.ok S w aG l0) :
    Calls Try.prog 36 #[.agg #[.slice aG.1.a l0.aQ.length aG.1.cap, .slice aG.2.1.a l0.aR.length aG.2.1.cap, .slice aG.2.2.1.a l0.Sections.length aG.2.2.1.cap, .slice aG.2.2.2.a l0.Links.length aG.2.2.2.cap]] w (dQ w (.int .i64 y)) := by
  obtain rfl := some_inj hM
  obtain ⟨h1, h2, h3, h4⟩ := fJ
  have hstr : ∀ l : List Str, strCells (l.map Str.ba) = l.flatMap (fun s => [.string s.ba]) := by
    intro l
    unfold strCells
    induction l with
    | nil => rfl
    | cons x l ih => simp only [List.map_cons, List.flatMap_cons, ih]; rfl
  have := Yv w ⟨aG.1.a, aG.1.cap, aG.2.1.a, aG.2.1.cap, aG.2.2.1.a, aG.2.2.1.cap, aG.2.2.2.a, aG.2.2.2.cap⟩ (nS l0)
    ⟨by show Go.gY.Sl _ _ _ aG.1.a (strCells (l0.aQ.map Str.ba)); rw [hstr]; exact L9 _ (fun _ _ => rfl) hS h1,
     by show Go.gY.Sl _ _ _ aG.2.1.a (strCells (l0.aR.map Str.ba)); rw [hstr]; exact L9 _ (fun _ _ => rfl) hS h2,
     by show Go.gY.Sl _ _ _ aG.2.2.1.a ((l0.Sections.map LZ).flatMap kW.cells); rw [List.flatMap_map]; exact L9 _ (fun _ _ => rfl) hS h3,
     by show Go.gY.Sl _ _ _ aG.2.2.2.a ((l0.Links.map Lc).flatMap eU.cells); rw [List.flatMap_map]; exact L9 _ (fun _ _ => rfl) hS h4⟩
  have hc : (sK.cells ⟨aG.1.a, aG.1.cap, aG.2.1.a, aG.2.1.cap, aG.2.2.1.a, aG.2.2.1.cap, aG.2.2.2.a, aG.2.2.2.cap⟩ (nS l0)) = [.slice aG.1.a l0.aQ.length aG.1.cap, .slice aG.2.1.a l0.aR.length aG.2.1.cap, .slice aG.2.2.1.a l0.Sections.length aG.2.2.1.cap, .slice aG.2.2.2.a l0.Links.length aG.2.2.2.cap] := by
    simp [sK.cells, nS]
  rw [hc] at this
  exact this
end Go.Proofs.Ytcalibhfgdncaaa
