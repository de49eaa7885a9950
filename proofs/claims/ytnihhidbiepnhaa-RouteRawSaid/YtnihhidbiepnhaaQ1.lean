/- Plain laws, the kit: options with a value of a kind, lists by number, sums. -/
import Derived.Test.YtnihhidbiepnhaaPk
import Derived.IntWalk
namespace Go.Dc

/-- An option that is there, with a value of a kind. -/
def WP {α : Type} (o : Option α) (Q : α → Prop) : Prop := ∃ y, o = some y ∧ Q y
def gi (l : List Int) (i : Int) : Int := l.getD i.toNat 0
def gb (l : List Bool) (i : Int) : Bool := l.getD i.toNat false
def gll (l : List (List Int)) (i : Int) : List Int := l.getD i.toNat []

theorem wp_some {α : Type} {y : α} {Q : α → Prop} (h : Q y) : WP (some y) Q := ⟨y, rfl, h⟩
theorem wp_imp {α : Type} {o : Option α} {Q R : α → Prop} (h : WP o Q) (hq : ∀ y, Q y → R y) : WP o R := by
  obtain ⟨y, h1, h2⟩ := h; exact ⟨y, h1, hq y h2⟩
theorem wp_bind {α β : Type} {o : Option α} {K : α → Option β} {Q : β → Prop} (R : α → Prop) (h : WP o R) (hk : ∀ y, R y → WP (K y) Q) : WP (o.bind K) Q := by
  obtain ⟨y, rfl, h2⟩ := h; exact hk y h2
theorem wp_chk {α : Type} {c : Bool} {k : Option α} {Q : α → Prop} (h : c = true) (hk : WP k Q) : WP (chk c k) Q := by subst h; exact hk
theorem wp_i64 {α : Type} {x : Int} {k : Option α} {Q : α → Prop} (h1 : -9223372036854775808 ≤ x ∧ x ≤ 9223372036854775807) (hk : WP k Q) : WP (chk (i64b x) k) Q := wp_chk (by simp [i64b]; omega) hk
theorem wp_idxi {β : Type} {xs : List Int} {i : Int} {K : Int → Option β} {Q : β → Prop} (h : 0 ≤ i ∧ i < xs.length) (hk : WP (K (gi xs i)) Q) : WP ((idx xs i).bind K) Q := by
  have e : idx xs i = some (gi xs i) := by
    have : i.toNat < xs.length := by omega
    simp [idx, h.1, gi, this]
  rw [e]; exact hk
theorem wp_idxb {β : Type} {xs : List Bool} {i : Int} {K : Bool → Option β} {Q : β → Prop} (h : 0 ≤ i ∧ i < xs.length) (hk : WP (K (gb xs i)) Q) : WP ((idx xs i).bind K) Q := by
  have e : idx xs i = some (gb xs i) := by
    have : i.toNat < xs.length := by omega
    simp [idx, h.1, gb, this]
  rw [e]; exact hk
theorem wp_idxl {β : Type} {xs : List (List Int)} {i : Int} {K : List Int → Option β} {Q : β → Prop} (h : 0 ≤ i ∧ i < xs.length) (hk : WP (K (gll xs i)) Q) : WP ((idx xs i).bind K) Q := by
  have e : idx xs i = some (gll xs i) := by
    have : i.toNat < xs.length := by omega
    simp [idx, h.1, gll, this]
  rw [e]; exact hk
theorem wp_idx {α β : Type} {xs : List α} {i : Int} {K : α → Option β} {Q : β → Prop} {x : α} (h0 : 0 ≤ i) (h : xs[i.toNat]? = some x) (hk : WP (K x) Q) : WP ((idx xs i).bind K) Q := by
  have e : idx xs i = some x := by simp [idx, h0, h]
  rw [e]; exact hk
theorem wp_ite {α : Type} {c : Bool} {a b : Option α} {Q : α → Prop} (h1 : c = true → WP a Q) (h2 : c = false → WP b Q) : WP (if c then a else b) Q := by
  cases c with
  | true => exact h1 rfl
  | false => exact h2 rfl
theorem wp_whn {α β : Type} {g : Bool} {d : α} {o : Option α} {K : α → Option β} {Q : β → Prop} (h1 : g = true → WP (o.bind K) Q) (h2 : g = false → WP (K d) Q) : WP ((whn g d o).bind K) Q := by
  cases g with
  | true => exact h1 rfl
  | false => exact h2 rfl
/-- A loop with an invariant and a measure. -/
theorem wp_iter {σ β : Type} {B : (σ → Option β) → σ → Option β} (I : σ → Prop) (μ : σ → Nat) (Q : β → Prop)
    (h : ∀ c s, I s → (∀ s', I s' → μ s' < μ s → WP (c s') Q) → WP (B c s) Q) : ∀ n s, I s → μ s < n → WP (iter B n s) Q := by
  intro n
  induction n with
  | zero => intro s _ h; omega
  | succ n ih => intro s hI hn; exact h _ s hI (fun s' hI' hlt => ih s' hI' (by omega))

theorem fuel_of {n : Nat} (h : n ≤ 1000000000000000000) : n < FUEL := by
  have : FUEL = 18446744073709551616 := rfl
  omega

theorem gi_set (l : List Int) (i j x : Int) (hi : 0 ≤ i) (hj : 0 ≤ j) (hl : i < l.length) : gi (l.set i.toNat x) j = if j = i then x else gi l j := by
  unfold gi
  by_cases h : j = i
  · subst h
    have : j.toNat < l.length := by omega
    simp [this]
  · have : i.toNat ≠ j.toNat := by omega
    simp [h, List.getElem?_set_ne this]
theorem gb_set (l : List Bool) (i j : Int) (x : Bool) (hi : 0 ≤ i) (hj : 0 ≤ j) (hl : i < l.length) : gb (l.set i.toNat x) j = if j = i then x else gb l j := by
  unfold gb
  by_cases h : j = i
  · subst h
    have : j.toNat < l.length := by omega
    simp [this]
  · have : i.toNat ≠ j.toNat := by omega
    simp [h, List.getElem?_set_ne this]
theorem gll_set (l : List (List Int)) (i j : Int) (x : List Int) (hi : 0 ≤ i) (hj : 0 ≤ j) (hl : i < l.length) : gll (l.set i.toNat x) j = if j = i then x else gll l j := by
  unfold gll
  by_cases h : j = i
  · subst h
    have : j.toNat < l.length := by omega
    simp [this]
  · have : i.toNat ≠ j.toNat := by omega
    simp [h, List.getElem?_set_ne this]
theorem gi_rep (n : Nat) (x i : Int) (hi : 0 ≤ i) (h : i < n) : gi (List.replicate n x) i = x := by
  have : i.toNat < n := by omega
  simp [gi, this]
theorem gb_rep (n : Nat) (x : Bool) (i : Int) (hi : 0 ≤ i) (h : i < n) : gb (List.replicate n x) i = x := by
  have : i.toNat < n := by omega
  simp [gb, this]

/-- The other half of an arc. -/
def xr (h : Int) : Int := if h % 2 = 0 then h + 1 else h - 1
theorem xor_one_nat (n : Nat) : n ^^^ 1 = if n % 2 = 0 then n + 1 else n - 1 := by
  apply Nat.eq_of_testBit_eq
  intro i
  rcases Nat.mod_two_eq_zero_or_one n with h | h
  · obtain ⟨k, rfl⟩ : ∃ k, n = 2 * k := ⟨n / 2, by omega⟩
    rw [if_pos h]
    cases i with
    | zero => simp [Nat.testBit_zero]
    | succ i =>
      rw [Nat.testBit_xor, Nat.testBit_succ, Nat.testBit_succ, Nat.testBit_succ]
      have e1 : 2 * k / 2 = k := by omega
      have e2 : (2 * k + 1) / 2 = k := by omega
      simp [e1, e2]
  · obtain ⟨k, rfl⟩ : ∃ k, n = 2 * k + 1 := ⟨n / 2, by omega⟩
    rw [if_neg (by omega)]
    cases i with
    | zero => simp [Nat.testBit_zero]
    | succ i =>
      rw [Nat.testBit_xor, Nat.testBit_succ, Nat.testBit_succ, Nat.testBit_succ]
      have e1 : (2 * k + 1) / 2 = k := by omega
      simp [e1]

/-- Sums. -/
def sumTo (f : Int → Int) : Nat → Int
  | 0 => 0
  | n + 1 => sumTo f n + f n
theorem sumTo_congr {f g : Int → Int} : ∀ {n : Nat}, (∀ i : Int, 0 ≤ i → i < n → f i = g i) → sumTo f n = sumTo g n
  | 0, _ => rfl
  | n + 1, h => by
    rw [sumTo, sumTo, sumTo_congr (fun i h0 h1 => h i h0 (by omega)), h n (by omega) (by omega)]
theorem sumTo_le {f g : Int → Int} : ∀ {n : Nat}, (∀ i : Int, 0 ≤ i → i < n → f i ≤ g i) → sumTo f n ≤ sumTo g n
  | 0, _ => Int.le_refl _
  | n + 1, h => by
    have a := sumTo_le (f := f) (g := g) (n := n) (fun i h0 h1 => h i h0 (by omega))
    have b := h n (by omega) (by omega)
    simp only [sumTo]; omega
theorem sumTo_add (f g : Int → Int) : ∀ n : Nat, sumTo (fun i => f i + g i) n = sumTo f n + sumTo g n
  | 0 => rfl
  | n + 1 => by simp only [sumTo, sumTo_add f g n]; omega
theorem sumTo_neg (f : Int → Int) : ∀ n : Nat, sumTo (fun i => - f i) n = - sumTo f n
  | 0 => rfl
  | n + 1 => by simp only [sumTo, sumTo_neg f n]; omega
theorem sumTo_sub (f g : Int → Int) (n : Nat) : sumTo (fun i => f i - g i) n = sumTo f n - sumTo g n := by
  induction n with
  | zero => rfl
  | succ n ih => simp only [sumTo, ih]; omega
theorem sumTo_const (c : Int) : ∀ n : Nat, sumTo (fun _ => c) n = n * c
  | 0 => by simp [sumTo]
  | n + 1 => by simp only [sumTo, sumTo_const c n]; rw [Int.natCast_add, Int.add_mul]; simp
theorem sumTo_mul (c : Int) (f : Int → Int) : ∀ n : Nat, sumTo (fun i => c * f i) n = c * sumTo f n
  | 0 => by simp [sumTo]
  | n + 1 => by simp only [sumTo, sumTo_mul c f n]; rw [Int.mul_add]
/-- A sum of which one member has changed. -/
theorem sumTo_upd {f g : Int → Int} (k : Int) : ∀ {n : Nat}, 0 ≤ k → k < n → (∀ i : Int, 0 ≤ i → i < n → i ≠ k → g i = f i) → sumTo g n = sumTo f n + (g k - f k)
  | 0, h0, h1, _ => by omega
  | n + 1, h0, h1, h => by
    by_cases e : k = n
    · subst e
      have := sumTo_congr (f := g) (g := f) (n := n) (fun i a b => h i a (by omega) (by omega))
      simp only [sumTo]; omega
    · have := sumTo_upd (f := f) (g := g) k (n := n) h0 (by omega) (fun i a b c => h i a (by omega) c)
      have h2 := h n (by omega) (by omega) (by omega)
      simp only [sumTo]; omega
theorem sumTo_ind (a : Int) (f : Int → Int) : ∀ n : Nat, 0 ≤ a → a < n → sumTo (fun i => if i = a then f i else 0) n = f a := by
  intro n h0 h1
  have e : sumTo (fun _ => (0 : Int)) n = 0 := by rw [sumTo_const]; simp
  have := sumTo_upd (f := fun _ => 0) (g := fun i => if i = a then f i else 0) a (n := n) h0 h1 (fun i _ _ hne => by simp [hne])
  simp only [if_true] at this
  omega
theorem sumTo_swap (f : Int → Int → Int) (m : Nat) : ∀ n : Nat, sumTo (fun i => sumTo (fun j => f i j) m) n = sumTo (fun j => sumTo (fun i => f i j) n) m
  | 0 => by simp only [sumTo]; rw [sumTo_const]; simp
  | n + 1 => by
    simp only [sumTo]
    rw [sumTo_swap f m n, ← sumTo_add]
theorem sumTo_zero {f : Int → Int} {n : Nat} (h : ∀ i : Int, 0 ≤ i → i < n → f i = 0) : sumTo f n = 0 := by
  rw [sumTo_congr (g := fun _ => 0) h, sumTo_const]; simp
theorem sumTo_nonneg {f : Int → Int} {n : Nat} (h : ∀ i : Int, 0 ≤ i → i < n → 0 ≤ f i) : 0 ≤ sumTo f n := by
  have := sumTo_le (f := fun _ => 0) (g := f) h
  rw [sumTo_const] at this; simpa using this
theorem sumTo_ge {f : Int → Int} {n : Nat} (h : ∀ i : Int, 0 ≤ i → i < n → 0 ≤ f i) (k : Int) (h0 : 0 ≤ k) (h1 : k < n) : f k ≤ sumTo f n := by
  have := sumTo_upd (f := fun i => if i = k then 0 else f i) (g := f) k (n := n) h0 h1 (fun i _ _ hne => by simp [hne])
  have h2 := sumTo_nonneg (f := fun i => if i = k then 0 else f i) (n := n) (fun i a b => by by_cases e : i = k <;> simp [e]; exact h i a b)
  simp only [if_true] at this
  omega
theorem bitsXor_one {h : Int} (h0 : 0 ≤ h) (h1 : h < 4611686018427387904) : bitsXor .i64 h 1 = if h % 2 = 0 then h + 1 else h - 1 := by
  have e1 : (BitVec.ofInt 64 h).toNat = h.toNat := by rw [BitVec.toNat_ofInt]; omega
  have e2 : (BitVec.ofInt 64 1).toNat = 1 := by decide
  have e3 : (BitVec.ofInt IntKind.i64.bits h ^^^ BitVec.ofInt IntKind.i64.bits 1).toNat = if h.toNat % 2 = 0 then h.toNat + 1 else h.toNat - 1 := by
    show (BitVec.ofInt 64 h ^^^ BitVec.ofInt 64 1).toNat = _
    rw [BitVec.toNat_xor, e1, e2, xor_one_nat]
  unfold bitsXor
  rw [e3, IntKind.wrap_i64]
  split <;> split <;> omega
end Go.Dc
