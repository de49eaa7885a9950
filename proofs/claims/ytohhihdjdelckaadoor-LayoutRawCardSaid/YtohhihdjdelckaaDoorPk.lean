/- Plain laws, the kit: loops of the model. -/
import Derived.Test.YtohhihdjdelckaaDoorD11
set_option linter.all false
namespace Go.Dc

/-- A loop over a list by its index. -/
theorem iter_list {α σ τ β : Type} {B : (τ → Option β) → τ → Option β} (mk : σ → Nat → τ) (xs : List α) (I : σ → Nat → Prop) (F : σ → List α → Option β)
    (hstep : ∀ c s i x r, I s i → xs.drop i = x :: r → i < xs.length → idx xs (i : Int) = some x → (∀ s', I s' (i + 1) → c (mk s' (i + 1)) = F s' r) → B c (mk s i) = F s (x :: r))
    (hend : ∀ c s, I s xs.length → B c (mk s xs.length) = F s []) :
    ∀ n s i, I s i → i ≤ xs.length → xs.length - i < n → iter B n (mk s i) = F s (xs.drop i) := by
  intro n
  induction n with
  | zero => intro s i _ _ h; omega
  | succ n ih =>
    intro s i hI hi hn
    show B (iter B n) (mk s i) = _
    by_cases he : i = xs.length
    · subst he
      rw [hend _ _ hI, List.drop_length]
    · have hlt : i < xs.length := by omega
      have hd : xs.drop i = xs[i] :: xs.drop (i + 1) := List.drop_eq_getElem_cons hlt
      rw [hd]
      exact hstep _ s i _ _ hI hd hlt (by simp [idx, hlt]) (fun s' hI' => ih s' (i + 1) hI' (by omega) (by omega))

theorem idx_nat {α : Type} (xs : List α) (i : Nat) : idx xs (i : Int) = xs[i]? := by simp [idx]
theorem idx_of_lt {α : Type} [Inhabited α] {xs : List α} {i : Int} (h0 : 0 ≤ i) (h : i < xs.length) : idx xs i = some (xs.getD i.toNat default) := by
  have : i.toNat < xs.length := by omega
  simp [idx, h0, this]
theorem chk_true {α : Type} {c : Bool} {k : Option α} (h : c = true) : chk c k = k := by rw [h]; rfl
theorem i64b_of {x : Int} (h1 : -9223372036854775808 ≤ x) (h2 : x ≤ 9223372036854775807) : i64b x = true := by simp [i64b]; omega
theorem whn_t {α : Type} {g : Bool} {d : α} {o : Option α} (h : g = true) : whn g d o = o := by rw [h]; rfl
theorem whn_f {α : Type} {g : Bool} {d : α} {o : Option α} (h : g = false) : whn g d o = some d := by rw [h]; rfl
end Go.Dc
