/- Plain laws of chapter 28: covers. -/
import Derived.Test.YtedocibniankjaaQe
namespace Go.Proofs.Ytedocibniankjaa
open Go.Dc

/-- An ascending list of numbers from 0 to n - 1. -/
def AscL (l : List Int) (n : Int) : Prop := ∀ i : Int, 0 ≤ i → i < l.length → 0 ≤ gi l i ∧ gi l i < n ∧ (0 < i → gi l (i - 1) < gi l i)

theorem member_wp (l : List Int) (v : Int) (hl : l.length ≤ 140737488355328) : WP (ref24_member_m l v) (fun b => b = true ↔ v ∈ l) := by
  unfold ref24_member_m
  refine wp_iter (fun (t : Nat) => t ≤ l.length ∧ ∀ i : Int, 0 ≤ i → i < t → gi l i ≠ v) (fun t => l.length - t) _ ?_ FUEL _ ⟨Nat.zero_le _, fun i _ i1 => by omega⟩ (fuel_of (by omega))
  rintro c t ⟨ht, hA⟩ hc
  simp only [ref24_member_b1]
  refine wp_ite (fun h => ?_) (fun h => ?_)
  · simp only [decide_eq_true_eq] at h
    refine wp_idxi (by omega) (wp_ite (fun hb => ?_) (fun hb => ?_))
    · simp only [decide_eq_true_eq] at hb
      refine wp_some ⟨fun _ => ?_, fun _ => rfl⟩
      rw [← hb]
      have : t < l.length := by omega
      unfold gi; simp [this]
    · simp only [decide_eq_false_iff_not] at hb
      refine hc _ ⟨by omega, fun i i0 i1 => ?_⟩ (by omega)
      by_cases e : i = t
      · subst e; exact hb
      · exact hA i i0 (by omega)
  · simp only [decide_eq_false_iff_not] at h
    refine wp_some ⟨fun h => (by cases h), fun hm => ?_⟩
    obtain ⟨j, hj, e⟩ := List.mem_iff_getElem.1 hm
    exact absurd (show gi l j = v by unfold gi; simp [hj, e]) (hA j (by omega) (by omega))

def jn (next : List Int) (n : Nat) : Int := sumTo (fun a => if gi next a = -1 then 0 else 1) n
theorem jn_bd (next : List Int) (n : Nat) : 0 ≤ jn next n ∧ jn next n ≤ n := by
  constructor
  · exact sumTo_nonneg (fun a _ _ => by split <;> omega)
  · have := sumTo_le (f := fun a => if gi next a = -1 then 0 else 1) (g := fun _ => 1) (n := n) (fun a _ _ => by split <;> omega)
    rw [sumTo_const] at this
    unfold jn
    omega
theorem joined_wp (next : List Int) (hl : next.length ≤ 140737488355328) : WP (ref24_Joined_m next) (fun k => k = jn next next.length) := by
  unfold ref24_Joined_m
  refine wp_iter (fun (t : Int × Nat) => t.2 ≤ next.length ∧ t.1 = jn next t.2) (fun t => next.length - t.2) _ ?_ FUEL _ ⟨Nat.zero_le _, rfl⟩ (fuel_of (by simp only; omega))
  rintro c ⟨s, t⟩ ⟨ht, hs⟩ hc
  simp only at ht hs hc
  have jb := jn_bd next t
  simp only [ref24_Joined_b1]
  refine wp_ite (fun h => ?_) (fun h => ?_)
  · simp only [decide_eq_true_eq] at h
    refine wp_idxi (by omega) (wp_ite (fun hx => ?_) (fun hx => ?_))
    · simp only [decide_eq_true_eq] at hx
      refine wp_i64 (by omega) (hc _ ⟨by simp only; omega, ?_⟩ (by simp only; omega))
      simp only
      unfold jn at hs ⊢
      rw [sumTo, ← hs, if_neg hx]
    · simp only [decide_eq_false_iff_not, Decidable.not_not] at hx
      refine hc _ ⟨by simp only; omega, ?_⟩ (by simp only; omega)
      simp only
      unfold jn at hs ⊢
      rw [sumTo, ← hs, if_pos hx]; omega
  · simp only [decide_eq_false_iff_not] at h
    obtain rfl : t = next.length := by omega
    exact wp_some hs

/-- What a cover of a circulation is. -/
structure Cov (ts : List Task) (r : Rules) (next : List Int) (c : Cover) : Prop where
  ci : Circ ts r next
  la : AscL c.Left ts.length
  ra : AscL c.Right ts.length
  s : (c.Left.length : Int) + c.Right.length = jn next ts.length
  cv : ∀ a b : Int, 0 ≤ a → a < ts.length → 0 ≤ b → b < ts.length → fok ts r a b = true → a ∈ c.Left ∨ b ∈ c.Right

end Go.Proofs.Ytedocibniankjaa
