/- The reference's hops. -/
import Derived.Test.YtohhihdjdelckaaDoorTk
import Derived.Test.YtohhihdjdelckaaDoorRd
set_option linter.all false
namespace Go.Proofs.YtohhihdjdelckaaDoor
open Go.Dc
def hopTo (k : Link) (x y : Int) : Option Hop := if 0 ≤ x then some ⟨⟨x, if y = 1 then 1 else 0⟩, k.Point, k.Pos⟩ else none
def hopF (s : Step) (k : Link) : Option Hop :=
  if k.A = s.Section ∧ k.AEnd = (if s.Dir = 1 then 0 else 1) then hopTo k k.B k.BEnd
  else if k.B = s.Section ∧ k.BEnd = (if s.Dir = 1 then 0 else 1) then hopTo k k.A k.AEnd else none
def hopsF (l : Layout) (s : Step) : List Hop := l.Links.filterMap (hopF s)

theorem hops_k4 (lh : List Hop) (k : Link) (i : Nat) (c : (List Hop × Nat) → Option (List Hop)) (x y : Int) (hl : lh.length ≤ 1000) (hi : i ≤ 1000) :
    ref1_HopsOf_k4 lh k i c (x, y) = c (lh ++ (hopTo k x y).toList, i + 1) := by
  simp only [ref1_HopsOf_k4, hopTo]
  by_cases h0 : 0 ≤ x
  · rw [if_pos (by simpa using h0), if_pos h0]
    by_cases h1 : y = 1
    · rw [if_pos (by simpa using h1), if_pos h1]
      simp only [ref1_HopsOf_k5, ref1_HopsOf_k3]
      rw [chk_true (by simp; omega), chk_true (i64b_of (by omega) (by omega))]
      rfl
    · rw [if_neg (by simpa using h1), if_neg h1]
      simp only [ref1_HopsOf_k5, ref1_HopsOf_k3]
      rw [chk_true (by simp; omega), chk_true (i64b_of (by omega) (by omega))]
      rfl
  · rw [if_neg (by simpa using h0), if_neg h0]
    simp only [ref1_HopsOf_k3]
    rw [chk_true (i64b_of (by omega) (by omega))]
    simp

theorem hops_r (l : Layout) (s : Step) (hl : l.Links.length ≤ 1000) : ref1_HopsOf_m l s = some (hopsF l s) := by
  have key : ∀ e : Int, e = (if s.Dir = 1 then 0 else 1) → ref1_HopsOf_k1 l s e = some (hopsF l s) := by
    intro e he
    unfold ref1_HopsOf_k1 hopsF
    have := iter_list (B := ref1_HopsOf_b1 l s e) (fun (q : List Hop) i => (q, i)) l.Links (fun q i => q.length ≤ i) (fun q r => some (q ++ r.filterMap (hopF s))) ?_ ?_ FUEL [] 0 (by simp) (by omega) (fuel_of (by omega))
    · simpa using this
    · intro c q i k r hq hdr hi hx hk
      simp only [ref1_HopsOf_b1]
      rw [if_pos (by simp; omega), hx, Option.bind_some]
      have hh : (if (decide (k.A = s.Section) && decide (k.AEnd = e)) = true then ref1_HopsOf_k4 q k i c (k.B, k.BEnd) else if (decide (k.B = s.Section) && decide (k.BEnd = e)) = true then ref1_HopsOf_k4 q k i c (k.A, k.AEnd) else ref1_HopsOf_k4 q k i c (-1, 0)) = c (q ++ (hopF s k).toList, i + 1) := by
        unfold hopF
        rw [← he]
        by_cases h1 : k.A = s.Section ∧ k.AEnd = e
        · rw [if_pos (by simpa using h1), if_pos h1, hops_k4 _ _ _ _ _ _ (by omega) (by omega)]
        · rw [if_neg (by simpa using h1), if_neg h1]
          by_cases h2 : k.B = s.Section ∧ k.BEnd = e
          · rw [if_pos (by simpa using h2), if_pos h2, hops_k4 _ _ _ _ _ _ (by omega) (by omega)]
          · rw [if_neg (by simpa using h2), if_neg h2, hops_k4 _ _ _ _ _ _ (by omega) (by omega)]
            rfl
      rw [hh, hk _ (by cases hopF s k <;> simp <;> omega)]
      cases h : hopF s k with
      | none => simp [List.filterMap_cons, h]
      | some z => simp [List.filterMap_cons, h]
    · intro c q _
      simp only [ref1_HopsOf_b1]
      rw [if_neg (by simp)]
      simp [ref1_HopsOf_k2]
  unfold ref1_HopsOf_m
  by_cases h1 : s.Dir = 1
  · rw [if_pos (by simpa using h1)]; exact key 0 (by rw [if_pos h1])
  · rw [if_neg (by simpa using h1)]; exact key 1 (by rw [if_neg h1])

end Go.Proofs.YtohhihdjdelckaaDoor
