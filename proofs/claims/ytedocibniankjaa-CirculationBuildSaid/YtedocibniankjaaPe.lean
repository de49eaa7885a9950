/- Plain laws of chapter 28: Check. -/
import Derived.Test.YtedocibniankjaaCe
import Derived.Test.YtedocibniankjaaPk
namespace Go.Proofs.Ytedocibniankjaa
open Go.Dc

theorem whn_bool {g v : Bool} : whn g default (some v) = some (g && v) := by cases g <;> rfl

/-- A loop that asks every element. -/
theorem iter_all {α β : Type} {B : (Nat → Option β) → Nat → Option β} (xs : List α) (p : α → Bool) (K N : Option β)
    (hstep : ∀ c i x, i < xs.length → xs[i]? = some x → idx xs (i : Int) = some x → B c i = if p x then c (i + 1) else N)
    (hend : ∀ c, B c xs.length = K) (hl : xs.length < FUEL) : iter B FUEL 0 = if xs.all p then K else N := by
  have := iter_list (B := B) (fun (_ : Unit) i => i) xs (fun _ _ => True) (fun _ r => if r.all p then K else N) ?_ ?_ FUEL () 0 trivial (Nat.zero_le _) (by omega)
  · simpa using this
  · intro c _ i x r _ hd hi hx hc
    have hg : xs[i]? = some x := by rw [← idx_nat]; exact hx
    rw [hstep c i x hi hg hx, hc () trivial, List.all_cons]
    cases p x <;> simp
  · intro c _ _
    simp [hend]

def plB (n : Int) : Bool := decide (0 ≤ n) && decide (n ≤ 1048576)
def taskB (t : Task) : Bool := plB t.Type_ && plB t.From && plB t.To && decide (0 ≤ t.Start) && decide (t.Start < t.End) && decide (t.End ≤ 4194304)
def emptyB (e : EmptyT) : Bool := plB e.From && plB e.To && decide (e.From ≠ e.To) && decide (1 ≤ e.Seconds) && decide (e.Seconds ≤ 7200)
def ascB : Int → List Int → Bool
  | _, [] => true
  | last, x :: r => decide (last < x) && plB x && ascB x r
def limB (r : Rules) : Bool := decide (0 ≤ r.Turn) && decide (r.Turn ≤ 7200) && decide (0 ≤ r.Service) && decide (r.Service ≤ 86400) && decide (1 ≤ r.Limit) && decide (r.Limit ≤ 4194304)
def lenB (ts : List Task) (r : Rules) : Bool := decide (ts.length ≤ 40) && decide (r.Empties.length ≤ 48) && decide (r.Shops.length ≤ 24)
def tasksB (ts : List Task) (r : Rules) : Bool := lenB ts r && (ts.all taskB && (r.Empties.all emptyB && (ascB (-1) r.Shops && limB r)))

theorem place_m (n : Int) : circulation_place_m n = some (plB n) := rfl

theorem ctb3 (r : Rules) (hl : r.Shops.length ≤ 24) : iter (circulation_Check_b3 r) FUEL ((-1), 0) = some (ascB (-1) r.Shops && limB r) := by
  have := iter_list (B := circulation_Check_b3 r) (fun (s : Int) i => (s, i)) r.Shops (fun _ _ => True) (fun s q => some (ascB s q && limB r)) ?_ ?_ FUEL (-1) 0 trivial (Nat.zero_le _) (FUEL_big (by omega))
  · simpa using this
  · intro c s i x q _ hd hi hx hc
    have h1 : ((i : Int) < (r.Shops.length : Int)) := by omega
    simp only [circulation_Check_b3, hx, Option.bind_some, h1, decide_true, if_true, place_m, whn_bool]
    rw [hc x trivial]
    simp only [ascB]
    by_cases h : s < x
    · have h' : ¬ x ≤ s := by omega
      simp only [h, h', decide_true, decide_false, Bool.not_false, Bool.true_and, Bool.false_or]
      cases plB x <;> simp
    · have h' : x ≤ s := by omega
      simp [h, h']
  · intro c s _
    simp [circulation_Check_b3, circulation_Check_k3, ascB, limB]

theorem ctb2 (r : Rules) (hl : r.Shops.length ≤ 24) (hl2 : r.Empties.length ≤ 48) : iter (circulation_Check_b2 r) FUEL 0 = some (r.Empties.all emptyB && (ascB (-1) r.Shops && limB r)) := by
  rw [iter_all r.Empties emptyB (some (ascB (-1) r.Shops && limB r)) (some false) ?_ ?_ (FUEL_big (by omega))]
  · cases r.Empties.all emptyB <;> simp
  · intro c i x hi hg hx
    have h1 : ((i : Int) < (r.Empties.length : Int)) := by omega
    simp only [circulation_Check_b2, hx, Option.bind_some, h1, decide_true, if_true, place_m, whn_bool]
    have : ((((!plB x.From) || (!(!!plB x.From && plB x.To)) || decide (x.From = x.To)) || decide (x.Seconds < 1)) || decide (7200 < x.Seconds)) = !emptyB x := by
      rw [Bool.eq_iff_iff]
      cases h1 : plB x.From <;> cases h2 : plB x.To <;> simp [emptyB, h1, h2] <;> omega
    rw [this]
    cases emptyB x <;> simp
  · intro c
    simp only [circulation_Check_b2, Int.lt_irrefl, decide_false, Bool.false_eq_true, if_false, circulation_Check_k2]
    exact ctb3 r hl

theorem ctb1 (ts : List Task) (r : Rules) (hl : r.Shops.length ≤ 24) (hl2 : r.Empties.length ≤ 48) (hl3 : ts.length ≤ 40) : iter (circulation_Check_b1 ts r) FUEL 0 = some (ts.all taskB && (r.Empties.all emptyB && (ascB (-1) r.Shops && limB r))) := by
  rw [iter_all ts taskB (some (r.Empties.all emptyB && (ascB (-1) r.Shops && limB r))) (some false) ?_ ?_ (FUEL_big (by omega))]
  · cases ts.all taskB <;> simp
  · intro c i x hi hg hx
    have h1 : ((i : Int) < (ts.length : Int)) := by omega
    simp only [circulation_Check_b1, hx, Option.bind_some, h1, decide_true, if_true, place_m, whn_bool]
    have : ((((((!plB x.Type_) || (!(!(!plB x.Type_) && plB x.From))) || (!(!((!plB x.Type_) || (!(!(!plB x.Type_) && plB x.From))) && plB x.To))) || decide (x.Start < 0)) || decide (x.End ≤ x.Start)) || decide (4194304 < x.End)) = !taskB x := by
      rw [Bool.eq_iff_iff]
      cases h0 : plB x.Type_ <;> cases h1 : plB x.From <;> cases h2 : plB x.To <;> simp [taskB, h0, h1, h2] <;> omega
    rw [this]
    cases taskB x <;> simp
  · intro c
    simp only [circulation_Check_b1, Int.lt_irrefl, decide_false, Bool.false_eq_true, if_false, circulation_Check_k1]
    exact ctb2 r hl hl2

theorem checkT_m (ts : List Task) (r : Rules) : circulation_Check_m ts r = some (tasksB ts r) := by
  unfold circulation_Check_m tasksB
  by_cases h : lenB ts r = true
  · have h2 := h
    simp [lenB] at h2
    have : ((decide (40 < (ts.length : Int)) || decide (48 < (r.Empties.length : Int))) || decide (24 < (r.Shops.length : Int))) = false := by simp; omega
    rw [this, h, ctb1 ts r (by omega) (by omega) (by omega)]
    simp
  · have h2 : lenB ts r = false := by simpa using h
    have h3 := h2
    simp [lenB] at h3
    have : ((decide (40 < (ts.length : Int)) || decide (48 < (r.Empties.length : Int))) || decide (24 < (r.Shops.length : Int))) = true := by simp; omega
    rw [this, h2]
    simp

/-- The reference's order of the workshops. -/
theorem ascB_plB {s x : Int} {r : List Int} (h : ascB s (x :: r) = true) : plB x = true := by simp [ascB] at h; exact h.1.2

theorem crb3 (r : Rules) (hl : r.Shops.length ≤ 24) : iter (ref24_CheckTasks_b3 r) FUEL 0 = some (ascB (-1) r.Shops) := by
  have := iter_list (B := ref24_CheckTasks_b3 r) (fun (_ : Int) i => i) r.Shops (fun s i => (i = 0 → s = -1) ∧ (0 < i → r.Shops[i - 1]? = some s)) (fun s q => some (ascB s q)) ?_ ?_ FUEL (-1) 0 ⟨fun _ => rfl, fun h => absurd h (by omega)⟩ (Nat.zero_le _) (FUEL_big (by omega))
  · simpa using this
  · intro c s i x q hI hd hi hx hc
    have h1 : ((i : Int) < (r.Shops.length : Int)) := by omega
    simp only [ref24_CheckTasks_b3, hx, Option.bind_some, h1, decide_true, if_true]
    rw [chk_true (by have h := i64b_of (x := (i : Int) - 1) (by omega) (by omega); simp [h])]
    have hcc : c (i + 1) = some (ascB x q) := hc x ⟨fun h => absurd h (by omega), fun _ => by rw [← idx_nat]; exact hx⟩
    rw [hcc]
    simp only [ascB]
    have hp : (decide (x < 0) || decide (1048576 < x)) = !plB x := by rw [Bool.eq_iff_iff]; simp [plB]
    rw [hp]
    cases hpl : plB x
    · simp [whn]
    · by_cases hi0 : i = 0
      · subst hi0
        have hs := hI.1 rfl
        subst hs
        have : (-1 : Int) < x := by simp [plB] at hpl; omega
        simp [whn, this]
      · have hpos : (0 : Int) < (i : Int) := by omega
        have hid : idx r.Shops ((i : Int) - 1) = some s := by
          have e : ((i : Int) - 1) = ((i - 1 : Nat) : Int) := by omega
          rw [e, idx_nat]
          exact hI.2 (by omega)
        simp only [hpos, hid, whn, decide_true, Bool.not_true, Bool.not_false, Bool.true_and, Bool.false_or, if_true, Option.bind_some, Bool.and_true]
        by_cases h : x ≤ s
        · have h' : ¬ s < x := by omega
          simp [h, h']
        · have h' : s < x := by omega
          simp [h, h']
  · intro c s _
    simp [ref24_CheckTasks_b3, ref24_CheckTasks_k3, ascB]

theorem crb2 (r : Rules) (hl : r.Shops.length ≤ 24) (hl2 : r.Empties.length ≤ 48) : iter (ref24_CheckTasks_b2 r) FUEL 0 = some (r.Empties.all emptyB && ascB (-1) r.Shops) := by
  rw [iter_all r.Empties emptyB (some (ascB (-1) r.Shops)) (some false) ?_ ?_ (FUEL_big (by omega))]
  · cases r.Empties.all emptyB <;> simp
  · intro c i x hi hg hx
    have h1 : ((i : Int) < (r.Empties.length : Int)) := by omega
    simp only [ref24_CheckTasks_b2, hx, Option.bind_some, h1, decide_true, if_true]
    have : ((((((decide (x.From < 0) || decide (1048576 < x.From)) || decide (x.To < 0)) || decide (1048576 < x.To)) || decide (x.From = x.To)) || decide (x.Seconds < 1)) || decide (7200 < x.Seconds)) = !emptyB x := by
      rw [Bool.eq_iff_iff]
      simp [emptyB, plB]
      omega
    rw [this]
    cases emptyB x <;> simp
  · intro c
    simp only [ref24_CheckTasks_b2, Int.lt_irrefl, decide_false, Bool.false_eq_true, if_false, ref24_CheckTasks_k2]
    exact crb3 r hl

theorem crb1 (ts : List Task) (r : Rules) (hl : r.Shops.length ≤ 24) (hl2 : r.Empties.length ≤ 48) (hl3 : ts.length ≤ 40) : iter (ref24_CheckTasks_b1 ts r) FUEL 0 = some (ts.all taskB && (r.Empties.all emptyB && ascB (-1) r.Shops)) := by
  rw [iter_all ts taskB (some (r.Empties.all emptyB && ascB (-1) r.Shops)) (some false) ?_ ?_ (FUEL_big (by omega))]
  · cases ts.all taskB <;> simp
  · intro c i x hi hg hx
    have h1 : ((i : Int) < (ts.length : Int)) := by omega
    simp only [ref24_CheckTasks_b1, hx, Option.bind_some, h1, decide_true, if_true]
    have : ((((((((decide (x.Type_ < 0) || decide (1048576 < x.Type_)) || decide (x.From < 0)) || decide (1048576 < x.From)) || decide (x.To < 0)) || decide (1048576 < x.To)) || decide (x.Start < 0)) || decide (x.End ≤ x.Start)) || decide (4194304 < x.End)) = !taskB x := by
      rw [Bool.eq_iff_iff]
      simp [taskB, plB]
      omega
    rw [this]
    cases taskB x <;> simp
  · intro c
    simp only [ref24_CheckTasks_b1, Int.lt_irrefl, decide_false, Bool.false_eq_true, if_false, ref24_CheckTasks_k1]
    exact crb2 r hl hl2

theorem checkTR_m (ts : List Task) (r : Rules) : ref24_CheckTasks_m ts r = some (tasksB ts r) := by
  unfold ref24_CheckTasks_m tasksB
  by_cases h : (lenB ts r && limB r) = true
  · have h2 := h
    simp [lenB, limB] at h2
    have : ((((((((decide (40 < (ts.length : Int)) || decide (r.Turn < 0)) || decide (7200 < r.Turn)) || decide (48 < (r.Empties.length : Int))) || decide (24 < (r.Shops.length : Int))) || decide (r.Service < 0)) || decide (86400 < r.Service)) || decide (r.Limit < 1)) || decide (4194304 < r.Limit)) = false := by simp; omega
    have h3 : lenB ts r = true ∧ limB r = true := by simpa using h
    rw [this, h3.1, h3.2, crb1 ts r (by omega) (by omega) (by omega)]
    simp
  · have h2 : (lenB ts r && limB r) = false := by simpa using h
    have h3 := h2
    simp [lenB, limB] at h3
    have : ((((((((decide (40 < (ts.length : Int)) || decide (r.Turn < 0)) || decide (7200 < r.Turn)) || decide (48 < (r.Empties.length : Int))) || decide (24 < (r.Shops.length : Int))) || decide (r.Service < 0)) || decide (86400 < r.Service)) || decide (r.Limit < 1)) || decide (4194304 < r.Limit)) = true := by simp; omega
    rw [this]
    cases h4 : lenB ts r
    · simp
    · have : limB r = false := by simpa [h4] using h2
      simp [this]
end Go.Proofs.Ytedocibniankjaa
