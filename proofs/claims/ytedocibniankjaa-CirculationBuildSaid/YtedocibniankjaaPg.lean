/- Plain laws of chapter 28: Follows. -/
import Derived.Test.YtedocibniankjaaPf
namespace Go.Proofs.Ytedocibniankjaa
open Go.Dc

def fwl (r : Rules) (a b : Task) : Int × Bool → List EmptyT → Int × Bool
  | s, [] => s
  | s, e :: q => if e.From = a.To ∧ e.To = b.From ∧ a.End + r.Turn + e.Seconds ≤ b.Start ∧ (s.2 = false ∨ e.Seconds < s.1) then fwl r a b (e.Seconds, true) q else fwl r a b s q
def fw (r : Rules) (a b : Task) : Int × Bool :=
  if a.Type_ ≠ b.Type_ then (0, false) else if a.To = b.From ∧ a.End + r.Turn ≤ b.Start then (0, true) else fwl r a b (0, false) r.Empties

theorem fwl_le (r : Rules) (a b : Task) : ∀ (q : List EmptyT) (s : Int × Bool), (s.2 = true → a.End + r.Turn + s.1 ≤ b.Start) → (fwl r a b s q).2 = true → a.End + r.Turn + (fwl r a b s q).1 ≤ b.Start := by
  intro q
  induction q with
  | nil => intro s h; exact h
  | cons e q ih =>
    intro s h
    unfold fwl
    split
    · rename_i hc
      exact ih (e.Seconds, true) (fun _ => hc.2.2.1)
    · exact ih s h
theorem fw_le (r : Rules) (a b : Task) (h : (fw r a b).2 = true) : a.End + r.Turn + (fw r a b).1 ≤ b.Start := by
  unfold fw at h ⊢
  split at h
  · cases h
  · rename_i h1
    rw [if_neg h1]
    split at h
    · rename_i h2; rw [if_pos h2]; simp only; omega
    · rename_i h2; rw [if_neg h2]; exact fwl_le r a b _ _ (by simp) h

theorem fwl_bd (r : Rules) (a b : Task) : ∀ (q : List EmptyT) (s : Int × Bool), q.all emptyB = true → (0 ≤ s.1 ∧ s.1 ≤ 7200) → 0 ≤ (fwl r a b s q).1 ∧ (fwl r a b s q).1 ≤ 7200 := by
  intro q
  induction q with
  | nil => intro s _ h; exact h
  | cons e q ih =>
    intro s hq h
    simp only [List.all_cons, Bool.and_eq_true] at hq
    unfold fwl
    split
    · refine ih (e.Seconds, true) hq.2 ?_
      have := hq.1
      simp [emptyB] at this
      simp only; omega
    · exact ih s hq.2 h
theorem fw_bd (r : Rules) (a b : Task) (he : r.Empties.all emptyB = true) : 0 ≤ (fw r a b).1 ∧ (fw r a b).1 ≤ 7200 := by
  unfold fw
  split
  · simp
  · split
    · simp
    · exact fwl_bd r a b _ _ he (by simp)

theorem follows_loop (r : Rules) (a b : Task) (ha : taskB a = true) (hr : limB r = true) (he : r.Empties.all emptyB = true) (hl : r.Empties.length ≤ 48) :
    iter (circulation_Follows_b1 r a b) FUEL (0, false, 0) = some (fwl r a b (0, false) r.Empties) := by
  have := iter_list (B := circulation_Follows_b1 r a b) (fun (s : Int × Bool) i => (s.1, s.2, i)) r.Empties (fun _ _ => True) (fun s q => some (fwl r a b s q)) ?_ ?_ FUEL (0, false) 0 trivial (Nat.zero_le _) (FUEL_big (by omega))
  · simpa using this
  · intro c s i x q _ hd hi hx hc
    have h1 : ((i : Int) < (r.Empties.length : Int)) := by omega
    have hm : x ∈ r.Empties := by rw [idx_nat] at hx; exact List.mem_of_getElem? hx
    have hxe := List.all_eq_true.1 he x hm
    simp [emptyB] at hxe
    simp [taskB] at ha
    simp [limB] at hr
    have hb1 : i64b (a.End + r.Turn) = true := i64b_of (by omega) (by omega)
    have hb2 : i64b (a.End + r.Turn + x.Seconds) = true := i64b_of (by omega) (by omega)
    have hc' : ∀ u v, c (u, v, i + 1) = some (fwl r a b (u, v) q) := fun u v => hc (u, v) trivial
    simp only [circulation_Follows_b1, hx, Option.bind_some, h1, decide_true, if_true, hb1, hb2, Bool.or_true, circulation_Follows_k2, hc', chk_true (rfl : true = true)]
    simp only [fwl]
    by_cases e1 : x.From = a.To
    · by_cases e2 : x.To = b.From
      · by_cases e3 : a.End + r.Turn + x.Seconds ≤ b.Start
        · have e3' : ¬ b.Start < a.End + r.Turn + x.Seconds := by omega
          cases hs : s.2
          · simp [e1, e2, e3, e3', hs]
          · by_cases e4 : x.Seconds < s.1
            · simp [e1, e2, e3, e3', hs, e4]
            · simp [e1, e2, e3, e3', hs, e4]
              rw [← hs]
        · have e3' : b.Start < a.End + r.Turn + x.Seconds := by omega
          simp [e1, e2, e3, e3']
      · simp [e1, e2]
    · simp [e1]
  · intro c s _
    simp [circulation_Follows_b1, circulation_Follows_k1, fwl]

theorem follows_m (r : Rules) (a b : Task) (ha : taskB a = true) (hr : limB r = true) (he : r.Empties.all emptyB = true) (hl : r.Empties.length ≤ 48) :
    circulation_Follows_m r a b = some (fw r a b) := by
  have ha' := ha
  have hr' := hr
  simp [taskB] at ha'
  simp [limB] at hr'
  have hb1 : i64b (a.End + r.Turn) = true := i64b_of (by omega) (by omega)
  unfold circulation_Follows_m fw
  rw [follows_loop r a b ha hr he hl, hb1, Bool.or_true, chk_true rfl]
  by_cases h : a.Type_ = b.Type_
  · by_cases h2 : a.To = b.From
    · by_cases h3 : a.End + r.Turn ≤ b.Start
      · simp [h, h2, h3]
      · simp [h, h2, h3]
    · simp [h, h2]
  · simp [h]

theorem followsR_m (r : Rules) (a b : Task) (ha : taskB a = true) (hr : limB r = true) (he : r.Empties.all emptyB = true) (hl : r.Empties.length ≤ 48) :
    ref24_Follows_m r a b = some (fw r a b) := by
  rw [← follows_m r a b ha hr he hl]
  unfold ref24_Follows_m circulation_Follows_m
  split
  · rfl
  · congr 1
    split
    · rfl
    · refine iter_sim (fun s t => s = t) ?_ FUEL _ _ rfl
      intro c1 c2 hc s t hst
      subst hst
      obtain ⟨u, v, i⟩ := s
      simp only [ref24_Follows_b1, circulation_Follows_b1, ref24_Follows_k2, circulation_Follows_k2]
      split
      · congr 1
        funext x
        by_cases e1 : x.From = a.To
        · by_cases e2 : x.To = b.From
          · by_cases e3 : a.End + r.Turn + x.Seconds ≤ b.Start
            · have e3' : ¬ b.Start < a.End + r.Turn + x.Seconds := by omega
              simp [e1, e2, e3, e3', hc _ _ rfl]
            · have e3' : b.Start < a.End + r.Turn + x.Seconds := by omega
              simp [e1, e2, e3, e3', hc _ _ rfl]
          · simp [e1, e2, hc _ _ rfl]
        · simp [e1, hc _ _ rfl]
      · rfl

end Go.Proofs.Ytedocibniankjaa
