/- Plain laws of chapter 28: the maker of tasks. -/
import Derived.Test.YtedocibniankjaaPe
import Derived.Test.YtedocibniankjaaOpens
import Derived.Test.YtedocibniankjaaPp
namespace Go.Proofs.Ytedocibniankjaa
open Go.Dc

theorem ascB_snoc {k : Int} (hk : plB k = true) : ∀ (xs : List Int) (a : Int), ascB a xs = true → (∀ x ∈ xs, x < k) → a < k → ascB a (xs ++ [k]) = true := by
  intro xs
  induction xs with
  | nil => intro a _ _ h; simp [ascB, hk, h]
  | cons x r ih =>
    intro a h hx ha
    simp [ascB] at h ⊢
    exact ⟨h.1, ih x h.2 (fun y hy => hx y (by simp [hy])) (hx x (by simp))⟩

def GoodT (y : List Task × Rules) : Prop := tasksB y.1 y.2 = true ∧ y.1.length ≤ 5 ∧ y.2.Empties.length ≤ 3 ∧ y.2.Shops.length ≤ 3

theorem tasks_3 (l : List Int) (y5 y8 y11 : Int × Int) (es : List EmptyT) (sh : List Int)
    (h5 : 0 ≤ y5.1 ∧ y5.1 < 8) (h8 : 0 ≤ y8.1 ∧ y8.1 < 30) (h11 : 0 ≤ y11.1 ∧ y11.1 < 60) (he : es.all emptyB = true) (hel : es.length ≤ 3) (hs : ascB (-1) sh = true) (hsl : sh.length ≤ 3) (i k : Int) (hi : SrcOk l i) (hk : 0 ≤ k ∧ k ≤ 5) :
    ∃ y, iter (keep2_Tasks_b3 (Keep_Source.mk l 0) y5 es sh y8 y11) FUEL (i, ([] : List Task), k) = some y ∧ GoodT y := by
  refine iter_post (fun (s : Int × List Task × Int) => SrcOk l s.1 ∧ s.2.1.all taskB = true ∧ 0 ≤ s.2.2 ∧ (s.2.1.length : Int) + s.2.2 ≤ 5) (fun s => s.2.2.toNat) GoodT ?_ FUEL _ ⟨hi, rfl, hk.1, by simp; exact hk.2⟩ (FUEL_big (by simp only; omega))
  rintro c ⟨i, ts, k⟩ ⟨hi, ht, hk0, hkl⟩ hc
  simp only at hi ht hk0 hkl hc
  simp only [keep2_Tasks_b3]
  by_cases h : 0 < k
  · simp only [h, decide_true, if_true]
    obtain ⟨a1, j1, e1, a10, a11, hi1⟩ := next_m hi 120 (by omega) (by omega)
    rw [e1]; simp only [Option.bind_some]
    obtain ⟨a2, j2, e2, a20, a21, hi2⟩ := next_m hi1 4 (by omega) (by omega)
    rw [e2]; simp only [Option.bind_some]
    have hd : a2.tdiv 3 = a2 / 3 := Int.tdiv_eq_ediv_of_nonneg a20
    rw [hd, chk_true (by rw [i64b_of (by omega) (by omega)]; rfl)]
    obtain ⟨a3, j3, e3, a30, a31, hi3⟩ := next_m hi2 3 (by omega) (by omega)
    rw [e3]; simp only [Option.bind_some]
    obtain ⟨a4, j4, e4, a40, a41, hi4⟩ := next_m hi3 3 (by omega) (by omega)
    rw [e4]; simp only [Option.bind_some]
    rw [chk_true (i64b_of (by omega) (by omega))]
    obtain ⟨a5, j5, e5, a50, a51, hi5⟩ := next_m hi4 30 (by omega) (by omega)
    rw [e5]; simp only [Option.bind_some]
    rw [chk_true (i64b_of (by omega) (by omega)), chk_true (by simp; omega), chk_true (i64b_of (by omega) (by omega))]
    refine hc _ ⟨hi5, ?_, by simp only; omega, by simp only [List.length_append, List.length_singleton]; omega⟩ (by simp only; omega)
    simp only [List.all_append, ht, Bool.true_and, List.all_cons, List.all_nil, Bool.and_true]
    simp [taskB, plB]
    omega
  · simp only [h, decide_false, Bool.false_eq_true, if_false, keep2_Tasks_k4]
    refine ⟨_, rfl, ?_, by simp only; omega, hel, hsl⟩
    simp only [tasksB, ht, he, hs, Bool.true_and]
    simp [lenB, limB]
    omega

theorem tasks_2 (l : List Int) (y5 y8 y11 : Int × Int) (es : List EmptyT)
    (h5 : 0 ≤ y5.1 ∧ y5.1 < 8) (h8 : 0 ≤ y8.1 ∧ y8.1 < 30) (h11 : 0 ≤ y11.1 ∧ y11.1 < 60) (he : es.all emptyB = true) (hel : es.length ≤ 3) (i : Int) (hi : SrcOk l i) :
    ∃ y, iter (keep2_Tasks_b2 (Keep_Source.mk l 0) y5 es y8 y11) FUEL (i, ([] : List Int), 0) = some y ∧ GoodT y := by
  refine iter_post (fun (s : Int × List Int × Nat) => SrcOk l s.1 ∧ ascB (-1) s.2.1 = true ∧ (∀ x ∈ s.2.1, x < (s.2.2 : Int)) ∧ s.2.1.length ≤ s.2.2 ∧ s.2.2 ≤ 3) (fun s => 3 - s.2.2) GoodT ?_ FUEL _ ⟨hi, rfl, by simp, by simp, by simp⟩ (FUEL_big (by simp only; omega))
  rintro c ⟨i, sh, k⟩ ⟨hi, hs, hx, hsl, hk⟩ hc
  simp only at hi hs hx hsl hk hc
  simp only [keep2_Tasks_b2]
  by_cases h : (k : Int) < 3
  · simp only [h, decide_true, if_true]
    obtain ⟨a1, j1, e1, a10, a11, hi1⟩ := next_m hi 2 (by omega) (by omega)
    rw [e1]; simp only [Option.bind_some]
    by_cases h0 : a1 = 0
    · simp only [h0, decide_true, if_true]
      rw [chk_true (by simp; omega)]
      simp only [keep2_Tasks_k3]
      refine hc _ ⟨hi1, ascB_snoc (by simp [plB]; omega) _ _ hs hx (by omega), ?_, by simp only [List.length_append, List.length_singleton]; omega, by simp only; omega⟩ (by simp only; omega)
      intro x hx'
      simp only [List.mem_append, List.mem_singleton] at hx'
      rcases hx' with hx' | rfl
      · have := hx x hx'; simp only; omega
      · simp only; omega
    · simp only [h0, decide_false, Bool.false_eq_true, if_false, keep2_Tasks_k3]
      exact hc _ ⟨hi1, hs, fun x hx' => by have := hx x hx'; simp only; omega, by simp only; omega, by simp only; omega⟩ (by simp only; omega)
  · simp only [h, decide_false, Bool.false_eq_true, if_false, keep2_Tasks_k2]
    obtain ⟨a1, j1, e1, a10, a11, hi1⟩ := next_m hi 6 (by omega) (by omega)
    rw [e1]; simp only [Option.bind_some]
    exact tasks_3 l y5 y8 y11 es sh h5 h8 h11 he hel hs (by omega) j1 a1 hi1 ⟨a10, by omega⟩

theorem tasks_1 (l : List Int) (y5 y8 y11 : Int × Int)
    (h5 : 0 ≤ y5.1 ∧ y5.1 < 8) (h8 : 0 ≤ y8.1 ∧ y8.1 < 30) (h11 : 0 ≤ y11.1 ∧ y11.1 < 60) (i k : Int) (hi : SrcOk l i) (hk : 0 ≤ k ∧ k ≤ 3) :
    ∃ y, iter (keep2_Tasks_b1 (Keep_Source.mk l 0) y5 y8 y11) FUEL (i, ([] : List EmptyT), k) = some y ∧ GoodT y := by
  refine iter_post (fun (s : Int × List EmptyT × Int) => SrcOk l s.1 ∧ s.2.1.all emptyB = true ∧ 0 ≤ s.2.2 ∧ (s.2.1.length : Int) + s.2.2 ≤ 3) (fun s => s.2.2.toNat) GoodT ?_ FUEL _ ⟨hi, rfl, hk.1, by simp; exact hk.2⟩ (FUEL_big (by simp only; omega))
  rintro c ⟨i, es, k⟩ ⟨hi, ht, hk0, hkl⟩ hc
  simp only at hi ht hk0 hkl hc
  simp only [keep2_Tasks_b1]
  by_cases h : 0 < k
  · simp only [h, decide_true, if_true]
    obtain ⟨a1, j1, e1, a10, a11, hi1⟩ := next_m hi 3 (by omega) (by omega)
    rw [e1]; simp only [Option.bind_some]
    rw [chk_true (i64b_of (by omega) (by omega))]
    obtain ⟨a2, j2, e2, a20, a21, hi2⟩ := next_m hi1 2 (by omega) (by omega)
    rw [e2]; simp only [Option.bind_some]
    rw [chk_true (i64b_of (by omega) (by omega))]
    obtain ⟨a3, j3, e3, a30, a31, hi3⟩ := next_m hi2 20 (by omega) (by omega)
    rw [e3]; simp only [Option.bind_some]
    have hd : (a1 + 1 + a2).tmod 3 = (a1 + 1 + a2) % 3 := Int.tmod_eq_emod_of_nonneg (by omega)
    rw [hd]
    rw [chk_true (i64b_of (by omega) (by omega)), chk_true (by simp; omega), chk_true (i64b_of (by omega) (by omega))]
    refine hc _ ⟨hi3, ?_, by simp only; omega, by simp only [List.length_append, List.length_singleton]; omega⟩ (by simp only; omega)
    simp only [List.all_append, ht, Bool.true_and, List.all_cons, List.all_nil, Bool.and_true]
    simp [emptyB, plB]
    omega
  · simp only [h, decide_false, Bool.false_eq_true, if_false, keep2_Tasks_k1]
    exact tasks_2 l y5 y8 y11 es h5 h8 h11 ht (by omega) i hi

theorem tasks_m (l : List Int) (hl : l.length ≤ 140737488355328) : ∃ y, keep2_Tasks_m l = some y ∧ GoodT y := by
  have hi : SrcOk l 0 := ⟨by omega, by omega, hl⟩
  unfold keep2_Tasks_m keep_From_m
  simp only [Option.bind_some]
  obtain ⟨a1, j1, e1, a10, a11, hi1⟩ := next_m hi 8 (by omega) (by omega)
  rw [e1]; simp only [Option.bind_some]
  obtain ⟨a2, j2, e2, a20, a21, hi2⟩ := next_m hi1 30 (by omega) (by omega)
  rw [e2]; simp only [Option.bind_some]
  obtain ⟨a3, j3, e3, a30, a31, hi3⟩ := next_m hi2 60 (by omega) (by omega)
  rw [e3]; simp only [Option.bind_some]
  rw [chk_true (i64b_of (by omega) (by omega))]
  obtain ⟨a4, j4, e4, a40, a41, hi4⟩ := next_m hi3 4 (by omega) (by omega)
  rw [e4]; simp only [Option.bind_some]
  exact tasks_1 l (a1, j1) (a2, j2) (a3, j3) ⟨a10, a11⟩ ⟨a20, a21⟩ ⟨a30, a31⟩ j4 a4 hi4 ⟨a40, by omega⟩

theorem wf_len {l : List Int} (hs : Wf.wf l) : l.length ≤ 140737488355328 := by
  have h := hs.1
  have e : GoRep.bytes Int = 8 := rfl
  rw [e] at h
  omega

end Go.Proofs.Ytedocibniankjaa
