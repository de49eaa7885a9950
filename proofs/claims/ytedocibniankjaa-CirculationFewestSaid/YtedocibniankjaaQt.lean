/- Plain laws of chapter 28: Split of the chains of made tasks. -/
import Derived.Test.YtedocibniankjaaQs
import Derived.Test.YtedocibniankjaaQj
import Derived.Test.YtedocibniankjaaPh
namespace Go.Proofs.Ytedocibniankjaa
open Go.Dc

theorem tv_limit {ts : List Task} {r : Rules} (T : TV ts r) {L : Int} (h0 : 1 ≤ L) (h1 : L ≤ 4194304) : TV ts (Rules.mk r.Turn r.Empties r.Shops r.Service L) := by
  have h := T.h
  refine ⟨?_⟩
  simp only [tasksB, lenB, limB, Bool.and_eq_true, decide_eq_true_eq] at h ⊢
  exact ⟨h.1, h.2.1, h.2.2.1, h.2.2.2.1, ⟨⟨⟨⟨⟨h.2.2.2.2.1.1.1.1.1, h.2.2.2.2.1.1.1.1.2⟩, h.2.2.2.2.1.1.1.2⟩, h.2.2.2.2.1.1.2⟩, h0⟩, h1⟩⟩

theorem GC.bd {ts : List Task} {r : Rules} {ch : List Int} {f : Int} {a : List (List Int)} (h : GC ts r ch f a) : (a.length : Int) ≤ ch.length - f ∧ ∀ p ∈ a, p.length ≤ ch.length := by
  induction h with
  | nil => exact ⟨by simp, fun p hp => (by cases hp)⟩
  | cons f0 k1 kl hp hm hr ih =>
    rename_i f k rest
    refine ⟨by simp only [List.length_cons]; omega, fun p hp => ?_⟩
    rw [List.mem_cons] at hp
    rcases hp with rfl | hp
    · rw [cutS_len ch f0 kl]; omega
    · exact ih.2 p hp

theorem split_both {ts : List Task} {r : Rules} (T : TV ts r) (ch : List Int) (hl : ch.length ≤ 140737488355328) : ∃ y, circulation_Split_m ts r ch = some y ∧ ref24_Split_m ts r ch = some y ∧ SplitR ts r ch y ∧ keep_SameLists_int_m y.1 y.1 = some true := by
  obtain ⟨y, h1, h2⟩ := split_wp T ch hl
  obtain ⟨z, h3, h4⟩ := splitR_wp T ch hl
  have : y = z := h2.det h4
  subst this
  refine ⟨y, h1, h3, h2, ?_⟩
  have hn := T.len
  have bd : y.1.length ≤ 40 ∧ ∀ c ∈ y.1, c.length ≤ 40 := by
    by_cases C : Cn ts r ch
    · have cl : ch.length ≤ ts.length := by
        rcases split_pre T ch with h' | h'
        · exact h'.2
        · exact absurd C h'
      by_cases E : ∃ i : Int, 0 ≤ i ∧ i < ch.length ∧ r.Limit < tlen ts (gi ch i)
      · rw [h2.2.1 C E]; simp
      · have A : ∀ i : Int, 0 ≤ i → i < ch.length → tlen ts (gi ch i) ≤ r.Limit := fun i i0 i1 => Classical.byContradiction fun hx => E ⟨i, i0, i1, by omega⟩
        obtain ⟨b1, b2⟩ := (h2.2.2 C A).2.bd
        exact ⟨by omega, fun c hc => by have := b2 c hc; omega⟩
    · rw [h2.1 C]; simp
  exact sameLists_m y.1 (by omega) (fun c hc => by have := bd.2 c hc; omega)

/-- A chain of a circulation is one whose tasks follow one another. -/
theorem Chs.cn {ts : List Task} {r : Rules} {next : List Int} (C : Circ ts r next) {chs : List (List Int)} (H : Chs ts r next chs) {c : List Int} (hc : c ∈ chs) : Cn ts r c := by
  have gm : ∀ i : Int, 0 ≤ i → i < c.length → gi c i ∈ c := fun i i0 i1 => by
    have : i.toNat < c.length := by omega
    unfold gi; simp [this]
  refine ⟨fun i i0 i1 => H.rg c hc _ (gm i i0 i1), fun i i0 i1 => ?_⟩
  obtain ⟨h1, h2⟩ := H.st c hc i i0 i1
  obtain ⟨y0, y1⟩ := H.rg c hc _ (gm (i - 1) (by omega) (by omega))
  rcases C.ok _ y0 y1 with h' | ⟨_, _, hf⟩
  · rw [h1] at h'; exact absurd h' h2
  · rw [h1] at hf; exact hf
end Go.Proofs.Ytedocibniankjaa
