/- Valid layouts, in full: names, places, ends. -/
import Derived.Test.YtohhihdjdelckaaDoorTk
import Derived.Test.YtohhihdjdelckaaDoorVf
set_option linter.all false
namespace Go.Proofs.YtohhihdjdelckaaDoor
open Go.Dc

theorem nameErr_zero {s : ByteArray} {seen : List ByteArray} (h : nameErr s seen = 0) : nameB s = true ∧ s ∉ seen := by
  unfold nameErr at h
  split at h
  · cases h
  · rename_i h1
    split at h
    · cases h
    · rename_i h2; exact ⟨by simpa using h1, h2⟩
theorem names_all : ∀ (l seen : List ByteArray), namesErr seen l = 0 → (∀ s ∈ l, nameB s = true ∧ s ∉ seen) ∧ l.Nodup
  | [], _, _ => ⟨by simp, .nil⟩
  | q :: l, seen, h => by
    unfold namesErr at h
    by_cases h1 : nameErr q seen ≠ 0
    · rw [if_pos h1] at h; exact absurd h h1
    · rw [if_neg h1] at h
      obtain ⟨a, b⟩ := names_all l _ h
      have hq := nameErr_zero (Classical.not_not.1 h1)
      refine ⟨fun s hs => ?_, List.nodup_cons.2 ⟨fun hm => ?_, b⟩⟩
      · rcases List.mem_cons.1 hs with e | e
        · subst e; exact hq
        · exact ⟨(a s e).1, fun hm => (a s e).2 (List.mem_append.2 (.inl hm))⟩
      · exact (a q hm).2 (List.mem_append.2 (.inr (List.mem_singleton.2 rfl)))
theorem secs_names (n : Nat) : ∀ (l : List Sec) (seen : List ByteArray), secsErr n seen l = 0 → (∀ s ∈ l, nameB s.name = true ∧ s.name ∉ seen) ∧ (l.map (·.name)).Nodup
  | [], _, _ => ⟨by simp, .nil⟩
  | q :: l, seen, h => by
    unfold secsErr at h
    by_cases h1 : nameErr q.name seen ≠ 0
    · rw [if_pos h1] at h; exact absurd h h1
    · rw [if_neg h1] at h
      by_cases h4 : secB n q = false
      · rw [if_pos h4] at h; cases h
      · rw [if_neg h4] at h
        obtain ⟨a, b⟩ := secs_names n l _ h
        have hq := nameErr_zero (Classical.not_not.1 h1)
        refine ⟨fun s hs => ?_, List.nodup_cons.2 ⟨fun hm => ?_, b⟩⟩
        · rcases List.mem_cons.1 hs with e | e
          · subst e; exact hq
          · exact ⟨(a s e).1, fun hm => (a s e).2 (List.mem_append.2 (.inl hm))⟩
        · obtain ⟨s, hs, e⟩ := List.mem_map.1 hm
          exact (a s hs).2 (List.mem_append.2 (.inr (List.mem_singleton.2 e)))

theorem char_plain (c : UInt8) (h : charB (c.toNat : Int) = true) : plainB c = true := by
  unfold charB letterB digitB at h
  unfold plainB isPart
  simp only [Bool.or_eq_true, Bool.and_eq_true, decide_eq_true_eq] at h ⊢
  omega
/-- A name is a word, and not long. -/
theorem name_word {s : Str} (h : nameB s.ba = true) : wordB s = true ∧ s.l.length ≤ 12 := by
  unfold nameB at h
  simp only [Bool.and_eq_true, decide_eq_true_eq, List.all_eq_true, List.mem_range, Str.ba_size] at h
  obtain ⟨⟨⟨h1, h2⟩, _⟩, h4⟩ := h
  refine ⟨?_, h2⟩
  unfold wordB
  simp only [Bool.and_eq_true, decide_eq_true_eq, List.all_eq_true]
  refine ⟨fun e => by rw [e] at h1; simp at h1, fun c hc => ?_⟩
  obtain ⟨i, hi, rfl⟩ := List.getElem_of_mem hc
  have := h4 i hi
  unfold Go.Eng.bt at this
  have e : s.ba.data.toList.getD i 0 = s.l[i] := by simp [Str.ba, List.getD, hi]
  rw [e] at this
  exact char_plain _ this

structure ValN (l : Layout) : Prop extends Val l where
  stw : ∀ s ∈ l.Stations, wordB s = true ∧ s.l.length ≤ 12
  ptw : ∀ s ∈ l.Points, wordB s = true ∧ s.l.length ≤ 12
  scw : ∀ s ∈ l.Sections, wordB s.Name = true ∧ s.Name.l.length ≤ 12
  std : l.Stations.Nodup
  ptd : l.Points.Nodup
  scd : (l.Sections.map (·.Name)).Nodup
  scs : ∀ s ∈ l.Sections, -1 ≤ s.Station ∧ s.Station < l.Stations.length
  pos : ∀ k ∈ l.Links, k.Pos = 0 ∨ k.Pos = 1 ∧ k.Point ≠ -1
theorem nodup_of_map {α β : Type} (f : α → β) {l : List α} (h : (l.map f).Nodup) : l.Nodup := by
  induction l with
  | nil => exact .nil
  | cons x l ih =>
    rw [List.map_cons, List.nodup_cons] at h
    exact List.nodup_cons.2 ⟨fun hm => h.1 (List.mem_map.2 ⟨x, hm, rfl⟩), ih h.2⟩
theorem valN_of {l : Layout} (h : checkL (layOf l) = 0) : ValN l := by
  have hv := val_of h
  have hl := h
  unfold checkL at h
  split at h
  · cases h
  split at h
  · cases h
  split at h
  · rename_i h1; exact absurd h h1
  rename_i hst
  split at h
  · rename_i h1; exact absurd h h1
  rename_i hpt
  split at h
  · rename_i h1; exact absurd h h1
  rename_i hs
  simp only [Decidable.not_not] at hs hst hpt
  have nst := names_all _ _ hst
  have npt := names_all _ _ hpt
  have nsc := secs_names _ _ _ hs
  refine { toVal := hv, stw := fun s hm => ?_, ptw := fun s hm => ?_, scw := fun s hm => ?_, std := nodup_of_map Str.ba nst.2, ptd := nodup_of_map Str.ba npt.2, scd := ?_, scs := fun s hm => ?_, pos := fun k hm => ?_ }
  · exact name_word (nst.1 s.ba (List.mem_map.2 ⟨s, hm, rfl⟩)).1
  · exact name_word (npt.1 s.ba (List.mem_map.2 ⟨s, hm, rfl⟩)).1
  · exact name_word (nsc.1 (secOf s) (List.mem_map.2 ⟨s, hm, rfl⟩)).1
  · have := nsc.2
    refine nodup_of_map Str.ba ?_
    have e : (layOf l).sections.map (·.name) = (l.Sections.map (·.Name)).map Str.ba := by simp [layOf, secOf]
    rwa [e] at this
  · have := secs_all _ _ _ hs (secOf s) (List.mem_map.2 ⟨s, hm, rfl⟩)
    unfold secB secOf at this
    simp only [layOf, List.length_map, Bool.and_eq_true, decide_eq_true_eq] at this
    exact ⟨this.1.2, this.2⟩
  · have := (links_all _ _ _ h (lnkOf k) (List.mem_map.2 ⟨k, hm, rfl⟩)).1
    unfold linkB lnkOf at this
    simp only [Bool.and_eq_true, Bool.or_eq_true, decide_eq_true_eq] at this
    exact this.2
end Go.Proofs.YtohhihdjdelckaaDoor
