/- What is read at the types of the program is plain data. -/
import Derived.Test.YtohhihdjdelckaaDoorTypes
import Derived.Test.YtohhihdjdelckaaDoorD11
set_option linter.all false
namespace Go.Proofs.YtohhihdjdelckaaDoor
open Go.Dc Go.RowKit
set_option maxRecDepth 10000
instance : Wf Word := ⟨fun x => Wf.wf x.Text ∧ Wf.wf x.Line ∧ Wf.wf x.Col⟩
instance : Wf Section := ⟨fun x => Wf.wf x.Name ∧ Wf.wf x.Length ∧ Wf.wf x.Limit ∧ Wf.wf x.Grade ∧ Wf.wf x.Station⟩
theorem opens_Section : Opens Tryd.prog 57 Section := by
  intro H enc w held fuel cs x h hw
  obtain ⟨r0, a0, e0, o0, w0⟩ := field_opens' Tryd.underlying57 0 9 0 1 (opens_str Tryd.underlying9) rfl rfl rfl (by kernel_rfl) h hw
  obtain ⟨r1, a1, e1, o1, w1⟩ := field_opens' Tryd.underlying57 1 3 1 1 (opens_int Tryd.underlying3) rfl rfl rfl (by kernel_rfl) h hw
  obtain ⟨r2, a2, e2, o2, w2⟩ := field_opens' Tryd.underlying57 2 3 2 1 (opens_int Tryd.underlying3) rfl rfl rfl (by kernel_rfl) h hw
  obtain ⟨r3, a3, e3, o3, w3⟩ := field_opens' Tryd.underlying57 3 3 3 1 (opens_int Tryd.underlying3) rfl rfl rfl (by kernel_rfl) h hw
  obtain ⟨r4, a4, e4, o4, w4⟩ := field_opens' Tryd.underlying57 4 3 4 1 (opens_int Tryd.underlying3) rfl rfl rfl (by kernel_rfl) h hw
  have hl : cs.length = 5 := (struct_len Tryd.underlying57 h).trans (by kernel_rfl)
  refine ⟨(), ⟨a0, a1, a2, a3, a4⟩, ?_, trivial, ⟨w0, w1, w2, w3, w4⟩⟩
  have c0 := cut_drop cs 0 1
  have c1 := cut_drop cs 1 1
  have c2 := cut_drop cs 2 1
  have c3 := cut_drop cs 3 1
  have c4 := cut_drop cs 4 1
  have ce : cs.drop 5 = [] := List.drop_eq_nil_of_le (by omega)
  simp only [Nat.reduceAdd] at c0 c1 c2 c3 c4
  have c : cs = cs.drop 0 := rfl
  rw [c, c0, e0, c1, e1, c2, e2, c3, e3, c4, e4, ce]
  rfl

instance : Wf Link := ⟨fun x => Wf.wf x.A ∧ Wf.wf x.AEnd ∧ Wf.wf x.B ∧ Wf.wf x.BEnd ∧ Wf.wf x.Point ∧ Wf.wf x.Pos⟩
theorem opens_Link : Opens Tryd.prog 72 Link := by
  intro H enc w held fuel cs x h hw
  obtain ⟨r0, a0, e0, o0, w0⟩ := field_opens' Tryd.underlying72 0 3 0 1 (opens_int Tryd.underlying3) rfl rfl rfl (by kernel_rfl) h hw
  obtain ⟨r1, a1, e1, o1, w1⟩ := field_opens' Tryd.underlying72 1 3 1 1 (opens_int Tryd.underlying3) rfl rfl rfl (by kernel_rfl) h hw
  obtain ⟨r2, a2, e2, o2, w2⟩ := field_opens' Tryd.underlying72 2 3 2 1 (opens_int Tryd.underlying3) rfl rfl rfl (by kernel_rfl) h hw
  obtain ⟨r3, a3, e3, o3, w3⟩ := field_opens' Tryd.underlying72 3 3 3 1 (opens_int Tryd.underlying3) rfl rfl rfl (by kernel_rfl) h hw
  obtain ⟨r4, a4, e4, o4, w4⟩ := field_opens' Tryd.underlying72 4 3 4 1 (opens_int Tryd.underlying3) rfl rfl rfl (by kernel_rfl) h hw
  obtain ⟨r5, a5, e5, o5, w5⟩ := field_opens' Tryd.underlying72 5 3 5 1 (opens_int Tryd.underlying3) rfl rfl rfl (by kernel_rfl) h hw
  have hl : cs.length = 6 := (struct_len Tryd.underlying72 h).trans (by kernel_rfl)
  refine ⟨(), ⟨a0, a1, a2, a3, a4, a5⟩, ?_, trivial, ⟨w0, w1, w2, w3, w4, w5⟩⟩
  have c0 := cut_drop cs 0 1
  have c1 := cut_drop cs 1 1
  have c2 := cut_drop cs 2 1
  have c3 := cut_drop cs 3 1
  have c4 := cut_drop cs 4 1
  have c5 := cut_drop cs 5 1
  have ce : cs.drop 6 = [] := List.drop_eq_nil_of_le (by omega)
  simp only [Nat.reduceAdd] at c0 c1 c2 c3 c4 c5
  have c : cs = cs.drop 0 := rfl
  rw [c, c0, e0, c1, e1, c2, e2, c3, e3, c4, e4, c5, e5, ce]
  rfl

instance : Wf Layout := ⟨fun x => Wf.wf x.Stations ∧ Wf.wf x.Points ∧ Wf.wf x.Sections ∧ Wf.wf x.Links⟩
theorem opens_Layout : Opens Tryd.prog 26 Layout := by
  intro H enc w held fuel cs x h hw
  obtain ⟨r0, a0, e0, o0, w0⟩ := field_opens' Tryd.underlying26 0 22 0 1 (opens_slice (() : GoRep.R Str) Tryd.underlying22 (by kernel_rfl) (by kernel_rfl) (opens_str Tryd.underlying9)) rfl rfl rfl (by kernel_rfl) h hw
  obtain ⟨r1, a1, e1, o1, w1⟩ := field_opens' Tryd.underlying26 1 22 1 1 (opens_slice (() : GoRep.R Str) Tryd.underlying22 (by kernel_rfl) (by kernel_rfl) (opens_str Tryd.underlying9)) rfl rfl rfl (by kernel_rfl) h hw
  obtain ⟨r2, a2, e2, o2, w2⟩ := field_opens' Tryd.underlying26 2 23 2 1 (opens_slice (() : GoRep.R Section) Tryd.underlying23 (by kernel_rfl) (by kernel_rfl) opens_Section) rfl rfl rfl (by kernel_rfl) h hw
  obtain ⟨r3, a3, e3, o3, w3⟩ := field_opens' Tryd.underlying26 3 24 3 1 (opens_slice (() : GoRep.R Link) Tryd.underlying24 (by kernel_rfl) (by kernel_rfl) opens_Link) rfl rfl rfl (by kernel_rfl) h hw
  have hl : cs.length = 4 := (struct_len Tryd.underlying26 h).trans (by kernel_rfl)
  refine ⟨(r0, r1, r2, r3), ⟨a0, a1, a2, a3⟩, ?_, ⟨o0, o1, o2, o3⟩, ⟨w0, w1, w2, w3⟩⟩
  have c0 := cut_drop cs 0 1
  have c1 := cut_drop cs 1 1
  have c2 := cut_drop cs 2 1
  have c3 := cut_drop cs 3 1
  have ce : cs.drop 4 = [] := List.drop_eq_nil_of_le (by omega)
  simp only [Nat.reduceAdd] at c0 c1 c2 c3
  have c : cs = cs.drop 0 := rfl
  rw [c, c0, e0, c1, e1, c2, e2, c3, e3, ce]
  rfl

instance : Wf Ref1_end := ⟨fun x => Wf.wf x.section_ ∧ Wf.wf x.end_⟩
instance : Wf Step := ⟨fun x => Wf.wf x.Section ∧ Wf.wf x.Dir⟩
theorem opens_Step : Opens Tryd.prog 28 Step := by
  intro H enc w held fuel cs x h hw
  obtain ⟨r0, a0, e0, o0, w0⟩ := field_opens' Tryd.underlying28 0 3 0 1 (opens_int Tryd.underlying3) rfl rfl rfl (by kernel_rfl) h hw
  obtain ⟨r1, a1, e1, o1, w1⟩ := field_opens' Tryd.underlying28 1 3 1 1 (opens_int Tryd.underlying3) rfl rfl rfl (by kernel_rfl) h hw
  have hl : cs.length = 2 := (struct_len Tryd.underlying28 h).trans (by kernel_rfl)
  refine ⟨(), ⟨a0, a1⟩, ?_, trivial, ⟨w0, w1⟩⟩
  have c0 := cut_drop cs 0 1
  have c1 := cut_drop cs 1 1
  have ce : cs.drop 2 = [] := List.drop_eq_nil_of_le (by omega)
  simp only [Nat.reduceAdd] at c0 c1
  have c : cs = cs.drop 0 := rfl
  rw [c, c0, e0, c1, e1, ce]
  rfl

instance : Wf Hop := ⟨fun x => Wf.wf x.To ∧ Wf.wf x.Point ∧ Wf.wf x.Pos⟩
instance : Wf Layout_end := ⟨fun x => Wf.wf x.section_ ∧ Wf.wf x.side⟩
instance : Wf Keep_Source := ⟨fun x => Wf.wf x.l ∧ Wf.wf x.i⟩
instance : Wf Keep_builder := ⟨fun x => Wf.wf x.l ∧ Wf.wf x.tracks ∧ Wf.wf x.between ∧ Wf.wf x.westward⟩
end Go.Proofs.YtohhihdjdelckaaDoor
