/- What is read at the types of the program is plain data. -/
import Derived.Test.YtedocibniankjaaTypes
import Derived.Test.YtedocibniankjaaD11
namespace Go.Proofs.Ytedocibniankjaa
open Go.Dc Go.RowKit
set_option maxRecDepth 10000
set_option linter.unusedVariables false
instance : Wf Arc := ⟨fun x => Wf.wf x.From ∧ Wf.wf x.To ∧ Wf.wf x.Cap ∧ Wf.wf x.Cost⟩
theorem opens_Arc : Opens Try.prog 40 Arc := by
  intro H enc w held fuel cs x h hw
  obtain ⟨r0, a0, e0, o0, w0⟩ := field_opens' Try.underlying40 0 3 0 1 (opens_int Try.underlying3) rfl rfl rfl (by kernel_rfl) h hw
  obtain ⟨r1, a1, e1, o1, w1⟩ := field_opens' Try.underlying40 1 3 1 1 (opens_int Try.underlying3) rfl rfl rfl (by kernel_rfl) h hw
  obtain ⟨r2, a2, e2, o2, w2⟩ := field_opens' Try.underlying40 2 3 2 1 (opens_int Try.underlying3) rfl rfl rfl (by kernel_rfl) h hw
  obtain ⟨r3, a3, e3, o3, w3⟩ := field_opens' Try.underlying40 3 3 3 1 (opens_int Try.underlying3) rfl rfl rfl (by kernel_rfl) h hw
  have hl : cs.length = 4 := (struct_len Try.underlying40 h).trans (by kernel_rfl)
  refine ⟨(), ⟨a0, a1, a2, a3⟩, ?_, trivial, ⟨w0, w1, w2, w3⟩⟩
  have c0 := cut_drop cs 0 1
  have c1 := cut_drop cs 1 1
  have c2 := cut_drop cs 2 1
  have c3 := cut_drop cs 3 1
  have ce : cs.drop 4 = [] := List.drop_eq_nil_of_le (by omega)
  simp only [Nat.reduceAdd] at c0 c1 c2 c3
  have c : cs = cs.drop 0 := rfl
  rw [c, c0, e0, c1, e1, c2, e2, c3, e3, ce]
  rfl

instance : Wf Graph := ⟨fun x => Wf.wf x.Supply ∧ Wf.wf x.Arcs⟩
theorem opens_Graph : Opens Try.prog 25 Graph := by
  intro H enc w held fuel cs x h hw
  obtain ⟨r0, a0, e0, o0, w0⟩ := field_opens' Try.underlying25 0 22 0 1 (opens_slice (() : GoRep.R Int) Try.underlying22 (by kernel_rfl) (by kernel_rfl) (opens_int Try.underlying3)) rfl rfl rfl (by kernel_rfl) h hw
  obtain ⟨r1, a1, e1, o1, w1⟩ := field_opens' Try.underlying25 1 23 1 1 (opens_slice (() : GoRep.R Arc) Try.underlying23 (by kernel_rfl) (by kernel_rfl) opens_Arc) rfl rfl rfl (by kernel_rfl) h hw
  have hl : cs.length = 2 := (struct_len Try.underlying25 h).trans (by kernel_rfl)
  refine ⟨(r0, r1), ⟨a0, a1⟩, ?_, ⟨o0, o1⟩, ⟨w0, w1⟩⟩
  have c0 := cut_drop cs 0 1
  have c1 := cut_drop cs 1 1
  have ce : cs.drop 2 = [] := List.drop_eq_nil_of_le (by omega)
  simp only [Nat.reduceAdd] at c0 c1
  have c : cs = cs.drop 0 := rfl
  rw [c, c0, e0, c1, e1, ce]
  rfl

instance : Wf Keep_Source := ⟨fun x => Wf.wf x.l ∧ Wf.wf x.i⟩
theorem opens_Keep_Source : Opens Try.prog 99 Keep_Source := by
  intro H enc w held fuel cs x h hw
  obtain ⟨r0, a0, e0, o0, w0⟩ := field_opens' Try.underlying99 0 22 0 1 (opens_slice (() : GoRep.R Int) Try.underlying22 (by kernel_rfl) (by kernel_rfl) (opens_int Try.underlying3)) rfl rfl rfl (by kernel_rfl) h hw
  obtain ⟨r1, a1, e1, o1, w1⟩ := field_opens' Try.underlying99 1 3 1 1 (opens_int Try.underlying3) rfl rfl rfl (by kernel_rfl) h hw
  have hl : cs.length = 2 := (struct_len Try.underlying99 h).trans (by kernel_rfl)
  refine ⟨r0, ⟨a0, a1⟩, ?_, o0, ⟨w0, w1⟩⟩
  have c0 := cut_drop cs 0 1
  have c1 := cut_drop cs 1 1
  have ce : cs.drop 2 = [] := List.drop_eq_nil_of_le (by omega)
  simp only [Nat.reduceAdd] at c0 c1
  have c : cs = cs.drop 0 := rfl
  rw [c, c0, e0, c1, e1, ce]
  rfl

instance : Wf Flow := ⟨fun x => Wf.wf x.X ∧ Wf.wf x.Price ∧ Wf.wf x.Cost⟩
theorem opens_Flow : Opens Try.prog 28 Flow := by
  intro H enc w held fuel cs x h hw
  obtain ⟨r0, a0, e0, o0, w0⟩ := field_opens' Try.underlying28 0 22 0 1 (opens_slice (() : GoRep.R Int) Try.underlying22 (by kernel_rfl) (by kernel_rfl) (opens_int Try.underlying3)) rfl rfl rfl (by kernel_rfl) h hw
  obtain ⟨r1, a1, e1, o1, w1⟩ := field_opens' Try.underlying28 1 22 1 1 (opens_slice (() : GoRep.R Int) Try.underlying22 (by kernel_rfl) (by kernel_rfl) (opens_int Try.underlying3)) rfl rfl rfl (by kernel_rfl) h hw
  obtain ⟨r2, a2, e2, o2, w2⟩ := field_opens' Try.underlying28 2 3 2 1 (opens_int Try.underlying3) rfl rfl rfl (by kernel_rfl) h hw
  have hl : cs.length = 3 := (struct_len Try.underlying28 h).trans (by kernel_rfl)
  refine ⟨(r0, r1), ⟨a0, a1, a2⟩, ?_, ⟨o0, o1⟩, ⟨w0, w1, w2⟩⟩
  have c0 := cut_drop cs 0 1
  have c1 := cut_drop cs 1 1
  have c2 := cut_drop cs 2 1
  have ce : cs.drop 3 = [] := List.drop_eq_nil_of_le (by omega)
  simp only [Nat.reduceAdd] at c0 c1 c2
  have c : cs = cs.drop 0 := rfl
  rw [c, c0, e0, c1, e1, c2, e2, ce]
  rfl

instance : Wf Flow_residual := ⟨fun x => Wf.wf x.nodes ∧ Wf.wf x.arcs ∧ Wf.wf x.to ∧ Wf.wf x.left ∧ Wf.wf x.cost ∧ Wf.wf x.from_ ∧ Wf.wf x.excess ∧ Wf.wf x.price⟩
theorem opens_Flow_residual : Opens Try.prog 91 Flow_residual := by
  intro H enc w held fuel cs x h hw
  obtain ⟨r0, a0, e0, o0, w0⟩ := field_opens' Try.underlying91 0 3 0 1 (opens_int Try.underlying3) rfl rfl rfl (by kernel_rfl) h hw
  obtain ⟨r1, a1, e1, o1, w1⟩ := field_opens' Try.underlying91 1 3 1 1 (opens_int Try.underlying3) rfl rfl rfl (by kernel_rfl) h hw
  obtain ⟨r2, a2, e2, o2, w2⟩ := field_opens' Try.underlying91 2 22 2 1 (opens_slice (() : GoRep.R Int) Try.underlying22 (by kernel_rfl) (by kernel_rfl) (opens_int Try.underlying3)) rfl rfl rfl (by kernel_rfl) h hw
  obtain ⟨r3, a3, e3, o3, w3⟩ := field_opens' Try.underlying91 3 22 3 1 (opens_slice (() : GoRep.R Int) Try.underlying22 (by kernel_rfl) (by kernel_rfl) (opens_int Try.underlying3)) rfl rfl rfl (by kernel_rfl) h hw
  obtain ⟨r4, a4, e4, o4, w4⟩ := field_opens' Try.underlying91 4 22 4 1 (opens_slice (() : GoRep.R Int) Try.underlying22 (by kernel_rfl) (by kernel_rfl) (opens_int Try.underlying3)) rfl rfl rfl (by kernel_rfl) h hw
  obtain ⟨r5, a5, e5, o5, w5⟩ := field_opens' Try.underlying91 5 66 5 1 (opens_slice ((⟨none, 0, (fun _ => ())⟩ : SR (GoRep.R Int)) : GoRep.R (List Int)) Try.underlying66 (by kernel_rfl) (by kernel_rfl) (opens_slice (() : GoRep.R Int) Try.underlying22 (by kernel_rfl) (by kernel_rfl) (opens_int Try.underlying3))) rfl rfl rfl (by kernel_rfl) h hw
  obtain ⟨r6, a6, e6, o6, w6⟩ := field_opens' Try.underlying91 6 22 6 1 (opens_slice (() : GoRep.R Int) Try.underlying22 (by kernel_rfl) (by kernel_rfl) (opens_int Try.underlying3)) rfl rfl rfl (by kernel_rfl) h hw
  obtain ⟨r7, a7, e7, o7, w7⟩ := field_opens' Try.underlying91 7 22 7 1 (opens_slice (() : GoRep.R Int) Try.underlying22 (by kernel_rfl) (by kernel_rfl) (opens_int Try.underlying3)) rfl rfl rfl (by kernel_rfl) h hw
  have hl : cs.length = 8 := (struct_len Try.underlying91 h).trans (by kernel_rfl)
  refine ⟨(r2, r3, r4, r5, r6, r7), ⟨a0, a1, a2, a3, a4, a5, a6, a7⟩, ?_, ⟨o2, o3, o4, o5, o6, o7⟩, ⟨w0, w1, w2, w3, w4, w5, w6, w7⟩⟩
  have c0 := cut_drop cs 0 1
  have c1 := cut_drop cs 1 1
  have c2 := cut_drop cs 2 1
  have c3 := cut_drop cs 3 1
  have c4 := cut_drop cs 4 1
  have c5 := cut_drop cs 5 1
  have c6 := cut_drop cs 6 1
  have c7 := cut_drop cs 7 1
  have ce : cs.drop 8 = [] := List.drop_eq_nil_of_le (by omega)
  simp only [Nat.reduceAdd] at c0 c1 c2 c3 c4 c5 c6 c7
  have c : cs = cs.drop 0 := rfl
  rw [c, c0, e0, c1, e1, c2, e2, c3, e3, c4, e4, c5, e5, c6, e6, c7, e7, ce]
  rfl

instance : Wf Task := ⟨fun x => Wf.wf x.Type_ ∧ Wf.wf x.From ∧ Wf.wf x.To ∧ Wf.wf x.Start ∧ Wf.wf x.End⟩
theorem opens_Task : Opens Try.prog 60 Task := by
  intro H enc w held fuel cs x h hw
  obtain ⟨r0, a0, e0, o0, w0⟩ := field_opens' Try.underlying60 0 3 0 1 (opens_int Try.underlying3) rfl rfl rfl (by kernel_rfl) h hw
  obtain ⟨r1, a1, e1, o1, w1⟩ := field_opens' Try.underlying60 1 3 1 1 (opens_int Try.underlying3) rfl rfl rfl (by kernel_rfl) h hw
  obtain ⟨r2, a2, e2, o2, w2⟩ := field_opens' Try.underlying60 2 3 2 1 (opens_int Try.underlying3) rfl rfl rfl (by kernel_rfl) h hw
  obtain ⟨r3, a3, e3, o3, w3⟩ := field_opens' Try.underlying60 3 3 3 1 (opens_int Try.underlying3) rfl rfl rfl (by kernel_rfl) h hw
  obtain ⟨r4, a4, e4, o4, w4⟩ := field_opens' Try.underlying60 4 3 4 1 (opens_int Try.underlying3) rfl rfl rfl (by kernel_rfl) h hw
  have hl : cs.length = 5 := (struct_len Try.underlying60 h).trans (by kernel_rfl)
  refine ⟨(), ⟨a0, a1, a2, a3, a4⟩, ?_, trivial, ⟨w0, w1, w2, w3, w4⟩⟩
  have c0 := cut_drop cs 0 1
  have c1 := cut_drop cs 1 1
  have c2 := cut_drop cs 2 1
  have c3 := cut_drop cs 3 1
  have c4 := cut_drop cs 4 1
  have ce : cs.drop 5 = [] := List.drop_eq_nil_of_le (by omega)
  simp only [Nat.reduceAdd] at c0 c1 c2 c3 c4
  have c : cs = cs.drop 0 := rfl
  rw [c, c0, e0, c1, e1, c2, e2, c3, e3, c4, e4, ce]
  rfl

instance : Wf EmptyT := ⟨fun x => Wf.wf x.From ∧ Wf.wf x.To ∧ Wf.wf x.Seconds⟩
theorem opens_EmptyT : Opens Try.prog 58 EmptyT := by
  intro H enc w held fuel cs x h hw
  obtain ⟨r0, a0, e0, o0, w0⟩ := field_opens' Try.underlying58 0 3 0 1 (opens_int Try.underlying3) rfl rfl rfl (by kernel_rfl) h hw
  obtain ⟨r1, a1, e1, o1, w1⟩ := field_opens' Try.underlying58 1 3 1 1 (opens_int Try.underlying3) rfl rfl rfl (by kernel_rfl) h hw
  obtain ⟨r2, a2, e2, o2, w2⟩ := field_opens' Try.underlying58 2 3 2 1 (opens_int Try.underlying3) rfl rfl rfl (by kernel_rfl) h hw
  have hl : cs.length = 3 := (struct_len Try.underlying58 h).trans (by kernel_rfl)
  refine ⟨(), ⟨a0, a1, a2⟩, ?_, trivial, ⟨w0, w1, w2⟩⟩
  have c0 := cut_drop cs 0 1
  have c1 := cut_drop cs 1 1
  have c2 := cut_drop cs 2 1
  have ce : cs.drop 3 = [] := List.drop_eq_nil_of_le (by omega)
  simp only [Nat.reduceAdd] at c0 c1 c2
  have c : cs = cs.drop 0 := rfl
  rw [c, c0, e0, c1, e1, c2, e2, ce]
  rfl

instance : Wf Rules := ⟨fun x => Wf.wf x.Turn ∧ Wf.wf x.Empties ∧ Wf.wf x.Shops ∧ Wf.wf x.Service ∧ Wf.wf x.Limit⟩
theorem opens_Rules : Opens Try.prog 53 Rules := by
  intro H enc w held fuel cs x h hw
  obtain ⟨r0, a0, e0, o0, w0⟩ := field_opens' Try.underlying53 0 3 0 1 (opens_int Try.underlying3) rfl rfl rfl (by kernel_rfl) h hw
  obtain ⟨r1, a1, e1, o1, w1⟩ := field_opens' Try.underlying53 1 51 1 1 (opens_slice (() : GoRep.R EmptyT) Try.underlying51 (by kernel_rfl) (by kernel_rfl) opens_EmptyT) rfl rfl rfl (by kernel_rfl) h hw
  obtain ⟨r2, a2, e2, o2, w2⟩ := field_opens' Try.underlying53 2 22 2 1 (opens_slice (() : GoRep.R Int) Try.underlying22 (by kernel_rfl) (by kernel_rfl) (opens_int Try.underlying3)) rfl rfl rfl (by kernel_rfl) h hw
  obtain ⟨r3, a3, e3, o3, w3⟩ := field_opens' Try.underlying53 3 3 3 1 (opens_int Try.underlying3) rfl rfl rfl (by kernel_rfl) h hw
  obtain ⟨r4, a4, e4, o4, w4⟩ := field_opens' Try.underlying53 4 3 4 1 (opens_int Try.underlying3) rfl rfl rfl (by kernel_rfl) h hw
  have hl : cs.length = 5 := (struct_len Try.underlying53 h).trans (by kernel_rfl)
  refine ⟨(r1, r2), ⟨a0, a1, a2, a3, a4⟩, ?_, ⟨o1, o2⟩, ⟨w0, w1, w2, w3, w4⟩⟩
  have c0 := cut_drop cs 0 1
  have c1 := cut_drop cs 1 1
  have c2 := cut_drop cs 2 1
  have c3 := cut_drop cs 3 1
  have c4 := cut_drop cs 4 1
  have ce : cs.drop 5 = [] := List.drop_eq_nil_of_le (by omega)
  simp only [Nat.reduceAdd] at c0 c1 c2 c3 c4
  have c : cs = cs.drop 0 := rfl
  rw [c, c0, e0, c1, e1, c2, e2, c3, e3, c4, e4, ce]
  rfl

instance : Wf Cover := ⟨fun x => Wf.wf x.Left ∧ Wf.wf x.Right⟩
theorem opens_Cover : Opens Try.prog 72 Cover := by
  intro H enc w held fuel cs x h hw
  obtain ⟨r0, a0, e0, o0, w0⟩ := field_opens' Try.underlying72 0 22 0 1 (opens_slice (() : GoRep.R Int) Try.underlying22 (by kernel_rfl) (by kernel_rfl) (opens_int Try.underlying3)) rfl rfl rfl (by kernel_rfl) h hw
  obtain ⟨r1, a1, e1, o1, w1⟩ := field_opens' Try.underlying72 1 22 1 1 (opens_slice (() : GoRep.R Int) Try.underlying22 (by kernel_rfl) (by kernel_rfl) (opens_int Try.underlying3)) rfl rfl rfl (by kernel_rfl) h hw
  have hl : cs.length = 2 := (struct_len Try.underlying72 h).trans (by kernel_rfl)
  refine ⟨(r0, r1), ⟨a0, a1⟩, ?_, ⟨o0, o1⟩, ⟨w0, w1⟩⟩
  have c0 := cut_drop cs 0 1
  have c1 := cut_drop cs 1 1
  have ce : cs.drop 2 = [] := List.drop_eq_nil_of_le (by omega)
  simp only [Nat.reduceAdd] at c0 c1
  have c : cs = cs.drop 0 := rfl
  rw [c, c0, e0, c1, e1, ce]
  rfl
end Go.Proofs.Ytedocibniankjaa
