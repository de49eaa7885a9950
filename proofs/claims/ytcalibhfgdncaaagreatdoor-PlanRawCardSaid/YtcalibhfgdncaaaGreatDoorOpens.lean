/- What is read at the types of the program is plain data. -/
import Derived.Test.YtcalibhfgdncaaaGreatDoorTypes
import Derived.Test.YtcalibhfgdncaaaGreatDoorD11
set_option linter.all false
namespace Go.Proofs.YtcalibhfgdncaaaGreatDoor
open Go.Dc Go.RowKit
set_option maxRecDepth 10000
instance : Wf Section := ⟨fun x => Wf.wf x.Name ∧ Wf.wf x.Length ∧ Wf.wf x.Limit ∧ Wf.wf x.iE ∧ Wf.wf x.mE⟩
theorem afR : Opens Tryz.prog 81 Section := by
 intro H enc w held fuel cs x h hw
 obtain ⟨r0, a0, e0, o0, w0⟩ := eX Tryz.underlying81 0 9 0 1 (JF Tryz.underlying9) rfl rfl rfl (by kernel_rfl) h hw
 obtain ⟨r1, a1, e1, o1, w1⟩ := eX Tryz.underlying81 1 3 1 1 (ig Tryz.underlying3) rfl rfl rfl (by kernel_rfl) h hw
 obtain ⟨r2, a2, e2, o2, w2⟩ := eX Tryz.underlying81 2 3 2 1 (ig Tryz.underlying3) rfl rfl rfl (by kernel_rfl) h hw
 obtain ⟨r3, a3, e3, o3, w3⟩ := eX Tryz.underlying81 3 3 3 1 (ig Tryz.underlying3) rfl rfl rfl (by kernel_rfl) h hw
 obtain ⟨r4, a4, e4, o4, w4⟩ := eX Tryz.underlying81 4 3 4 1 (ig Tryz.underlying3) rfl rfl rfl (by kernel_rfl) h hw
 have hl : cs.length = 5 := (uf Tryz.underlying81 h).trans (by kernel_rfl)
 refine ⟨(), ⟨a0, a1, a2, a3, a4⟩, ?_, trivial, ⟨w0, w1, w2, w3, w4⟩⟩
 have c0 := eU cs 0 1
 have c1 := eU cs 1 1
 have c2 := eU cs 2 1
 have c3 := eU cs 3 1
 have c4 := eU cs 4 1
 have ce : cs.drop 5 = [] := List.drop_eq_nil_of_le (by omega)
 simp only [Nat.reduceAdd] at c0 c1 c2 c3 c4
 have c : cs = cs.drop 0 := rfl
 rw [c, c0, e0, c1, e1, c2, e2, c3, e3, c4, e4, ce]
 rfl
instance : Wf Link := ⟨fun x => Wf.wf x.A ∧ Wf.wf x.bY ∧ Wf.wf x.B ∧ Wf.wf x.dx ∧ Wf.wf x.Point ∧ Wf.wf x.Pos⟩
theorem afN : Opens Tryz.prog 183 Link := by
 intro H enc w held fuel cs x h hw
 obtain ⟨r0, a0, e0, o0, w0⟩ := eX Tryz.underlying183 0 3 0 1 (ig Tryz.underlying3) rfl rfl rfl (by kernel_rfl) h hw
 obtain ⟨r1, a1, e1, o1, w1⟩ := eX Tryz.underlying183 1 3 1 1 (ig Tryz.underlying3) rfl rfl rfl (by kernel_rfl) h hw
 obtain ⟨r2, a2, e2, o2, w2⟩ := eX Tryz.underlying183 2 3 2 1 (ig Tryz.underlying3) rfl rfl rfl (by kernel_rfl) h hw
 obtain ⟨r3, a3, e3, o3, w3⟩ := eX Tryz.underlying183 3 3 3 1 (ig Tryz.underlying3) rfl rfl rfl (by kernel_rfl) h hw
 obtain ⟨r4, a4, e4, o4, w4⟩ := eX Tryz.underlying183 4 3 4 1 (ig Tryz.underlying3) rfl rfl rfl (by kernel_rfl) h hw
 obtain ⟨r5, a5, e5, o5, w5⟩ := eX Tryz.underlying183 5 3 5 1 (ig Tryz.underlying3) rfl rfl rfl (by kernel_rfl) h hw
 have hl : cs.length = 6 := (uf Tryz.underlying183 h).trans (by kernel_rfl)
 refine ⟨(), ⟨a0, a1, a2, a3, a4, a5⟩, ?_, trivial, ⟨w0, w1, w2, w3, w4, w5⟩⟩
 have c0 := eU cs 0 1
 have c1 := eU cs 1 1
 have c2 := eU cs 2 1
 have c3 := eU cs 3 1
 have c4 := eU cs 4 1
 have c5 := eU cs 5 1
 have ce : cs.drop 6 = [] := List.drop_eq_nil_of_le (by omega)
 simp only [Nat.reduceAdd] at c0 c1 c2 c3 c4 c5
 have c : cs = cs.drop 0 := rfl
 rw [c, c0, e0, c1, e1, c2, e2, c3, e3, c4, e4, c5, e5, ce]
 rfl
instance : Wf Layout := ⟨fun x => Wf.wf x.aX ∧ Wf.wf x.bF ∧ Wf.wf x.Sections ∧ Wf.wf x.Links⟩
theorem afL : Opens Tryz.prog 26 Layout := by
 intro H enc w held fuel cs x h hw
 obtain ⟨r0, a0, e0, o0, w0⟩ := eX Tryz.underlying26 0 22 0 1 (tC (() : ak.R Str) Tryz.underlying22 (by kernel_rfl) (by kernel_rfl) (JF Tryz.underlying9)) rfl rfl rfl (by kernel_rfl) h hw
 obtain ⟨r1, a1, e1, o1, w1⟩ := eX Tryz.underlying26 1 22 1 1 (tC (() : ak.R Str) Tryz.underlying22 (by kernel_rfl) (by kernel_rfl) (JF Tryz.underlying9)) rfl rfl rfl (by kernel_rfl) h hw
 obtain ⟨r2, a2, e2, o2, w2⟩ := eX Tryz.underlying26 2 23 2 1 (tC (() : ak.R Section) Tryz.underlying23 (by kernel_rfl) (by kernel_rfl) afR) rfl rfl rfl (by kernel_rfl) h hw
 obtain ⟨r3, a3, e3, o3, w3⟩ := eX Tryz.underlying26 3 24 3 1 (tC (() : ak.R Link) Tryz.underlying24 (by kernel_rfl) (by kernel_rfl) afN) rfl rfl rfl (by kernel_rfl) h hw
 have hl : cs.length = 4 := (uf Tryz.underlying26 h).trans (by kernel_rfl)
 refine ⟨(r0, r1, r2, r3), ⟨a0, a1, a2, a3⟩, ?_, ⟨o0, o1, o2, o3⟩, ⟨w0, w1, w2, w3⟩⟩
 have c0 := eU cs 0 1
 have c1 := eU cs 1 1
 have c2 := eU cs 2 1
 have c3 := eU cs 3 1
 have ce : cs.drop 4 = [] := List.drop_eq_nil_of_le (by omega)
 simp only [Nat.reduceAdd] at c0 c1 c2 c3
 have c : cs = cs.drop 0 := rfl
 rw [c, c0, e0, c1, e1, c2, e2, c3, e3, ce]
 rfl
instance : Wf Word := ⟨fun x => Wf.wf x.Text ∧ Wf.wf x.Line ∧ Wf.wf x.Col⟩
instance : Wf kL := ⟨fun x => Wf.wf x.eH ∧ Wf.wf x.end_⟩
instance : Wf Step := ⟨fun x => Wf.wf x.Section ∧ Wf.wf x.Dir⟩
theorem afS : Opens Tryz.prog 92 Step := by
 intro H enc w held fuel cs x h hw
 obtain ⟨r0, a0, e0, o0, w0⟩ := eX Tryz.underlying92 0 3 0 1 (ig Tryz.underlying3) rfl rfl rfl (by kernel_rfl) h hw
 obtain ⟨r1, a1, e1, o1, w1⟩ := eX Tryz.underlying92 1 3 1 1 (ig Tryz.underlying3) rfl rfl rfl (by kernel_rfl) h hw
 have hl : cs.length = 2 := (uf Tryz.underlying92 h).trans (by kernel_rfl)
 refine ⟨(), ⟨a0, a1⟩, ?_, trivial, ⟨w0, w1⟩⟩
 have c0 := eU cs 0 1
 have c1 := eU cs 1 1
 have ce : cs.drop 2 = [] := List.drop_eq_nil_of_le (by omega)
 simp only [Nat.reduceAdd] at c0 c1
 have c : cs = cs.drop 0 := rfl
 rw [c, c0, e0, c1, e1, ce]
 rfl
instance : Wf jB := ⟨fun x => Wf.wf x.eH ∧ Wf.wf x.side⟩
instance : Wf aV := ⟨fun x => Wf.wf x.Steps ∧ Wf.wf x.Overlap⟩
theorem afQ : Opens Tryz.prog 90 aV := by
 intro H enc w held fuel cs x h hw
 obtain ⟨r0, a0, e0, o0, w0⟩ := eX Tryz.underlying90 0 88 0 1 (tC (() : ak.R Step) Tryz.underlying88 (by kernel_rfl) (by kernel_rfl) afS) rfl rfl rfl (by kernel_rfl) h hw
 obtain ⟨r1, a1, e1, o1, w1⟩ := eX Tryz.underlying90 1 3 1 1 (ig Tryz.underlying3) rfl rfl rfl (by kernel_rfl) h hw
 have hl : cs.length = 2 := (uf Tryz.underlying90 h).trans (by kernel_rfl)
 refine ⟨r0, ⟨a0, a1⟩, ?_, o0, ⟨w0, w1⟩⟩
 have c0 := eU cs 0 1
 have c1 := eU cs 1 1
 have ce : cs.drop 2 = [] := List.drop_eq_nil_of_le (by omega)
 simp only [Nat.reduceAdd] at c0 c1
 have c : cs = cs.drop 0 := rfl
 rw [c, c0, e0, c1, e1, ce]
 rfl
instance : Wf Cell := ⟨fun x => Wf.wf x.Limit ∧ Wf.wf x.iE⟩
instance : Wf Ur := ⟨fun x => Wf.wf x.l ∧ Wf.wf x.i⟩
instance : Wf Us := ⟨fun x => Wf.wf x.l ∧ Wf.wf x.tracks ∧ Wf.wf x.between ∧ Wf.wf x.Oh⟩
instance : Wf bL := ⟨fun x => Wf.wf x.Name ∧ Wf.wf x.Length ∧ Wf.wf x.lI ∧ Wf.wf x.lF ∧ Wf.wf x.lG⟩
theorem afT : Opens Tryz.prog 71 bL := by
 intro H enc w held fuel cs x h hw
 obtain ⟨r0, a0, e0, o0, w0⟩ := eX Tryz.underlying71 0 9 0 1 (JF Tryz.underlying9) rfl rfl rfl (by kernel_rfl) h hw
 obtain ⟨r1, a1, e1, o1, w1⟩ := eX Tryz.underlying71 1 3 1 1 (ig Tryz.underlying3) rfl rfl rfl (by kernel_rfl) h hw
 obtain ⟨r2, a2, e2, o2, w2⟩ := eX Tryz.underlying71 2 3 2 1 (ig Tryz.underlying3) rfl rfl rfl (by kernel_rfl) h hw
 obtain ⟨r3, a3, e3, o3, w3⟩ := eX Tryz.underlying71 3 3 3 1 (ig Tryz.underlying3) rfl rfl rfl (by kernel_rfl) h hw
 obtain ⟨r4, a4, e4, o4, w4⟩ := eX Tryz.underlying71 4 3 4 1 (ig Tryz.underlying3) rfl rfl rfl (by kernel_rfl) h hw
 have hl : cs.length = 5 := (uf Tryz.underlying71 h).trans (by kernel_rfl)
 refine ⟨(), ⟨a0, a1, a2, a3, a4⟩, ?_, trivial, ⟨w0, w1, w2, w3, w4⟩⟩
 have c0 := eU cs 0 1
 have c1 := eU cs 1 1
 have c2 := eU cs 2 1
 have c3 := eU cs 3 1
 have c4 := eU cs 4 1
 have ce : cs.drop 5 = [] := List.drop_eq_nil_of_le (by omega)
 simp only [Nat.reduceAdd] at c0 c1 c2 c3 c4
 have c : cs = cs.drop 0 := rfl
 rw [c, c0, e0, c1, e1, c2, e2, c3, e3, c4, e4, ce]
 rfl
instance : Wf nT := ⟨fun x => Wf.wf x.cells ∧ Wf.wf x.first⟩
instance : Wf fV := ⟨fun x => Wf.wf x.aV ∧ Wf.wf x.Extra ∧ Wf.wf x.Min ∧ Wf.wf x.Max⟩
theorem afP : Opens Tryz.prog 58 fV := by
 intro H enc w held fuel cs x h hw
 obtain ⟨r0, a0, e0, o0, w0⟩ := eX Tryz.underlying58 0 3 0 1 (ig Tryz.underlying3) rfl rfl rfl (by kernel_rfl) h hw
 obtain ⟨r1, a1, e1, o1, w1⟩ := eX Tryz.underlying58 1 3 1 1 (ig Tryz.underlying3) rfl rfl rfl (by kernel_rfl) h hw
 obtain ⟨r2, a2, e2, o2, w2⟩ := eX Tryz.underlying58 2 3 2 1 (ig Tryz.underlying3) rfl rfl rfl (by kernel_rfl) h hw
 obtain ⟨r3, a3, e3, o3, w3⟩ := eX Tryz.underlying58 3 3 3 1 (ig Tryz.underlying3) rfl rfl rfl (by kernel_rfl) h hw
 have hl : cs.length = 4 := (uf Tryz.underlying58 h).trans (by kernel_rfl)
 refine ⟨(), ⟨a0, a1, a2, a3⟩, ?_, trivial, ⟨w0, w1, w2, w3⟩⟩
 have c0 := eU cs 0 1
 have c1 := eU cs 1 1
 have c2 := eU cs 2 1
 have c3 := eU cs 3 1
 have ce : cs.drop 4 = [] := List.drop_eq_nil_of_le (by omega)
 simp only [Nat.reduceAdd] at c0 c1 c2 c3
 have c : cs = cs.drop 0 := rfl
 rw [c, c0, e0, c1, e1, c2, e2, c3, e3, ce]
 rfl
instance : Wf Line := ⟨fun x => Wf.wf x.Name ∧ Wf.wf x.bL ∧ Wf.wf x.Weight ∧ Wf.wf x.bq⟩
theorem afM : Opens Tryz.prog 56 Line := by
 intro H enc w held fuel cs x h hw
 obtain ⟨r0, a0, e0, o0, w0⟩ := eX Tryz.underlying56 0 9 0 1 (JF Tryz.underlying9) rfl rfl rfl (by kernel_rfl) h hw
 obtain ⟨r1, a1, e1, o1, w1⟩ := eX Tryz.underlying56 1 3 1 1 (ig Tryz.underlying3) rfl rfl rfl (by kernel_rfl) h hw
 obtain ⟨r2, a2, e2, o2, w2⟩ := eX Tryz.underlying56 2 3 2 1 (ig Tryz.underlying3) rfl rfl rfl (by kernel_rfl) h hw
 obtain ⟨r3, a3, e3, o3, w3⟩ := eX Tryz.underlying56 3 54 3 1 (tC (() : ak.R fV) Tryz.underlying54 (by kernel_rfl) (by kernel_rfl) afP) rfl rfl rfl (by kernel_rfl) h hw
 have hl : cs.length = 4 := (uf Tryz.underlying56 h).trans (by kernel_rfl)
 refine ⟨r3, ⟨a0, a1, a2, a3⟩, ?_, o3, ⟨w0, w1, w2, w3⟩⟩
 have c0 := eU cs 0 1
 have c1 := eU cs 1 1
 have c2 := eU cs 2 1
 have c3 := eU cs 3 1
 have ce : cs.drop 4 = [] := List.drop_eq_nil_of_le (by omega)
 simp only [Nat.reduceAdd] at c0 c1 c2 c3
 have c : cs = cs.drop 0 := rfl
 rw [c, c0, e0, c1, e1, c2, e2, c3, e3, ce]
 rfl
instance : Wf Change := ⟨fun x => Wf.wf x.dX ∧ Wf.wf x.fG ∧ Wf.wf x.fK ∧ Wf.wf x.iN ∧ Wf.wf x.Min ∧ Wf.wf x.Max ∧ Wf.wf x.Weight⟩
theorem afJ : Opens Tryz.prog 79 Change := by
 intro H enc w held fuel cs x h hw
 obtain ⟨r0, a0, e0, o0, w0⟩ := eX Tryz.underlying79 0 3 0 1 (ig Tryz.underlying3) rfl rfl rfl (by kernel_rfl) h hw
 obtain ⟨r1, a1, e1, o1, w1⟩ := eX Tryz.underlying79 1 3 1 1 (ig Tryz.underlying3) rfl rfl rfl (by kernel_rfl) h hw
 obtain ⟨r2, a2, e2, o2, w2⟩ := eX Tryz.underlying79 2 3 2 1 (ig Tryz.underlying3) rfl rfl rfl (by kernel_rfl) h hw
 obtain ⟨r3, a3, e3, o3, w3⟩ := eX Tryz.underlying79 3 3 3 1 (ig Tryz.underlying3) rfl rfl rfl (by kernel_rfl) h hw
 obtain ⟨r4, a4, e4, o4, w4⟩ := eX Tryz.underlying79 4 3 4 1 (ig Tryz.underlying3) rfl rfl rfl (by kernel_rfl) h hw
 obtain ⟨r5, a5, e5, o5, w5⟩ := eX Tryz.underlying79 5 3 5 1 (ig Tryz.underlying3) rfl rfl rfl (by kernel_rfl) h hw
 obtain ⟨r6, a6, e6, o6, w6⟩ := eX Tryz.underlying79 6 3 6 1 (ig Tryz.underlying3) rfl rfl rfl (by kernel_rfl) h hw
 have hl : cs.length = 7 := (uf Tryz.underlying79 h).trans (by kernel_rfl)
 refine ⟨(), ⟨a0, a1, a2, a3, a4, a5, a6⟩, ?_, trivial, ⟨w0, w1, w2, w3, w4, w5, w6⟩⟩
 have c0 := eU cs 0 1
 have c1 := eU cs 1 1
 have c2 := eU cs 2 1
 have c3 := eU cs 3 1
 have c4 := eU cs 4 1
 have c5 := eU cs 5 1
 have c6 := eU cs 6 1
 have ce : cs.drop 7 = [] := List.drop_eq_nil_of_le (by omega)
 simp only [Nat.reduceAdd] at c0 c1 c2 c3 c4 c5 c6
 have c : cs = cs.drop 0 := rfl
 rw [c, c0, e0, c1, e1, c2, e2, c3, e3, c4, e4, c5, e5, c6, e6, ce]
 rfl
instance : Wf Turn := ⟨fun x => Wf.wf x.From ∧ Wf.wf x.To ∧ Wf.wf x.Min ∧ Wf.wf x.Max⟩
theorem afV : Opens Tryz.prog 94 Turn := by
 intro H enc w held fuel cs x h hw
 obtain ⟨r0, a0, e0, o0, w0⟩ := eX Tryz.underlying94 0 3 0 1 (ig Tryz.underlying3) rfl rfl rfl (by kernel_rfl) h hw
 obtain ⟨r1, a1, e1, o1, w1⟩ := eX Tryz.underlying94 1 3 1 1 (ig Tryz.underlying3) rfl rfl rfl (by kernel_rfl) h hw
 obtain ⟨r2, a2, e2, o2, w2⟩ := eX Tryz.underlying94 2 3 2 1 (ig Tryz.underlying3) rfl rfl rfl (by kernel_rfl) h hw
 obtain ⟨r3, a3, e3, o3, w3⟩ := eX Tryz.underlying94 3 3 3 1 (ig Tryz.underlying3) rfl rfl rfl (by kernel_rfl) h hw
 have hl : cs.length = 4 := (uf Tryz.underlying94 h).trans (by kernel_rfl)
 refine ⟨(), ⟨a0, a1, a2, a3⟩, ?_, trivial, ⟨w0, w1, w2, w3⟩⟩
 have c0 := eU cs 0 1
 have c1 := eU cs 1 1
 have c2 := eU cs 2 1
 have c3 := eU cs 3 1
 have ce : cs.drop 4 = [] := List.drop_eq_nil_of_le (by omega)
 simp only [Nat.reduceAdd] at c0 c1 c2 c3
 have c : cs = cs.drop 0 := rfl
 rw [c, c0, e0, c1, e1, c2, e2, c3, e3, ce]
 rfl
instance : Wf Sync := ⟨fun x => Wf.wf x.jA ∧ Wf.wf x.jc ∧ Wf.wf x.jF ∧ Wf.wf x.jh ∧ Wf.wf x.Offset⟩
theorem afU : Opens Tryz.prog 84 Sync := by
 intro H enc w held fuel cs x h hw
 obtain ⟨r0, a0, e0, o0, w0⟩ := eX Tryz.underlying84 0 3 0 1 (ig Tryz.underlying3) rfl rfl rfl (by kernel_rfl) h hw
 obtain ⟨r1, a1, e1, o1, w1⟩ := eX Tryz.underlying84 1 3 1 1 (ig Tryz.underlying3) rfl rfl rfl (by kernel_rfl) h hw
 obtain ⟨r2, a2, e2, o2, w2⟩ := eX Tryz.underlying84 2 3 2 1 (ig Tryz.underlying3) rfl rfl rfl (by kernel_rfl) h hw
 obtain ⟨r3, a3, e3, o3, w3⟩ := eX Tryz.underlying84 3 3 3 1 (ig Tryz.underlying3) rfl rfl rfl (by kernel_rfl) h hw
 obtain ⟨r4, a4, e4, o4, w4⟩ := eX Tryz.underlying84 4 3 4 1 (ig Tryz.underlying3) rfl rfl rfl (by kernel_rfl) h hw
 have hl : cs.length = 5 := (uf Tryz.underlying84 h).trans (by kernel_rfl)
 refine ⟨(), ⟨a0, a1, a2, a3, a4⟩, ?_, trivial, ⟨w0, w1, w2, w3, w4⟩⟩
 have c0 := eU cs 0 1
 have c1 := eU cs 1 1
 have c2 := eU cs 2 1
 have c3 := eU cs 3 1
 have c4 := eU cs 4 1
 have ce : cs.drop 5 = [] := List.drop_eq_nil_of_le (by omega)
 simp only [Nat.reduceAdd] at c0 c1 c2 c3 c4
 have c : cs = cs.drop 0 := rfl
 rw [c, c0, e0, c1, e1, c2, e2, c3, e3, c4, e4, ce]
 rfl
instance : Wf oD := ⟨fun x => Wf.wf x.From ∧ Wf.wf x.To ∧ Wf.wf x.Weight⟩
theorem afK : Opens Tryz.prog 86 oD := by
 intro H enc w held fuel cs x h hw
 obtain ⟨r0, a0, e0, o0, w0⟩ := eX Tryz.underlying86 0 3 0 1 (ig Tryz.underlying3) rfl rfl rfl (by kernel_rfl) h hw
 obtain ⟨r1, a1, e1, o1, w1⟩ := eX Tryz.underlying86 1 3 1 1 (ig Tryz.underlying3) rfl rfl rfl (by kernel_rfl) h hw
 obtain ⟨r2, a2, e2, o2, w2⟩ := eX Tryz.underlying86 2 3 2 1 (ig Tryz.underlying3) rfl rfl rfl (by kernel_rfl) h hw
 have hl : cs.length = 3 := (uf Tryz.underlying86 h).trans (by kernel_rfl)
 refine ⟨(), ⟨a0, a1, a2⟩, ?_, trivial, ⟨w0, w1, w2⟩⟩
 have c0 := eU cs 0 1
 have c1 := eU cs 1 1
 have c2 := eU cs 2 1
 have ce : cs.drop 3 = [] := List.drop_eq_nil_of_le (by omega)
 simp only [Nat.reduceAdd] at c0 c1 c2
 have c : cs = cs.drop 0 := rfl
 rw [c, c0, e0, c1, e1, c2, e2, ce]
 rfl
instance : Wf Plan := ⟨fun x => Wf.wf x.dW ∧ Wf.wf x.aY ∧ Wf.wf x.Routes ∧ Wf.wf x.Lines ∧ Wf.wf x.Changes ∧ Wf.wf x.Turns ∧ Wf.wf x.bT ∧ Wf.wf x.bS⟩
theorem afO : Opens Tryz.prog 35 Plan := by
 intro H enc w held fuel cs x h hw
 obtain ⟨r0, a0, e0, o0, w0⟩ := eX Tryz.underlying35 0 3 0 1 (ig Tryz.underlying3) rfl rfl rfl (by kernel_rfl) h hw
 obtain ⟨r1, a1, e1, o1, w1⟩ := eX Tryz.underlying35 1 27 1 1 (tC (() : ak.R bL) Tryz.underlying27 (by kernel_rfl) (by kernel_rfl) afT) rfl rfl rfl (by kernel_rfl) h hw
 obtain ⟨r2, a2, e2, o2, w2⟩ := eX Tryz.underlying35 2 28 2 1 (tC ((⟨none, 0, (fun _ => ())⟩ : SR (ak.R Step)) : ak.R aV) Tryz.underlying28 (by kernel_rfl) (by kernel_rfl) afQ) rfl rfl rfl (by kernel_rfl) h hw
 obtain ⟨r3, a3, e3, o3, w3⟩ := eX Tryz.underlying35 3 29 3 1 (tC ((⟨none, 0, (fun _ => ())⟩ : SR (ak.R fV)) : ak.R Line) Tryz.underlying29 (by kernel_rfl) (by kernel_rfl) afM) rfl rfl rfl (by kernel_rfl) h hw
 obtain ⟨r4, a4, e4, o4, w4⟩ := eX Tryz.underlying35 4 30 4 1 (tC (() : ak.R Change) Tryz.underlying30 (by kernel_rfl) (by kernel_rfl) afJ) rfl rfl rfl (by kernel_rfl) h hw
 obtain ⟨r5, a5, e5, o5, w5⟩ := eX Tryz.underlying35 5 31 5 1 (tC (() : ak.R Turn) Tryz.underlying31 (by kernel_rfl) (by kernel_rfl) afV) rfl rfl rfl (by kernel_rfl) h hw
 obtain ⟨r6, a6, e6, o6, w6⟩ := eX Tryz.underlying35 6 32 6 1 (tC (() : ak.R Sync) Tryz.underlying32 (by kernel_rfl) (by kernel_rfl) afU) rfl rfl rfl (by kernel_rfl) h hw
 obtain ⟨r7, a7, e7, o7, w7⟩ := eX Tryz.underlying35 7 33 7 1 (tC (() : ak.R oD) Tryz.underlying33 (by kernel_rfl) (by kernel_rfl) afK) rfl rfl rfl (by kernel_rfl) h hw
 have hl : cs.length = 8 := (uf Tryz.underlying35 h).trans (by kernel_rfl)
 refine ⟨(r1, r2, r3, r4, r5, r6, r7), ⟨a0, a1, a2, a3, a4, a5, a6, a7⟩, ?_, ⟨o1, o2, o3, o4, o5, o6, o7⟩, ⟨w0, w1, w2, w3, w4, w5, w6, w7⟩⟩
 have c0 := eU cs 0 1
 have c1 := eU cs 1 1
 have c2 := eU cs 2 1
 have c3 := eU cs 3 1
 have c4 := eU cs 4 1
 have c5 := eU cs 5 1
 have c6 := eU cs 6 1
 have c7 := eU cs 7 1
 have ce : cs.drop 8 = [] := List.drop_eq_nil_of_le (by omega)
 simp only [Nat.reduceAdd] at c0 c1 c2 c3 c4 c5 c6 c7
 have c : cs = cs.drop 0 := rfl
 rw [c, c0, e0, c1, e1, c2, e2, c3, e3, c4, e4, c5, e5, c6, e6, c7, e7, ce]
 rfl
instance : Wf jg := ⟨fun x => Wf.wf x.lines⟩
instance : Wf Uw := ⟨fun x => Wf.wf x.l ∧ Wf.wf x.p ∧ Wf.wf x.period ∧ Wf.wf x.w ∧ Wf.wf x.e⟩
instance : Wf Hop := ⟨fun x => Wf.wf x.To ∧ Wf.wf x.Point ∧ Wf.wf x.Pos⟩
instance : Wf Ux := ⟨fun x => Wf.wf x.l ∧ Wf.wf x.p ∧ Wf.wf x.periods⟩
end Go.Proofs.YtcalibhfgdncaaaGreatDoor
