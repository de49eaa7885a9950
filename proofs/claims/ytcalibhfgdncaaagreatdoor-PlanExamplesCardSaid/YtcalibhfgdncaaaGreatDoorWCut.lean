/- strings.Cut at a separator of any length: its contract over the engine. -/
import Derived.Test.YtcalibhfgdncaaaGreatDoorWIdx
import Derived.Test.YtcalibhfgdncaaaGreatDoorDn
set_option linter.all false
namespace Go.Proofs.YtcalibhfgdncaaaGreatDoor
open Go.Dc Go.RowKit
def strings_Cut2_m (s t : Str) : Option (Str × Str × Bool) :=
 if s.l.length < 4294967281 then some (⟨(Lib.cut s.l t.l).1⟩, ⟨(Lib.cut s.l t.l).2.1⟩, (Lib.cut s.l t.l).2.2) else none
theorem strings_Cut2_spec (S : Soup) (w : World) (s0 : Str) (sep0 : Str) (y : Str × Str × Bool) (hM : strings_Cut2_m s0 sep0 = some y) (_hS : ∀ k, S k → k < w.heap.size) (hg : (gint 2).φ S w) :
  Calls Tryz.prog 153 #[.string s0.ba, .string sep0.ba] w (Ret w (.tuple #[.string y.1.ba, .string y.2.1.ba, .bool y.2.2])) := by
 obtain ⟨_, m, hm⟩ := hg
 unfold strings_Cut2_m at hM
 split at hM
 ·rename_i hl
  obtain rfl := Option.some.inj hM
  refine (Tryz.strings_Cut s0.ba sep0.ba m w (by rw [Str.ba_size]; exact hl) hm).mono ?_
  rintro e w' ⟨rfl, n, rfl⟩
  exact ⟨rfl, ⟨rfl, rfl, rfl, Nat.le_refl _, fun _ _ => rfl⟩⟩
 ·cases hM
theorem gint_of_shaped {w : World} (h : w.ShapedOpen Tryz.prog) : (gint 2).φ (fun k => k < w.heap.size) w :=
 let ⟨m, hm⟩ := Tryz.laysM145.s1_3 w h
 ⟨World.block_lt_of_cell? _ _ hm, m, hm⟩
end Go.Proofs.YtcalibhfgdncaaaGreatDoor
