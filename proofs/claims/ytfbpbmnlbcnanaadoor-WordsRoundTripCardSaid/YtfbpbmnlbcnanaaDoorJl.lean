/- A world that holds the listed variables: two tables of unicode/utf8. -/
import Derived.Test.YtfbpbmnlbcnanaaDoorRows
set_option linter.all false
namespace Go.Proofs.YtfbpbmnlbcnanaaDoor
noncomputable def laidWorld (os : Os) : World :=
  let w0 := World.holding Tryd.prog os ⟨#[], #[], []⟩
  let put (h : Array Obj) (g : Nat) (cs : Array Value) : Array Obj := h.modify g fun
    | .cells _ t frozen => .cells cs t frozen
    | o => o
  let h1 := put w0.heap 1 (Go.Pinned.utf8FirstZ.map fun (z : Nat) => Value.int .u8 (z : Int)).toArray
  let h2 := put h1 2 (([128, 191, 160, 191, 128, 159, 144, 191, 128, 143] ++ List.replicate 22 0 : List Nat).map fun (z : Nat) => Value.int .u8 (z : Int)).toArray
  { w0 with heap := h2 }
end Go.Proofs.YtfbpbmnlbcnanaaDoor
