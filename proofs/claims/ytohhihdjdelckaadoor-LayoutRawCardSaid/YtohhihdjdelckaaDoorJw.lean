/- A world that holds the listed variables: the sides of a section, the powers of ten, the tables of unicode/utf8 and of math/bits. -/
import Derived.Test.YtohhihdjdelckaaDoorRows
set_option linter.all false
namespace Go.Proofs.YtohhihdjdelckaaDoor
noncomputable def laidWorld (os : Os) : World :=
  let w0 := World.holding Tryd.prog os ⟨#[], #[], []⟩
  let put (h : Array Obj) (g : Nat) (cs : Array Value) : Array Obj := h.modify g fun
    | .cells _ t frozen => .cells cs t frozen
    | o => o
  let u8 (l : List Nat) : Array Value := (l.map fun (z : Nat) => Value.int .u8 (z : Int)).toArray
  let h0 := put w0.heap 0 #[Value.string ⟨#[65]⟩, Value.string ⟨#[66]⟩]
  let h1 := put h0 1 (([1, 10, 100, 1000, 10000, 100000, 1000000, 10000000, 100000000, 1000000000, 10000000000, 100000000000, 1000000000000, 10000000000000, 100000000000000, 1000000000000000, 10000000000000000, 100000000000000000, 1000000000000000000, 10000000000000000000] : List Nat).map fun (z : Nat) => Value.int .u64 (z : Int)).toArray
  let h2 := put h1 2 (Go.Pinned.utf8FirstZ.map fun (z : Nat) => Value.int .u8 (z : Int)).toArray
  let h3 := put h2 3 (u8 [128, 191, 160, 191, 128, 159, 144, 191, 128, 143, 0, 0, 0, 0, 0, 0, 0, 0, 0, 0, 0, 0, 0, 0, 0, 0, 0, 0, 0, 0, 0, 0])
  let h5 := put h3 5 (u8 [0, 1, 28, 2, 29, 14, 24, 3, 30, 22, 20, 15, 25, 17, 4, 8, 31, 27, 13, 23, 21, 19, 16, 7, 26, 12, 18, 6, 11, 5, 10, 9])
  let h6 := put h5 6 (u8 [0, 1, 56, 2, 57, 49, 28, 3, 61, 58, 42, 50, 38, 29, 17, 4, 62, 47, 59, 36, 45, 43, 51, 22, 53, 39, 33, 30, 24, 18, 12, 5, 63, 55, 48, 27, 60, 41, 37, 16, 46, 35, 44, 21, 52, 32, 23, 11, 54, 26, 40, 15, 34, 20, 31, 10, 25, 14, 19, 9, 13, 8, 7, 6])
  { w0 with heap := h6 }
end Go.Proofs.YtohhihdjdelckaaDoor
