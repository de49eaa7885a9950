/- Words laws: the words of a joined text. -/
import Derived.Test.YtohhihdjdelckaaDoorVj
set_option linter.all false
namespace Go.Proofs.YtohhihdjdelckaaDoor
open Go.Dc
set_option maxRecDepth 10000

/-- A list of words that can be joined. -/
def lineOk (w : List Str) : Prop := 0 < w.length ∧ w.length ≤ 64 ∧ w.all wordB = true
def joinT : List (List Str) → List UInt8
  | [] => []
  | w :: r => wlF true w ++ 10 :: joinT r
theorem joinL_ok : ∀ (l : List (List Str)) (acc : List UInt8), (∀ w ∈ l, lineOk w) → joinL l acc = some (acc ++ joinT l)
  | [], acc, _ => by simp [joinL, joinT]
  | w :: r, acc, h => by
    obtain ⟨h1, h2, h3⟩ := h w List.mem_cons_self
    simp only [joinL]
    rw [if_neg (by rw [Bool.or_eq_true]; rintro (h | h) <;> (have := of_decide_eq_true h; omega)), if_pos h3, joinL_ok r _ (fun x hx => h x (List.mem_cons_of_mem _ hx))]
    simp [joinT]
end Go.Proofs.YtohhihdjdelckaaDoor
