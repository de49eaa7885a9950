/- The plain law of LayoutLimits: what Check answers for the layouts that the law builds. -/
import Derived.Test.YtnihhidbiepnhaaLay3
namespace Go.Proofs.Ytnihhidbiepnhaa
open Go.Eng Go.RowKit
def nmL (n : Nat) : List ByteArray := (List.range n).map fun (j : Nat) => bs (97 :: decL j)
def scL (n : Nat) : List Sec := (List.range n).map fun (j : Nat) => ⟨bs (97 :: decL j), 1, 1000, 0, -1⟩
def secX : Sec := ⟨bs [88], 400, 100000, -40, -1⟩
def layN (k : Int) (n : Nat) : Lay := ⟨if k = 0 then nmL n else [], if k = 1 then nmL n else [], if k = 2 then scL n else [], []⟩
def layF (k : Int) (n : Nat) : Lay := ⟨if k = 0 then nmL n else [], if k = 1 then nmL n else [], if k = 2 then scL n else [secX], []⟩
def mostI (k : Int) : Int := if k = 0 then 24 else if k = 1 then 48 else 96
theorem lim0_23 : checkL (layF 0 23) = 0 := by decide +kernel
theorem lim0_24 : checkL (layF 0 24) = 0 := by decide +kernel
theorem lim0_25 : checkL (layF 0 25) = 7 := by decide +kernel
theorem lim1_47 : checkL (layF 1 47) = 0 := by decide +kernel
theorem lim1_48 : checkL (layF 1 48) = 0 := by decide +kernel
theorem lim1_49 : checkL (layF 1 49) = 7 := by decide +kernel
theorem lim2_95 : checkL (layF 2 95) = 0 := by decide +kernel
theorem lim2_96 : checkL (layF 2 96) = 0 := by decide +kernel
theorem lim2_97 : checkL (layF 2 97) = 7 := by decide +kernel

theorem lim_all (k o : Int) (hk : 0 ≤ k ∧ k < 3) (ho : 0 ≤ o ∧ o < 3) : checkL (layF k (mostI k + o - 1).toNat) = if mostI k + o - 1 ≤ mostI k then 0 else 7 := by
  have h1 : k = 0 ∨ k = 1 ∨ k = 2 := by omega
  have h2 : o = 0 ∨ o = 1 ∨ o = 2 := by omega
  rcases h1 with rfl | rfl | rfl <;> rcases h2 with rfl | rfl | rfl
  · exact lim0_23
  · exact lim0_24
  · exact lim0_25
  · exact lim1_47
  · exact lim1_48
  · exact lim1_49
  · exact lim2_95
  · exact lim2_96
  · exact lim2_97
end Go.Proofs.Ytnihhidbiepnhaa
