/- Engine, part 7: what a row's reading gives of a slice of integers. -/
import Derived.Test.YtnihhidbiepnhaaEng6
import Derived.ProofKit
namespace Go.Eng
open Go.RowKit Go.ChangeShapes Go.WideShapes Go.ChangeAt

/-- A slice of integers that came in: zs are all numbers up to its capacity. -/
def IntsIn (k : IntKind) (w : World) (a : Option Addr) (len cap : Nat) (zs : List Int) : Prop :=
  Sl 0 w.heap.size w a (zs.map (.int k)) ∧ len ≤ cap ∧ cap ≤ maxLen ∧ zs.length = cap ∧ ∀ n ∈ zs, (Lit.int k n).wf = true

theorem spot_none {w : World} {a : Addr} {v : Value} (h : w.cell? a = some v) : a = ⟨a.block, a.off, none⟩ := by
  obtain ⟨b, o, s⟩ := a
  unfold World.cell? at h
  split at h
  · split at h
    · cases h
    · rename_i hs
      cases s with
      | none => rfl
      | some x => simp at hs
  · cases h

theorem sl_of_cells {w : World} {a : Addr} {l : List Value} (h : ∀ i v, l[i]? = some v → w.cell? (a.add i) = some v) : Sl 0 w.heap.size w (some a) l := by
  intro j v hv
  have hpos : 0 < l.length := by have := (List.getElem?_eq_some_iff.1 hv).1; omega
  have h0 := h 0 l[0] (by simp [hpos])
  simp only [Addr.add, if_true] at h0
  have ha := spot_none h0
  have hj := h j v hv
  refine ⟨by rw [ha]; rfl, Nat.zero_le _, World.block_lt_of_cell? w a h0, ?_⟩
  show w.cell? ⟨a.block, a.off + j, none⟩ = some v
  by_cases hz : j = 0
  · subst hz
    simp only [Addr.add, if_true] at hj
    rw [ha] at hj
    exact hj
  · simp only [Addr.add, hz, if_false] at hj
    exact hj

theorem ints_in {H : Type} {enc : TypeId × Value → H} {P : Program} {w : World} {base : Nat} {held : Bool} {fuel t e : Nat} {k : IntKind} {a : Option Addr} {len cap : Nat} {x : DataW H × List MemPlace}
    (hu : P.underlying t = some (.slice e)) (he : P.underlying e = some (.int k)) (hc : P.cellsOf e = 1)
    (hf : DataW.trod enc P w base (fun _ => true) held fuel t (Value.slice a len cap).cells.toList = some x) : ∃ zs, IntsIn k w a len cap zs := by
  rcases open_ints hu he hc hf with ⟨hcs, _⟩ | ⟨y, l, c, zs, hcs, _, hl, hm, hz, _, hcell, hwz⟩
  · simp [Value.cells] at hcs
    obtain ⟨rfl, rfl, rfl⟩ := hcs
    exact ⟨[], Sl.nil, Nat.le_refl _, Nat.zero_le _, rfl, fun n hn => by simp at hn⟩
  · simp [Value.cells] at hcs
    obtain ⟨rfl, rfl, rfl⟩ := hcs
    refine ⟨zs, sl_of_cells (fun i v hv => ?_), hl, hm, by simpa using hz, hwz⟩
    have hi : i < zs.length := by have := (List.getElem?_eq_some_iff.1 hv).1; simpa using this
    rw [hcell i hi]
    simp [hi] at hv
    simp [hi, hv]
end Go.Eng
