/- Engine of the decompiler, part 11: what a row's reading gives of an argument, as typed data. -/
import Derived.Test.YtohhihdjdelckaaDoorDm
import Derived.Deep.Slices
import Derived.SizedLaws
import Derived.ProofKit
set_option linter.all false
namespace Go.Dc
open Go.RowKit GoRep

/-- What Go's types say of data. -/
class Wf (α : Type) where
  wf : α → Prop
open Wf
instance : Wf Int := ⟨fun x => -9223372036854775808 ≤ x ∧ x ≤ 9223372036854775807⟩
instance : Wf Bool := ⟨fun _ => True⟩
instance : Wf UInt8 := ⟨fun _ => True⟩
instance : Wf Str := ⟨fun s => s.l.length ≤ 140737488351232⟩
instance {α : Type} [GoRep α] [Wf α] : Wf (List α) := ⟨fun xs => xs.length * GoRep.bytes α ≤ 140737488351232 ∧ ∀ x ∈ xs, wf x⟩

/-- Whatever is read at type t is data of α. -/
def Opens (P : Program) (t : TypeId) (α : Type) [GoRep α] [Wf α] : Prop :=
  ∀ {H : Type} {enc : TypeId × Value → H} {w : World} {held : Bool} {fuel : Nat} {cs : List Value} {x : DataW H × List MemPlace}, DataW.trod enc P w 0 (fun _ => true) held fuel t cs = some x →
    (∀ n ∈ x.1.weights P t, n ≤ reachBytes) → ∃ (r : R α) (a : α), cs = GoRep.enc r a ∧ ok (fun k => k < w.heap.size) w r a ∧ wf a

section
variable {P : Program} {t e : TypeId}
theorem opens_int (ht : P.underlying t = some (.int .i64)) : Opens P t Int := fun h _ => by
  obtain ⟨n, rfl, _, hw⟩ := DataW.trod_int ht h
  refine ⟨(), n, rfl, trivial, ?_⟩
  simp [Lit.wf, IntKind.min, IntKind.max, IntKind.signed, IntKind.bits] at hw
  show -9223372036854775808 ≤ n ∧ n ≤ 9223372036854775807
  omega
theorem opens_str (ht : P.underlying t = some .string) : Opens P t Str := fun h hw => by
  obtain ⟨s, rfl, rfl, _⟩ := DataW.trod_string ht h
  refine ⟨(), Str.of s, by show _ = [Value.string (Str.of s).ba]; rw [Str.ba_of], trivial, ?_⟩
  have := hw s.data.toList.length (by simp [DataW.weights])
  exact this

theorem weightsAll_mem {H : Type} {P : Program} {e : TypeId} : ∀ {ds : List (DataW H)} {d : DataW H}, d ∈ ds → ∀ n ∈ d.weights P e, n ∈ DataW.weightsAll P e ds
  | d0 :: ds, d, hd, n, hn => by
    simp only [DataW.weightsAll, List.mem_append]
    rcases List.mem_cons.1 hd with rfl | hd
    · exact .inl hn
    · exact .inr (weightsAll_mem hd n hn)
  | [], d, hd, _, _ => by simp at hd

theorem cells?_get {w : World} {a : Addr} {m : Nat} {cs : List Value} (h : w.cells? 0 a m = some cs) : cs.length = m ∧ ∀ j v, cs[j]? = some v → w.cell? (a.add j) = some v := by
  obtain ⟨_, h1, h2⟩ := World.cells?_some h
  refine ⟨h1, fun j v hv => ?_⟩
  rw [h2 j (by have := (List.getElem?_eq_some_iff.1 hv).1; omega)]
  exact hv

theorem spot_none {w : World} {a : Addr} {v : Value} (h : w.cell? a = some v) : a = ⟨a.block, a.off, none⟩ ∧ a.block < w.heap.size := by
  refine ⟨?_, World.block_lt_of_cell? w a h⟩
  obtain ⟨b, o, s⟩ := a
  unfold World.cell? at h
  split at h
  · split at h
    · cases h
    · rename_i hs
      cases s with
      | none => rfl
      | some x => simp at hs
  · cases h

theorem opens_slice {α : Type} [GoRep α] [Wf α] [Inhabited α] (r0 : R α) (ht : P.underlying t = some (.slice e)) (hn : P.cellsOf e = GoRep.n α) (hb : P.bytesOf e = GoRep.bytes α) (he : Opens P e α) : Opens P t (List α) := by
  intro H enc w held fuel cs x h hw
  rcases Go.Deep.open_slice ht h with ⟨rfl, rfl⟩ | ⟨a, len, cap, m, n, D, Pl, rfl, _, hl, hm, hmm, rfl, hx⟩
  · exact ⟨⟨none, 0, fun _ => r0⟩, [], rfl, ⟨Nat.zero_le _, by simp, fun i x hx => by simp at hx⟩, ⟨by simp, fun x hx => by simp at hx⟩⟩
  · simp at hmm
    subst hmm
    have key : ∀ i, ∃ (p : R α × α), i < m → (∀ j v, (GoRep.enc p.1 p.2)[j]? = some v → w.cell? ((a.add (i * GoRep.n α)).add j) = some v) ∧ ok (fun k => k < w.heap.size) w p.1 p.2 ∧ wf p.2 := fun i => by
      by_cases hi : i < m
      · obtain ⟨cs', h1, h2⟩ := hx i hi
        obtain ⟨r, y, rfl, hok, hwf⟩ := he h2 (fun n hn' => hw n (by
          simp only [DataW.weights, ht, List.mem_cons, List.mem_append]
          by_cases hil : i < len
          · exact .inr (.inl (weightsAll_mem (List.mem_map.2 ⟨i, by simpa using hil, rfl⟩) n hn'))
          · refine .inr (.inr (weightsAll_mem (List.mem_map.2 ⟨i - len, by simp; omega, by rw [show len + (i - len) = i by omega]⟩) n hn'))))
        rw [hn] at h1
        exact ⟨(r, y), fun _ => ⟨(cells?_get h1).2, hok, hwf⟩⟩
      · exact ⟨(r0, default), fun h => absurd h hi⟩
    obtain ⟨f, hf⟩ := Classical.axiomOfChoice key
    have hlen : ((List.range len).map (fun i => (f i).2)).length = len := by simp
    have hby : len * GoRep.bytes α ≤ 140737488351232 := by
      have := hw (m * P.bytesOf e) (by simp [DataW.weights, ht]; left; rw [show len + (m - len) = m by omega])
      have h2 : reachBytes = 140737488351232 - 4096 + 4096 := by decide
      have h3 : reachBytes ≤ 140737488351232 := by decide
      rw [hb] at this
      exact Nat.le_trans (Nat.mul_le_mul_right _ hl) (Nat.le_trans this h3)
    refine ⟨⟨some a, m, fun i => (f i).1⟩, (List.range len).map (fun i => (f i).2), by show _ = [Value.slice (some a) _ m]; rw [hlen], ⟨by rw [hlen]; exact hl, by rw [hlen]; omega, fun i y hy => ?_⟩, ⟨by rw [hlen]; exact hby, fun y hy => ?_⟩⟩
    · have hi : i < len := by have := (List.getElem?_eq_some_iff.1 hy).1; rwa [hlen] at this
      have hy' : y = (f i).2 := by
        rw [List.getElem?_map, List.getElem?_range hi] at hy
        simpa using hy.symm
      subst hy'
      obtain ⟨g1, g2, _⟩ := hf i (by omega)
      have hpos := GoRep.npos (α := α)
      have h0 : ∃ v, (GoRep.enc (f i).1 (f i).2)[0]? = some v := by
        have := GoRep.len (f i).1 (f i).2
        exact ⟨(GoRep.enc (f i).1 (f i).2)[0]'(by omega), by simp [this, hpos]⟩
      obtain ⟨v0, hv0⟩ := h0
      have hc0 := g1 0 v0 hv0
      rw [Addr.add_zero'] at hc0
      have hsp := spot_none hc0
      have ha : a = ⟨a.block, a.off, none⟩ := by
        -- the first element's cell shows that the address is whole
        by_cases hi0 : i * GoRep.n α = 0
        · rw [hi0, Addr.add_zero'] at hsp
          exact hsp.1
        · obtain ⟨g1', _, _⟩ := hf 0 (by omega)
          have h0' : ∃ v, (GoRep.enc (f 0).1 (f 0).2)[0]? = some v := by
            have := GoRep.len (f 0).1 (f 0).2
            exact ⟨(GoRep.enc (f 0).1 (f 0).2)[0]'(by omega), by simp [this, hpos]⟩
          obtain ⟨v1, hv1⟩ := h0'
          have hc1 := g1' 0 v1 hv1
          rw [Addr.add_zero', Nat.zero_mul, Addr.add_zero'] at hc1
          exact (spot_none hc1).1
      have hblk : a.block < w.heap.size := by
        rw [ha, Addr.add_lit] at hsp
        exact hsp.2
      refine ⟨by show some a = some ⟨a.block, a.off, none⟩; rw [← ha], hblk, fun j v hv => ?_, g2⟩
      have := g1 j v hv
      rw [ha, Addr.add_lit, Addr.add_lit] at this
      show w.cell? ⟨a.block, a.off + (i * GoRep.n α + j), none⟩ = some v
      rw [← Nat.add_assoc]
      exact this
    · obtain ⟨i, hi, rfl⟩ := List.mem_map.1 hy
      have : i < len := by simpa using hi
      exact (hf i (by omega)).2.2

/-! structs -/
theorem cut_drop (cs : List Value) (o n : Nat) : cs.drop o = (cs.drop o).take n ++ cs.drop (o + n) := by
  rw [← List.drop_drop]
  exact (List.take_append_drop n (cs.drop o)).symm

theorem weightsEach_mem {H : Type} {P : Program} : ∀ {ts : List TypeId} {ds : List (DataW H)} {j : Nat} {t : TypeId} {d : DataW H}, ts[j]? = some t → ds[j]? = some d → ∀ n ∈ d.weights P t, n ∈ DataW.weightsEach P ts ds :=
  fun ht hd n hn => DataW.weights_mem_each ht hd n hn

/-- One field of a struct that is read. -/
theorem field_opens {fs : Array Field} {α : Type} [GoRep α] [Wf α] (ht : P.underlying t = some (.struct fs)) (i : Nat) {f : Field} (hf : fs[i]? = some f) (ho : Opens P f.type α)
    {H : Type} {enc : TypeId × Value → H} {w : World} {held : Bool} {fuel : Nat} {cs : List Value} {x : DataW H × List MemPlace} (h : DataW.trod enc P w 0 (fun _ => true) held fuel t cs = some x)
    (hw : ∀ n ∈ x.1.weights P t, n ≤ reachBytes) : ∃ (r : R α) (a : α), (cs.drop f.offset).take (P.cellsOf f.type) = GoRep.enc r a ∧ ok (fun k => k < w.heap.size) w r a ∧ wf a := by
  obtain ⟨xs, n, rfl, rfl, hl, hxl, hx⟩ := DataW.trod_struct ht h
  have hi : i < fs.size := (Array.getElem?_eq_some_iff.1 hf).1
  have h1 := hx i f hf
  rw [List.getElem?_eq_getElem (by omega)] at h1
  refine ho h1 (fun n hn => hw n ?_)
  simp only [DataW.weights, ht]
  refine weightsEach_mem (j := i) (t := f.type) (d := (xs[i]'(by omega)).1) ?_ ?_ n hn
  · rw [List.getElem?_map]
    have : fs.toList[i]? = some f := by simpa using hf
    rw [this]; rfl
  · rw [List.getElem?_map, List.getElem?_eq_getElem (by omega)]; rfl
/-- The same, with its place reckoned. -/
theorem field_opens' {fs : Array Field} {α : Type} [GoRep α] [Wf α] (ht : P.underlying t = some (.struct fs)) (i ft o m : Nat) {f : Field} (ho : Opens P ft α) (hf : fs[i]? = some f) (hft : f.type = ft) (hoff : f.offset = o) (hm : P.cellsOf ft = m)
    {H : Type} {enc : TypeId × Value → H} {w : World} {held : Bool} {fuel : Nat} {cs : List Value} {x : DataW H × List MemPlace} (h : DataW.trod enc P w 0 (fun _ => true) held fuel t cs = some x)
    (hw : ∀ n ∈ x.1.weights P t, n ≤ reachBytes) : ∃ (r : R α) (a : α), (cs.drop o).take m = GoRep.enc r a ∧ ok (fun k => k < w.heap.size) w r a ∧ wf a := by
  subst hft hoff hm
  exact field_opens ht i hf ho h hw
theorem struct_len {fs : Array Field} (ht : P.underlying t = some (.struct fs)) {H : Type} {enc : TypeId × Value → H} {w : World} {held : Bool} {fuel : Nat} {cs : List Value} {x : DataW H × List MemPlace}
    (h : DataW.trod enc P w 0 (fun _ => true) held fuel t cs = some x) : cs.length = P.cellsOf t := by
  obtain ⟨xs, n, rfl, rfl, hl, hxl, hx⟩ := DataW.trod_struct ht h
  exact hl
end
end Go.Dc
