/- Engine of the decompiler, part 18: how much is read: the bulk of an argument. -/
import Derived.Test.YtfbpbmnlbcnanaaDoorD11
set_option linter.all false
namespace Go.Dc
open Go.RowKit GoRep Wf

/-- Whatever is read at type t is data of α, of a size that the reading bears. -/
def OpensB (ub : (H : Type) → DataW H → Nat) (P : Program) (t : TypeId) (α : Type) [GoRep α] [Wf α] (sz : α → Nat) : Prop :=
  ∀ {H : Type} {enc : TypeId × Value → H} {w : World} {held : Bool} {fuel : Nat} {cs : List Value} {x : DataW H × List MemPlace}, DataW.trod enc P w 0 (fun _ => true) held fuel t cs = some x →
    (∀ n ∈ x.1.weights P t, n ≤ reachBytes) → ∃ (r : R α) (a : α), cs = GoRep.enc r a ∧ ok (fun k => k < w.heap.size) w r a ∧ wf a ∧ sz a ≤ ub H x.1
section
variable {P : Program} {t e : TypeId} {ub : (H : Type) → DataW H → Nat}
theorem opensB_of {α : Type} [GoRep α] [Wf α] (h : Opens P t α) : OpensB ub P t α (fun _ => 0) := fun hx hw => let ⟨r, a, h1, h2, h3⟩ := h hx hw; ⟨r, a, h1, h2, h3, Nat.zero_le _⟩
theorem opensB_str (ht : P.underlying t = some .string) (hs : ∀ (H : Type) (b : List UInt8), b.length + 1 ≤ ub H (.lit (.string b))) : OpensB ub P t Str (fun s => s.l.length + 1) := fun h hw => by
  obtain ⟨s, rfl, rfl, _⟩ := DataW.trod_string ht h
  refine ⟨(), Str.of s, by show _ = [Value.string (Str.of s).ba]; rw [Str.ba_of], trivial, ?_, hs _ _⟩
  have := hw s.data.toList.length (by simp [DataW.weights])
  exact this
theorem opensB_slice {α : Type} [GoRep α] [Wf α] [Inhabited α] {sz : α → Nat} (r0 : R α) (ht : P.underlying t = some (.slice e)) (hn : P.cellsOf e = GoRep.n α) (hb : P.bytesOf e = GoRep.bytes α) (he : OpensB ub P e α sz) (hs : ∀ (H : Type) (xs ys : List (DataW H)), (xs.map (ub H)).sum + 1 ≤ ub H (.slice xs ys)) (h1 : ∀ (H : Type) (d : DataW H), 1 ≤ ub H d) : OpensB ub P t (List α) (fun xs => (xs.map sz).sum + 1) := by
  intro H enc w held fuel cs x h hw
  rcases Go.Deep.open_slice ht h with ⟨rfl, rfl⟩ | ⟨a, len, cap, m, n, D, Pl, rfl, _, hl, hm, hmm, rfl, hx⟩
  · exact ⟨⟨none, 0, fun _ => r0⟩, [], rfl, ⟨Nat.zero_le _, by simp, fun i x hx => by simp at hx⟩, ⟨by simp, fun x hx => by simp at hx⟩, by simpa using h1 _ _⟩
  · simp at hmm
    subst hmm
    have key : ∀ i, ∃ (p : R α × α), i < m → (∀ j v, (GoRep.enc p.1 p.2)[j]? = some v → w.cell? ((a.add (i * GoRep.n α)).add j) = some v) ∧ ok (fun k => k < w.heap.size) w p.1 p.2 ∧ wf p.2 ∧ sz p.2 ≤ ub H (D i) := fun i => by
      by_cases hi : i < m
      · obtain ⟨cs', h1, h2⟩ := hx i hi
        obtain ⟨r, y, rfl, hok, hwf, hsz⟩ := he h2 (fun n hn' => hw n (by
          simp only [DataW.weights, ht, List.mem_cons, List.mem_append]
          by_cases hil : i < len
          · exact .inr (.inl (weightsAll_mem (List.mem_map.2 ⟨i, by simpa using hil, rfl⟩) n hn'))
          · refine .inr (.inr (weightsAll_mem (List.mem_map.2 ⟨i - len, by simp; omega, by rw [show len + (i - len) = i by omega]⟩) n hn'))))
        rw [hn] at h1
        exact ⟨(r, y), fun _ => ⟨(cells?_get h1).2, hok, hwf, hsz⟩⟩
      · exact ⟨(r0, default), fun h => absurd h hi⟩
    obtain ⟨f, hf⟩ := Classical.axiomOfChoice key
    have hlen : ((List.range len).map (fun i => (f i).2)).length = len := by simp
    have hby : len * GoRep.bytes α ≤ 140737488351232 := by
      have := hw (m * P.bytesOf e) (by simp [DataW.weights, ht]; left; rw [show len + (m - len) = m by omega])
      have h2 : reachBytes = 140737488351232 - 4096 + 4096 := by decide
      have h3 : reachBytes ≤ 140737488351232 := by decide
      rw [hb] at this
      exact Nat.le_trans (Nat.mul_le_mul_right _ hl) (Nat.le_trans this h3)
    refine ⟨⟨some a, m, fun i => (f i).1⟩, (List.range len).map (fun i => (f i).2), by show _ = [Value.slice (some a) _ m]; rw [hlen], ⟨by rw [hlen]; exact hl, by rw [hlen]; omega, fun i y hy => ?_⟩, ⟨by rw [hlen]; exact hby, fun y hy => ?_⟩, ?_⟩
    · have hi : i < len := by have := (List.getElem?_eq_some_iff.1 hy).1; rwa [hlen] at this
      have hy' : y = (f i).2 := by
        rw [List.getElem?_map, List.getElem?_range hi] at hy
        simpa using hy.symm
      subst hy'
      obtain ⟨g1, g2, _⟩ := hf i (by omega)
      have hpos := GoRep.npos (α := α)
      have h0 : ∃ v, (GoRep.enc (f i).1 (f i).2)[0]? = some v := by
        have := GoRep.len (f i).1 (f i).2
        exact ⟨(GoRep.enc (f i).1 (f i).2)[0]'(by omega), by simp [this, hpos]⟩
      obtain ⟨v0, hv0⟩ := h0
      have hc0 := g1 0 v0 hv0
      rw [Addr.add_zero'] at hc0
      have hsp := spot_none hc0
      have ha : a = ⟨a.block, a.off, none⟩ := by
        -- the first element's cell shows that the address is whole
        by_cases hi0 : i * GoRep.n α = 0
        · rw [hi0, Addr.add_zero'] at hsp
          exact hsp.1
        · obtain ⟨g1', _, _⟩ := hf 0 (by omega)
          have h0' : ∃ v, (GoRep.enc (f 0).1 (f 0).2)[0]? = some v := by
            have := GoRep.len (f 0).1 (f 0).2
            exact ⟨(GoRep.enc (f 0).1 (f 0).2)[0]'(by omega), by simp [this, hpos]⟩
          obtain ⟨v1, hv1⟩ := h0'
          have hc1 := g1' 0 v1 hv1
          rw [Addr.add_zero', Nat.zero_mul, Addr.add_zero'] at hc1
          exact (spot_none hc1).1
      have hblk : a.block < w.heap.size := by
        rw [ha, Addr.add_lit] at hsp
        exact hsp.2
      refine ⟨by show some a = some ⟨a.block, a.off, none⟩; rw [← ha], hblk, fun j v hv => ?_, g2⟩
      have := g1 j v hv
      rw [ha, Addr.add_lit, Addr.add_lit] at this
      show w.cell? ⟨a.block, a.off + (i * GoRep.n α + j), none⟩ = some v
      rw [← Nat.add_assoc]
      exact this
    · obtain ⟨i, hi, rfl⟩ := List.mem_map.1 hy
      have : i < len := by simpa using hi
      exact (hf i (by omega)).2.2.1
    · have hsum : ∀ l : List Nat, (∀ i ∈ l, i < m) → ((l.map (fun i => (f i).2)).map sz).sum ≤ ((l.map D).map (ub H)).sum := by
        intro l
        induction l with
        | nil => intro _; simp
        | cons i l ih =>
          intro hl
          have h2 := ih (fun j hj => hl j (List.mem_cons_of_mem _ hj))
          have h3 := (hf i (hl i List.mem_cons_self)).2.2.2
          simp only [List.map_cons, List.sum_cons]
          omega
      have h4 := hsum (List.range len) (fun i hi => by have : i < len := by simpa using hi
                                                       omega)
      refine Nat.le_trans ?_ (hs H _ _)
      exact Nat.add_le_add_right h4 1

end
end Go.Dc
