/- Engine of the decompiler, part 5: slices of the call's own: made, grown, written, cut; struct values; results. -/
import Derived.Test.YtnihhidbiepnhaaD4
namespace Go.Dc
open Go.RowKit GoRep

/-! ### append, as the model carries it out -/
section
variable {P : Program}

theorem run_first {w : World} {size m : Nat} {src : Option Addr} {len cap : Nat} {cs : List Value} (hl : cs.length = m * size)
    (h : ∀ j v, cs[j]? = some v → src = some ⟨sb src, so src, none⟩ ∧ w.cell? ⟨sb src, so src + j, none⟩ = some v) :
    (Builtin.firstCells size m (.slice src len cap)).run P w = .ok cs.toArray w := by
  cases hc : cs with
  | nil =>
    subst hc
    cases src with
    | none => exact run_firstCells_none w size m len cap
    | some b => exact run_firstCells_some w size m b len cap [] hl (fun j v hv => by simp at hv)
  | cons v0 r =>
    have h0 := h 0 v0 (by rw [hc]; rfl)
    rw [h0.1]
    rw [← hc]
    refine run_firstCells_some w size m _ len cap cs hl (fun j v hv => ?_)
    rw [Addr.add_lit]
    exact (h j v hv).2

theorem run_append_new {w : World} (t ty e : TypeId) (i : TypeInfo) (z : Value) (ht : P.underlying t = some (.slice e)) (hi : P.info? e = some i) (hz : i.zero = some z)
    (base src : Option Addr) (m cap mm c : Nat) (olds news : List Value) (hlo : olds.length = m * i.size) (hl : news.length = mm * i.size)
    (holds : ∀ j v, olds[j]? = some v → base = some ⟨sb base, so base, none⟩ ∧ w.cell? ⟨sb base, so base + j, none⟩ = some v)
    (hnews : ∀ j v, news[j]? = some v → src = some ⟨sb src, so src, none⟩ ∧ w.cell? ⟨sb src, so src + j, none⟩ = some v)
    (hg : cap < m + mm) (h63 : m + mm ≤ 9223372036854775807) (hb : (m + mm) * i.bytes ≤ 140737488355328) :
    ∃ cap' rest, m + mm ≤ cap' ∧ rest = Builtin.zeroCells z.cells (cap' - (m + mm)) ∧ (Builtin.append_ #[t, t] ty #[.slice base m cap, .slice src mm c]).run P w =
      .ok (.slice (some ⟨w.heap.size, 0, none⟩) (m + mm) cap') (w.drew.alloc (.cells (olds.toArray ++ news.toArray ++ rest) e)) := by
  have hn : ¬ (m + mm ≤ cap) := by omega
  have h63' : ¬ (9223372036854775807 < ((m : Int) + (mm : Int))) := by omega
  have hfit : Builtin.nextslicecap (m + mm) cap * i.bytes ≤ 281474976710656 := growslice_fits (by omega) hb
  have h48' : ¬ (281474976710656 < Builtin.nextslicecap (m + mm) cap * i.bytes) := by omega
  have hf := run_first (P := P) (w := w.drew) (size := i.size) (m := mm) (src := src) (len := mm) (cap := c) hl (by simpa using hnews)
  have hfo := run_first (P := P) (w := w.drew) (size := i.size) (m := m) (src := base) (len := m) (cap := cap) hlo (by simpa using holds)
  refine ⟨grownCap w (m + mm) cap e, _, ?_, rfl, ?_⟩
  · unfold grownCap Question.cut
    exact Nat.le_add_right _ _
  · simp [Builtin.append_, run_underlying ht, sizeOf, typeInfo, zeroValue, hi, hz, Builtin.lenOf, hn, h63', h48', Question.forced, hf, hfo, newRow, grownCap]
    congr 2
    apply Array.ext'
    simp [List.append_assoc]

theorem run_append_in {w : World} (t ty e : TypeId) (i : TypeInfo) (ht : P.underlying t = some (.slice e)) (hi : P.info? e = some i)
    (gb o m cap : Nat) (cur : Array Value) (hg : w.heap[gb]? = some (.cells cur e (0, 0))) (src : Option Addr) (mm c : Nat) (news : List Value) (hl : news.length = mm * i.size)
    (hnews : ∀ j v, news[j]? = some v → src = some ⟨sb src, so src, none⟩ ∧ w.cell? ⟨sb src, so src + j, none⟩ = some v) (h1 : ∀ u ∈ news, u.oneCell' = true)
    (hroom : m + mm ≤ cap) (hfit : o + m * i.size + news.length ≤ cur.size) :
    (Builtin.append_ #[t, t] ty #[.slice (some ⟨gb, o, none⟩) m cap, .slice src mm c]).run P w =
      .ok (.slice (some ⟨gb, o, none⟩) (m + mm) cap) (w.setRow gb (cur.toList.take (o + m * i.size) ++ news ++ cur.toList.drop (o + m * i.size + news.length)).toArray) := by
  have hf := run_first (P := P) (w := w) (size := i.size) (m := mm) (src := src) (len := mm) (cap := c) hl hnews
  have hst := run_storeCells_at P gb (o + m * i.size) e news 0 cur w hg (by simpa using hfit) h1
  simp only [Nat.add_zero] at hst
  simp [Builtin.append_, run_underlying ht, sizeOf, typeInfo, hi, Builtin.lenOf, hroom, hf, Addr.add_lit, hst]

theorem run_append_zero {w : World} (t ty e : TypeId) (i : TypeInfo) (ht : P.underlying t = some (.slice e)) (hi : P.info? e = some i) (src : Option Addr) (c : Nat) :
    (Builtin.append_ #[t, t] ty #[.slice none 0 0, .slice src 0 c]).run P w = .ok (.slice none 0 0) w := by
  have hf := run_first (P := P) (w := w) (size := i.size) (m := 0) (src := src) (len := 0) (cap := c) (cs := []) (by simp) (fun j v hv => by simp at hv)
  simp [Builtin.append_, run_underlying ht, sizeOf, typeInfo, hi, Builtin.lenOf, hf]
end

/-- The cells of a list, one element behind the other, from number i on. -/
def encL {α : Type} [GoRep α] (es : Nat → R α) : List α → Nat → List Value
  | [], _ => []
  | x :: xs, i => enc (es i) x ++ encL es xs (i + 1)

section
variable {α : Type} [GoRep α]
theorem encL_len (es : Nat → R α) : ∀ (xs : List α) (i : Nat), (encL es xs i).length = xs.length * n α
  | [], _ => by simp [encL]
  | x :: xs, i => by
    simp only [encL, List.length_append, List.length_cons, encL_len es xs (i + 1), GoRep.len]
    rw [Nat.add_mul]; omega
theorem encL_get (es : Nat → R α) : ∀ (xs : List α) (b i j : Nat) (x : α), xs[i]? = some x → j < n α → (encL es xs b)[i * n α + j]? = (enc (es (b + i)) x)[j]?
  | [], b, i, j, x, h, _ => by simp at h
  | y :: xs, b, 0, j, x, h, hj => by
    simp at h
    subst h
    simp only [encL, Nat.zero_mul, Nat.zero_add, Nat.add_zero]
    rw [List.getElem?_append_left (by rw [GoRep.len]; exact hj)]
  | y :: xs, b, i + 1, j, x, h, hj => by
    have ih := encL_get es xs (b + 1) i j x (by simpa using h) hj
    simp only [encL]
    have : (i + 1) * n α + j = n α + (i * n α + j) := by rw [Nat.add_mul]; omega
    rw [this, List.getElem?_append_right (by rw [GoRep.len]; omega), GoRep.len, Nat.add_sub_cancel_left, ih]
    rw [show b + 1 + i = b + (i + 1) by omega]
theorem encL_one (es : Nat → R α) : ∀ (xs : List α) (b : Nat), ∀ v ∈ encL es xs b, v.oneCell' = true
  | [], _, v, h => by simp [encL] at h
  | x :: xs, b, v, h => by
    simp only [encL, List.mem_append] at h
    rcases h with h | h
    · exact GoRep.one _ _ v h
    · exact encL_one es xs _ v h
/-- Every cell is an element's. -/
theorem encL_split (es : Nat → R α) {xs : List α} {q : Nat} {v : Value} (h : (encL es xs 0)[q]? = some v) : ∃ i j x, q = i * n α + j ∧ j < n α ∧ xs[i]? = some x ∧ (enc (es i) x)[j]? = some v := by
  have hq := (List.getElem?_eq_some_iff.1 h).1
  rw [encL_len] at hq
  have hn := GoRep.npos (α := α)
  have hi : q / n α < xs.length := Nat.div_lt_of_lt_mul (by rw [Nat.mul_comm]; exact hq)
  have he : q = (q / n α) * n α + q % n α := by rw [Nat.mul_comm]; exact (Nat.div_add_mod q (n α)).symm
  refine ⟨q / n α, q % n α, xs[q / n α], he, Nat.mod_lt _ hn, by simp [hi], ?_⟩
  rw [he] at h
  rw [encL_get es xs 0 (q / n α) (q % n α) xs[q / n α] (by simp [hi]) (Nat.mod_lt _ hn)] at h
  simpa using h
end

section
variable {P : Program} {n : Nat} {κ : Ctx} {ρ : Env} {H : List Chunk} {g : Bool} {C : Env → List Chunk → Prop}

def rowInfo (P : Program) (t e sz by_ : Nat) : Bool :=
  (match P.underlying t with | some (.slice e') => e' == e | _ => false) &&
  match P.info? e with
  | some i => i.size == sz && i.bytes == by_ && (match i.zero with | some z => z.cells.size == sz | none => false) && decide (0 < sz)
  | none => false

theorem rowInfo_spec {t e sz by_ : Nat} (h : rowInfo P t e sz by_ = true) : P.underlying t = some (.slice e) ∧ ∃ i z, P.info? e = some i ∧ i.size = sz ∧ i.bytes = by_ ∧ i.zero = some z ∧ z.cells.size = sz ∧ 0 < sz := by
  unfold rowInfo at h
  simp only [Bool.and_eq_true] at h
  obtain ⟨h1, h2⟩ := h
  constructor
  · split at h1
    · rename_i e' hu; rw [hu]; simp at h1; rw [h1]
    · cases h1
  · split at h2
    · rename_i i hi
      simp only [Bool.and_eq_true, beq_iff_eq, decide_eq_true_eq] at h2
      obtain ⟨⟨⟨h3, h4⟩, h5⟩, h6⟩ := h2
      split at h5
      · rename_i z hz; exact ⟨i, z, hi, h3, h4, hz, by simpa using h5, h6⟩
      · cases h5
    · cases h2

theorem zeroCells_size (z : Array Value) (m : Nat) : (Builtin.zeroCells z m).size = m * z.size := by simp [Builtin.zeroCells]

theorem Mem.row_nil {α : Type} [GoRep α] {w : World} (hm : Mem κ H w) (e : TypeId) (es : Nat → R α) : Mem κ (trow e (⟨none, 0, es⟩ : SR (R α)) ([] : List α) :: H) w := by
  obtain ⟨S, hs⟩ := hm
  refine ⟨S, hs.add (Frame.refl _ w) (fun _ h => h) (fun _ h => .inl h) hs.lt ⟨by simp, .inl ⟨rfl, rfl, rfl⟩⟩ ?_⟩
  rintro k ⟨p, hp, _⟩
  cases hp
theorem ow_nilrow {α : Type} [GoRep α] {ops : Array Oper} {Q : Exit → Act → World → Prop} {l : List Oper} (e : TypeId) (es : Nat → R α)
    (k : OW P n κ ops Q l ρ (trow e (⟨none, 0, es⟩ : SR (R α)) ([] : List α) :: H)) : OW P n κ ops Q l ρ H := fun w a hm ho => k w a (hm.row_nil e es) ho
theorem cw_nilrow {α : Type} [GoRep α] {c : Code} {Q : Exit → Act → World → Prop} (e : TypeId) (es : Nat → R α)
    (k : CW P n κ c Q ρ (trow e (⟨none, 0, es⟩ : SR (R α)) ([] : List α) :: H)) : CW P n κ c Q ρ H := fun w a hm ho => k w a (hm.row_nil e es) ho
/-- A nil slice, as immutable data. -/
theorem Mem.imm_nil {α : Type} [GoRep α] {w : World} (hm : Mem κ H w) (es : Nat → R α) : Mem κ (imm (α := List α) (⟨none, 0, es⟩ : SR (R α)) ([] : List α) :: H) w := by
  obtain ⟨S, hs⟩ := hm
  exact ⟨S, hs.add (Frame.refl _ w) (fun _ h => h) (fun _ h => .inl h) hs.lt ⟨Nat.zero_le _, by simp, fun i x hx => by simp at hx⟩ (fun k hk => hk.elim)⟩
theorem Mem.immAdd {α : Type} [GoRep α] {w : World} {r : R α} {x : α} (hm : Mem κ H w) (h : ∀ S, MemS S κ H w → ok S w r x) : Mem κ (imm r x :: H) w := by
  obtain ⟨S, hs⟩ := hm
  exact ⟨S, hs.add (Frame.refl _ w) (fun _ h => h) (fun _ h => .inl h) hs.lt (h S hs) (fun k hk => hk.elim)⟩

/-- A slice of the call's own will not be written any more. -/
theorem Mem.freeze {α : Type} [GoRep α] {e : TypeId} {r : SR (R α)} {xs : List α} {w : World} {H' : List Chunk} (hm : Mem κ H w)
    (hu : Upd H (trow e r xs) (imm (α := List α) r xs) H' := by repeat (first | exact Upd.head | apply Upd.tail)) : Mem κ H' w := by
  obtain ⟨S, hs⟩ := hm
  have h0 := hs.all _ hu.has.mem
  refine ⟨fun k => S k ∨ (trow e r xs).fp k, hs.upd hu (Frame.refl _ w) (fun _ h => .inl h) (fun k hk => hk.elim .inl (fun h => .inr (.inl h))) (fun k hk => hk.elim (hs.lt k) (fun h => (h0.2 k h).1)) (trow_slOk h0.1) (fun k hk => hk.elim)⟩

theorem cells_of_kn {α : Type} [GoRep α] {r : SR (R α)} {xs : List α} (hk : Kn κ H (α := List α) r xs) {w : World} (hm : Mem κ H w) :
    ∀ j v, (encL r.es xs 0)[j]? = some v → r.a = some ⟨sb r.a, so r.a, none⟩ ∧ w.cell? ⟨sb r.a, so r.a + j, none⟩ = some v := fun q v hv => by
  obtain ⟨i, j, x, rfl, hj, hx, hv⟩ := encL_split r.es hv
  obtain ⟨S, hs⟩ := hm
  obtain ⟨L, _, h2⟩ := hk S w hs
  have := h2.2.2 i x hx
  exact ⟨this.1, this.2.2.1 j v hv⟩

/-- append(s, t...) onto a slice of the call's own. -/
theorem st_append {α : Type} [GoRep α] {x y : Operand} {t e sz by_ d : Nat} {ty : TypeId} {pos : String} {aft : Array Edge} {gd : Option (Nat × Bool)} {r r2 : SR (R α)} {xs ys : List α} {m m2 : Nat} {H' : SR (R α) → List Chunk}
    (hu : ∀ r', Upd H (trow e r xs) (trow e r' (xs ++ ys)) (H' r')) (hk : Kn κ H (α := List α) r2 ys)
    (hok : ∀ S w, MemS S κ H w → ∀ i y, ys[i]? = some y → ok S w (r2.es i) y)
    (hb : (xs.length + ys.length) * by_ ≤ 140737488355328)
    (k : ∀ r' : SR (R α), C ((d, .v (.slice r'.a (xs ++ ys).length r'.cap)) :: ρ) (H' r'))
    (hx : Gets ρ true x (.slice r.a m r.cap) := by first | exact .plain rfl | exact .cond rfl id | exact .cond rfl gl) (hy : Gets ρ true y (.slice r2.a m2 r2.cap) := by first | exact .plain rfl | exact .cond rfl id | exact .cond rfl gl)
    (hm1 : m = xs.length := by first | rfl | simp only [List.length_set, List.length_append, List.length_replicate]) (hm2 : m2 = ys.length := by first | rfl | simp only [List.length_set, List.length_append, List.length_replicate])
    (hd : Nat.blt d n = true := by rfl) (hsz : GoRep.n α = sz := by rfl) (hby : GoRep.bytes α = by_ := by rfl) (hi : rowInfo P t e sz by_ = true := by kernel_rfl) :
    StepO P n κ ⟨some d, .call { callee := .builtin .append, args := #[x, y], argTypes := #[t, t] }, ty, pos, aft, gd⟩ ρ H C := by
  subst hm1 hm2
  intro K Q hs w act hm ho
  obtain ⟨hut, i, z, hi', hisz, hiby, hz, hzs, hpos⟩ := rowInfo_spec hi
  obtain ⟨cs, hcs⟩ := exec_builtin2 act.eval .append x y #[t, t] (some d) ty pos aft gd
  have hnews := cells_of_kn hk hm
  obtain ⟨S, hms⟩ := hm
  have hφ := (hu r).has.φ hms
  have hin := (hms.all _ (hu r).has.mem).2
  have hbp := GoRep.bpos (α := α)
  have h63 : xs.length + ys.length ≤ 9223372036854775807 := by
    have : (xs.length + ys.length) * 1 ≤ (xs.length + ys.length) * by_ := Nat.mul_le_mul_left _ (by omega)
    omega
  have hlen : (xs ++ ys).length = xs.length + ys.length := List.length_append
  let es' : Nat → R α := fun q => if q < xs.length then r.es q else r2.es (q - xs.length)
  have hnl : (encL r2.es ys 0).length = ys.length * i.size := by rw [encL_len, hisz, hsz]
  have fin : ∀ (a' : Option Addr) (cap' : Nat) (w' : World), (builtin .append #[t, t] ty cs #[.slice r.a xs.length r.cap, .slice r2.a ys.length r2.cap]).run P w = .ok (.value (.slice a' (xs.length + ys.length) cap')) w' →
      Frame (trow e r xs).fp w w' → (trow e (⟨a', cap', es'⟩ : SR (R α)) (xs ++ ys)).φ S w' → (∀ p, a' = some p → (((trow e r xs).fp p.block ∨ w.heap.size ≤ p.block) ∧ p.block < w'.heap.size)) →
      Oper.wp P ⟨some d, .call { callee := .builtin .append, args := #[x, y], argTypes := #[t, t] }, ty, pos, aft, gd⟩ act w K Q := by
    intro a' cap' w' hrun hfr hφ' hfp
    unfold Oper.wp
    rw [hcs, hx.eval ho rfl, hy.eval ho rfl, hrun]
    have hv : (.slice a' (xs.length + ys.length) cap' : Value) = .slice (⟨a', cap', es'⟩ : SR (R α)).a (xs ++ ys).length (⟨a', cap', es'⟩ : SR (R α)).cap := by rw [hlen]
    refine hs _ _ (k ⟨a', cap', es'⟩) w' _ ⟨S, hms.upd (hu _) hfr (fun _ h => h) (fun _ h => .inl h) (fun k hk => Nat.lt_of_lt_of_le (hms.lt k hk) hfr.size) hφ' ?_⟩ (ho.put (by simpa [Nat.blt_eq] using hd) (congrArg some hv))
    rintro kk ⟨p, hp, rfl⟩
    obtain ⟨h1, h2⟩ := hfp p hp
    refine ⟨h1, h2, fun hsk => ?_⟩
    rcases h1 with h1 | h1
    · exact (hin _ h1).2.1 hsk
    · have := hms.lt _ hsk; omega
  have okall : ∀ (w' : World), (∀ k, S k → w'.heap[k]? = w.heap[k]?) → ∀ q y, (xs ++ ys)[q]? = some y → (∀ q x, xs[q]? = some x → ok S w (r.es q) x) → ok S w' (es' q) y := by
    intro w' hw' q y hq hxs
    refine GoRep.dep S w w' _ _ hw' ?_
    by_cases hlt : q < xs.length
    · simp only [es', hlt, if_true]
      exact hxs q y (by rwa [List.getElem?_append_left hlt] at hq)
    · simp only [es', hlt, if_false]
      exact hok S w hms (q - xs.length) y (by rwa [List.getElem?_append_right (by omega)] at hq)
  have growcase : ∀ (olds : List Value), olds = encL r.es xs 0 → (∀ j v, olds[j]? = some v → r.a = some ⟨sb r.a, so r.a, none⟩ ∧ w.cell? ⟨sb r.a, so r.a + j, none⟩ = some v) →
      (∀ q x, xs[q]? = some x → ok S w (r.es q) x) → r.cap < xs.length + ys.length → Oper.wp P ⟨some d, .call { callee := .builtin .append, args := #[x, y], argTypes := #[t, t] }, ty, pos, aft, gd⟩ act w K Q := by
    intro olds hol holds hxs hgrow
    obtain ⟨cap', rest, hcap, hrest, hrun⟩ := run_append_new (P := P) t ty e i z hut hi' hz r.a r2.a xs.length r.cap ys.length r2.cap olds (encL r2.es ys 0) (by rw [hol, encL_len, hisz, hsz]) hnl holds hnews hgrow h63 (by rw [hiby]; exact hb)
    have hw' : ∀ k, k < w.heap.size → (w.drew.alloc (.cells (olds.toArray ++ (encL r2.es ys 0).toArray ++ rest) e)).heap[k]? = w.heap[k]? := fun k hk => Below.heap_alloc w.drew _ k hk
    refine fin (some ⟨w.heap.size, 0, none⟩) cap' _ (run_value hrun) ⟨rfl, rfl, rfl, by simp, fun k hk _ => hw' k hk⟩ ⟨by rw [hlen, hby]; exact hb, .inr ⟨w.heap.size, 0, olds.toArray ++ (encL r2.es ys 0).toArray ++ rest, rfl, ?_, by rw [hlen]; exact hcap, ?_, ?_⟩⟩ ?_
    · show (w.heap.push _)[w.heap.size]? = _
      simp
    · simp only [Array.size_append, List.size_toArray, hrest, zeroCells_size, hol, encL_len, hzs]
      show 0 + cap' * GoRep.n α ≤ _
      rw [hsz, ← Nat.add_mul, ← Nat.add_mul]
      have : xs.length + ys.length + (cap' - (xs.length + ys.length)) = cap' := by omega
      rw [this]; omega
    · intro q u hq
      refine ⟨fun j v hv => ?_, okall _ (fun k hk => hw' k (hms.lt k hk)) q u hq hxs⟩
      have hj : j < GoRep.n α := by have := (List.getElem?_eq_some_iff.1 hv).1; rwa [GoRep.len] at this
      have hL : (olds.toArray ++ (encL r2.es ys 0).toArray ++ rest)[0 + (q * GoRep.n α + j)]? = (encL es' (xs ++ ys) 0 ++ rest.toList)[q * GoRep.n α + j]? := by
        have hcat : encL es' (xs ++ ys) 0 = encL r.es xs 0 ++ encL r2.es ys 0 := by
          have gen : ∀ (l : List α) (b : Nat), b + l.length = xs.length → encL es' (l ++ ys) b = encL r.es l b ++ encL es' ys xs.length := by
            intro l
            induction l with
            | nil => intro b hb; simp at hb; subst hb; simp [encL]
            | cons x0 l ih =>
              intro b hb
              simp only [List.length_cons] at hb
              simp only [List.cons_append, encL]
              rw [ih (b + 1) (by omega)]
              have : es' b = r.es b := by simp only [es']; rw [if_pos (by omega)]
              rw [this, List.append_assoc]
          have gen2 : ∀ (l : List α) (b : Nat), encL es' l (xs.length + b) = encL r2.es l b := by
            intro l
            induction l with
            | nil => intro b; rfl
            | cons y0 l ih =>
              intro b
              simp only [encL]
              have : es' (xs.length + b) = r2.es b := by
                simp only [es']
                rw [if_neg (by omega), Nat.add_sub_cancel_left]
              rw [this, ← ih (b + 1), Nat.add_assoc]
          rw [gen xs 0 (by omega)]
          have := gen2 ys 0
          rw [Nat.add_zero] at this
          rw [this]
        rw [hcat, hol, Nat.zero_add]
        rw [← Array.getElem?_toList]
        simp
      rw [hL]
      have hlt : q * GoRep.n α + j < (encL es' (xs ++ ys) 0).length := by
        rw [encL_len]
        have hq' := (List.getElem?_eq_some_iff.1 hq).1
        calc q * GoRep.n α + j < q * GoRep.n α + GoRep.n α := by omega
          _ = (q + 1) * GoRep.n α := by rw [Nat.add_mul]; omega
          _ ≤ _ := Nat.mul_le_mul_right _ hq'
      rw [List.getElem?_append_left hlt, encL_get es' _ 0 q j u hq hj, Nat.zero_add]
      exact hv
    · intro p hp
      cases hp
      exact ⟨.inr (Nat.le_refl _), by show w.heap.size < (w.heap.push _).size; simp⟩
  rcases hφ.2 with ⟨ha, hxs0, hc0⟩ | ⟨gb, o, cur, ha, hgb, h3, h4, h5⟩
  · subst hxs0
    by_cases hy0 : ys.length = 0
    · have : ys = [] := List.length_eq_zero_iff.1 hy0
      subst this
      refine fin none 0 w ?_ (Frame.refl _ w) ⟨by simp, .inl ⟨rfl, rfl, rfl⟩⟩ (fun p hp => by cases hp)
      rw [ha, hc0]
      exact run_value (run_append_zero (P := P) t ty e i hut hi' r2.a r2.cap)
    · exact growcase [] rfl (fun j v hv => by simp at hv) (fun q x hq => by simp at hq) (by rw [hc0]; simp; omega)
  · have holds : ∀ j v, (encL r.es xs 0)[j]? = some v → r.a = some ⟨sb r.a, so r.a, none⟩ ∧ w.cell? ⟨sb r.a, so r.a + j, none⟩ = some v := fun q v hv => by
      obtain ⟨i', j, x', rfl, hj, hx', hv⟩ := encL_split r.es hv
      rw [ha]
      refine ⟨rfl, ?_⟩
      show w.cell? ⟨gb, o + _, none⟩ = some v
      simp [World.cell?, hgb, (h5 i' x' hx').1 j v hv]
    by_cases hroom : xs.length + ys.length ≤ r.cap
    · have hfit : o + xs.length * i.size + (encL r2.es ys 0).length ≤ cur.size := by
        rw [hnl, hisz, ← hsz, Nat.add_assoc, ← Nat.add_mul]
        exact Nat.le_trans (Nat.add_le_add_left (Nat.mul_le_mul_right _ hroom) _) h4
      have hrun := run_append_in (P := P) (w := w) t ty e i hut hi' gb o xs.length r.cap cur hgb r2.a ys.length r2.cap (encL r2.es ys 0) hnl hnews (encL_one _ _ _) hroom hfit
      have hval : (.slice (some ⟨gb, o, none⟩) (xs.length + ys.length) r.cap : Value) = .slice r.a (xs.length + ys.length) r.cap := by rw [ha]
      refine fin r.a r.cap (w.setRow gb (cur.toList.take (o + xs.length * i.size) ++ encL r2.es ys 0 ++ cur.toList.drop (o + xs.length * i.size + (encL r2.es ys 0).length)).toArray) ?_ ?_ ?_ ?_
      · have := run_value (P := P) hrun
        rw [hval] at this
        rw [ha] at this ⊢
        exact this
      · refine ⟨rfl, rfl, rfl, by simp [World.setRow], fun k _ hn => ?_⟩
        have hne : gb ≠ k := fun h => hn ⟨_, ha, h.symm⟩
        simp [World.setRow, Array.getElem?_modify, hne]
      · refine ⟨by rw [hlen, hby]; exact hb, .inr ⟨gb, o, _, ha, setRow_heap w gb cur _ e (0, 0) hgb, by rw [hlen]; exact hroom, ?_, ?_⟩⟩
        · have hc : (cur.toList.take (o + xs.length * i.size) ++ encL r2.es ys 0 ++ cur.toList.drop (o + xs.length * i.size + (encL r2.es ys 0).length)).toArray.size = cur.size := by
            simp only [List.size_toArray, List.length_append, List.length_take, List.length_drop, Array.length_toList]
            omega
          rw [hc]; exact h4
        · intro q u hq
          refine ⟨fun j v hv => ?_, okall _ (fun k hk => ?_) q u hq (fun q x hq => (h5 q x hq).2)⟩
          · have hj : j < GoRep.n α := by have := (List.getElem?_eq_some_iff.1 hv).1; rwa [GoRep.len] at this
            simp only [List.getElem?_toArray]
            have hpre : (cur.toList.take (o + xs.length * i.size)).length = o + xs.length * i.size := by
              have hcl : cur.toList.length = cur.size := Array.length_toList
              rw [List.length_take, hcl]; omega
            by_cases hlt : q < xs.length
            · simp only [es', hlt, if_true] at hv
              have hq' : xs[q]? = some u := by rwa [List.getElem?_append_left hlt] at hq
              have hpos' : o + (q * GoRep.n α + j) < o + xs.length * i.size := by
                rw [hisz, ← hsz]
                have : q * GoRep.n α + GoRep.n α ≤ xs.length * GoRep.n α := by
                  rw [← Nat.succ_mul]; exact Nat.mul_le_mul_right _ hlt
                omega
              rw [List.append_assoc, List.getElem?_append_left (by rw [hpre]; exact hpos'), List.getElem?_take, if_pos hpos']
              have := (h5 q u hq').1 j v hv
              simpa using this
            · simp only [es', hlt, if_false] at hv
              have hq' : ys[q - xs.length]? = some u := by rwa [List.getElem?_append_right (by omega)] at hq
              have e1 : o + (q * GoRep.n α + j) = (o + xs.length * i.size) + ((q - xs.length) * GoRep.n α + j) := by
                rw [hisz, ← hsz, Nat.sub_mul]
                have : xs.length * GoRep.n α ≤ q * GoRep.n α := Nat.mul_le_mul_right _ (by omega)
                omega
              have hlt2 : (q - xs.length) * GoRep.n α + j < (encL r2.es ys 0).length := by
                rw [encL_len]
                have hq2 := (List.getElem?_eq_some_iff.1 hq').1
                have : (q - xs.length) * GoRep.n α + GoRep.n α ≤ ys.length * GoRep.n α := by
                  rw [← Nat.succ_mul]; exact Nat.mul_le_mul_right _ hq2
                omega
              rw [e1, List.append_assoc, List.getElem?_append_right (by rw [hpre]; omega), hpre, Nat.add_sub_cancel_left, List.getElem?_append_left hlt2, encL_get r2.es ys 0 _ j u hq' hj, Nat.zero_add]
              exact hv
          · have hne : gb ≠ k := fun h => by
              subst h
              exact (hin gb ⟨_, ha, rfl⟩).2.1 hk
            simp [World.setRow, Array.getElem?_modify, hne]
      · intro p hp
        refine ⟨.inl ⟨p, hp, rfl⟩, ?_⟩
        have := (hin p.block ⟨p, hp, rfl⟩).1
        simpa [World.setRow] using this
    · exact growcase _ rfl holds (fun q x hq => (h5 q x hq).2) (by omega)
end
end Go.Dc
