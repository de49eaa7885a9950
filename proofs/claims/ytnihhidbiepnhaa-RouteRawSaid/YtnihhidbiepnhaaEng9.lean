/- Engine, part 9: a region in whatever order whose last operation waits for all others: what it writes the others may read. -/
import Derived.Test.YtnihhidbiepnhaaEng8
import Derived.StillTail
namespace Go.Eng
open Go.RowKit
section
variable {P : Program} {ops : Array Oper} {Q : Exit → Act → World → Prop} {md : Region.Mode} {S : World → Prop}

/-- Whatever order is picked, and S holds behind every operation but number z. -/
def wpAnyZ (P : Program) (md : Region.Mode) (ops : Array Oper) (Q : Exit → Act → World → Prop) (S : World → Prop) (z : Nat) : Nat → Array Bool → Act → World → Prop
  | 0, listed, a, w => Region.ready md ops listed = [] ∧ Q .normal a w
  | fuel + 1, listed, a, w =>
    (Region.ready md ops listed = [] → Q .normal a w) ∧
    ∀ i ∈ Region.ready md ops listed, wpOp P ops Q i (fun a' w' => (i ≠ z → S w') ∧ wpAnyZ P md ops Q S z fuel (listed.setIfInBounds i true) a' w') a w

theorem wpAny_of_Z {z : Nat} : ∀ (fuel : Nat) (listed : Array Bool) (a : Act) (w : World), wpAnyZ P md ops Q S z fuel listed a w → wpAny P md ops Q fuel listed a w
  | 0, _, _, _, h => h
  | fuel + 1, _, _, _, h => ⟨h.1, fun i hi => wpOp_mono (fun a' w' h' => wpAny_of_Z fuel _ a' w' h'.2) (h.2 i hi)⟩

theorem wpAnyZ_first {z i : Nat} {oi : Oper} {v : Value} (hi : ops[i]? = some oi) (hsel : ∀ (j : Nat) (o : Oper) cs b, ops[j]? = some o → o.op ≠ .select cs b)
    (hQ : ∀ c a w, Q (.panic c) (a.put oi.dst v) w → Q (.panic c) a w) (hs : Region.sinkB md ops z = true) (hc : Region.chainB md ops z = true) (hz : z < ops.size) (hiz : i < z) :
    ∀ (fuel : Nat) (listed : Array Bool) (a : Act) (w : World), HeadInv md ops z listed →
      (∀ j oj, ops[j]? = some oj → j ≠ i → listed.getD j true = false → (∀ e ∈ oj.after, Region.binds md e = true → e.on ≠ i) → oi.apart ops oj = true) →
      i ∈ Region.ready md ops listed → YieldsIf P ops S oi v a → S w →
      wpAnyZ P md ops Q S z fuel (listed.setIfInBounds i true) (a.put oi.dst v) w → wpAnyZ P md ops Q S z (fuel + 1) listed a w := by
  intro fuel
  induction fuel with
  | zero =>
    intro listed a w _ _ hr hy hS H
    refine ⟨fun h => (by rw [h] at hr; cases hr), fun j hj => ?_⟩
    by_cases hji : j = i
    · subst hji; exact hy.wpOp hi hS ⟨fun _ => hS, H⟩
    · have := ready_mono hj hji
      rw [H.1] at this
      cases this
  | succ fuel ih =>
    intro listed a w inv hfree hr hy hS H
    have hun := (mem_ready.1 hr).1
    refine ⟨fun h => (by rw [h] at hr; cases hr), fun j hj => ?_⟩
    by_cases hji : j = i
    · subst hji; exact hy.wpOp hi hS ⟨fun _ => hS, H⟩
    · have h1 := H.2 j (ready_mono hj hji)
      obtain ⟨hjun, oj, hoj, hall⟩ := mem_ready.1 hj
      have hjsz : j < ops.size := (Array.getElem?_eq_some_iff.1 hoj).1
      have hjz : j < z := by
        rcases Nat.lt_or_ge j z with h | h
        · exact h
        · exact absurd hj (tail_waits hs hc hz inv _ i rfl hiz hun j h)
      have hnot : ∀ e ∈ oj.after, Region.binds md e = true → e.on ≠ i := fun e he hb heq => by
        have h1 := hall e he hb
        rw [heq, getD_both hun] at h1
        cases h1
      have h2 := wpOp_putIf hoj (hfree j oj hoj hji hjun hnot) (fun cs b => hsel i oi cs b hi) (fun cs b => hsel j oj cs b hoj) hQ hy h1
      have hfree' : ∀ k ok, ops[k]? = some ok → k ≠ i → (listed.setIfInBounds j true).getD k true = false →
          (∀ e ∈ ok.after, Region.binds md e = true → e.on ≠ i) → oi.apart ops ok = true := fun k ok hk hki hun hno => by
        refine hfree k ok hk hki ?_ hno
        by_cases hjk : j = k
        · subst hjk; exact hjun
        · rw [getD_set_ne true hjk] at hun; exact hun
      refine wpOp_mono (fun a' w' h3 => ⟨h3.2.1, ih (listed.setIfInBounds j true) a' w' (inv.set hj hjz) hfree' (ready_mono hr (Ne.symm hji)) h3.1 (h3.2.1 (by omega)) ?_⟩) h2
      rw [Array.setIfInBounds_comm _ _ hji]
      exact h3.2.2

/-- HeadInv, reckoned. -/
def headB (md : Region.Mode) (ops : Array Oper) (z : Nat) (listed : Array Bool) : Bool :=
  listed.size == ops.size && (List.range ops.size).all (fun j => !listed.getD j false || (match ops[j]? with | some oj => oj.after.all (fun e => !Region.binds md e || listed.getD e.on false) | none => true)) &&
  (List.range ops.size).all (fun t => decide (t < z) || !listed.getD t true)

theorem headB_spec {z : Nat} {listed : Array Bool} (h : headB md ops z listed = true) : HeadInv md ops z listed := by
  unfold headB at h
  simp only [Bool.and_eq_true, beq_iff_eq, List.all_eq_true, List.mem_range, Bool.or_eq_true, Bool.not_eq_true', decide_eq_true_eq] at h
  obtain ⟨⟨h1, h2⟩, h3⟩ := h
  refine ⟨h1, fun j oj hj hl e he hb => ?_, fun t ht ht' => ?_⟩
  · have hlt : j < ops.size := (Array.getElem?_eq_some_iff.1 hj).1
    rcases h2 j hlt with h | h
    · rw [hl] at h; cases h
    · rw [hj] at h
      have := Array.all_eq_true_iff_forall_mem.1 h e he
      simpa [hb] using this
  · rcases h3 t ht' with h | h
    · omega
    · exact h
end

/-- A region in whatever order; z: its last operation, which waits for all others; Hs: the chunks that stay till then. -/
def AZ (P : Program) (n : Nat) (w0 : World) (ops : Array Oper) (K : Act → World → Prop) (Hs : List Chunk) (z fuel : Nat) (listed : Array Bool) (ρ : Env) (H : List Chunk) : Prop :=
  ∀ w a, Mem w0 H w → Ok n ρ a → wpAnyZ P .any ops (fun e a w => e = .normal ∧ K a w) (fun w => Mem w0 Hs w) z fuel listed a w

section
variable {P : Program} {n : Nat} {w0 : World} {ops : Array Oper} {Q : Exit → Act → World → Prop} {ρ : Env} {H : List Chunk} {K : Act → World → Prop} {Hs : List Chunk} {z fuel : Nat} {listed : Array Bool}

theorem az_imp {H' : List Chunk} (h : ∀ w, Mem w0 H w → Mem w0 H' w) (k : AZ P n w0 ops K Hs z fuel listed ρ H') : AZ P n w0 ops K Hs z fuel listed ρ H := fun w a hm ho => k w a (h w hm) ho
theorem az_have {p : Prop} (h : ∀ w, Mem w0 H w → p) (k : p → AZ P n w0 ops K Hs z fuel listed ρ H) : AZ P n w0 ops K Hs z fuel listed ρ H := fun w a hm ho => k (h w hm) w a hm ho

theorem az_done (k : KW n w0 K ρ H) (hr : Region.ready .any ops listed = [] := by kernel_rfl) : AZ P n w0 ops K Hs z fuel listed ρ H := fun w a hm ho => by
  cases fuel with
  | zero => exact ⟨hr, rfl, k w a hm ho⟩
  | succ f => exact ⟨fun _ => ⟨rfl, k w a hm ho⟩, by rw [hr]; simp⟩

/-- The closed facts on the region's last operation. -/
def lastB (ops : Array Oper) (z : Nat) : Bool := Region.sinkB .any ops z && Region.chainB .any ops z && decide (z + 1 = ops.size) && Region.noSelect ops

theorem az_ev {op : Op} {v : Value} {d : Nat} {ty : TypeId} {pos : String} {aft : Array Edge} (i : Nat) (hi : ops[i]? = some ⟨some d, op, ty, pos, aft, none⟩)
    (h : Ev P n w0 Hs ρ true op v) (k : AZ P n w0 ops K Hs z fuel (listed.setIfInBounds i true) ((d, .v v) :: ρ) H)
    (hd : Nat.blt d n = true := by rfl) (h1 : lastB ops z = true := by kernel_rfl) (h0 : headB .any ops z listed = true := by kernel_rfl) (hiz : Nat.blt i z = true := by rfl)
    (h2 : Region.free .any ops listed i = true := by kernel_rfl) (h3 : (Region.ready .any ops listed).contains i = true := by kernel_rfl)
    (himp : ∀ w, Mem w0 H w → Mem w0 Hs w := by (intro w hm; exact hm.sub (by repeat (first | exact List.Sublist.refl _ | apply List.Sublist.cons_cons | apply List.Sublist.cons)))) : AZ P n w0 ops K Hs z (fuel + 1) listed ρ H := by
  intro w a hm ho
  simp only [lastB, Bool.and_eq_true, decide_eq_true_eq] at h1
  refine wpAnyZ_first (v := v) hi (Region.noSelect_spec h1.2) (fun c a w h => by cases h.1) h1.1.1.1 h1.1.1.2 (by omega) (by simpa [Nat.blt_eq] using hiz) fuel listed a w (headB_spec h0) (Region.free_spec hi h2) (by simpa using h3) (.inl ⟨rfl, fun w' hS => ?_⟩) (himp w hm) ?_
  · exact h w' a _ _ _ _ _ hS ho rfl
  · exact k w _ hm (ho.put (by simpa [Nat.blt_eq] using hd) rfl)

theorem az_evg {op : Op} {v : Value} {d j : Nat} {want g : Bool} {ty : TypeId} {pos : String} {aft : Array Edge} (i : Nat) (hi : ops[i]? = some ⟨some d, op, ty, pos, aft, some (j, want)⟩)
    (hg : gof ops ρ j want = some g) (h : Ev P n w0 Hs ρ g op v) (k : AZ P n w0 ops K Hs z fuel (listed.setIfInBounds i true) ((d, .c g v) :: ρ) H)
    (hd : Nat.blt d n = true := by rfl) (h1 : lastB ops z = true := by kernel_rfl) (h0 : headB .any ops z listed = true := by kernel_rfl) (hiz : Nat.blt i z = true := by rfl)
    (h2 : Region.free .any ops listed i = true := by kernel_rfl) (h3 : (Region.ready .any ops listed).contains i = true := by kernel_rfl)
    (himp : ∀ w, Mem w0 H w → Mem w0 Hs w := by (intro w hm; exact hm.sub (by repeat (first | exact List.Sublist.refl _ | apply List.Sublist.cons_cons | apply List.Sublist.cons)))) : AZ P n w0 ops K Hs z (fuel + 1) listed ρ H := by
  intro w a hm ho
  have hw := wanted_of (o := ⟨some d, op, ty, pos, aft, some (j, want)⟩) ho hg rfl
  simp only [lastB, Bool.and_eq_true, decide_eq_true_eq] at h1
  have hd' : d < n := by simpa [Nat.blt_eq] using hd
  cases g with
  | true =>
    refine wpAnyZ_first (v := v) hi (Region.noSelect_spec h1.2) (fun c a w h => by cases h.1) h1.1.1.1 h1.1.1.2 (by omega) (by simpa [Nat.blt_eq] using hiz) fuel listed a w (headB_spec h0) (Region.free_spec hi h2) (by simpa using h3) (.inl ⟨hw, fun w' hS => ?_⟩) (himp w hm) ?_
    · exact h w' a _ _ _ _ _ hS ho rfl
    · exact k w _ hm (ho.put hd' rfl)
  | false =>
    refine wpAnyZ_first (v := undef) hi (Region.noSelect_spec h1.2) (fun c a w h => by cases h.1) h1.1.1.1 h1.1.1.2 (by omega) (by simpa [Nat.blt_eq] using hiz) fuel listed a w (headB_spec h0) (Region.free_spec hi h2) (by simpa using h3) (.inr ⟨hw, rfl⟩) (himp w hm) ?_
    exact k w _ hm (ho.put hd' rfl)

/-- The one operation that may come up, before the last. -/
theorem az_one (i : Nat) {o : Oper} (hi : ops[i]? = some o) (h : StepO P n w0 o ρ H (fun ρ' H' => (∀ w, Mem w0 H' w → Mem w0 Hs w) ∧ AZ P n w0 ops K Hs z fuel (listed.setIfInBounds i true) ρ' H'))
    (hg : o.guard = none := by rfl) (hr : Region.ready .any ops listed = [i] := by kernel_rfl) : AZ P n w0 ops K Hs z (fuel + 1) listed ρ H := by
  intro w a hm ho
  refine ⟨fun h => (by rw [hr] at h; cases h), fun j hj => ?_⟩
  rw [hr] at hj
  simp at hj; subst hj
  unfold wpOp
  simp only [hi, Region.wanted, hg, if_true]
  refine .inl (h _ _ ?_ w a hm ho)
  intro ρ' H' ⟨c1, c2⟩ w' a' hm' ho'
  exact ⟨fun _ => c1 w' hm', c2 w' a' hm' ho'⟩

/-- The last operation. -/
theorem az_last {o : Oper} (hi : ops[z]? = some o) (h : StepO P n w0 o ρ H (AZ P n w0 ops K Hs z fuel (listed.setIfInBounds z true)))
    (hg : o.guard = none := by rfl) (hr : Region.ready .any ops listed = [z] := by kernel_rfl) : AZ P n w0 ops K Hs z (fuel + 1) listed ρ H := by
  intro w a hm ho
  refine ⟨fun h => (by rw [hr] at h; cases h), fun j hj => ?_⟩
  rw [hr] at hj
  simp at hj; subst hj
  unfold wpOp
  simp only [hi, Region.wanted, hg, if_true]
  refine .inl (h _ _ ?_ w a hm ho)
  intro ρ' H' c2 w' a' hm' ho'
  exact ⟨fun hne => absurd rfl hne, c2 w' a' hm' ho'⟩

theorem cw_region_z {id : Nat} {ops : Array Oper} (Hs : List Chunk) (z : Nat) (h : AZ P n w0 ops (fun a w => Q .normal a w) Hs z ops.size (Array.replicate ops.size false) ρ H) (hm : P.follows .mixedOrders = true := by kernel_rfl) :
    CW P n w0 (.region id ops true) Q ρ H := by
  intro w a hmm ho
  have := wp_region_any (id := id) (P := P) (Q := fun e a w => e = .normal ∧ Q .normal a w) hm (wpAny_of_Z _ _ _ _ (h _ a (hmm.drawn (w.drawn + 1)) ho))
  exact wp_mono this (fun e a w hq => by obtain ⟨rfl, hk⟩ := hq; exact hk)
end
end Go.Eng
