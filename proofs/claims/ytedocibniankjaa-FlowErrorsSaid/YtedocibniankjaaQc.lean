/- Plain laws of chapter 27: Cut returns a set that no flow satisfies. -/
import Derived.Test.YtedocibniankjaaQa
import Derived.Test.YtedocibniankjaaPx
namespace Go.Proofs.Ytedocibniankjaa
open Go.Dc

/-- The numbers of the true members. -/
def trs : List Bool → Int → List Int
  | [], _ => []
  | b :: r, o => if b then o :: trs r (o + 1) else trs r (o + 1)

/-- The rest of a list of the true members behind one of them. -/
def Asc (n : Int) (inn : List Bool) : Int → List Int → Prop
  | last, [] => ∀ w : Int, last < w → w < n → gb inn w = false
  | last, v :: r => last < v ∧ v < n ∧ gb inn v = true ∧ (∀ w : Int, last < w → w < v → gb inn w = false) ∧ Asc n inn v r

theorem trs_asc (inn : List Bool) : ∀ (r : List Bool) (t : Nat) (last : Int), inn.drop t = r → -1 ≤ last → last < t → (∀ w : Int, last < w → w < t → gb inn w = false) → Asc inn.length inn last (trs r t)
  | [], t, last, h, _, _, hw => by
    intro w w0 w1
    have : inn.length ≤ t := by have := congrArg List.length h; simp at this; omega
    exact hw w w0 (by omega)
  | b :: r, t, last, h, h0, h1, hw => by
    have hlt : t < inn.length := by
      refine Classical.byContradiction fun hge => ?_
      rw [List.drop_eq_nil_of_le (by omega)] at h; cases h
    have hd := List.drop_eq_getElem_cons hlt
    rw [hd] at h
    obtain ⟨e1, e2⟩ := List.cons.inj h
    have gt : gb inn t = b := by unfold gb; simp [hlt, e1]
    have next := fun last' (a : -1 ≤ last') (b' : last' < ((t + 1 : Nat) : Int)) c => trs_asc inn r (t + 1) last' e2 a b' c
    unfold trs
    cases b with
    | true =>
      rw [if_pos rfl]
      exact ⟨h1, by omega, gt, hw, by
        have := next t (by omega) (by omega) (fun w w0 w1 => by omega)
        rwa [show ((t + 1 : Nat) : Int) = (t : Int) + 1 by omega] at this⟩
    | false =>
      rw [if_neg (by decide)]
      have := next last h0 (by omega) (fun w w0 w1 => by
        by_cases e : w = t
        · rw [e]; exact gt
        · exact hw w w0 (by omega))
      rwa [show ((t + 1 : Nat) : Int) = (t : Int) + 1 by omega] at this

theorem trs_len : ∀ (r : List Bool) (o : Int), (trs r o).length ≤ r.length
  | [], _ => Nat.le_refl _
  | b :: r, o => by
    have := trs_len r (o + 1)
    unfold trs
    split <;> simp only [List.length_cons] <;> omega

theorem excess_val (g : Graph) (V : Valid g) (inn : List Bool) (hin : inn.length = g.Supply.length) : ref24_Excess_m g (trs inn 0) = some (cutv g (gb inn)) := by
  have n1 := V.n1
  have n2 := V.n2
  have m := V.m
  have tl := trs_len inn 0
  rw [excess_eq g _ (by omega)]
  have : WP (flow_Excess_m g (trs inn 0)) (fun y => y = cutv g (gb inn)) := by
    unfold flow_Excess_m
    refine wp_eq (by rw [check_m, (valid_iff g).2 V]) (wp_ite (fun h => by cases h) (fun _ => ?_))
    rw [mk_bool (by omega) (by omega)]
    simp only [Option.bind_some]
    have asc0 := trs_asc inn inn 0 (-1) rfl (by omega) (by omega) (fun w _ _ => by omega)
    refine wp_iter (fun (t : List Bool × Int × Int × Nat) => t.2.2.2 ≤ (trs inn 0).length ∧ t.1.length = g.Supply.length ∧ -1 ≤ t.2.1 ∧ t.2.1 < g.Supply.length ∧ Asc inn.length inn t.2.1 ((trs inn 0).drop t.2.2.2) ∧
        (∀ w : Int, 0 ≤ w → w < g.Supply.length → gb t.1 w = if w ≤ t.2.1 then gb inn w else false) ∧ t.2.2.1 = sumTo (fun v => if gb inn v then gi g.Supply v else 0) (t.2.1 + 1).toNat ∧ -(1048576 * (t.2.1 + 1)) ≤ t.2.2.1 ∧ t.2.2.1 ≤ 1048576 * (t.2.1 + 1))
      (fun t => 1000 - t.2.2.2) _ ?_ FUEL _ ⟨Nat.zero_le _, by simp, by simp only; omega, by simp only; omega, asc0, ?_, rfl, by simp only; omega, by simp only; omega⟩ (fuel_of (by simp only; omega))
    · rintro c ⟨l, last, s, t⟩ ⟨ht, hl, b0, b1, hA, hg, hs, s0, s1⟩ hc
      simp only at ht hl b0 b1 hA hg hs s0 s1 hc
      simp only [flow_Excess_b1]
      refine wp_ite (fun h => ?_) (fun h => ?_)
      · simp only [decide_eq_true_eq] at h
        have hlt : t < (trs inn 0).length := by omega
        have hd := List.drop_eq_getElem_cons hlt
        rw [hd] at hA
        obtain ⟨a1, a2, a3, a4, a5⟩ := hA
        refine wp_idx (x := (trs inn 0)[t]) (by omega) (by simp [hlt]) ?_
        generalize (trs inn 0)[t] = v at a1 a2 a3 a4 a5
        refine wp_ite (fun h' => ?_) (fun h' => ?_)
        · simp only [Bool.or_eq_true, decide_eq_true_eq] at h'
          omega
        · refine wp_idxb (by omega) (wp_idxi (by omega) ?_)
          have sb := V.sup _ (gi_mem (l := g.Supply) (i := v) (by omega) (by omega))
          refine wp_i64 (by omega) (hc _ ⟨by simp only; omega, by simp only [List.length_set]; exact hl, by simp only; omega, by simp only; omega, a5, ?_, ?_, by simp only; omega, by simp only; omega⟩ (by simp only; omega))
          · intro w w0 w1
            simp only
            rw [gb_set _ _ _ _ (by omega) w0 (by omega)]
            by_cases e : w = v
            · rw [if_pos e, if_pos (by omega), e, a3]
            · rw [if_neg e, hg w w0 w1]
              by_cases e2 : w ≤ last
              · rw [if_pos e2, if_pos (by omega)]
              · rw [if_neg e2]
                by_cases e3 : w ≤ v
                · rw [if_pos e3, a4 w (by omega) (by omega)]
                · rw [if_neg e3]
          · simp only
            have key : ∀ k : Nat, (last + 1).toNat + k ≤ v.toNat → sumTo (fun v => if gb inn v then gi g.Supply v else 0) ((last + 1).toNat + k) = s := by
              intro k
              induction k with
              | zero => intro _; exact hs.symm
              | succ k ih =>
                intro hk
                rw [← Nat.add_assoc, sumTo, ih (by omega), a4 _ (by omega) (by omega)]
                simp
            have := key (v.toNat - (last + 1).toNat) (by omega)
            rw [show (last + 1).toNat + (v.toNat - (last + 1).toNat) = v.toNat by omega] at this
            rw [show (v + 1).toNat = v.toNat + 1 by omega, sumTo, this, show ((v.toNat : Nat) : Int) = v by omega, a3]
            simp
      · simp only [decide_eq_false_iff_not] at h
        have hnil : (trs inn 0).drop t = [] := List.drop_eq_nil_of_le (by omega)
        rw [hnil] at hA
        have hgl : ∀ w : Int, 0 ≤ w → w < g.Supply.length → gb l w = gb inn w := fun w w0 w1 => by
          rw [hg w w0 w1]
          split
          · rfl
          · exact (hA w (by omega) (by omega)).symm
        have hsum : s = sumTo (fun v => if gb inn v then gi g.Supply v else 0) g.Supply.length := by
          have key : ∀ k : Nat, (last + 1).toNat + k ≤ g.Supply.length → sumTo (fun v => if gb inn v then gi g.Supply v else 0) ((last + 1).toNat + k) = s := by
            intro k
            induction k with
            | zero => intro _; exact hs.symm
            | succ k ih =>
              intro hk
              rw [← Nat.add_assoc, sumTo, ih (by omega), hA _ (by omega) (by omega)]
              simp
          have := key (g.Supply.length - (last + 1).toNat) (by omega)
          rw [show (last + 1).toNat + (g.Supply.length - (last + 1).toNat) = g.Supply.length by omega] at this
          exact this.symm
        simp only [flow_Excess_k1]
        refine wp_iter (fun (t : Int × Nat) => t.2 ≤ g.Arcs.length ∧ t.1 = s - sumTo (fun i => if gb inn (ar g.Arcs i).From && !gb inn (ar g.Arcs i).To then (ar g.Arcs i).Cap else 0) t.2 ∧ s - 1048576 * (t.2 : Int) ≤ t.1 ∧ t.1 ≤ s)
          (fun t => 10000 - t.2) _ ?_ FUEL _ ⟨Nat.zero_le _, by simp [sumTo], by simp, by simp⟩ (fuel_of (by simp only; omega))
        rintro c2 ⟨x, i⟩ ⟨hi, hx, x0, x1⟩ hc2
        simp only at hi hx x0 x1 hc2
        simp only [flow_Excess_b2]
        refine wp_ite (fun h2 => ?_) (fun h2 => ?_)
        · simp only [decide_eq_true_eq] at h2
          have hlt : i < g.Arcs.length := by omega
          have ea : ar g.Arcs i = g.Arcs[i] := ar_get (by simp [hlt])
          obtain ⟨v1, v2, v3, v4, v5, v6, v7, _⟩ := V.arc _ (List.getElem_mem hlt)
          rw [← ea] at v1 v2 v3 v4 v5 v6 v7
          refine wp_idx (x := g.Arcs[i]) (by omega) (by simp [hlt]) ?_
          rw [← ea]
          refine wp_idxb (by omega) ?_
          rw [hgl _ v1 v2]
          have go : ∀ y, y = x - (if gb inn (ar g.Arcs i).From && !gb inn (ar g.Arcs i).To then (ar g.Arcs i).Cap else 0) → WP (flow_Excess_k3 c2 i y) (fun y => y = cutv g (gb inn)) := by
            intro y hy
            refine hc2 _ ⟨by simp only; omega, ?_, ?_, ?_⟩ (by simp only; omega)
            · simp only; rw [sumTo, hy, hx]; omega
            · simp only; rw [hy]; split <;> omega
            · simp only; rw [hy]; split <;> omega
          cases hF : gb inn (ar g.Arcs i).From with
          | false =>
            refine wp_whn (fun h => by cases h) (fun _ => wp_ite (fun h => by cases h) (fun _ => go _ ?_))
            rw [hF]; simp
          | true =>
            refine wp_whn (fun _ => ?_) (fun h => by cases h)
            refine wp_idxb (by omega) ?_
            rw [hgl _ v3 v4]
            refine wp_ite (fun hT => ?_) (fun hT => ?_)
            · refine wp_i64 (by omega) (go _ ?_)
              rw [hF]
              simp only [Bool.true_and, Bool.not_eq_true'] at hT
              rw [hT]; rfl
            · refine go _ ?_
              rw [hF]
              simp only [Bool.true_and, Bool.not_eq_false'] at hT
              rw [hT]; simp
        · simp only [decide_eq_false_iff_not] at h2
          obtain rfl : i = g.Arcs.length := by omega
          refine wp_some ?_
          unfold cutv
          omega
    · intro w w0 w1
      simp only
      rw [gb_rep _ _ _ w0 (by omega), if_neg (by omega)]
  obtain ⟨y, h1, rfl⟩ := this
  exact h1

/-! ### Cut -/

theorem visit_wp {n : Int} {inn : List Bool} {q : List Int} {v : Int} (hl : (inn.length : Int) = n) (hq : q.length ≤ 1000) (v0 : 0 ≤ v) (v1 : v < n) :
    WP (flow_residual_cut_c1_m v inn q) (fun y => (gb inn v = true ∧ y = (inn, q)) ∨ (gb inn v = false ∧ y = (inn.set v.toNat true, q ++ [v]))) := by
  unfold flow_residual_cut_c1_m
  refine wp_idxb (by omega) (wp_ite (fun h => ?_) (fun h => ?_))
  · simp only [Bool.not_eq_true'] at h
    exact wp_idxb (by omega) (wp_chk (by simp; omega) (wp_some (Or.inr ⟨h, rfl⟩)))
  · simp only [Bool.not_eq_false'] at h
    exact wp_some (Or.inl ⟨h, rfl⟩)

/-- While the set is sought: S is a set that it stays in. -/
structure BI (g : Graph) (S : Int → Bool) (inn : List Bool) (q : List Int) : Prop where
  l : inn.length = g.Supply.length
  q1 : ∀ v ∈ q, 0 ≤ v ∧ v < g.Supply.length ∧ gb inn v = true
  s : ∀ v : Int, 0 ≤ v → v < g.Supply.length → gb inn v = true → S v = true
  c : q.length + inn.count false ≤ g.Supply.length

theorem BI.visit {g : Graph} {S : Int → Bool} {inn : List Bool} {q : List Int} (B : BI g S inn q) {v : Int} (v0 : 0 ≤ v) (v1 : v < g.Supply.length) (hv : gb inn v = false) (hS : S v = true) : BI g S (inn.set v.toNat true) (q ++ [v]) := by
  have hl := B.l
  have gs : ∀ w : Int, 0 ≤ w → gb (inn.set v.toNat true) w = if w = v then true else gb inn w := fun w w0 => gb_set _ _ _ _ v0 w0 (by omega)
  refine ⟨by rw [List.length_set]; exact hl, ?_, ?_, ?_⟩
  · intro w hw
    rw [List.mem_append, List.mem_singleton] at hw
    rcases hw with hw | rfl
    · obtain ⟨a, b, c⟩ := B.q1 w hw
      refine ⟨a, b, ?_⟩
      rw [gs w a]; split
      · rfl
      · exact c
    · exact ⟨v0, v1, by rw [gs w v0, if_pos rfl]⟩
  · intro w w0 w1 hw
    rw [gs w w0] at hw
    by_cases e : w = v
    · rw [e]; exact hS
    · rw [if_neg e] at hw; exact B.s w w0 w1 hw
  · have := count_mark (l := inn) (v := v) (by omega) v0 hv
    have := B.c
    simp only [List.length_append, List.length_singleton]
    omega

theorem cut_wp {g : Graph} (V : Valid g) {fr : List (List Int)} {left exc price : List Int} (F : Solved g fr left exc price) (hnf : ∃ i : Int, (g.Arcs.length : Int) ≤ i ∧ i < (arcsOf g).length ∧ 0 < gi left (2 * i + 1)) :
    WP (flow_residual_cut_m (Flow_residual.mk g.Supply.length g.Arcs.length (toL (arcsOf g)) left (costL (arcsOf g)) fr exc price)) (fun set => ∃ inn : List Bool, inn.length = g.Supply.length ∧ set = trs inn 0 ∧ 0 < cutv g (gb inn)) := by
  obtain ⟨C, c⟩ := F.c
  obtain ⟨S, s1, s2, s3, s4⟩ := F.gap V
  have n1 := V.n1
  have n2 := V.n2
  have m := V.m
  have len := c.s.len
  have ll := c.d.ll
  have tl := toL_len (arcsOf g)
  have lf := c.s.lf
  unfold flow_residual_cut_m
  simp only
  rw [mk_bool (by omega) (by omega)]
  simp only [Option.bind_some]
  refine wp_iter (fun (t : List Bool × List Int × Nat) => t.2.2 ≤ g.Supply.length ∧ BI g S t.1 t.2.1 ∧ (∀ v : Int, 0 ≤ v → v < t.2.2 → 0 < gi left (2 * (g.Arcs.length + 2 * v) + 1) → gb t.1 v = true) ∧ (∀ v : Int, 0 ≤ v → v < g.Supply.length → gb t.1 v = true → v ∈ t.2.1))
    (fun t => 1000 - t.2.2) _ ?_ FUEL _ ⟨Nat.zero_le _, ⟨by simp, fun v hv => (by cases hv), ?_, ?_⟩, fun v _ v1 => by simp only at v1; omega, ?_⟩ (fuel_of (by simp only; omega))
  · rintro c1 ⟨inn, q, t⟩ ⟨ht, B, hs, hq⟩ hc
    simp only at ht B hs hq hc
    have bl := B.l
    have bc := B.c
    simp only [flow_residual_cut_b1]
    refine wp_ite (fun h => ?_) (fun h => ?_)
    · simp only [decide_eq_true_eq] at h
      refine wp_i64 (by omega) (wp_i64 (by omega) (wp_i64 (by omega) (wp_i64 (by omega) (wp_idxi (by omega) (wp_ite (fun hp => ?_) (fun hp => ?_))))))
      · simp only [decide_eq_true_eq] at hp
        refine wp_bind _ (visit_wp (n := g.Supply.length) (by omega) (by omega) (by omega) h) ?_
        rintro ⟨i2, q2⟩ hy
        simp only [flow_residual_cut_k2]
        refine wp_i64 (by omega) ?_
        rcases hy with ⟨ht', hy⟩ | ⟨hf, hy⟩
        · obtain ⟨rfl, rfl⟩ := Prod.mk.inj hy
          refine hc _ ⟨by simp only; omega, B, fun v v0 v1 hv => ?_, hq⟩ (by simp only; omega)
          by_cases e : v = t
          · rw [e]; exact ht'
          · exact hs v v0 (by simp only at v1; omega) hv
        · obtain ⟨rfl, rfl⟩ := Prod.mk.inj hy
          have gs : ∀ w : Int, 0 ≤ w → gb (inn.set ((t : Int)).toNat true) w = if w = t then true else gb inn w := fun w w0 => gb_set _ _ _ _ (by omega) w0 (by omega)
          refine hc _ ⟨by simp only; omega, B.visit (by omega) h hf (s1 t (by omega) h hp), fun v v0 v1 hv => ?_, fun v v0 v1 hv => ?_⟩ (by simp only; omega)
          · simp only at v1 ⊢
            rw [gs v v0]
            by_cases e : v = t
            · rw [if_pos e]
            · rw [if_neg e]; exact hs v v0 (by omega) hv
          · simp only at hv ⊢
            rw [gs v v0] at hv
            rw [List.mem_append, List.mem_singleton]
            by_cases e : v = t
            · exact Or.inr e
            · rw [if_neg e] at hv; exact Or.inl (hq v v0 v1 hv)
      · simp only [decide_eq_false_iff_not] at hp
        simp only [flow_residual_cut_k2]
        refine wp_i64 (by omega) (hc _ ⟨by simp only; omega, B, fun v v0 v1 hv => ?_, hq⟩ (by simp only; omega))
        by_cases e : v = t
        · rw [e] at hv; exact absurd hv hp
        · exact hs v v0 (by simp only at v1; omega) hv
    · simp only [decide_eq_false_iff_not] at h
      obtain rfl : t = g.Supply.length := by omega
      simp only [flow_residual_cut_k1]
      refine wp_iter (fun (t : List Bool × List Int) => BI g S t.1 t.2 ∧ (∀ v : Int, 0 ≤ v → v < g.Supply.length → 0 < gi left (2 * (g.Arcs.length + 2 * v) + 1) → gb t.1 v = true) ∧
          (∀ h : Int, 0 ≤ h → h < 2 * (g.Arcs.length : Int) → 0 < gi left h → gb t.1 (gi (toL (arcsOf g)) (xr h)) = true → gi (toL (arcsOf g)) (xr h) ∈ t.2 ∨ gb t.1 (gi (toL (arcsOf g)) h) = true))
        (fun t => 2 * t.1.count false + t.2.length) _ ?_ FUEL _ ⟨B, hs, fun h h0 h1 _ hg => ?_⟩ (fuel_of (by simp only; omega))
      · rintro c2 ⟨inn, q⟩ ⟨B, hs, hcl⟩ hc2
        simp only at B hs hcl hc2
        have bl := B.l
        have bc := B.c
        simp only [flow_residual_cut_b2]
        refine wp_ite (fun hq => ?_) (fun hq => ?_)
        · simp only [decide_eq_true_eq] at hq
          obtain ⟨v, q', rfl⟩ : ∃ v q', q = v :: q' := by
            cases q with
            | nil => simp at hq
            | cons v q' => exact ⟨v, q', rfl⟩
          obtain ⟨v0, v1, hv⟩ := B.q1 v (by simp)
          simp only [List.length_cons] at bc hc2
          refine wp_idx (x := v) (by omega) (by simp) ?_
          have hsub : sub (v :: q') 1 ((v :: q').length : Int) = some q' := by
            unfold sub
            rw [if_pos (by simp only [List.length_cons]; omega)]
            simp
          refine wp_eq hsub (wp_idxl (by omega) ?_)
          have hfl := F.f.fl v v0 (by omega)
          refine wp_iter (fun (t : List Bool × List Int × Nat) => t.2.2 ≤ (gll fr v).length ∧ BI g S t.1 t.2.1 ∧ 2 * t.1.count false + t.2.1.length ≤ 2 * inn.count false + q'.length ∧ (∀ w : Int, 0 ≤ w → w < g.Supply.length → gb inn w = true → gb t.1 w = true) ∧
              (∀ w ∈ q', w ∈ t.2.1) ∧ (∀ w : Int, 0 ≤ w → w < g.Supply.length → gb t.1 w = true → gb inn w = true ∨ w ∈ t.2.1) ∧
              (∀ j : Nat, j < t.2.2 → gi (gll fr v) j < 2 * (g.Arcs.length : Int) → 0 < gi left (gi (gll fr v) j) → gb t.1 (gi (toL (arcsOf g)) (gi (gll fr v) j)) = true))
            (fun t => (gll fr v).length - t.2.2) _ ?_ FUEL _ ⟨Nat.zero_le _, ⟨bl, fun w hw => B.q1 w (by simp [hw]), B.s, by simp only; omega⟩, Nat.le_refl _, fun _ _ _ h => h, fun _ h => h, fun _ _ _ h => Or.inl h, fun j hj => absurd hj (Nat.not_lt_zero _)⟩ (fuel_of (by simp only; omega))
          rintro c3 ⟨i3, q3, t⟩ ⟨ht, B3, hm3, hk3, hq3, ho3, hd3⟩ hc3
          simp only at ht B3 hm3 hk3 hq3 ho3 hd3 hc3
          simp only [flow_residual_cut_b3]
          have bl3 := B3.l
          have bc3 := B3.c
          refine wp_ite (fun h => ?_) (fun h => ?_)
          · simp only [decide_eq_true_eq] at h
            have hmem := gi_mem (l := gll fr v) (i := (t : Int)) (by omega) h
            obtain ⟨h0, h1, hx⟩ := c.s.frm v v0 (by omega) _ hmem
            refine wp_idxi (by omega) (wp_i64 (by omega) ?_)
            have go : (gi (gll fr v) t < 2 * (g.Arcs.length : Int) → 0 < gi left (gi (gll fr v) t) → False) → WP (flow_residual_cut_k4 c3 t (i3, q3)) (fun set => ∃ inn : List Bool, inn.length = g.Supply.length ∧ set = trs inn 0 ∧ 0 < cutv g (gb inn)) := fun hno =>
              hc3 _ ⟨by simp only; omega, B3, hm3, hk3, hq3, ho3, fun j hj a b => by
                by_cases e : j = t
                · subst e; exact (hno a b).elim
                · exact hd3 j (by simp only at hj; omega) a b⟩ (by simp only; omega)
            refine wp_whn (fun hlt => ?_) (fun hlt => ?_)
            · simp only [hlt, Bool.true_and]
              simp only [decide_eq_true_eq] at hlt
              refine wp_idxi (by omega) (wp_ite (fun hp => ?_) (fun hp => ?_))
              · simp only [decide_eq_true_eq] at hp
                obtain ⟨_, t1, t2, _, _, _, _⟩ := c.s.nt h0 hlt
                refine wp_idxi (by omega) ?_
                refine wp_bind _ (visit_wp (n := g.Supply.length) (by omega) (by omega) t1 t2) ?_
                rintro ⟨i4, q4⟩ hy
                simp only [flow_residual_cut_k4]
                rcases hy with ⟨ht', hy⟩ | ⟨hf, hy⟩
                · obtain ⟨rfl, rfl⟩ := Prod.mk.inj hy
                  refine hc3 _ ⟨by simp only; omega, B3, hm3, hk3, hq3, ho3, fun j hj a b => ?_⟩ (by simp only; omega)
                  by_cases e : j = t
                  · subst e; exact ht'
                  · exact hd3 j (by simp only at hj; omega) a b
                · obtain ⟨rfl, rfl⟩ := Prod.mk.inj hy
                  have gs : ∀ w : Int, 0 ≤ w → gb (i3.set (gi (toL (arcsOf g)) (gi (gll fr v) t)).toNat true) w = if w = gi (toL (arcsOf g)) (gi (gll fr v) t) then true else gb i3 w := fun w w0 => gb_set _ _ _ _ t1 w0 (by omega)
                  have cm := count_mark (l := i3) (v := gi (toL (arcsOf g)) (gi (gll fr v) t)) (by omega) t1 hf
                  have hS : S (gi (toL (arcsOf g)) (gi (gll fr v) t)) = true := by
                    refine s3 _ h0 hlt hp ?_
                    rw [hx]
                    exact B.s v v0 v1 hv
                  refine hc3 _ ⟨by simp only; omega, B3.visit t1 t2 hf hS, ?_, ?_, ?_, ?_, ?_⟩ (by simp only; omega)
                  · simp only [List.length_append, List.length_singleton]; omega
                  · intro w w0 w1 hw
                    simp only
                    rw [gs w w0]; split
                    · rfl
                    · exact hk3 w w0 w1 hw
                  · intro w hw
                    simp only
                    rw [List.mem_append]; exact Or.inl (hq3 w hw)
                  · intro w w0 w1 hw
                    simp only at hw ⊢
                    rw [gs w w0] at hw
                    rw [List.mem_append, List.mem_singleton]
                    by_cases e : w = gi (toL (arcsOf g)) (gi (gll fr v) t)
                    · exact Or.inr (Or.inr e)
                    · rw [if_neg e] at hw
                      rcases ho3 w w0 w1 hw with h' | h'
                      · exact Or.inl h'
                      · exact Or.inr (Or.inl h')
                  · intro j hj a b
                    simp only at hj ⊢
                    obtain ⟨r0, r1, _⟩ := c.s.frm v v0 (by omega) _ (gi_mem (l := gll fr v) (i := (j : Int)) (by omega) (by omega))
                    obtain ⟨_, u1, _⟩ := c.s.nt r0 a
                    rw [gs _ u1]
                    split
                    · rfl
                    · by_cases e : j = t
                      · subst e; rename_i hne; exact absurd rfl hne
                      · exact hd3 j (by omega) a b
              · simp only [decide_eq_false_iff_not] at hp
                exact go (fun _ b => hp b)
            · simp only [hlt, Bool.false_and]
              simp only [decide_eq_false_iff_not] at hlt
              exact go (fun a _ => hlt a)
          · simp only [decide_eq_false_iff_not] at h
            refine hc2 _ ⟨B3, fun w w0 w1 hw => hk3 w w0 w1 (hs w w0 w1 hw), fun h h0 h1 hl hg => ?_⟩ (by simp only; omega)
            simp only at hg ⊢
            obtain ⟨e0, t1, t2, t3, t4, _, _⟩ := c.s.nt h0 h1
            rcases ho3 _ t3 t4 hg with h' | h'
            · by_cases e : gi (toL (arcsOf g)) (xr h) = v
              · have hm' := c.s.fra h h0 e0
                rw [e] at hm'
                obtain ⟨j, hj, ej⟩ := mem_gi hm'
                have := hd3 j (by omega) (by rw [ej]; exact h1) (by rw [ej]; exact hl)
                rw [ej] at this
                exact Or.inr this
              · rcases hcl h h0 h1 hl h' with h'' | h''
                · rw [List.mem_cons] at h''
                  rcases h'' with h'' | h''
                  · exact absurd h'' e
                  · exact Or.inl (hq3 _ h'')
                · exact Or.inr (hk3 _ t1 t2 h'')
            · exact Or.inl h'
        · simp only [decide_eq_false_iff_not] at hq
          have hq0 : q = [] := by
            cases q with
            | nil => rfl
            | cons v q' => simp only [List.length_cons] at hq; omega
          subst hq0
          have cl : ∀ h : Int, 0 ≤ h → h < 2 * (g.Arcs.length : Int) → 0 < gi left h → gb inn (gi (toL (arcsOf g)) (xr h)) = true → gb inn (gi (toL (arcsOf g)) h) = true := fun h h0 h1 hl hg => by
            rcases hcl h h0 h1 hl hg with h' | h'
            · cases h'
            · exact h'
          have pos := F.cutpos V (S := gb inn) hs (fun v v0 v1 hl => by
            cases e : gb inn v with
            | false => rfl
            | true =>
              have a := B.s v v0 v1 e
              rw [s2 v v0 v1 hl] at a; cases a) cl (by unfold gb; simp [bl]) hnf
          simp only [flow_residual_cut_k3]
          refine wp_iter (fun (t : List Int × Nat) => t.2 ≤ inn.length ∧ t.1.length ≤ t.2 ∧ t.1 ++ trs (inn.drop t.2) t.2 = trs inn 0) (fun t => 1000 - t.2) _ ?_ FUEL _ ⟨Nat.zero_le _, Nat.le_refl _, by simp⟩ (fuel_of (by simp only; omega))
          rintro c4 ⟨set, t⟩ ⟨ht, hsl, hset⟩ hc4
          simp only at ht hsl hset hc4
          simp only [flow_residual_cut_b4]
          refine wp_ite (fun h => ?_) (fun h => ?_)
          · simp only [decide_eq_true_eq] at h
            have hlt : t < inn.length := by omega
            rw [List.drop_eq_getElem_cons hlt, trs] at hset
            have gt : gb inn t = inn[t] := by unfold gb; simp [hlt]
            refine wp_idxb (by omega) (wp_ite (fun hi => ?_) (fun hi => ?_))
            · rw [gt] at hi
              rw [if_pos hi] at hset
              refine wp_chk (by simp; omega) (hc4 _ ⟨by simp only; omega, by simp only [List.length_append, List.length_singleton]; omega, ?_⟩ (by simp only; omega))
              simp only
              rw [List.append_assoc]
              exact hset
            · rw [gt] at hi
              rw [if_neg (by rw [hi]; decide)] at hset
              exact hc4 _ ⟨by simp only; omega, by simp only; omega, hset⟩ (by simp only; omega)
          · simp only [decide_eq_false_iff_not] at h
            obtain rfl : t = inn.length := by omega
            rw [List.drop_length, trs, List.append_nil] at hset
            exact wp_some ⟨inn, bl, hset, pos⟩
      · simp only at hg ⊢
        obtain ⟨_, _, _, t3, t4, _, _⟩ := c.s.nt h0 h1
        exact Or.inl (hq _ t3 t4 hg)
  · intro v v0 v1 hv
    simp only at hv
    rw [gb_rep _ _ _ v0 (by omega)] at hv; cases hv
  · simp only [List.length_nil, List.count_replicate]; simp
  · intro v v0 v1 hv
    simp only at hv
    rw [gb_rep _ _ _ v0 (by omega)] at hv; cases hv

theorem cut_bad (g : Graph) (h : checkB g = false) : flow_Cut_m g = some ([], false) := by
  unfold flow_Cut_m
  rw [check_m, h]; rfl

theorem both (g : Graph) (V : Valid g) : (∃ f, flow_Solve_m g = some (f, 0) ∧ Opt g f ∧ flow_Cut_m g = some ([], false)) ∨
    (flow_Solve_m g = some (Flow.mk [] [] 0, 14) ∧ ∃ inn : List Bool, inn.length = g.Supply.length ∧ flow_Cut_m g = some (trs inn 0, true) ∧ 0 < cutv g (gb inn)) := by
  obtain ⟨fr, left, exc, price, h1, h2, F⟩ := run_wp g V
  obtain ⟨C, c⟩ := F.c
  obtain ⟨b, hb, hbz⟩ := feas_wp c
  have start : ∀ {Q : List Int × Bool → Prop}, (b = true → Q ([], false)) → (b = false → WP (flow_residual_cut_m (Flow_residual.mk g.Supply.length g.Arcs.length (toL (arcsOf g)) left (costL (arcsOf g)) fr exc price)) (fun s => Q (s, true))) → WP (flow_Cut_m g) Q := by
    intro Q q1 q2
    unfold flow_Cut_m
    refine wp_eq (by rw [check_m, (valid_iff g).2 V]) (wp_ite (fun h => by cases h) (fun _ => ?_))
    refine wp_eq h1 (wp_eq h2 ?_)
    dsimp only
    refine wp_eq hb (wp_ite (fun h => wp_some (q1 h)) (fun h => ?_))
    exact wp_bind _ (q2 h) (fun y hy => wp_some hy)
  cases b with
  | true =>
    left
    have fe := F.feas V (hbz.1 rfl)
    obtain ⟨f, hf, o⟩ := solve_ok V fe
    obtain ⟨y, hy, rfl⟩ := start (Q := fun y => y = ([], false)) (fun _ => rfl) (fun h => by cases h)
    exact ⟨f, hf, o, hy⟩
  | false =>
    right
    have hnf : ∃ i : Int, (g.Arcs.length : Int) ≤ i ∧ i < (arcsOf g).length ∧ 0 < gi left (2 * i + 1) := by
      refine Classical.byContradiction fun hno => ?_
      have : false = true := hbz.2 (fun i i0 i1 => Classical.byContradiction fun hx => hno ⟨i, i0, i1, by omega⟩)
      cases this
    obtain ⟨y, hy, inn, hl, rfl, hp⟩ := start (Q := fun y => ∃ inn : List Bool, inn.length = g.Supply.length ∧ y = (trs inn 0, true) ∧ 0 < cutv g (gb inn)) (fun h => by cases h) (fun _ => wp_imp (cut_wp V F hnf) (fun s ⟨inn, a, b, c⟩ => ⟨inn, a, by rw [b], c⟩))
    refine ⟨?_, inn, hl, hy, hp⟩
    obtain ⟨⟨f, e⟩, hs, hys⟩ := solve_total g V
    rcases hys with ⟨_, o⟩ | ⟨he, _⟩
    · exact absurd o.feas (fun Fe => cut_no V hp Fe)
    · rw [hs, he]
end Go.Proofs.Ytedocibniankjaa
