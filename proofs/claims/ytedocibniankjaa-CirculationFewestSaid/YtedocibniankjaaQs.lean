/- Plain laws of chapter 28: Split. -/
import Derived.Test.YtedocibniankjaaQi
import Derived.Test.YtedocibniankjaaQk
import Derived.Test.YtedocibniankjaaCr
namespace Go.Proofs.Ytedocibniankjaa
open Go.Dc

def tlen (ts : List Task) (a : Int) : Int := (tk ts a).End - (tk ts a).Start
def serv (ts : List Task) (r : Rules) (a b : Int) : Bool := decide ((tk ts a).To = (tk ts b).From) && (decide ((tk ts a).To ∈ r.Shops) && decide (r.Turn + r.Service ≤ (tk ts b).Start - (tk ts a).End))
/-- How long a vehicle runs without a service that performs k tasks of a chain from number f on. -/
def Rn (ts : List Task) (r : Rules) (ch : List Int) (f : Int) : Nat → Int
  | 0 => 0
  | k + 1 => (if k = 0 then 0 else if serv ts r (gi ch (f + k - 1)) (gi ch (f + k)) then 0 else Rn ts r ch f k + sec ts r (gi ch (f + k - 1)) (gi ch (f + k))) + tlen ts (gi ch (f + k))
def PM (ts : List Task) (r : Rules) (ch : List Int) (f : Int) (k : Nat) : Prop := ∀ j : Nat, 1 ≤ j → j ≤ k → Rn ts r ch f j ≤ r.Limit
/-- A chain whose tasks follow one another. -/
structure Cn (ts : List Task) (r : Rules) (ch : List Int) : Prop where
  rg : ∀ i : Int, 0 ≤ i → i < ch.length → 0 ≤ gi ch i ∧ gi ch i < ts.length
  fo : ∀ i : Int, 0 < i → i < ch.length → fok ts r (gi ch (i - 1)) (gi ch i) = true

theorem TV.lims {ts : List Task} {r : Rules} (T : TV ts r) : 0 ≤ r.Turn ∧ r.Turn ≤ 7200 ∧ 0 ≤ r.Service ∧ r.Service ≤ 86400 ∧ 1 ≤ r.Limit ∧ r.Limit ≤ 4194304 ∧ r.Shops.length ≤ 24 := by
  have h := T.h
  simp [tasksB, lenB, limB] at h
  omega
theorem TV.task {ts : List Task} {r : Rules} (T : TV ts r) {a : Int} (a0 : 0 ≤ a) (a1 : a < ts.length) : 0 ≤ (tk ts a).Start ∧ (tk ts a).Start < (tk ts a).End ∧ (tk ts a).End ≤ 4194304 := by
  have hg := T.h
  simp only [tasksB, Bool.and_eq_true] at hg
  have hm : tk ts a ∈ ts := by
    have : a.toNat < ts.length := by omega
    unfold tk; simp [this]
  have := List.all_eq_true.1 hg.2.1 _ hm
  simp [taskB] at this
  omega

theorem Rn_bd {ts : List Task} {r : Rules} (T : TV ts r) (ch : List Int) (f : Int) (f0 : 0 ≤ f) (hr : ∀ i : Int, 0 ≤ i → i < ch.length → 0 ≤ gi ch i ∧ gi ch i < ts.length) : ∀ k : Nat, f + k ≤ ch.length → 0 ≤ Rn ts r ch f k ∧ Rn ts r ch f k ≤ 4300000 * (k : Int)
  | 0, _ => by simp [Rn]
  | k + 1, h => by
    have ih := Rn_bd T ch f f0 hr k (by omega)
    obtain ⟨a0, a1⟩ := hr (f + k) (by omega) (by omega)
    have tb := T.task a0 a1
    have sb := T.sec (gi ch (f + k - 1)) (gi ch (f + k))
    simp only [Rn]
    unfold tlen sec
    split
    · omega
    · split <;> omega

theorem Rn_congr {ts : List Task} {r : Rules} {ch ch' : List Int} {f f' : Int} : ∀ k : Nat, (∀ i : Nat, i < k → gi ch (f + i) = gi ch' (f' + i)) → Rn ts r ch f k = Rn ts r ch' f' k
  | 0, _ => rfl
  | k + 1, h => by
    have ih := Rn_congr (ts := ts) (r := r) (ch := ch) (ch' := ch') (f := f) (f' := f') k (fun i hi => h i (by omega))
    have e1 := h k (by omega)
    simp only [Rn]
    by_cases hk : k = 0
    · subst hk; rw [if_pos rfl, if_pos rfl, e1]
    · have e2 := h (k - 1) (by omega)
      rw [show f + ((k - 1 : Nat) : Int) = f + k - 1 by omega, show f' + ((k - 1 : Nat) : Int) = f' + k - 1 by omega] at e2
      rw [if_neg hk, if_neg hk, e1, e2, ih]

theorem contains_wp (l : List Int) (v : Int) (hl : l.length ≤ 24) : WP (slices_Contains_int_int_m l v) (fun b => b = decide (v ∈ l)) := by
  unfold slices_Contains_int_int_m
  refine wp_bind _ (index_wp l v (by omega)) ?_
  intro k hk
  refine wp_some ?_
  rcases hk with ⟨rfl, h⟩ | ⟨h0, h1, h2⟩
  · have : v ∉ l := fun hm => by
      obtain ⟨j, hj, e⟩ := List.mem_iff_getElem.1 hm
      exact h j (by omega) (by omega) (by unfold gi; simp [hj, e])
    simp [this]
  · have : v ∈ l := by
      have hlt : k.toNat < l.length := by omega
      rw [← h2]; unfold gi; simp [hlt]
    simp [this, h0]

theorem serviced_wp {ts : List Task} {r : Rules} (T : TV ts r) {a b : Int} (a0 : 0 ≤ a) (a1 : a < ts.length) (b0 : 0 ≤ b) (b1 : b < ts.length) : WP (circulation_serviced_m r (tk ts a) (tk ts b)) (fun x => x = serv ts r a b) := by
  obtain ⟨l1, l2, l3, l4, l5, l6, l7⟩ := T.lims
  have ta := T.task a0 a1
  have tb := T.task b0 b1
  unfold circulation_serviced_m serv
  refine wp_whn (fun h => ?_) (fun h => ?_)
  · refine wp_bind _ (contains_wp r.Shops _ l7) ?_
    rintro _ rfl
    refine wp_chk (by simp [i64b]; omega) (wp_chk (by simp [i64b]; omega) (wp_some ?_))
    rw [Bool.and_assoc]
  · rw [h]
    exact wp_chk (by simp) (wp_chk (by simp) (wp_some (by simp)))

theorem perm_wp {ts : List Task} {r : Rules} (T : TV ts r) (p : List Int) (hl : p.length ≤ 1000000) (hr : ∀ i : Int, 0 ≤ i → i < p.length → 0 ≤ gi p i ∧ gi p i < ts.length) : WP (ref24_permissible_m ts r p) (fun b => b = true ↔ PM ts r p 0 p.length) := by
  obtain ⟨l1, l2, l3, l4, l5, l6, l7⟩ := T.lims
  unfold ref24_permissible_m
  refine wp_iter (fun (t : Int × Nat) => t.2 ≤ p.length ∧ t.1 = Rn ts r p 0 t.2 ∧ PM ts r p 0 t.2) (fun t => p.length - t.2) _ ?_ FUEL _ ⟨Nat.zero_le _, rfl, fun j j1 j2 => by simp only at j2; omega⟩ (fuel_of (by simp only; omega))
  rintro c ⟨run, t⟩ ⟨ht, hrun, hpm⟩ hc
  simp only at ht hrun hpm hc
  simp only [ref24_permissible_b1]
  refine wp_ite (fun h => ?_) (fun h => ?_)
  · simp only [decide_eq_true_eq] at h
    obtain ⟨x0, x1⟩ := hr t (by omega) h
    have tx := T.task x0 x1
    have rb := Rn_bd T p 0 (by omega) hr t (by omega)
    have rb1 := Rn_bd T p 0 (by omega) hr (t + 1) (by omega)
    refine wp_idxi (by omega) ?_
    have fin : ∀ run', run' + tlen ts (gi p t) = Rn ts r p 0 (t + 1) → WP (ref24_permissible_k2 ts (gi p t) r c t run') (fun b => b = true ↔ PM ts r p 0 p.length) := by
      intro run' hr'
      simp only [ref24_permissible_k2]
      unfold tlen at hr'
      refine wp_idxt (by omega) (wp_idxt (by omega) (wp_i64 (by omega) (wp_i64 (by omega) (wp_ite (fun hb => ?_) (fun hb => ?_)))))
      · simp only [decide_eq_true_eq] at hb
        refine wp_some ⟨fun h => (by cases h), fun A => ?_⟩
        have := A (t + 1) (by omega) (by omega)
        omega
      · simp only [decide_eq_false_iff_not] at hb
        refine hc _ ⟨by simp only; omega, by simp only; exact hr', fun j j1 j2 => ?_⟩ (by simp only; omega)
        by_cases e : j = t + 1
        · subst e; omega
        · exact hpm j j1 (by simp only at j2; omega)
    have e0 : (0 : Int) + (t : Int) = t := by omega
    refine wp_ite (fun hp => ?_) (fun hp => ?_)
    · simp only [decide_eq_true_eq] at hp
      obtain ⟨y0, y1⟩ := hr (t - 1) (by omega) (by omega)
      have ty := T.task y0 y1
      have sb := T.sec (gi p ((t : Int) - 1)) (gi p t)
      refine wp_i64 (by omega) (wp_idxi (by omega) (wp_idxt (by omega) (wp_idxt (by omega) ?_)))
      simp only [ref24_permissible_k3]
      refine wp_is (T.fo _ y0 y1).2 (wp_i64 (by omega) ?_)
      have hRn : Rn ts r p 0 (t + 1) = (if serv ts r (gi p ((t : Int) - 1)) (gi p t) then 0 else run + sec ts r (gi p ((t : Int) - 1)) (gi p t)) + tlen ts (gi p t) := by
        rw [Rn, if_neg (by omega), e0, hrun]
      refine wp_whn (fun hg => ?_) (fun hg => ?_)
      · refine wp_bind _ (member_wp r.Shops _ (by omega)) ?_
        intro m hm
        have hm' : m = decide ((tk ts (gi p ((t : Int) - 1))).To ∈ r.Shops) := by
          cases m with
          | true => simp [hm.1 rfl]
          | false =>
            have : (tk ts (gi p ((t : Int) - 1))).To ∉ r.Shops := fun h' => by have := hm.2 h'; cases this
            simp [this]
        refine wp_chk (by simp [i64b]; omega) (wp_chk (by simp [i64b]; omega) (wp_ite (fun hs => ?_) (fun hs => ?_)))
        · refine fin 0 ?_
          have : serv ts r (gi p ((t : Int) - 1)) (gi p t) = true := by
            unfold serv; rw [← hm', ← Bool.and_assoc]; exact hs
          rw [hRn, this]; simp
        · refine fin _ ?_
          have : serv ts r (gi p ((t : Int) - 1)) (gi p t) = false := by
            unfold serv; rw [← hm', ← Bool.and_assoc]; exact hs
          rw [hRn, this]; rfl
      · rw [hg]
        refine wp_chk (by simp) (wp_chk (by simp) (wp_ite (fun hs => by simp at hs) (fun _ => fin _ ?_)))
        have : serv ts r (gi p ((t : Int) - 1)) (gi p t) = false := by
          unfold serv; rw [hg]; rfl
        rw [hRn, this]; rfl
    · simp only [decide_eq_false_iff_not] at hp
      obtain rfl : t = 0 := by omega
      refine fin _ ?_
      rw [Rn, if_pos rfl, e0]
      rw [hrun]; rfl
  · simp only [decide_eq_false_iff_not] at h
    obtain rfl : t = p.length := by omega
    exact wp_some ⟨fun _ => hpm, fun _ => rfl⟩

/-! ### Cutting greedily -/

def cutS (ch : List Int) (f : Int) (k : Nat) : List Int := (ch.take (f + k).toNat).drop f.toNat
/-- The parts from number f on, each as long as it can be. -/
inductive GC (ts : List Task) (r : Rules) (ch : List Int) : Int → List (List Int) → Prop where
  | nil : GC ts r ch ch.length []
  | cons {f : Int} {k : Nat} {rest : List (List Int)} : 0 ≤ f → 1 ≤ k → f + k ≤ ch.length → PM ts r ch f k → (f + k = ch.length ∨ r.Limit < Rn ts r ch f (k + 1)) → GC ts r ch (f + k) rest → GC ts r ch f (cutS ch f k :: rest)

theorem GC.det {ts : List Task} {r : Rules} {ch : List Int} {f : Int} {a : List (List Int)} (h : GC ts r ch f a) : ∀ {b : List (List Int)}, GC ts r ch f b → a = b := by
  induction h with
  | nil =>
    intro b hb
    generalize hf : (ch.length : Int) = f at hb
    cases hb with
    | nil => rfl
    | cons f0 k1 kl _ _ _ => omega
  | cons f0 k1 kl hp hm hr0 ih =>
    rename_i f k rest
    intro b hb
    cases hb with
    | nil => omega
    | cons f0' k1' kl' hp' hm' hr' =>
      rename_i k' rest'
      have hk : k = k' := by
        rcases Nat.lt_trichotomy k k' with h | h | h
        · rcases hm with h' | h'
          · omega
          · have := hp' (k + 1) (by omega) (by omega); omega
        · exact h
        · rcases hm' with h' | h'
          · omega
          · have := hp (k' + 1) (by omega) (by omega); omega
      subst hk
      rw [ih hr']

theorem cutS_snoc (ch : List Int) {f : Int} {k : Nat} (f0 : 0 ≤ f) (h : f + k < ch.length) : cutS ch f (k + 1) = cutS ch f k ++ [gi ch (f + k)] := by
  unfold cutS
  have hlt : (f + k).toNat < ch.length := by omega
  rw [show (f + ((k + 1 : Nat) : Int)).toNat = (f + k).toNat + 1 by omega, List.take_succ_eq_append_getElem hlt, List.drop_append_of_le_length (by rw [List.length_take]; omega)]
  congr 1
  unfold gi; simp [hlt]
theorem cutS_zero (ch : List Int) (f : Int) (f0 : 0 ≤ f) (h : f ≤ ch.length) : cutS ch f 0 = [] := by
  unfold cutS
  rw [show (f + ((0 : Nat) : Int)).toNat = f.toNat by omega]
  exact List.drop_eq_nil_of_le (by rw [List.length_take]; omega)
theorem cutS_len (ch : List Int) {f : Int} {k : Nat} (f0 : 0 ≤ f) (h : f + k ≤ ch.length) : (cutS ch f k).length = k := by
  unfold cutS; rw [List.length_drop, List.length_take]; omega
theorem cutS_gi (ch : List Int) {f : Int} {k i : Nat} (f0 : 0 ≤ f) (h : f + k ≤ ch.length) (hi : i < k) : gi (cutS ch f k) i = gi ch (f + i) := by
  unfold gi cutS
  have e : f.toNat + i = (f + i).toNat := by omega
  simp [List.getElem?_take, e]
  rw [if_pos (by omega)]

/-- What both Splits first look at. -/
theorem split_pre {ts : List Task} {r : Rules} (T : TV ts r) (ch : List Int) : (Cn ts r ch ∧ ch.length ≤ ts.length) ∨ ¬ Cn ts r ch := by
  by_cases C : Cn ts r ch
  · left
    refine ⟨C, ?_⟩
    -- the starts grow
    refine Classical.byContradiction fun hgt => ?_
    have later : ∀ a b : Int, 0 ≤ a → a < ts.length → fok ts r a b = true → (tk ts a).Start < (tk ts b).Start := fun a b a0 a1 h => by
      have hg := T.h
      simp only [tasksB, Bool.and_eq_true] at hg
      obtain ⟨_, h3, h4, _, h6⟩ := hg
      have ta := T.task a0 a1
      have le := fw_le r _ _ h
      have bd := fw_bd r (tk ts a) (tk ts b) h4
      have := T.lims
      omega
    have mono : ∀ (d : Nat) (i : Int), 0 ≤ i → i + d + 1 < ch.length → (tk ts (gi ch i)).Start < (tk ts (gi ch (i + d + 1))).Start := by
      intro d
      induction d with
      | zero =>
        intro i i0 i1
        have := C.fo (i + 1) (by omega) (by omega)
        rw [show i + 1 - 1 = i by omega] at this
        have hr := C.rg i i0 (by omega)
        have := later _ _ hr.1 hr.2 this
        rw [show i + ((0 : Nat) : Int) + 1 = i + 1 by omega]; exact this
      | succ d ih =>
        intro i i0 i1
        have a := ih i i0 (by omega)
        have hf := C.fo (i + d + 1 + 1) (by omega) (by omega)
        rw [show i + (d : Int) + 1 + 1 - 1 = i + d + 1 by omega] at hf
        have hr := C.rg (i + d + 1) (by omega) (by omega)
        have := later _ _ hr.1 hr.2 hf
        rw [show i + ((d + 1 : Nat) : Int) + 1 = i + d + 1 + 1 by omega]
        omega
    have nd : (ch.take (ts.length + 1)).Nodup := by
      rw [List.nodup_iff_pairwise_ne, List.pairwise_iff_getElem]
      intro i j hi hj hij e
      rw [List.length_take] at hi hj
      have := mono (j - i - 1) i (by omega) (by omega)
      rw [show (i : Int) + ((j - i - 1 : Nat) : Int) + 1 = j by omega] at this
      have e1 : gi ch i = ch[i] := by unfold gi; simp [(by omega : i < ch.length)]
      have e2 : gi ch j = ch[j] := by unfold gi; simp [(by omega : j < ch.length)]
      simp only [List.getElem_take] at e
      rw [e1, e2, e] at this
      omega
    have cnt : ∀ (n : Nat) (l : List Int), l.Nodup → (∀ x ∈ l, 0 ≤ x ∧ x < (n : Int)) → l.length ≤ n := fun n l nd hl => by
      have a := ind_len n l nd hl
      have b := sumTo_le (f := fun k => if k ∈ l then 1 else 0) (g := fun _ => 1) (n := n) (fun i _ _ => by split <;> omega)
      rw [sumTo_const] at b
      omega
    have := cnt ts.length (ch.take (ts.length + 1)) nd (fun x hx => by
      have hm := List.mem_of_mem_take hx
      obtain ⟨j, hj, e⟩ := List.mem_iff_getElem.1 hm
      have := C.rg j (by omega) (by omega)
      have e1 : gi ch j = x := by unfold gi; simp [hj, e]
      rw [e1] at this; exact this)
    rw [List.length_take] at this
    omega
  · exact Or.inr C

/-- What Split returns. -/
def SplitR (ts : List Task) (r : Rules) (ch : List Int) (y : List (List Int) × Int) : Prop :=
  (¬ Cn ts r ch → y = ([], 1)) ∧ (Cn ts r ch → (∃ i : Int, 0 ≤ i ∧ i < ch.length ∧ r.Limit < tlen ts (gi ch i)) → y = ([], 14)) ∧
  (Cn ts r ch → (∀ i : Int, 0 ≤ i → i < ch.length → tlen ts (gi ch i) ≤ r.Limit) → y.2 = 0 ∧ GC ts r ch 0 y.1)

theorem SplitR.det {ts : List Task} {r : Rules} {ch : List Int} {y z : List (List Int) × Int} (h : SplitR ts r ch y) (h' : SplitR ts r ch z) : y = z := by
  by_cases C : Cn ts r ch
  · by_cases E : ∃ i : Int, 0 ≤ i ∧ i < ch.length ∧ r.Limit < tlen ts (gi ch i)
    · rw [h.2.1 C E, h'.2.1 C E]
    · have A : ∀ i : Int, 0 ≤ i → i < ch.length → tlen ts (gi ch i) ≤ r.Limit := fun i i0 i1 => Classical.byContradiction fun hx => E ⟨i, i0, i1, by omega⟩
      obtain ⟨a1, a2⟩ := h.2.2 C A
      obtain ⟨b1, b2⟩ := h'.2.2 C A
      exact Prod.ext (a2.det b2) (a1.trans b1.symm)
  · rw [h.1 C, h'.1 C]

theorem split_wp {ts : List Task} {r : Rules} (T : TV ts r) (ch : List Int) (hl : ch.length ≤ 140737488355328) : WP (circulation_Split_m ts r ch) (SplitR ts r ch) := by
  have hn := T.len
  obtain ⟨l1, l2, l3, l4, l5, l6, l7⟩ := T.lims
  unfold circulation_Split_m
  refine wp_is (by rw [checkT_m, T.h]) (wp_ite (fun h => by cases h) (fun _ => ?_))
  refine wp_iter (fun (t : Nat) => t ≤ ch.length ∧ (∀ i : Int, 0 ≤ i → i < t → 0 ≤ gi ch i ∧ gi ch i < ts.length) ∧ (∀ i : Int, 0 < i → i < t → fok ts r (gi ch (i - 1)) (gi ch i) = true)) (fun t => ch.length - t) _ ?_ FUEL _ ⟨Nat.zero_le _, fun i _ i1 => by omega, fun i _ i1 => by omega⟩ (fuel_of (by omega))
  rintro c t ⟨ht, hrg, hfo⟩ hc
  simp only [circulation_Split_b1]
  have bad : ¬ Cn ts r ch → WP (some (([] : List (List Int)), (1 : Int))) (SplitR ts r ch) := fun C => wp_some ⟨fun _ => rfl, fun C' => absurd C' C, fun C' => absurd C' C⟩
  refine wp_ite (fun h => ?_) (fun h => ?_)
  · simp only [decide_eq_true_eq] at h
    refine wp_idxi (by omega) (wp_ite (fun hb => ?_) (fun hb => ?_))
    · simp only [Bool.or_eq_true, decide_eq_true_eq] at hb
      exact bad (fun C => by have := C.rg t (by omega) h; omega)
    · simp only [Bool.or_eq_false_iff, decide_eq_false_iff_not] at hb
      have rg' : ∀ i : Int, 0 ≤ i → i < ((t + 1 : Nat) : Int) → 0 ≤ gi ch i ∧ gi ch i < ts.length := fun i i0 i1 => by
        by_cases e : i = t
        · subst e; omega
        · exact hrg i i0 (by omega)
      refine wp_ite (fun h0 => ?_) (fun h0 => ?_)
      · simp only [decide_eq_true_eq] at h0
        exact hc _ ⟨by omega, rg', fun i i0 i1 => by omega⟩ (by omega)
      · simp only [decide_eq_false_iff_not] at h0
        obtain ⟨y0, y1⟩ := hrg ((t : Int) - 1) (by omega) (by omega)
        refine wp_i64 (by omega) (wp_idxi (by omega) (wp_idxt (by omega) (wp_idxt (by omega) (wp_is (T.fo _ y0 y1).1 (wp_ite (fun hf => ?_) (fun hf => ?_))))))
        · simp only [Bool.not_eq_true'] at hf
          refine bad (fun C => ?_)
          have := C.fo t (by omega) h
          unfold fok at this
          rw [hf] at this; cases this
        · simp only [Bool.not_eq_false'] at hf
          refine hc _ ⟨by omega, rg', fun i i0 i1 => ?_⟩ (by omega)
          by_cases e : i = t
          · subst e; exact hf
          · exact hfo i i0 (by omega)
  · simp only [decide_eq_false_iff_not] at h
    obtain rfl : t = ch.length := by omega
    have C : Cn ts r ch := ⟨hrg, hfo⟩
    have cl : ch.length ≤ ts.length := by
      rcases split_pre T ch with h' | h'
      · exact h'.2
      · exact absurd C h'
    simp only [circulation_Split_k1]
    refine wp_iter (fun (t : Nat) => t ≤ ch.length ∧ ∀ i : Int, 0 ≤ i → i < t → tlen ts (gi ch i) ≤ r.Limit) (fun t => ch.length - t) _ ?_ FUEL _ ⟨Nat.zero_le _, fun i _ i1 => by omega⟩ (fuel_of (by omega))
    rintro c2 t ⟨ht2, hlen⟩ hc2
    simp only [circulation_Split_b2]
    refine wp_ite (fun h2 => ?_) (fun h2 => ?_)
    · simp only [decide_eq_true_eq] at h2
      obtain ⟨x0, x1⟩ := C.rg t (by omega) h2
      have tx := T.task x0 x1
      refine wp_idxi (by omega) (wp_idxt (by omega) (wp_idxt (by omega) (wp_i64 (by omega) (wp_ite (fun hb => ?_) (fun hb => ?_)))))
      · simp only [decide_eq_true_eq] at hb
        refine wp_some ⟨fun C' => absurd C C', fun _ _ => rfl, fun _ A => ?_⟩
        have := A t (by omega) h2
        unfold tlen at this
        omega
      · simp only [decide_eq_false_iff_not] at hb
        refine hc2 _ ⟨by omega, fun i i0 i1 => ?_⟩ (by omega)
        by_cases e : i = t
        · subst e; unfold tlen; omega
        · exact hlen i i0 (by omega)
    · simp only [decide_eq_false_iff_not] at h2
      obtain rfl : t = ch.length := by omega
      simp only [circulation_Split_k3]
      refine wp_iter (fun (t : List (List Int) × Int × Nat) => t.2.2 ≤ ch.length ∧ t.1.length ≤ t.2.2 ∧ (t.2.2 = 0 → t.1 = [] ∧ t.2.1 = 0) ∧ (0 < t.2.2 → ∃ (done : List (List Int)) (f : Int) (k : Nat), 0 ≤ f ∧ 1 ≤ k ∧ f + k = t.2.2 ∧ t.1 = done ++ [cutS ch f k] ∧ t.2.1 = Rn ts r ch f k ∧ PM ts r ch f k ∧ ∀ rest, GC ts r ch f rest → GC ts r ch 0 (done ++ rest)))
        (fun t => ch.length - t.2.2) _ ?_ FUEL _ ⟨Nat.zero_le _, Nat.le_refl _, fun _ => ⟨rfl, rfl⟩, fun h => by simp only at h; omega⟩ (fuel_of (by simp only; omega))
      rintro c3 ⟨parts, run, t⟩ ⟨ht3, hpl, h0, hI⟩ hc3
      simp only at ht3 hpl h0 hI hc3
      simp only [circulation_Split_b3]
      refine wp_ite (fun h3 => ?_) (fun h3 => ?_)
      · simp only [decide_eq_true_eq] at h3
        obtain ⟨x0, x1⟩ := C.rg t (by omega) h3
        have tx := T.task x0 x1
        have hlt := hlen t (by omega) h3
        refine wp_idxi (by omega) (wp_idxt (by omega) (wp_idxt (by omega) (wp_i64 (by omega) ?_)))
        by_cases et : t = 0
        · -- the first part
          subst et
          obtain ⟨rfl, rfl⟩ := h0 rfl
          refine wp_ite (fun h' => by simp at h') (fun _ => ?_)
          simp only [circulation_Split_k5]
          refine wp_chk (by simp) (wp_ite (fun _ => ?_) (fun h' => by simp at h'))
          refine wp_chk (by simp) ?_
          simp only [circulation_Split_k6, List.nil_append, List.length_singleton]
          refine wp_i64 (by omega) (wp_i64 (by omega) (wp_i64 (by omega) ?_))
          refine wp_idx (x := []) (by omega) (by simp) (wp_chk (by simp) (wp_idx (x := []) (by omega) (by simp) ?_))
          have e1 : Rn ts r ch 0 1 = tlen ts (gi ch ((0 : Nat) : Int)) := by simp [Rn]
          refine hc3 _ ⟨by simp only; omega, by simp, fun h => by simp only at h; omega, fun _ => ⟨[], 0, 1, by omega, by omega, by simp, ?_, ?_, ?_, fun rest hr => by simpa using hr⟩⟩ (by simp only; omega)
          · simp only
            rw [show ((1 : Nat) : Nat) = 0 + 1 by rfl, cutS_snoc ch (by omega) (by omega), cutS_zero ch 0 (by omega) (by omega)]
            simp
          · simp only; rw [e1]; unfold tlen; simp
          · intro j j1 j2
            obtain rfl : j = 1 := by omega
            rw [e1]; exact hlt
        · obtain ⟨done, f, k, f0, k1, fk, hpart, hrun, hpm, hG⟩ := hI (by omega)
          obtain ⟨y0, y1⟩ := C.rg ((t : Int) - 1) (by omega) (by omega)
          have sb := T.sec (gi ch ((t : Int) - 1)) (gi ch t)
          have rb := Rn_bd T ch f f0 C.rg k (by omega)
          have rb1 := Rn_bd T ch f f0 C.rg (k + 1) (by omega)
          have hR : Rn ts r ch f (k + 1) = (if serv ts r (gi ch ((t : Int) - 1)) (gi ch t) then 0 else run + sec ts r (gi ch ((t : Int) - 1)) (gi ch t)) + tlen ts (gi ch t) := by
            rw [Rn, if_neg (by omega), show f + (k : Int) - 1 = (t : Int) - 1 by omega, show f + (k : Int) = t by omega, hrun]
          have pl2 : parts.length = done.length + 1 := by rw [hpart]; simp
          -- with the seconds before the task
          have fin : ∀ run', run' + tlen ts (gi ch t) = Rn ts r ch f (k + 1) → WP (circulation_Split_k5 t (tk ts (gi ch t)) (tk ts (gi ch t)) r parts (gi ch t) c3 run') (SplitR ts r ch) := by
            intro run' hr'
            have hr2 := hr'
            unfold tlen at hr'
            simp only [circulation_Split_k5]
            have et2 : decide ((t : Int) = 0) = false := by simp [et]
            rw [et2]
            refine wp_chk (by simp [i64b]; omega) (wp_ite (fun hb => ?_) (fun hb => ?_))
            · -- a new part
              simp only [Bool.false_or, decide_eq_true_eq] at hb
              refine wp_chk (by simp; omega) ?_
              simp only [circulation_Split_k6]
              have ll : ((parts ++ [[]]).length : Int) - 1 = parts.length := by simp
              rw [ll]
              refine wp_i64 (by omega) (wp_i64 (by omega) (wp_i64 (by omega) ?_))
              refine wp_idx (x := []) (by omega) (by simp) (wp_chk (by simp) (wp_idx (x := []) (by omega) (by simp) ?_))
              have e1 : Rn ts r ch t 1 = tlen ts (gi ch t) := by simp [Rn]
              have hset : (parts ++ [[]]).set (parts.length : Int).toNat ([] ++ [gi ch t]) = parts ++ [[gi ch t]] := by
                rw [show ((parts.length : Nat) : Int).toNat = parts.length by omega, List.set_append_right _ _ (by omega)]
                simp
              rw [hset]
              refine hc3 _ ⟨by simp only; omega, by simp only [List.length_append, List.length_singleton]; omega, fun h => by simp only at h; omega, fun _ => ⟨parts, t, 1, by omega, by omega, by simp only; omega, ?_, ?_, ?_, fun rest hr => ?_⟩⟩ (by simp only; omega)
              · simp only
                rw [show ((1 : Nat) : Nat) = 0 + 1 by rfl, cutS_snoc ch (by omega) (by omega), cutS_zero ch t (by omega) (by omega)]
                simp
              · simp only; rw [e1]; unfold tlen; omega
              · intro j j1 j2
                obtain rfl : j = 1 := by omega
                rw [e1]; exact hlt
              · rw [hpart, List.append_assoc]
                refine hG _ ?_
                refine GC.cons f0 k1 (by omega) hpm (Or.inr ?_) (by rw [fk]; exact hr)
                rw [← hr2]; unfold tlen; omega
            · -- the part goes on
              simp only [Bool.false_or, decide_eq_false_iff_not] at hb
              simp only [circulation_Split_k6]
              refine wp_i64 (by omega) (wp_i64 (by omega) (wp_i64 (by omega) ?_))
              have gl1 : parts[((parts.length : Int) - 1).toNat]? = some (cutS ch f k) := by
                rw [show ((parts.length : Int) - 1).toNat = done.length by omega, hpart, List.getElem?_append_right (Nat.le_refl _)]; simp
              have cl2 := cutS_len ch (k := k) f0 (by omega)
              refine wp_idx (x := cutS ch f k) (by omega) gl1 (wp_chk (by simp; omega) (wp_idx (x := cutS ch f k) (by omega) gl1 ?_))
              have hset : parts.set ((parts.length : Int) - 1).toNat (cutS ch f k ++ [gi ch t]) = done ++ [cutS ch f (k + 1)] := by
                rw [show ((parts.length : Int) - 1).toNat = done.length by omega, hpart, List.set_append_right _ _ (Nat.le_refl _), cutS_snoc ch f0 (by omega), fk]
                simp
              rw [hset]
              refine hc3 _ ⟨by simp only; omega, by simp only [List.length_append, List.length_singleton]; omega, fun h => by simp only at h; omega, fun _ => ⟨done, f, k + 1, f0, by omega, by simp only; omega, rfl, ?_, ?_, hG⟩⟩ (by simp only; omega)
              · simp only; rw [← hr2]; unfold tlen; rfl
              · intro j j1 j2
                by_cases e : j = k + 1
                · subst e; rw [← hr2]; unfold tlen; omega
                · exact hpm j j1 (by omega)
          refine wp_ite (fun _ => ?_) (fun h' => by simp at h'; omega)
          refine wp_i64 (by omega) (wp_idxi (by omega) (wp_idxt (by omega) (wp_idxt (by omega) (wp_is (T.fo _ y0 y1).1 (wp_idxt (by omega) ?_)))))
          refine wp_bind _ (serviced_wp T y0 y1 x0 x1) ?_
          rintro _ rfl
          refine wp_ite (fun hs => ?_) (fun hs => ?_)
          · refine fin 0 ?_
            rw [hR, hs]; simp
          · refine wp_i64 (by unfold sec at *; omega) (fin _ ?_)
            rw [hR, hs]; rfl
      · simp only [decide_eq_false_iff_not] at h3
        obtain rfl : t = ch.length := by omega
        simp only [circulation_Split_k4]
        refine wp_some ⟨fun C' => absurd C C', fun _ ⟨i, i0, i1, hi⟩ => by have := hlen i i0 i1; omega, fun _ _ => ⟨rfl, ?_⟩⟩
        simp only
        by_cases et : ch.length = 0
        · obtain ⟨rfl, _⟩ := h0 et
          have : GC ts r ch (ch.length : Int) [] := GC.nil
          rw [et] at this
          exact this
        · obtain ⟨done, f, k, f0, k1, fk, hpart, hrun, hpm, hG⟩ := hI (by omega)
          rw [hpart]
          refine hG _ (GC.cons f0 k1 (by omega) hpm (Or.inl fk) ?_)
          rw [fk]; exact GC.nil

theorem splitR_wp {ts : List Task} {r : Rules} (T : TV ts r) (ch : List Int) (hl : ch.length ≤ 140737488355328) : WP (ref24_Split_m ts r ch) (SplitR ts r ch) := by
  have hn := T.len
  obtain ⟨l1, l2, l3, l4, l5, l6, l7⟩ := T.lims
  unfold ref24_Split_m
  refine wp_is (by rw [checkTR_m, T.h]) (wp_ite (fun h => by cases h) (fun _ => ?_))
  refine wp_iter (fun (t : Nat) => t ≤ ch.length ∧ (∀ i : Int, 0 ≤ i → i < t → 0 ≤ gi ch i ∧ gi ch i < ts.length) ∧ (∀ i : Int, 0 < i → i < t → fok ts r (gi ch (i - 1)) (gi ch i) = true)) (fun t => ch.length - t) _ ?_ FUEL _ ⟨Nat.zero_le _, fun i _ i1 => by omega, fun i _ i1 => by omega⟩ (fuel_of (by omega))
  rintro c t ⟨ht, hrg, hfo⟩ hc
  simp only [ref24_Split_b1]
  have bad : ¬ Cn ts r ch → WP (some (([] : List (List Int)), (1 : Int))) (SplitR ts r ch) := fun C => wp_some ⟨fun _ => rfl, fun C' => absurd C' C, fun C' => absurd C' C⟩
  refine wp_ite (fun h => ?_) (fun h => ?_)
  · simp only [decide_eq_true_eq] at h
    refine wp_idxi (by omega) (wp_ite (fun hb => ?_) (fun hb => ?_))
    · simp only [Bool.or_eq_true, decide_eq_true_eq] at hb
      exact bad (fun C => by have := C.rg t (by omega) h; omega)
    · simp only [Bool.or_eq_false_iff, decide_eq_false_iff_not] at hb
      have rg' : ∀ i : Int, 0 ≤ i → i < ((t + 1 : Nat) : Int) → 0 ≤ gi ch i ∧ gi ch i < ts.length := fun i i0 i1 => by
        by_cases e : i = t
        · subst e; omega
        · exact hrg i i0 (by omega)
      refine wp_ite (fun h0 => ?_) (fun h0 => ?_)
      · simp only [decide_eq_true_eq] at h0
        obtain ⟨y0, y1⟩ := hrg ((t : Int) - 1) (by omega) (by omega)
        refine wp_i64 (by omega) (wp_idxi (by omega) (wp_idxt (by omega) (wp_idxt (by omega) (wp_is (T.fo _ y0 y1).2 (wp_ite (fun hf => ?_) (fun hf => ?_))))))
        · simp only [Bool.not_eq_true'] at hf
          refine bad (fun C => ?_)
          have := C.fo t (by omega) h
          unfold fok at this
          rw [hf] at this; cases this
        · simp only [Bool.not_eq_false'] at hf
          refine hc _ ⟨by omega, rg', fun i i0 i1 => ?_⟩ (by omega)
          by_cases e : i = t
          · subst e; exact hf
          · exact hfo i i0 (by omega)
      · simp only [decide_eq_false_iff_not] at h0
        exact hc _ ⟨by omega, rg', fun i i0 i1 => by omega⟩ (by omega)
  · simp only [decide_eq_false_iff_not] at h
    obtain rfl : t = ch.length := by omega
    have C : Cn ts r ch := ⟨hrg, hfo⟩
    have cl : ch.length ≤ ts.length := by
      rcases split_pre T ch with h' | h'
      · exact h'.2
      · exact absurd C h'
    simp only [ref24_Split_k1]
    refine wp_iter (fun (t : Nat) => t ≤ ch.length ∧ ∀ i : Int, 0 ≤ i → i < t → tlen ts (gi ch i) ≤ r.Limit) (fun t => ch.length - t) _ ?_ FUEL _ ⟨Nat.zero_le _, fun i _ i1 => by omega⟩ (fuel_of (by omega))
    rintro c2 t ⟨ht2, hlen⟩ hc2
    simp only [ref24_Split_b2]
    refine wp_ite (fun h2 => ?_) (fun h2 => ?_)
    · simp only [decide_eq_true_eq] at h2
      obtain ⟨x0, x1⟩ := C.rg t (by omega) h2
      have tx := T.task x0 x1
      refine wp_idxi (by omega) (wp_idxt (by omega) (wp_idxt (by omega) (wp_i64 (by omega) (wp_ite (fun hb => ?_) (fun hb => ?_)))))
      · simp only [decide_eq_true_eq] at hb
        refine wp_some ⟨fun C' => absurd C C', fun _ _ => rfl, fun _ A => ?_⟩
        have := A t (by omega) h2
        unfold tlen at this
        omega
      · simp only [decide_eq_false_iff_not] at hb
        refine hc2 _ ⟨by omega, fun i i0 i1 => ?_⟩ (by omega)
        by_cases e : i = t
        · subst e; unfold tlen; omega
        · exact hlen i i0 (by omega)
    · simp only [decide_eq_false_iff_not] at h2
      obtain rfl : t = ch.length := by omega
      simp only [ref24_Split_k3]
      refine wp_iter (fun (t : List (List Int) × Int) => 0 ≤ t.2 ∧ t.2 ≤ ch.length ∧ (t.1.length : Int) ≤ t.2 ∧ ∀ rest, GC ts r ch t.2 rest → GC ts r ch 0 (t.1 ++ rest)) (fun t => (ch.length - t.2).toNat) _ ?_ FUEL _ ⟨by simp only; omega, by simp only; omega, by simp, fun rest hr => hr⟩ (fuel_of (by simp only; omega))
      rintro c3 ⟨out, f⟩ ⟨f0, f1, hol, hG⟩ hc3
      simp only at f0 f1 hol hG hc3
      simp only [ref24_Split_b3]
      refine wp_ite (fun h3 => ?_) (fun h3 => ?_)
      · simp only [decide_eq_true_eq] at h3
        refine wp_i64 (by omega) ?_
        have p1 : PM ts r ch f 1 := fun j j1 j2 => by
          obtain rfl : j = 1 := by omega
          have : Rn ts r ch f 1 = tlen ts (gi ch f) := by simp [Rn]
          rw [this]; exact hlen f f0 h3
        refine wp_iter (fun (to : Int) => f + 1 ≤ to ∧ to ≤ ch.length ∧ PM ts r ch f (to - f).toNat) (fun to => (ch.length - to).toNat) _ ?_ FUEL _ ⟨by omega, by omega, by rw [show (f + 1 - f).toNat = 1 by omega]; exact p1⟩ (fuel_of (by omega))
        rintro c4 to ⟨t0, t1, hpm⟩ hc4
        simp only [ref24_Split_b4]
        -- the end of the part
        have fin : (to = ch.length ∨ r.Limit < Rn ts r ch f ((to - f).toNat + 1)) → WP (ref24_Split_k5 ch f to out c3 ()) (SplitR ts r ch) := by
          intro hm
          simp only [ref24_Split_k5]
          have hsub : sub ch f to = some (cutS ch f (to - f).toNat) := by
            unfold sub
            rw [if_pos (by omega)]
            unfold cutS
            rw [show f + (((to - f).toNat : Nat) : Int) = to by omega]
          have cl2 := cutS_len ch (k := (to - f).toNat) f0 (by omega)
          refine wp_is hsub (wp_chk (by simp; omega) (wp_chk (by simp; omega) ?_))
          refine hc3 _ ⟨by simp only; omega, by simp only; omega, by simp only [List.length_append, List.length_singleton]; omega, fun rest hr => ?_⟩ (by simp only; omega)
          simp only [List.nil_append] at hr ⊢
          rw [List.append_assoc]
          refine hG _ ?_
          have := GC.cons f0 (k := (to - f).toNat) (by omega) (by omega) hpm (by
            rcases hm with h | h
            · left; omega
            · right; exact h) (rest := rest) (by rw [show f + (((to - f).toNat : Nat) : Int) = to by omega]; exact hr)
          exact this
        refine wp_chk (by simp [i64b]; omega) (wp_ite (fun h4 => ?_) (fun h4 => ?_))
        · simp only [decide_eq_true_eq] at h4
          have hsub : sub ch f (to + 1) = some (cutS ch f ((to - f).toNat + 1)) := by
            unfold sub
            rw [if_pos (by omega)]
            unfold cutS
            rw [show f + (((to - f).toNat + 1 : Nat) : Int) = to + 1 by omega]
          have cl2 := cutS_len ch (k := (to - f).toNat + 1) f0 (by omega)
          have rc : ∀ j : Nat, j ≤ (to - f).toNat + 1 → Rn ts r (cutS ch f ((to - f).toNat + 1)) 0 j = Rn ts r ch f j := fun j hj => Rn_congr j (fun i hi => by
            rw [show (0 : Int) + (i : Int) = i by omega]
            exact cutS_gi ch f0 (by omega) (by omega))
          refine wp_is hsub ?_
          refine wp_bind _ (perm_wp T (cutS ch f ((to - f).toNat + 1)) (by omega) (fun i i0 i1 => ?_)) ?_
          · rw [cl2] at i1
            obtain ⟨j, rfl⟩ : ∃ j : Nat, i = j := ⟨i.toNat, by omega⟩
            rw [cutS_gi ch f0 (by omega) (by omega)]
            exact C.rg _ (by omega) (by omega)
          intro b hb
          rw [cl2] at hb
          refine wp_ite (fun hx => ?_) (fun hx => ?_)
          · simp only [Bool.and_eq_true] at hx
            have P := hb.1 hx.2
            refine wp_i64 (by omega) (hc4 _ ⟨by omega, by omega, fun j j1 j2 => ?_⟩ (by omega))
            rw [← rc j (by omega)]
            exact P j j1 (by omega)
          · simp only [h4, decide_true, Bool.true_and] at hx
            refine fin (Or.inr ?_)
            refine Classical.byContradiction fun hle => ?_
            have : b = true := hb.2 (fun j j1 j2 => by
              rw [rc j (by omega)]
              by_cases e : j = (to - f).toNat + 1
              · subst e; omega
              · exact hpm j j1 (by omega))
            rw [this] at hx; cases hx
        · simp only [decide_eq_false_iff_not] at h4
          exact fin (Or.inl (by omega))
      · simp only [decide_eq_false_iff_not] at h3
        obtain rfl : f = ch.length := by omega
        simp only [ref24_Split_k4]
        refine wp_some ⟨fun C' => absurd C C', fun _ ⟨i, i0, i1, hi⟩ => by have := hlen i i0 i1; omega, fun _ _ => ⟨rfl, ?_⟩⟩
        have := hG [] GC.nil
        simpa using this
end Go.Proofs.Ytedocibniankjaa
