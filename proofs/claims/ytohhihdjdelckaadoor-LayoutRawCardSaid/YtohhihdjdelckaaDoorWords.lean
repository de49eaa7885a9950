/- Contracts of package words: isLetter, isDigit, Name. -/
import Derived.Test.YtohhihdjdelckaaDoorEm
import Derived.Test.YtohhihdjdelckaaDoorProg
set_option linter.all false
namespace Go.Proofs.YtohhihdjdelckaaDoor
open Go.Eng Go.RowKit
set_option maxRecDepth 10000

def letterB (c : Int) : Bool := (decide (65 ≤ c) && decide (c ≤ 90)) || (decide (97 ≤ c) && decide (c ≤ 122))
def digitB (c : Int) : Bool := decide (48 ≤ c) && decide (c ≤ 57)

theorem isLetter_spec (w : World) (c : Int) : Calls Tryd.prog 81 #[.int .u8 c] w (Ret w (.bool (letterB c))) := by
  refine calls_cw (args := [_]) Tryd.func81 rfl (Mem.start w) rfl ?_
  refine cw_seq fun K1 hK1 => ?_
  refine cw_region ?_
  refine ow_ev ev_assign ?_
  refine ow_nil (hK1 _ _ ?_); clear hK1
  refine cw_seq fun K2 hK2 => ?_
  refine cw_region ?_
  refine ow_ev ev_move ?_
  refine ow_ev ev_geq ?_
  refine ow_ev ev_move ?_
  refine ow_evg rfl ev_move ?_
  refine ow_evg rfl ev_leq ?_
  refine ow_ev ev_and ?_
  refine ow_ev ev_move ?_
  refine ow_evg rfl ev_move ?_
  refine ow_evg rfl ev_geq ?_
  refine ow_evg rfl ev_move ?_
  refine ow_evg rfl ev_move ?_
  refine ow_evg rfl ev_leq ?_
  refine ow_evg rfl ev_and ?_
  refine ow_ev ev_or ?_
  refine ow_ev ev_assign ?_
  refine ow_nil (hK2 _ _ ?_); clear hK2
  refine cw_ret (kw_ret1 rfl rfl (fun w hm => ret_of hm rfl))

theorem isDigit_spec (w : World) (c : Int) : Calls Tryd.prog 82 #[.int .u8 c] w (Ret w (.bool (digitB c))) := by
  refine calls_cw (args := [_]) Tryd.func82 rfl (Mem.start w) rfl ?_
  refine cw_seq fun K1 hK1 => ?_
  refine cw_region ?_
  refine ow_ev ev_assign ?_
  refine ow_nil (hK1 _ _ ?_); clear hK1
  refine cw_seq fun K2 hK2 => ?_
  refine cw_region ?_
  refine ow_ev ev_move ?_
  refine ow_ev ev_geq ?_
  refine ow_ev ev_move ?_
  refine ow_evg rfl ev_move ?_
  refine ow_evg rfl ev_leq ?_
  refine ow_ev ev_and ?_
  refine ow_ev ev_assign ?_
  refine ow_nil (hK2 _ _ ?_); clear hK2
  refine cw_ret (kw_ret1 rfl rfl (fun w hm => ret_of hm rfl))


def charB (c : Int) : Bool := letterB c || digitB c || decide (c = 95)
def nameB (s : ByteArray) : Bool := decide (1 ≤ s.size) && decide (s.size ≤ 12) && letterB (bt s 0) && (List.range s.size).all fun i => charB (bt s i)

theorem char_of {c : Int} (h : ((!letterB c && !digitB c) && decide (c ≠ 95)) = false) : charB c = true := by
  unfold charB
  cases hl : letterB c <;> cases hd : digitB c <;> simp [hl, hd] at h ⊢
  exact h

theorem name_no1 {s : ByteArray} (h : ((decide ((s.size : Int) < 1) || decide (12 < (s.size : Int))) || !letterB (bt s 0)) = true) : nameB s = false := by
  unfold nameB
  cases hl : letterB (bt s 0)
  · simp
  · simp [hl] at h
    rcases h with h | h
    · have : ¬ (1 ≤ s.size) := by omega
      simp [this]
    · have : ¬ (s.size ≤ 12) := by omega
      simp [this]

theorem name_no2 {s : ByteArray} {i : Int} (h0 : 0 ≤ i) (h1 : i < s.size) (h : ((!letterB (bt s i.toNat) && !digitB (bt s i.toNat)) && decide (bt s i.toNat ≠ 95)) = true) : nameB s = false := by
  have hc : charB (bt s i.toNat) = false := by
    unfold charB
    cases hl : letterB (bt s i.toNat) <;> cases hd : digitB (bt s i.toNat) <;> simp_all
  have : ((List.range s.size).all fun i => charB (bt s i)) = false := by
    rw [List.all_eq_false]
    exact ⟨i.toNat, by rw [List.mem_range]; omega, by simp [hc]⟩
  unfold nameB
  rw [this]
  simp

theorem name_yes {s : ByteArray} {i : Int} (h : ((¬ (s.size : Int) < 1) ∧ ¬ 12 < (s.size : Int)) ∧ letterB (bt s 0) = true) (hi : i = s.size) (hall : ∀ j, j < i.toNat → charB (bt s j) = true) : nameB s = true := by
  unfold nameB
  have h1 : 1 ≤ s.size := by omega
  have h2 : s.size ≤ 12 := by omega
  simp only [h1, h2, decide_true, h.2, Bool.true_and, List.all_eq_true, List.mem_range]
  intro j hj
  exact hall j (by omega)

theorem name_spec (w : World) (s : ByteArray) : Calls Tryd.prog 61 #[.string s] w (Ret w (.bool (nameB s))) := by
  refine calls_cw (args := [_]) Tryd.func61 rfl (Mem.start w) rfl ?_
  refine cw_seq fun K1 hK1 => ?_
  refine cw_region ?_
  refine ow_ev ev_assign ?_
  refine ow_nil (hK1 _ _ ?_); clear hK1
  refine cw_seq fun K2 hK2 => ?_
  refine cw_seq fun K3 hK3 => ?_
  refine cw_region ?_
  refine ow_ev ev_move ?_
  refine ow_ev ev_len_str ?_
  refine ow_ev ev_lss ?_
  refine ow_ev ev_move ?_
  refine ow_evg rfl ev_move ?_
  refine ow_evg rfl ev_len_str ?_
  refine ow_evg rfl ev_gtr ?_
  refine ow_ev ev_or ?_
  refine ow_ev ev_move ?_
  refine ow_evg rfl ev_move ?_
  refine ow_evg rfl ev_index_string ?_
  refine ow_callg rfl (fun _ w _ => isLetter_spec w _) ?_
  refine ow_evg rfl ev_not ?_
  refine ow_ev ev_or ?_
  refine ow_nil (hK3 _ _ ?_); clear hK3
  refine cw_cond rfl (fun hc1 => ?_) (fun hc1 => ?_)  -- t17
  ·
    refine cw_seq fun K4 hK4 => ?_
    refine cw_region ?_
    refine ow_ev ev_assign ?_
    refine ow_nil (hK4 _ _ ?_); clear hK4
    refine cw_ret (kw_ret1 rfl rfl (fun w hm => ret_of hm (congrArg Value.bool (name_no1 hc1).symm)))
  ·
    refine cw_skip (hK2 _ _ ?_); clear hK2
    refine cw_seq fun K5 hK5 => ?_
    refine cw_seq fun K6 hK6 => ?_
    refine cw_region ?_
    refine ow_ev ev_move ?_
    refine ow_ev ev_len_str ?_
    refine ow_ev ev_move ?_
    refine ow_nil (hK6 _ _ ?_); clear hK6
    refine cw_block ?_  -- block 0
    simp only [Bool.or_eq_false_iff, decide_eq_false_iff_not, Bool.not_eq_false'] at hc1
    refine cw_loop (γ := Int) (env := fun i => [(0, .v (.string s)), (19, .v (.int .i64 (s.size : Int))), (20, .v (.int .i64 i))]) (mem := fun _ => [old w])
      (R := fun i => 0 ≤ i ∧ i ≤ s.size ∧ ∀ j, j < i.toNat → charB (bt s j) = true) (μ := fun i => (s.size - i).toNat) 0 ⟨by omega, by omega, fun j hj => by simp at hj⟩ ⟨rfl, rfl, rfl, trivial⟩ (fun _ h => h) ?_
    · intro i hR KL hL
      obtain ⟨hi0, hi1, hall⟩ := hR
      refine cw_seq fun K7 hK7 => ?_
      refine cw_region ?_
      refine ow_ev ev_lss ?_
      refine ow_nil (hK7 _ _ ?_); clear hK7
      refine cw_seq fun K8 hK8 => ?_
      refine cw_if rfl (fun hc => ?_) (fun hc => ?_)  -- t21
      ·
        refine cw_skip (hK8 _ _ ?_); clear hK8
        refine cw_seq fun K9 hK9 => ?_
        refine cw_block ?_  -- block 1
        refine cw_seq fun K10 hK10 => ?_
        refine cw_region ?_
        refine ow_ev ev_move ?_
        refine ow_ev ev_assign ?_
        refine ow_nil (hK10 _ _ ?_); clear hK10
        refine cw_seq fun K11 hK11 => ?_
        refine cw_region ?_
        refine ow_ev ev_move ?_
        refine ow_ev ev_move ?_
        refine ow_ev ev_index_string ?_
        refine ow_cons (st_callv (fun w _ => isLetter_spec w _) ?_)
        refine ow_ev ev_not ?_
        refine ow_ev ev_move ?_
        refine ow_evg rfl ev_move ?_
        refine ow_evg rfl ev_move ?_
        refine ow_evg rfl ev_index_string ?_
        refine ow_callg rfl (fun _ w _ => isDigit_spec w _) ?_
        refine ow_evg rfl ev_not ?_
        refine ow_ev ev_and ?_
        refine ow_ev ev_move ?_
        refine ow_evg rfl ev_move ?_
        refine ow_evg rfl ev_move ?_
        refine ow_evg rfl ev_index_string ?_
        refine ow_evg rfl ev_neq ?_
        refine ow_ev ev_and ?_
        refine ow_nil (hK11 _ _ ?_); clear hK11
        refine cw_cond rfl (fun hc2 => ?_) (fun hc2 => ?_)  -- t40
        ·
          refine cw_seq fun K12 hK12 => ?_
          refine cw_region ?_
          refine ow_ev ev_assign ?_
          refine ow_nil (hK12 _ _ ?_); clear hK12
          refine cw_ret (kw_ret1 rfl rfl (fun w hm => ret_of hm (congrArg Value.bool (name_no2 hi0 (by assumption) hc2).symm)))
        ·
          refine cw_skip (hK9 _ _ ?_); clear hK9
          refine cw_region ?_
          refine ow_ev ev_add ?_
          refine ow_ev ev_move ?_
          refine ow_nil (hL (i + 1) _ _ ⟨by omega, by omega, fun j hj => ?_⟩ (by omega) ⟨rfl, rfl, rfl, trivial⟩ (fun _ h => h))
          by_cases hji : j < i.toNat
          · exact hall j hji
          · obtain rfl : j = i.toNat := by omega
            exact char_of hc2
      ·
        -- exit 0
        refine cw_exit (hK5 _ _ ?_); clear hK5
        refine cw_seq fun K13 hK13 => ?_
        refine cw_region ?_
        refine ow_ev ev_assign ?_
        refine ow_nil (hK13 _ _ ?_); clear hK13
        refine cw_ret (kw_ret1 rfl rfl (fun w hm => ret_of hm (congrArg Value.bool (name_yes hc1 (by omega) hall).symm)))

end Go.Proofs.YtohhihdjdelckaaDoor
