/- Contracts of keep.Pick and ref1.Decimal. -/
import Derived.Test.YtnihhidbiepnhaaEng6
import Derived.Test.YtnihhidbiepnhaaProg
namespace Go.Proofs.Ytnihhidbiepnhaa
open Go.Eng Go.RowKit
set_option maxRecDepth 10000
/-- keep.Pick: the number modulo 2^64, modulo n. -/
def pickI (v m : Int) : Int := (v % 18446744073709551616) % m
theorem pickI_range (v : Int) {m : Int} (h : 0 < m) : 0 ≤ pickI v m ∧ pickI v m < m := ⟨Int.emod_nonneg _ (by omega), Int.emod_lt_of_pos _ h⟩
theorem u64_wrap (x : Int) : IntKind.u64.wrap x = x % 18446744073709551616 := by
  simp [IntKind.wrap, IntKind.signed, IntKind.bits]
theorem pick_val {v m : Int} (h0 : 0 < m) (h1 : m ≤ 4611686018427387904) : IntKind.i64.wrap ((IntKind.u64.wrap v).tmod (IntKind.u64.wrap m)) = pickI v m := by
  have hr := pickI_range v h0
  rw [u64_wrap, u64_wrap, Int.emod_eq_of_lt (a := m) (by omega) (by omega), Int.tmod_eq_emod_of_nonneg (Int.emod_nonneg _ (by omega))]
  exact i64_wrap (by unfold pickI at hr; omega) (by unfold pickI at hr; omega)
theorem pick_spec (w : World) (v m : Int) (h0 : 0 < m) (h1 : m ≤ 4611686018427387904) : Calls Try.prog 17 #[.int .i64 v, .int .i64 m] w (Ret w (.int .i64 (pickI v m))) := by
  have hm0 : IntKind.u64.wrap m ≠ 0 := by rw [u64_wrap, Int.emod_eq_of_lt (by omega) (by omega)]; omega
  refine calls_cw (args := [_, _]) Try.func17 rfl (Mem.start w) rfl ?_
  refine cw_seq fun K1 hK1 => ?_
  refine cw_region ?_
  refine ow_ev ev_assign ?_
  refine ow_nil (hK1 _ _ ?_); clear hK1
  refine cw_seq fun K2 hK2 => ?_
  refine cw_region ?_
  refine ow_ev ev_move ?_
  refine ow_ev (ev_convert_int .u64) ?_
  refine ow_ev ev_move ?_
  refine ow_ev (ev_convert_int .u64) ?_
  refine ow_ev (ev_rem (hq := fun _ => hm0)) ?_
  refine ow_ev (ev_convert_int .i64) ?_
  refine ow_ev ev_assign ?_
  refine ow_nil (hK2 _ _ ?_); clear hK2
  refine cw_ret (kw_ret1 rfl rfl (fun w hm => ret_of hm (by rw [pick_val h0 h1])))

/-- The digits of m in front of acc. -/
def decF : Nat → Nat → List UInt8 → List UInt8
  | 0, _, acc => acc
  | f + 1, m, acc => if m = 0 then acc else decF f (m / 10) (UInt8.ofNat (48 + m % 10) :: acc)
theorem decF_fuel : ∀ (f h m : Nat) (acc : List UInt8), m ≤ f → m ≤ h → decF f m acc = decF h m acc
  | 0, h, m, acc, hf, _ => by
    have : m = 0 := by omega
    subst this
    cases h <;> simp [decF]
  | f + 1, 0, m, acc, _, hh => by
    have : m = 0 := by omega
    subst this
    simp [decF]
  | f + 1, h + 1, m, acc, hf, hh => by
    simp only [decF]
    split
    · rfl
    · exact decF_fuel f h (m / 10) _ (by omega) (by omega)
def decA (m : Nat) (acc : List UInt8) : List UInt8 := decF m m acc
def decL (n : Int) : List UInt8 := if 0 ≤ n ∧ n < 10 then [UInt8.ofNat (48 + n.toNat)] else (if n < 0 then [45] else []) ++ decA n.natAbs []
theorem digit_ext (d : Nat) (hd : d < 10) : (ByteArray.mk #[48, 49, 50, 51, 52, 53, 54, 55, 56, 57]).extract d (d + 1) = bs [UInt8.ofNat (48 + d)] := by
  have : d = 0 ∨ d = 1 ∨ d = 2 ∨ d = 3 ∨ d = 4 ∨ d = 5 ∨ d = 6 ∨ d = 7 ∨ d = 8 ∨ d = 9 := by omega
  rcases this with rfl | rfl | rfl | rfl | rfl | rfl | rfl | rfl | rfl | rfl <;> decide
theorem tmod_nat (n : Int) : n.tmod 10 = if n < 0 then -((n.natAbs % 10 : Nat) : Int) else ((n.natAbs % 10 : Nat) : Int) := by
  split
  · rename_i h
    have : n = -((n.natAbs : Nat) : Int) := by omega
    conv => lhs; rw [this, Int.neg_tmod]
    rw [Int.tmod_eq_emod_of_nonneg (by omega)]; omega
  · rw [Int.tmod_eq_emod_of_nonneg (by omega)]; omega
theorem tdiv_nat (n : Int) : n.tdiv 10 = if n < 0 then -((n.natAbs / 10 : Nat) : Int) else ((n.natAbs / 10 : Nat) : Int) := by
  split
  · rename_i h
    have : n = -((n.natAbs : Nat) : Int) := by omega
    conv => lhs; rw [this, Int.neg_tdiv]
    rw [Int.tdiv_eq_ediv_of_nonneg (by omega)]; omega
  · rw [Int.tdiv_eq_ediv_of_nonneg (by omega)]; omega
theorem decA_step {m : Nat} (h : m ≠ 0) (acc : List UInt8) : decA m acc = decA (m / 10) (UInt8.ofNat (48 + m % 10) :: acc) := by
  unfold decA
  cases m with
  | zero => omega
  | succ m =>
    simp only [decF, h, if_false]
    exact decF_fuel _ _ _ _ (by omega) (by omega)

theorem dig_nat (k : Nat) (hk : k < 10) : (ByteArray.mk #[48, 49, 50, 51, 52, 53, 54, 55, 56, 57]).extract ((k : Nat) : Int).toNat (((k : Nat) : Int) + 1).toNat = bs [UInt8.ofNat (48 + k)] := by
  rw [show ((k : Nat) : Int).toNat = k by omega, show (((k : Nat) : Int) + 1).toNat = k + 1 by omega]
  exact digit_ext k hk
theorem bs_cons (c : UInt8) (s : List UInt8) : bs [c] ++ bs s = bs (c :: s) := bs_append [c] s
theorem dec_round {n : Int} (_h : n ≠ 0) : (n.tdiv 10).natAbs = n.natAbs / 10 ∧ (-9223372036854775808 ≤ n ∧ n ≤ 9223372036854775807 → I64 (n.tdiv 10)) := by
  have := tdiv_nat n
  constructor
  · rw [this]; split <;> omega
  · intro hn; unfold I64; rw [this]; split <;> omega
theorem dec_lt {n : Int} (h : n ≠ 0) : (n.tdiv 10).natAbs < n.natAbs := by rw [(dec_round h).1]; omega
theorem dec_len {n : Int} {s : List UInt8} {c : UInt8} (h : n ≠ 0) (hn : -9223372036854775808 ≤ n ∧ n ≤ 9223372036854775807) (hs : s = [] ∨ s.length + n.natAbs ≤ 922337203685477590) :
    c :: s = [] ∨ (c :: s).length + (n.tdiv 10).natAbs ≤ 922337203685477590 := by
  rw [(dec_round h).1]
  right
  rcases hs with rfl | hs
  · simp; omega
  · simp; omega
theorem dec_end {n N : Int} {s : List UInt8} (hz : ¬ n ≠ 0) (hd : decA n.natAbs s = decA N.natAbs []) : s = decA N.natAbs [] := by
  have : n = 0 := by omega
  subst this
  rw [← hd]
  rfl

theorem decimal_spec (w : World) (N : Int) (hN : I64 N) : Calls Try.prog 18 #[.int .i64 N] w (Ret w (.string (bs (decL N)))) := by
  unfold I64 at hN
  refine calls_cw (args := [_]) Try.func18 rfl (Mem.start w) rfl ?_
  refine cw_seq fun K1 hK1 => ?_
  refine cw_region ?_
  refine ow_ev ev_assign ?_
  refine ow_nil (hK1 _ _ ?_); clear hK1
  refine cw_seq fun K2 hK2 => ?_
  refine cw_seq fun K3 hK3 => ?_
  refine cw_region ?_
  refine ow_ev ev_move ?_
  refine ow_ev ev_geq ?_
  refine ow_ev ev_move ?_
  refine ow_evg rfl ev_move ?_
  refine ow_evg rfl ev_lss ?_
  refine ow_ev ev_and ?_
  refine ow_nil (hK3 _ _ ?_); clear hK3
  refine cw_cond rfl (fun hc1 => ?_) (fun hc1 => ?_)  -- t11
  ·
    simp only [Bool.and_eq_true, decide_eq_true_eq] at hc1
    refine cw_seq fun K4 hK4 => ?_
    refine cw_region ?_
    refine ow_ev ev_move ?_
    refine ow_ev ev_move ?_
    refine ow_ev ev_add ?_
    refine ow_ev (ev_slice_string (hb := fun _ => ⟨by omega, by omega, by show N + 1 ≤ 10; omega⟩)) ?_
    refine ow_ev ev_assign ?_
    refine ow_nil (hK4 _ _ ?_); clear hK4
    refine cw_ret (kw_ret1 rfl rfl (fun w hm => ret_of hm (by rw [show (N + 1).toNat = N.toNat + 1 by omega, digit_ext _ (by omega), decL, if_pos hc1])))
  ·
    have hc1 : ¬ (0 ≤ N ∧ N < 10) := by simpa using hc1
    refine cw_skip (hK2 _ _ ?_); clear hK2
    refine cw_seq fun K5 hK5 => ?_
    refine cw_region ?_
    refine ow_ev ev_assign ?_
    refine ow_nil (hK5 _ _ ?_); clear hK5
    refine cw_seq fun K6 hK6 => ?_
    refine cw_region ?_
    refine ow_ev ev_move ?_
    refine ow_ev ev_lss ?_
    refine ow_ev ev_assign ?_
    refine ow_nil (hK6 _ _ ?_); clear hK6
    refine cw_seq fun K7 hK7 => ?_
    refine cw_block ?_
    refine cw_loop (γ := Int × List UInt8) (env := fun g => [(0, .v (.int .i64 g.1)), (3, .v (.string (bs g.2))), (4, .v (.bool (decide (N < 0))))]) (mem := fun g => [old w]) (R := fun g => decA g.1.natAbs g.2 = decA N.natAbs [] ∧ I64 g.1 ∧ (g.2 = [] ∨ g.2.length + g.1.natAbs ≤ 922337203685477590)) (μ := fun g => g.1.natAbs) ((N, [])) (⟨rfl, hN, .inl rfl⟩) ⟨rfl, rfl, rfl, trivial⟩ (fun _ h => h) ?_
    intro g hR1 KL1 hL1
    obtain ⟨n, s⟩ := g
    dsimp only at hR1 ⊢
    obtain ⟨hd, hn, hs⟩ := hR1
    unfold I64 at hn
    have htm := tmod_nat n
    have htd := tdiv_nat n
    have hwr : IntKind.i64.wrap (n.tdiv 10) = n.tdiv 10 := i64_wrap (by rw [htd]; split <;> omega) (by rw [htd]; split <;> omega)
    refine cw_seq fun K8 hK8 => ?_
    refine cw_seq fun K9 hK9 => ?_
    refine cw_region ?_
    refine ow_ev ev_move ?_
    refine ow_ev ev_neq ?_
    refine ow_nil (hK9 _ _ ?_); clear hK9
    refine cw_if rfl (fun hc2 => ?_) (fun hc2 => ?_)  -- t19
    ·
      refine cw_skip (hK8 _ _ ?_); clear hK8
      refine cw_block ?_
      refine cw_seq fun K10 hK10 => ?_
      refine cw_region ?_
      refine ow_ev ev_move ?_
      refine ow_ev ev_rem ?_
      refine ow_ev ev_assign ?_
      refine ow_nil (hK10 _ _ ?_); clear hK10
      refine cw_cut (γ := Unit) (env := fun _ => [(0, .v (.int .i64 n)), (3, .v (.string (bs s))), (4, .v (.bool (decide (N < 0)))), (5, .v (.int .i64 ((n.natAbs % 10 : Nat) : Int)))]) (mem := fun _ => [old w]) (R := fun _ => True) ?_ ?_
      · intro KJ11 hJ11
        refine cw_seq fun K12 hK12 => ?_
        refine cw_region ?_
        refine ow_ev ev_move ?_
        refine ow_ev ev_lss ?_
        refine ow_nil (hK12 _ _ ?_); clear hK12
        refine cw_if rfl (fun hc3 => ?_) (fun hc3 => ?_)  -- t23
        ·
          refine cw_region ?_
          refine ow_ev ev_move ?_
          refine ow_ev ev_neg ?_
          refine ow_ev ev_assign ?_
          refine ow_nil (hJ11 (()) _ _ (trivial) ⟨rfl, rfl, rfl, by rw [htm, if_pos (by rw [htm] at hc3; split at hc3 <;> omega), Int.neg_neg]; rfl, trivial⟩ (fun _ h => h))
        ·
          refine cw_skip (hJ11 (()) _ _ (trivial) ⟨rfl, rfl, rfl, by rw [htm] at hc3 ⊢; split at hc3 <;> split <;> first | rfl | (exact congrArg (fun z => some (EV.v (Value.int .i64 z))) (by omega)), trivial⟩ (fun _ h => h))
      · intro _ hR
        refine cw_seq fun K13 hK13 => ?_
        refine cw_region ?_
        refine ow_ev ev_move ?_
        refine ow_ev ev_move ?_
        refine ow_ev ev_add ?_
        refine ow_ev (ev_slice_string (hb := fun _ => ⟨by omega, by omega, by show ((n.natAbs % 10 : Nat) : Int) + 1 ≤ 10; omega⟩)) ?_
        refine ow_ev ev_move ?_
        refine ow_ev (ev_str_add (hl := fun _ => by rw [dig_nat _ (Nat.mod_lt _ (by omega)), bs_size, bs_size]; rcases hs with rfl | hs <;> simp <;> omega)) ?_
        refine ow_ev ev_assign ?_
        refine ow_nil (hK13 _ _ ?_); clear hK13
        refine cw_region ?_
        refine ow_ev ev_move ?_
        refine ow_ev ev_quo ?_
        refine ow_ev ev_assign ?_
        refine ow_nil (hL1 ((n.tdiv 10, UInt8.ofNat (48 + n.natAbs % 10) :: s)) _ _ (⟨by rw [(dec_round hc2).1]; rw [← decA_step (by omega)]; exact hd, (dec_round hc2).2 hn, dec_len hc2 hn hs⟩) (dec_lt hc2) ⟨by rw [hwr]; rfl, by rw [← bs_cons, ← dig_nat _ (Nat.mod_lt _ (by omega))]; rfl, rfl, trivial⟩ (fun _ h => h))
    ·
      refine cw_exit (hK7 _ _ ?_); clear hK7
      refine cw_seq fun K14 hK14 => ?_
      refine cw_seq fun K15 hK15 => ?_
      refine cw_region ?_
      refine ow_ev ev_move ?_
      refine ow_nil (hK15 _ _ ?_); clear hK15
      refine cw_if rfl (fun hc4 => ?_) (fun hc4 => ?_)  -- t34
      ·
        refine cw_region ?_
        refine ow_ev ev_move ?_
        refine ow_ev (ev_str_add (hl := fun _ => by rw [bs_size]; show 1 + s.length ≤ 9223372036854775807; rcases hs with h | hs; (rw [h]; decide); omega)) ?_
        refine ow_ev ev_assign ?_
        refine ow_nil (hK14 _ _ ?_); clear hK14
        refine cw_seq fun K16 hK16 => ?_
        refine cw_region ?_
        refine ow_ev ev_move ?_
        refine ow_ev ev_assign ?_
        refine ow_nil (hK16 _ _ ?_); clear hK16
        refine cw_ret (kw_ret1 rfl rfl (fun w hm => ret_of hm (by rw [dec_end hc2 hd, decL, if_neg hc1, if_pos hc4]; exact congrArg Value.string (bs_append [45] _))))
      ·
        refine cw_skip (hK14 _ _ ?_); clear hK14
        refine cw_seq fun K17 hK17 => ?_
        refine cw_region ?_
        refine ow_ev ev_move ?_
        refine ow_ev ev_assign ?_
        refine ow_nil (hK17 _ _ ?_); clear hK17
        refine cw_ret (kw_ret1 rfl rfl (fun w hm => ret_of hm (by rw [dec_end hc2 hd, decL, if_neg hc1, if_neg hc4]; rfl)))

end Go.Proofs.Ytnihhidbiepnhaa
