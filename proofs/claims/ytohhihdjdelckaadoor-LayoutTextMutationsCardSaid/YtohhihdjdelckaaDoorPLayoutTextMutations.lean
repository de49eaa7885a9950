/- LayoutTextMutations, the plain law. -/
import Derived.Test.YtohhihdjdelckaaDoorFm
import Derived.Test.YtohhihdjdelckaaDoorGb
import Derived.Test.YtohhihdjdelckaaDoorTp
import Derived.Test.YtohhihdjdelckaaDoorOpens
import Derived.Test.YtohhihdjdelckaaDoorWLayoutTextMutations
namespace Go.Proofs.YtohhihdjdelckaaDoor
open Go.Dc
theorem sub_some (s : Str) (i j : Int) (h0 : 0 ≤ i) (h1 : i ≤ j) (h2 : j ≤ s.l.length) : ∃ t, strSub s i j = some t ∧ t.l.length ≤ s.l.length := by
  unfold strSub
  rw [if_pos (by omega)]
  exact ⟨_, rfl, by simp; omega⟩
theorem layoutTextMutations_plain (l : List Int) (at0 c : Int) (cut : Bool) (hl : Wf.wf l) (_ : -9223372036854775808 ≤ at0 ∧ at0 ≤ 9223372036854775807) (hc : 0 ≤ c ∧ c ≤ 255) (_ : Wf.wf cut) : law4_LayoutTextMutations_m l at0 c cut = some true := by
  obtain ⟨x, hx, g⟩ := layout_m l (by have : l.length * 8 ≤ 140737488351232 := hl.1; omega)
  have ck := gen_check g
  have hf := check_full ck
  have v := valN_of ck
  have hlen : 0 < (fmtS x).l.length ∧ (fmtS x).l.length ≤ 100000 := by
    unfold fmtS
    rw [if_pos ck]
    have h1 := joinT_le (fmtL x) (fun w hw => (fmt_ok v w hw).2)
    have h2 := fmt_len v
    refine ⟨?_, by simp only; omega⟩
    cases e : fmtL x with
    | nil =>
      have : (fmtL x).length = 0 := by rw [e]; rfl
      unfold fmtL at this
      simp only [List.length_append, List.length_map] at this
      omega
    | cons w r => simp [joinT]; omega
  obtain ⟨k, hk, k0, k1⟩ := pick_m at0 ((fmtS x).l.length : Int) (by omega) (by omega)
  obtain ⟨a, ha, al⟩ := sub_some (fmtS x) 0 k (by omega) (by omega) (by omega)
  obtain ⟨b, hb, bl⟩ := sub_some (fmtS x) (k + 1) ((fmtS x).l.length : Int) (by omega) (by omega) (by omega)
  unfold law4_LayoutTextMutations_m
  refine bindE hx (bindE (rformat_m x) (bindE hk ?_))
  cases cut with
  | true =>
    refine (if_pos rfl).trans (bindE awake4 ?_)
    rw [whn_t rfl]
    refine bindE ha ?_
    rw [whn_t rfl, parses_m]
    rfl
  | false =>
    refine (if_neg (by simp)).trans (bindE awake4 ?_)
    rw [whn_t rfl]
    refine bindE ha ((chk_true (by rw [i64b_of (by omega) (by omega)]; rfl)).trans ?_)
    rw [whn_t rfl]
    refine bindE hb ((if_pos rfl).trans ((chk_true (by unfold u8b; simp; omega)).trans ?_))
    refine bindE (cat_s a _ (by simp; omega)) (bindE (cat_s _ b (by simp; omega)) (bindE (parses_m _) rfl))
end Go.Proofs.YtohhihdjdelckaaDoor
