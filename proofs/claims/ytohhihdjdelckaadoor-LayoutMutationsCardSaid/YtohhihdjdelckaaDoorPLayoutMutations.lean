/- LayoutMutations, the plain law. -/
import Derived.Test.YtohhihdjdelckaaDoorFm
import Derived.Test.YtohhihdjdelckaaDoorGb
import Derived.Test.YtohhihdjdelckaaDoorTs
import Derived.Test.YtohhihdjdelckaaDoorOpens
import Derived.Test.YtohhihdjdelckaaDoorWLayoutMutations
set_option linter.all false
namespace Go.Proofs.YtohhihdjdelckaaDoor
open Go.Dc
set_option maxRecDepth 10000

def Sm (o : Option Layout) : Prop := ∃ x, o = some x ∧ x.Sections.length ≤ 1000
theorem sm_if {c : Prop} [Decidable c] {a b : Option Layout} (h1 : c → Sm a) (h2 : ¬ c → Sm b) : Sm (if c then a else b) := by
  split
  · rename_i h; exact h1 h
  · rename_i h; exact h2 h
theorem sm_chk {b : Bool} {o : Option Layout} (h : b = true) (h2 : Sm o) : Sm (chk b o) := by rw [chk_true h]; exact h2
theorem sm_i64 {v : Int} {o : Option Layout} (h0 : -9223372036854775808 ≤ v) (h1 : v ≤ 9223372036854775807) (h2 : Sm o) : Sm (chk (i64b v) o) := sm_chk (i64b_of h0 h1) h2
theorem sm_div {v k : Int} {b : Bool} {o : Option Layout} (hb : b = true) (hv : -9223372036854775808 ≤ v ∧ v ≤ 9223372036854775807) (hk : 2 ≤ k) (h2 : Sm o) : Sm (chk (b && i64b (v.tdiv k)) o) :=
  sm_chk (by rw [tdiv_i64' hv hk, hb]; rfl) h2
theorem sm_pick {v n : Int} {K : Int → Option Layout} (h0 : 1 ≤ n) (h1 : n ≤ 4611686018427387904) (h2 : ∀ k, 0 ≤ k → k < n → Sm (K k)) : Sm ((keep_Pick_m v n).bind K) := by
  obtain ⟨k, e, a, b⟩ := pick_m v n h0 h1
  rw [e, Option.bind_some]; exact h2 k a b
theorem sm_idx {α : Type} [Inhabited α] {xs : List α} {i : Int} {K : α → Option Layout} (h0 : 0 ≤ i) (h1 : i < xs.length) (h2 : ∀ x, Sm (K x)) : Sm ((idx xs i).bind K) := by
  rw [getD_idx h0 h1, Option.bind_some]; exact h2 _
theorem sm_sub {α : Type} {xs : List α} {i j : Int} {K : List α → Option Layout} (h0 : 0 ≤ i) (h1 : i ≤ j) (h2 : j ≤ xs.length) (h3 : ∀ x, x.length ≤ xs.length → Sm (K x)) : Sm ((sub xs i j).bind K) := by
  have e : ∃ x, sub xs i j = some x ∧ x.length ≤ xs.length := by
    unfold sub
    rw [if_pos (by omega)]
    exact ⟨_, rfl, by simp; omega⟩
  obtain ⟨x, e, l⟩ := e
  rw [e, Option.bind_some]; exact h3 x l
theorem sm_k2 (a : List Str) (b : List Str) (c : List Section) (d : List Link) (hc : c.length ≤ 1000) : Sm (keep_Other_k2 (a, b, c, d)) := ⟨_, rfl, hc⟩

theorem other_some (l : Layout) (v : Val l) (how at0 w : Int) (hw : -9223372036854775808 ≤ w ∧ w ≤ 9223372036854775807) : Sm (keep_Other_m l how at0 w) := by
  have hf := v.full
  unfold keep_Other_m
  refine sm_chk (by simp; omega) (sm_chk (by simp; omega) (sm_chk (by simp; omega) (sm_chk (by simp; omega) ?_)))
  unfold keep_Other_k1
  rw [show ([] : List Section) ++ l.Sections = l.Sections from rfl, show ([] : List Str) ++ l.Stations = l.Stations from rfl, show ([] : List Str) ++ l.Points = l.Points from rfl, show ([] : List Link) ++ l.Links = l.Links from rfl]
  refine sm_if (fun h => ⟨_, rfl, by simp only; omega⟩) (fun _ => ?_)
  refine sm_pick (by omega) (by omega) fun y4 a4 b4 => sm_idx a4 b4 fun x6 => sm_pick (by omega) (by omega) fun y8 a8 b8 => ?_
  have hs : ∀ s : Section, (l.Sections.set y4.toNat s).length ≤ 1000 := fun s => by rw [List.length_set]; omega
  have hl : l.Sections.length ≤ 1000 := by omega
  refine sm_if (fun _ => ?_) (fun _ => ?_)
  · exact sm_pick (by omega) (by omega) fun y a b => sm_i64 (by omega) (by omega) (sm_k2 _ _ _ _ (hs _))
  refine sm_if (fun _ => ?_) (fun _ => ?_)
  · exact sm_pick (by omega) (by omega) fun y a b => (sm_k2 _ _ _ _ (hs _))
  refine sm_if (fun _ => ?_) (fun _ => ?_)
  · exact sm_pick (by omega) (by omega) fun y a b => sm_i64 (by omega) (by omega) (sm_i64 (by omega) (by omega) (sm_k2 _ _ _ _ (hs _)))
  refine sm_if (fun _ => ?_) (fun _ => ?_)
  · exact sm_i64 (by omega) (by omega) (sm_pick (by omega) (by omega) fun y a b => sm_i64 (by omega) (by omega) (sm_k2 _ _ _ _ (hs _)))
  refine sm_if (fun _ => ?_) (fun _ => ?_)
  · exact sm_pick (by omega) (by omega) fun y a b => sm_idx a b fun _ => (sm_k2 _ _ _ _ (hs _))
  refine sm_if (fun _ => ?_) (fun _ => ?_)
  · exact sm_pick (by omega) (by omega) fun y a b => sm_idx a b fun _ => sm_chk (by simp; omega) (sm_k2 _ _ _ _ hl)
  refine sm_if (fun _ => ?_) (fun _ => ?_)
  · exact sm_pick (by omega) (by omega) fun y a b => sm_idx a b fun _ => sm_chk (by simp; omega) (sm_k2 _ _ _ _ hl)
  refine sm_if (fun _ => ?_) (fun _ => ?_)
  · refine sm_i64 (by omega) (by omega) ?_
    refine sm_div rfl hw (by omega) ?_
    refine sm_i64 (by omega) (by omega) ?_
    refine sm_div rfl hw (by omega) ?_
    refine sm_div rfl hw (by omega) ?_
    refine sm_i64 (by omega) (by omega) ?_
    refine sm_div rfl hw (by omega) ?_
    refine sm_pick (by omega) (by omega) fun _ _ _ => sm_pick (by omega) (by omega) fun _ _ _ => sm_pick (by omega) (by omega) fun _ _ _ => sm_pick (by omega) (by omega) fun _ _ _ => sm_pick (by omega) (by omega) fun y84 a b => sm_i64 (by omega) (by omega) (sm_pick (by omega) (by omega) fun _ _ _ => sm_chk (by simp; omega) (sm_k2 _ _ _ _ hl))
  refine sm_if (fun _ => ?_) (fun _ => ?_)
  · refine sm_if (fun h => ?_) (fun _ => sm_k2 _ _ _ _ hl)
    simp only [decide_eq_true_eq] at h
    exact sm_pick (by omega) (by omega) fun y a b => sm_idx a b fun _ => sm_i64 (by omega) (by omega) (sm_pick (by omega) (by omega) fun _ _ _ => sm_i64 (by omega) (by omega) (sm_div rfl hw (by omega) (sm_pick (by omega) (by omega) fun _ _ _ => sm_k2 _ _ _ _ hl)))
  refine sm_if (fun _ => ?_) (fun _ => ?_)
  · refine sm_if (fun h => ?_) (fun _ => sm_k2 _ _ _ _ hl)
    simp only [decide_eq_true_eq] at h
    exact sm_pick (by omega) (by omega) fun y a b => sm_sub (by omega) (by omega) (by omega) fun x1 h1 => sm_i64 (by omega) (by omega) (sm_sub (by omega) (by omega) (by omega) fun x2 h2 => sm_chk (by simp; omega) (sm_k2 _ _ _ _ hl))
  refine sm_if (fun _ => ?_) (fun _ => ?_)
  · refine sm_if (fun h => ?_) (fun _ => sm_k2 _ _ _ _ hl)
    simp only [decide_eq_true_eq] at h
    exact sm_pick (by omega) (by omega) fun y a b => sm_idx a b fun _ => sm_div rfl hw (by omega) (sm_i64 (by omega) (by omega) (sm_pick (by omega) (by omega) fun _ _ _ => sm_pick (by omega) (by omega) fun _ _ _ => sm_k2 _ _ _ _ hl))
  · exact sm_chk (by simp; omega) (sm_k2 _ _ _ _ (by simp; omega))

theorem layoutMutations_plain (l : List Int) (how at0 v : Int) (hl : Wf.wf l) (_ : -9223372036854775808 ≤ how ∧ how ≤ 9223372036854775807) (_ : -9223372036854775808 ≤ at0 ∧ at0 ≤ 9223372036854775807) (hv : -9223372036854775808 ≤ v ∧ v ≤ 9223372036854775807) : law4_LayoutMutations_m l how at0 v = some true := by
  obtain ⟨x, hx, g⟩ := layout_m l (by have : l.length * 8 ≤ 140737488351232 := hl.1; omega)
  obtain ⟨y, hy, hs⟩ := other_some x (gen_val g) how at0 v hv
  obtain ⟨s, hst⟩ := step_some' y (by omega) v hv
  unfold law4_LayoutMutations_m
  rw [hx, Option.bind_some, hy, Option.bind_some, awake4, Option.bind_some, hst, whn_v, Option.bind_some]
  rw [queries_m, whn_v, Option.bind_some]
  rfl
end Go.Proofs.YtohhihdjdelckaaDoor
