/- Queries of a layout: the program's answers and the reference's ones are the same. -/
import Derived.Test.YtohhihdjdelckaaDoorFb
import Derived.Test.YtohhihdjdelckaaDoorTh
import Derived.Test.YtohhihdjdelckaaDoorLe
import Derived.Test.YtohhihdjdelckaaDoorLf
set_option linter.all false
namespace Go.Proofs.YtohhihdjdelckaaDoor
open Go.Dc
set_option maxRecDepth 10000

def isS (l : Layout) (s : Step) : Bool := (decide (0 ≤ s.Section) && decide (s.Section < (l.Sections.length : Int))) && (decide (s.Dir = 0) || decide (s.Dir = 1))
theorem has_m (l : Layout) (s : Step) : layout_Has_m l s = some (isS l s && decide (checkL (layOf l) = 0)) := by
  unfold layout_Has_m layout_Check_m
  show (whn (isS l s) default (some (checkL (layOf l)))).bind (fun y3 => some (isS l s && decide (y3 = 0))) = _
  cases isS l s <;> rfl

/-- The program's hops. -/
theorem hops_m {l : Layout} (ck : checkL (layOf l) = 0) {s : Step} (hs : isS l s = true) : layout_Hops_m l s = some (hopsF l s) := by
  have v := val_of ck
  have hl := v.full
  have key : ∀ e : Int, e = (if s.Dir = 1 then 0 else 1) → layout_Hops_k1 l s e = some (hopsF l s) := by
    intro e he
    unfold layout_Hops_k1 hopsF
    have := iter_list (B := layout_Hops_b1 l s e) (fun (q : List Hop) i => (q, i)) l.Links (fun q i => q.length ≤ i) (fun q r => some (q ++ r.filterMap (hopF s))) ?_ ?_ FUEL [] 0 (by simp) (by omega) (fuel_of (by omega))
    · simpa using this
    · intro c q i k r hq hdr hi hx hk
      have hkm : k ∈ l.Links := List.mem_of_mem_drop (i := i) (by rw [hdr]; exact List.mem_cons_self)
      obtain ⟨ha, hb, hae, hbe, _⟩ := v.links k hkm
      simp only [layout_Hops_b1, layout_ends_m]
      rw [if_pos (by simp; omega), hx, Option.bind_some, Option.bind_some]
      have ent : ∀ x y : Int, 0 ≤ x → (y = 0 ∨ y = 1) → ∃ t, layout_enter_m ⟨x, y⟩ = some t ∧ hopTo k x y = some ⟨t, k.Point, k.Pos⟩ := by
        intro x y h0 hy
        unfold layout_enter_m hopTo
        rw [if_pos h0]
        rcases hy with rfl | rfl
        · exact ⟨_, rfl, rfl⟩
        · exact ⟨_, rfl, rfl⟩
      have hh : ∀ t : Step, hopF s k = some ⟨t, k.Point, k.Pos⟩ → (chk (decide ((q.length + ([(Hop.mk t k.Point k.Pos)] : List Hop).length) * 32 ≤ 140737488355328)) <| layout_Hops_k3 c i (q ++ ([(Hop.mk t k.Point k.Pos)] : List Hop))) = some (q ++ List.filterMap (hopF s) (k :: r)) := by
        intro t ht
        rw [chk_true (by simp; omega)]
        unfold layout_Hops_k3
        rw [hk _ (by simp; omega)]
        simp [List.filterMap_cons, ht]
      by_cases h1 : k.A = s.Section ∧ k.AEnd = e
      · rw [if_pos (by simp [h1])]
        obtain ⟨t, e1, e2⟩ := ent k.B k.BEnd hb.1 hbe
        rw [e1, Option.bind_some]
        exact hh t (by unfold hopF; rw [← he, if_pos h1]; exact e2)
      · rw [if_neg (by simp only [decide_eq_true_eq, Layout_end.mk.injEq]; exact fun h => h1 ⟨h.1.symm, h.2.symm⟩)]
        by_cases h2 : k.B = s.Section ∧ k.BEnd = e
        · rw [if_pos (by simp [h2])]
          obtain ⟨t, e1, e2⟩ := ent k.A k.AEnd ha.1 hae
          rw [e1, Option.bind_some]
          exact hh t (by unfold hopF; rw [← he, if_neg h1, if_pos h2]; exact e2)
        · rw [if_neg (by simp only [decide_eq_true_eq, Layout_end.mk.injEq]; exact fun h => h2 ⟨h.1.symm, h.2.symm⟩)]
          unfold layout_Hops_k3
          rw [hk _ (by omega)]
          have : hopF s k = none := by unfold hopF; rw [← he, if_neg h1, if_neg h2]
          simp [List.filterMap_cons, this]
    · intro c q _
      simp only [layout_Hops_b1]
      rw [if_neg (by simp)]
      simp [layout_Hops_k2]
  unfold layout_Hops_m
  rw [has_m, Option.bind_some, hs, ck]
  by_cases h1 : s.Dir = 1
  · simp only [decide_true, Bool.and_self, Bool.not_true, Bool.false_eq_true, if_false]
    rw [if_pos (by simpa using h1)]; exact key 0 (by rw [if_pos h1])
  · simp only [decide_true, Bool.and_self, Bool.not_true, Bool.false_eq_true, if_false]
    rw [if_neg (by simpa using h1)]; exact key 1 (by rw [if_neg h1])

/-- What is kept of hops is right. -/
theorem awake4 : law4_awake_m = some true := by decide +kernel

def revF (s : Step) : Step := if s.Dir = 0 then ⟨s.Section, 1⟩ else ⟨s.Section, 0⟩
theorem rev_m (s : Step) : layout_Reverse_m s = some (revF s) := by
  unfold layout_Reverse_m revF
  by_cases h : s.Dir = 0 <;> simp [h]
theorem rrev_m (s : Step) : ref1_Reverse_m s = some (revF s) := by
  unfold ref1_Reverse_m revF
  by_cases h : s.Dir = 0 <;> simp [h]

theorem sameH_m (a : List Hop) (h : a.length ≤ 140737488355328) : keep_Same_api_Hop_m a a = some true := by
  unfold keep_Same_api_Hop_m
  rw [if_neg (by simp)]
  have := iter_list (B := keep_Same_api_Hop_b1 a a) (fun (_ : Unit) i => i) a (fun _ _ => True) (fun _ _ => some true) ?_ ?_ FUEL () 0 trivial (by omega) (fuel_of (by omega))
  · exact this
  · intro c _ i x q _ hdr hi hx hk
    simp only [keep_Same_api_Hop_b1]
    rw [if_pos (by simp; omega), hx, Option.bind_some, Option.bind_some, if_neg (by simp), hk () trivial]
  · intro c _ _
    simp only [keep_Same_api_Hop_b1]
    rw [if_neg (by simp)]
    rfl

theorem step_r (l : Layout) (s : Step) (hl : l.Sections.length ≤ 1000) : ref1_step_m l s = some (isS l s) := by
  unfold ref1_step_m
  refine (chk_true (i64b_of (by omega) (by omega))).trans (bindE rfl ?_)
  rw [show ref1_in_m s.Dir 0 1 = some (decide (0 ≤ s.Dir) && decide (s.Dir ≤ 1)) from rfl, whn_v, Option.bind_some]
  congr 1
  unfold isS
  rw [Bool.eq_iff_iff]
  cases hc : (decide (0 ≤ s.Section) && decide (s.Section ≤ (l.Sections.length : Int) - 1))
  · simp only [Bool.and_eq_false_iff, decide_eq_false_iff_not] at hc
    simp only [cond_false, Bool.false_and, Bool.and_eq_true, Bool.or_eq_true, decide_eq_true_eq, Bool.false_eq_true]
    refine iff_of_false ?_ (by omega)
    simp
  · simp only [Bool.and_eq_true, decide_eq_true_eq] at hc
    simp only [cond_true, Bool.true_and, Bool.and_eq_true, Bool.or_eq_true, decide_eq_true_eq]
    omega

theorem hasStep_r (l : Layout) (s : Step) : ref1_HasStep_m l s = some (isS l s && decide (checkL (layOf l) = 0)) := by
  unfold ref1_HasStep_m
  refine bindE (check_r l) ?_
  by_cases ck : checkL (layOf l) = 0
  · have hl := check_full ck
    rw [step_r l s (by omega), whn_v, Option.bind_some, ck]
    simp
  · simp only [ck, decide_false, Bool.and_false, Bool.false_and]
    rfl

def hopsQ (l : Layout) (s : Step) : List Hop := if checkL (layOf l) = 0 ∧ isS l s = true then hopsF l s else []
theorem hopsQ_m (l : Layout) (s : Step) : layout_Hops_m l s = some (hopsQ l s) := by
  unfold hopsQ
  by_cases h : checkL (layOf l) = 0 ∧ isS l s = true
  · rw [if_pos h]; exact hops_m h.1 h.2
  · rw [if_neg h]
    unfold layout_Hops_m
    refine bindE (has_m l s) ?_
    have e : (isS l s && decide (checkL (layOf l) = 0)) = false := by
      rw [Bool.eq_false_iff]; intro hh
      simp only [Bool.and_eq_true, decide_eq_true_eq] at hh
      exact h ⟨hh.2, hh.1⟩
    rw [e]; rfl
theorem hopsQ_r (l : Layout) (s : Step) : ref1_Hops_m l s = some (hopsQ l s) := by
  unfold hopsQ ref1_Hops_m
  refine bindE (hasStep_r l s) ?_
  by_cases h : checkL (layOf l) = 0 ∧ isS l s = true
  · rw [if_pos h, h.1, h.2]
    have hl := check_full h.1
    show (ref1_HopsOf_m l s).bind _ = _
    exact bindE (hops_r l s (by omega)) rfl
  · rw [if_neg h]
    have e : (isS l s && decide (checkL (layOf l) = 0)) = false := by
      rw [Bool.eq_false_iff]; intro hh
      simp only [Bool.and_eq_true, decide_eq_true_eq] at hh
      exact h ⟨hh.2, hh.1⟩
    rw [e]; rfl
theorem hopsQ_len (l : Layout) (s : Step) : (hopsQ l s).length ≤ 1000 := by
  unfold hopsQ
  split
  · rename_i h
    have hl := check_full h.1
    have := List.length_filterMap_le (hopF s) l.Links
    unfold hopsF; omega
  · simp

def resQ (l : Layout) : Int := if checkL (layOf l) = 0 then (l.Sections.length : Int) + (l.Points.length : Int) else 0
theorem resQ_m (l : Layout) : layout_Resources_m l = some (resQ l) := by
  unfold layout_Resources_m resQ layout_Check_m
  refine bindE rfl ?_
  by_cases h : checkL (layOf l) = 0
  · have hl := check_full h
    rw [if_pos h, if_neg (by simpa using h)]
    exact chk_true (i64b_of (by omega) (by omega))
  · rw [if_neg h, if_pos (by simpa using h)]
theorem resQ_r (l : Layout) : ref1_Resources_m l = some (resQ l) := by
  unfold ref1_Resources_m resQ
  refine bindE (check_r l) ?_
  by_cases h : checkL (layOf l) = 0
  · have hl := check_full h
    rw [if_pos h, if_neg (by simpa using h)]
    exact chk_true (i64b_of (by omega) (by omega))
  · rw [if_neg h, if_pos (by simpa using h)]

theorem queries_m (l : Layout) (s : Step) : law4_queries_m l s = some true := by
  unfold law4_queries_m
  refine bindE (x := checkL (layOf l)) rfl (bindE (check_r l) ?_)
  rw [has_m, hasStep_r, whn_v, Option.bind_some, Option.bind_some]
  simp only [decide_true, cond_true, BEq.rfl, Bool.and_self]
  rw [rev_m, rrev_m, whn_v, Option.bind_some, Option.bind_some]
  simp only [decide_true, cond_true, Bool.and_self, if_true]
  refine bindE (hopsQ_m l s) (bindE (hopsQ_r l s) (bindE (sameH_m _ (by have := hopsQ_len l s; omega)) ?_))
  rw [resQ_m, resQ_r, whn_v, Option.bind_some, Option.bind_some]
  simp only [cond_true, decide_true, Bool.and_self]
  rw [format_m, rformat_m, whn_v, Option.bind_some, Option.bind_some]
  simp only [cond_true, decide_true, Bool.and_self]
end Go.Proofs.YtohhihdjdelckaaDoor
