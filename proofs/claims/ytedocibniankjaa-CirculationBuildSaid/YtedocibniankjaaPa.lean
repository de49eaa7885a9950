/- Plain laws of chapter 27: Check. -/
import Derived.Test.YtedocibniankjaaFa
import Derived.Test.YtedocibniankjaaPk
namespace Go.Proofs.Ytedocibniankjaa
open Go.Dc

def supB (x : Int) : Bool := decide (-1048576 ≤ x) && decide (x ≤ 1048576)
def arcB (n : Int) (a : Arc) : Bool := !(((((((((decide (a.From < 0) || decide (n ≤ a.From)) || decide (a.To < 0)) || decide (n ≤ a.To)) || decide (a.From = a.To)) || decide (a.Cap < 0)) || decide (1048576 < a.Cap)) || decide (a.Cost < (-1048576))) || decide (1048576 < a.Cost)))
def checkB (g : Graph) : Bool := (decide (1 ≤ g.Supply.length) && decide (g.Supply.length ≤ 96) && decide (g.Arcs.length ≤ 1024)) && (g.Supply.all supB && (g.Arcs.all (arcB g.Supply.length) && decide (g.Supply.sum = 0)))

theorem within_m {x : Int} {l : Int} (h : 0 ≤ l) (h' : l ≤ 9223372036854775807) : flow_within_m x l = some (decide (-l ≤ x) && decide (x ≤ l)) := by
  unfold flow_within_m
  rw [chk_true (i64b_of (by omega) (by omega))]

theorem check2 (g : Graph) (s : Int) (hl : g.Arcs.length ≤ 1024) : iter (flow_Check_b2 g s) FUEL 0 = some (g.Arcs.all (arcB g.Supply.length) && decide (s = 0)) := by
  have := iter_list (B := flow_Check_b2 g s) (fun (_ : Unit) i => i) g.Arcs (fun _ _ => True) (fun _ r => some (r.all (arcB g.Supply.length) && decide (s = 0))) ?_ ?_ FUEL () 0 trivial (Nat.zero_le _) (FUEL_big (by omega))
  · simpa using this
  · intro c _ i x r _ hd hi hx hc
    simp only [flow_Check_b2, hx, Option.bind_some]
    have h1 : ((i : Int) < (g.Arcs.length : Int)) := by omega
    rw [within_m (by omega) (by omega)]
    simp only [h1, decide_true, if_true, List.all_cons]
    have hcc : c (i + 1) = some (r.all (arcB g.Supply.length) && decide (s = 0)) := hc () trivial
    rw [hcc]
    by_cases ha : arcB g.Supply.length x = true
    · have hb := ha
      simp [arcB] at hb
      simp only [ha, Bool.true_and]
      have e1 : (decide (x.From < 0) || decide ((g.Supply.length : Int) ≤ x.From) || decide (x.To < 0) || decide ((g.Supply.length : Int) ≤ x.To) || decide (x.From = x.To)) = false := by simp; omega
      have e2 : (decide (x.Cap < 0) || decide (1048576 < x.Cap)) = false := by simp; omega
      have e3 : (decide (-1048576 ≤ x.Cost) && decide (x.Cost ≤ 1048576)) = true := by simp; omega
      simp [e1, e2, e3, whn]
    · have hf : arcB g.Supply.length x = false := by simpa using ha
      simp only [hf, Bool.false_and]
      have hb := hf
      simp only [arcB, Bool.not_eq_false'] at hb
      by_cases e1 : (decide (x.From < 0) || decide ((g.Supply.length : Int) ≤ x.From) || decide (x.To < 0) || decide ((g.Supply.length : Int) ≤ x.To) || decide (x.From = x.To)) = true
      · simp only [e1, if_true]
      · have e1' : (decide (x.From < 0) || decide ((g.Supply.length : Int) ≤ x.From) || decide (x.To < 0) || decide ((g.Supply.length : Int) ≤ x.To) || decide (x.From = x.To)) = false := by simpa using e1
        rw [e1'] at hb
        simp only [Bool.false_or] at hb
        simp only [e1', Bool.false_eq_true, if_false]
        by_cases e2 : (decide (x.Cap < 0) || decide (1048576 < x.Cap)) = true
        · simp [e2, whn]
        · have e2' : (decide (x.Cap < 0) || decide (1048576 < x.Cap)) = false := by simpa using e2
          have e3 : (decide (-1048576 ≤ x.Cost) && decide (x.Cost ≤ 1048576)) = false := by
            rw [e2'] at hb
            simp at hb ⊢
            omega
          simp [e2', e3, whn]
  · intro c _ _
    simp [flow_Check_b2, flow_Check_k2]

theorem check1 (g : Graph) (hl : g.Arcs.length ≤ 1024) (hs : g.Supply.length ≤ 96) : iter (flow_Check_b1 g) FUEL (0, 0) = some (g.Supply.all supB && (g.Arcs.all (arcB g.Supply.length) && decide (g.Supply.sum = 0))) := by
  have := iter_list (B := flow_Check_b1 g) (fun (s : Int) i => (s, i)) g.Supply (fun s i => -(1048576 * (i : Int)) ≤ s ∧ s ≤ 1048576 * (i : Int)) (fun s r => some (r.all supB && (g.Arcs.all (arcB g.Supply.length) && decide (s + r.sum = 0)))) ?_ ?_ FUEL 0 0 (by simp) (Nat.zero_le _) (FUEL_big (by omega))
  · simpa using this
  · intro c s i x r hI hd hi hx hc
    have h1 : ((i : Int) < (g.Supply.length : Int)) := by omega
    simp only [flow_Check_b1, hx, Option.bind_some, h1, decide_true, if_true, List.all_cons, List.sum_cons]
    rw [within_m (by omega) (by omega)]
    simp only [Option.bind_some]
    by_cases hb : supB x = true
    · have hx' := hb
      simp [supB] at hx'
      have : (decide (-1048576 ≤ x) && decide (x ≤ 1048576)) = true := by simp; omega
      rw [this]
      simp only [Bool.not_true, Bool.false_eq_true, if_false, hb, Bool.true_and]
      rw [chk_true (i64b_of (by omega) (by omega)), hc (s + x) (by constructor <;> omega), Int.add_assoc]
      rfl
    · have hf : supB x = false := by simpa using hb
      have : (decide (-1048576 ≤ x) && decide (x ≤ 1048576)) = false := hf
      rw [this]
      simp [hf]
  · intro c s _
    simp only [flow_Check_b1, Int.lt_irrefl, decide_false, Bool.false_eq_true, if_false, flow_Check_k1]
    rw [check2 g s hl]
    simp

theorem check_m (g : Graph) : flow_Check_m g = some (checkB g) := by
  unfold flow_Check_m checkB
  by_cases h : (decide ((g.Supply.length : Int) < 1) || decide (96 < (g.Supply.length : Int)) || decide (1024 < (g.Arcs.length : Int))) = true
  · rw [if_pos h]
    have : (decide (1 ≤ g.Supply.length) && decide (g.Supply.length ≤ 96) && decide (g.Arcs.length ≤ 1024)) = false := by
      simp at h ⊢; omega
    rw [this]; rfl
  · rw [if_neg h]
    have h2 : (decide (1 ≤ g.Supply.length) && decide (g.Supply.length ≤ 96) && decide (g.Arcs.length ≤ 1024)) = true := by
      simp at h ⊢; omega
    have h3 := h2
    simp at h3
    rw [h2, check1 g (by omega) (by omega)]
    rfl

/-- The reference goes hand in hand with it. -/
theorem checkG_m (g : Graph) : ref24_CheckGraph_m g = some (checkB g) := by
  rw [← check_m]
  unfold ref24_CheckGraph_m flow_Check_m
  split
  · rfl
  · refine iter_sim (fun s t => s = t) ?_ FUEL _ _ rfl
    intro c1 c2 hc s t hst
    subst hst
    obtain ⟨s, i⟩ := s
    simp only [ref24_CheckGraph_b1, flow_Check_b1]
    split
    · congr 1
      funext x
      rw [within_m (by omega) (by omega)]
      simp only [Option.bind_some]
      by_cases hb : (decide (-1048576 ≤ x) && decide (x ≤ 1048576)) = true
      · have : (decide (x < -1048576) || decide (1048576 < x)) = false := by simp at hb ⊢; omega
        rw [hb, this]
        simp [hc]
      · have hb' : (decide (-1048576 ≤ x) && decide (x ≤ 1048576)) = false := by simpa using hb
        have : (decide (x < -1048576) || decide (1048576 < x)) = true := by
          simp at hb' ⊢; omega
        rw [hb', this]
        rfl
    · simp only [ref24_CheckGraph_k1, flow_Check_k1]
      refine iter_sim (fun s t => s = t) ?_ FUEL _ _ rfl
      intro c1 c2 hc i t hst
      subst hst
      simp only [ref24_CheckGraph_b2, flow_Check_b2, ref24_CheckGraph_k2, flow_Check_k2]
      split
      · congr 1
        funext x
        rw [within_m (by omega) (by omega)]
        rw [hc i.succ i.succ rfl]
        by_cases e1 : (decide (x.From < 0) || decide ((g.Supply.length : Int) ≤ x.From) || decide (x.To < 0) || decide ((g.Supply.length : Int) ≤ x.To) || decide (x.From = x.To)) = true
        · simp [e1]
        · have e1' : (decide (x.From < 0) || decide ((g.Supply.length : Int) ≤ x.From) || decide (x.To < 0) || decide ((g.Supply.length : Int) ≤ x.To) || decide (x.From = x.To)) = false := by simpa using e1
          simp only [e1', Bool.false_or, Bool.false_eq_true, if_false]
          by_cases e2 : (decide (x.Cap < 0) || decide (1048576 < x.Cap)) = true
          · simp [e2, whn]
          · have e2' : (decide (x.Cap < 0) || decide (1048576 < x.Cap)) = false := by simpa using e2
            by_cases e3 : (decide (-1048576 ≤ x.Cost) && decide (x.Cost ≤ 1048576)) = true
            · have : (decide (x.Cost < -1048576) || decide (1048576 < x.Cost)) = false := by simp at e3 ⊢; omega
              simp [e2', e3, whn, this]
            · have e3' : (decide (-1048576 ≤ x.Cost) && decide (x.Cost ≤ 1048576)) = false := by simpa using e3
              have : (decide (x.Cost < -1048576) || decide (1048576 < x.Cost)) = true := by simp at e3' ⊢; omega
              simp [e2', e3', whn, this]
      · rfl

/-- What a valid network says. -/
structure Valid (g : Graph) : Prop where
  n1 : 1 ≤ g.Supply.length
  n2 : g.Supply.length ≤ 96
  m : g.Arcs.length ≤ 1024
  sup : ∀ x ∈ g.Supply, -1048576 ≤ x ∧ x ≤ 1048576
  arc : ∀ a ∈ g.Arcs, 0 ≤ a.From ∧ a.From < g.Supply.length ∧ 0 ≤ a.To ∧ a.To < g.Supply.length ∧ a.From ≠ a.To ∧ 0 ≤ a.Cap ∧ a.Cap ≤ 1048576 ∧ -1048576 ≤ a.Cost ∧ a.Cost ≤ 1048576
  sum : g.Supply.sum = 0

theorem arcB_iff {n : Int} {a : Arc} : arcB n a = true ↔ 0 ≤ a.From ∧ a.From < n ∧ 0 ≤ a.To ∧ a.To < n ∧ a.From ≠ a.To ∧ 0 ≤ a.Cap ∧ a.Cap ≤ 1048576 ∧ -1048576 ≤ a.Cost ∧ a.Cost ≤ 1048576 := by
  simp only [arcB, Bool.not_eq_true', Bool.or_eq_false_iff, decide_eq_false_iff_not]
  constructor
  · intro h; omega
  · intro h; omega

theorem valid_iff (g : Graph) : checkB g = true ↔ Valid g := by
  simp only [checkB, Bool.and_eq_true, decide_eq_true_eq, List.all_eq_true, arcB_iff]
  constructor
  · rintro ⟨⟨⟨h1, h2⟩, h3⟩, h4, h5, h6⟩
    exact ⟨h1, h2, h3, fun x hx => by have := h4 x hx; simpa [supB] using this, h5, h6⟩
  · rintro ⟨h1, h2, h3, h4, h5, h6⟩
    exact ⟨⟨⟨h1, h2⟩, h3⟩, fun x hx => by have := h4 x hx; simpa [supB] using this, h5, h6⟩

end Go.Proofs.Ytedocibniankjaa
