/- Plain laws of chapter 27: Verify against the reference, Excess, FlowRaw. -/
import Derived.Test.YtedocibniankjaaPb
namespace Go.Proofs.Ytedocibniankjaa
open Go.Dc

def verifyB (g : Graph) (f : Flow) : Bool :=
  checkB g && (decide (f.X.length = g.Arcs.length) && (decide (f.Price.length = g.Supply.length) && (f.Price.all priceB && (((g.Arcs.zip f.X).all (fun z => xB z.1 z.2 && redB f.Price z.1 z.2)) && (decide (foldO (g.Arcs.zip f.X) (List.replicate g.Supply.length 0) = g.Supply) && decide (costI (g.Arcs.zip f.X) = f.Cost))))))

theorem verify1 (g : Graph) (f : Flow) (hg : Valid g) (hX : f.X.length = g.Arcs.length) (hP : f.Price.length = g.Supply.length) :
    iter (flow_Verify_b1 f g) FUEL 0 = some (f.Price.all priceB && (((g.Arcs.zip f.X).all (fun z => xB z.1 z.2 && redB f.Price z.1 z.2)) && (decide (foldO (g.Arcs.zip f.X) (List.replicate g.Supply.length 0) = g.Supply) && decide (costI (g.Arcs.zip f.X) = f.Cost)))) := by
  have hn := hg.n2
  have := iter_list (B := flow_Verify_b1 f g) (fun (_ : Unit) i => i) f.Price (fun _ i => ∀ j x, j < i → f.Price[j]? = some x → priceB x = true)
    (fun _ r => some (r.all priceB && (((g.Arcs.zip f.X).all (fun z => xB z.1 z.2 && redB f.Price z.1 z.2)) && (decide (foldO (g.Arcs.zip f.X) (List.replicate g.Supply.length 0) = g.Supply) && decide (costI (g.Arcs.zip f.X) = f.Cost))))) ?_ ?_ FUEL () 0 (fun j x hj => by omega) (Nat.zero_le _) (FUEL_big (by omega))
  · simpa using this
  · intro c _ i x r hI hd hi hx hc
    have h1 : ((i : Int) < (f.Price.length : Int)) := by omega
    simp only [flow_Verify_b1, hx, Option.bind_some, h1, decide_true, if_true, List.all_cons]
    rw [within_m (by omega) (by omega)]
    simp only [Option.bind_some]
    rw [idx_nat] at hx
    by_cases hb : priceB x = true
    · have hb2 : (decide (-1099511627776 ≤ x) && decide (x ≤ 1099511627776)) = true := hb
      have hcc : c (i + 1) = _ := hc () (fun j y hj hy => by
        by_cases e : j = i
        · subst e; rw [hx] at hy; cases hy; exact hb
        · exact hI j y (by omega) hy)
      rw [hb2, hcc]
      simp only [Bool.not_true, Bool.false_eq_true, if_false, hb, Bool.true_and]
    · have hf : priceB x = false := by simpa using hb
      have hb2 : (decide (-1099511627776 ≤ x) && decide (x ≤ 1099511627776)) = false := hf
      rw [hb2]
      simp only [Bool.not_false, if_true, hf, Bool.false_and]
  · intro c _ hI
    simp only [flow_Verify_b1, Int.lt_irrefl, decide_false, Bool.false_eq_true, if_false, flow_Verify_k1]
    rw [mk_int (by omega) (by omega)]
    simp only [Option.bind_some, Int.toNat_natCast, List.all_nil, Bool.true_and]
    refine verify2 g f hg hX hP (fun x hx => ?_)
    obtain ⟨j, hj, rfl⟩ := List.mem_iff_getElem.1 hx
    have := hI j f.Price[j] hj (by simp [hj])
    simpa [priceB] using this

theorem verify_m (g : Graph) (f : Flow) : flow_Verify_m g f = some (verifyB g f) := by
  unfold flow_Verify_m verifyB
  rw [check_m]
  simp only [Option.bind_some]
  by_cases h1 : checkB g = true
  · rw [h1]
    by_cases h2 : f.X.length = g.Arcs.length
    · by_cases h3 : f.Price.length = g.Supply.length
      · rw [if_neg (by simp; omega), verify1 g f ((valid_iff g).1 h1) h2 h3]
        simp [h2, h3]
      · rw [if_pos (by simp; omega)]
        simp [h3]
    · rw [if_pos (by simp; omega)]
      simp [h2]
  · have h1' : checkB g = false := by simpa using h1
    rw [h1']
    simp

/-! ### The reference -/

theorem feas2 (l : List Int) (hl : l.length ≤ 96) : iter (ref24_FeasibleFlow_b2 l) FUEL 0 = some (l.all (fun x => decide (x = 0))) := by
  have := iter_list (B := ref24_FeasibleFlow_b2 l) (fun (_ : Unit) i => i) l (fun _ _ => True) (fun _ r => some (r.all (fun x => decide (x = 0)))) ?_ ?_ FUEL () 0 trivial (Nat.zero_le _) (FUEL_big (by omega))
  · simpa using this
  · intro c _ i x r _ hd hi hx hc
    have h1 : ((i : Int) < (l.length : Int)) := by omega
    have hcc : c (i + 1) = some (r.all (fun x => decide (x = 0))) := hc () trivial
    simp only [ref24_FeasibleFlow_b2, hx, Option.bind_some, h1, decide_true, if_true, List.all_cons, hcc]
    by_cases he : x = 0
    · simp [he]
    · simp [he]
  · intro c _ _
    simp [ref24_FeasibleFlow_b2, ref24_FeasibleFlow_k2]

theorem feas1 (g : Graph) (X : List Int) (hg : Valid g) (hX : X.length = g.Arcs.length) :
    iter (ref24_FeasibleFlow_b1 g X) FUEL (g.Supply, 0) = some (((g.Arcs.zip X).all (fun z => xB z.1 z.2)) && (foldL (g.Arcs.zip X) g.Supply).all (fun x => decide (x = 0))) := by
  have hzl := zip_len (xs := g.Arcs) (ys := X) hX
  have := iter_list (B := ref24_FeasibleFlow_b1 g X) (fun (s : List Int) i => (s, i)) (g.Arcs.zip X)
    (fun s i => s.length = g.Supply.length ∧ (∀ v, -(1048576 * ((i : Int) + 1)) ≤ s.getD v 0 ∧ s.getD v 0 ≤ 1048576 * ((i : Int) + 1)))
    (fun s r => some ((r.all (fun z => xB z.1 z.2)) && (foldL r s).all (fun x => decide (x = 0)))) ?_ ?_ FUEL g.Supply 0 ?_ (Nat.zero_le _) (FUEL_big (by have := hg.m; omega))
  · simpa using this
  · intro c out i z r hI hd hi hx hc
    obtain ⟨a, x⟩ := z
    obtain ⟨hl, hb⟩ := hI
    have hi' : i < g.Arcs.length := by omega
    have him := hg.m
    obtain ⟨hza, hzx⟩ := zip_drop hd
    have hia : idx g.Arcs (i : Int) = some a := by rw [idx_nat]; exact hza
    have hix : idx X (i : Int) = some x := by rw [idx_nat]; exact hzx
    obtain ⟨v1, v2, v3, v4, v5, v6, v7, v8, v9⟩ := hg.arc a (List.mem_of_getElem? hza)
    have h1 : ((i : Int) < (g.Arcs.length : Int)) := by omega
    simp only [ref24_FeasibleFlow_b1, hia, hix, Option.bind_some, h1, decide_true, if_true, List.all_cons]
    by_cases hxb : xB a x = true
    · have hxr : 0 ≤ x ∧ x ≤ a.Cap := by have h := hxb; simp [xB] at h; omega
      have e0 : decide (x < 0) = false := by simp; omega
      have e1 : decide (a.Cap < x) = false := by simp; omega
      simp only [e0, Bool.not_false, whn, Option.bind_some, e1, Bool.or_self, Bool.false_eq_true, if_false, hxb, Bool.true_and]
      have ho1 : idx out a.From = some (out.getD a.From.toNat 0) := idx_lt v1 (by omega)
      have ho2 : idx (out.set a.From.toNat (out.getD a.From.toNat 0 - x)) a.To = some ((out.set a.From.toNat (out.getD a.From.toNat 0 - x)).getD a.To.toNat 0) := idx_lt v3 (by rw [List.length_set]; omega)
      have hne : a.From.toNat ≠ a.To.toNat := by omega
      have hgT : (out.set a.From.toNat (out.getD a.From.toNat 0 - x)).getD a.To.toNat 0 = out.getD a.To.toNat 0 := by
        rw [getD_set]; simp [Ne.symm hne]
      have b1 := hb a.From.toNat
      have b2 := hb a.To.toNat
      simp only [ho1, ho2, Option.bind_some]
      rw [chk_true (i64b_of (by omega) (by omega)), chk_true (i64b_of (by rw [hgT]; omega) (by rw [hgT]; omega))]
      have hcc := hc (updL out a x) ⟨by rw [updL_len]; exact hl, fun v => by
        rw [updL_get out a x (by omega) (by omega) hne]
        have := hb v
        push_cast
        split <;> split <;> omega⟩
      have : (((out.set a.From.toNat (out.getD a.From.toNat 0 - x)).set a.To.toNat ((out.set a.From.toNat (out.getD a.From.toNat 0 - x)).getD a.To.toNat 0 + x)), i + 1) = (updL out a x, i + 1) := rfl
      rw [this, hcc]
      rfl
    · have hxf : xB a x = false := by simpa using hxb
      have e1 : (decide (x < 0) || decide (a.Cap < x)) = true := by have h := hxf; simp only [xB, Bool.not_eq_false'] at h; exact h
      by_cases e0 : x < 0
      · simp [e0, whn, hxf]
      · have e2 : a.Cap < x := by simp [e0] at e1; exact e1
        simp [e0, whn, e2, hxf]
  · intro c out hI
    simp only [ref24_FeasibleFlow_b1, hzl, Int.lt_irrefl, decide_false, Bool.false_eq_true, if_false, ref24_FeasibleFlow_k1]
    rw [feas2 out (by have := hg.n2; rw [hI.1]; exact this)]
    simp [foldL]
  · refine ⟨rfl, fun v => ?_⟩
    by_cases hv : v < g.Supply.length
    · have := hg.sup (g.Supply.getD v 0) (by simp [hv])
      simp only [Int.ofNat_zero, Int.zero_add]
      push_cast
      omega
    · simp [List.getElem?_eq_none (show g.Supply.length ≤ v by omega)]

theorem feasible_m (g : Graph) (X : List Int) (hg : Valid g) : ref24_FeasibleFlow_m g X = some (decide (X.length = g.Arcs.length) && (((g.Arcs.zip X).all (fun z => xB z.1 z.2)) && (foldL (g.Arcs.zip X) g.Supply).all (fun x => decide (x = 0)))) := by
  unfold ref24_FeasibleFlow_m
  by_cases h : X.length = g.Arcs.length
  · rw [if_neg (by simp; omega), chk_true (by have := hg.n2; simp; omega), List.nil_append, feas1 g X hg h]
    simp [h]
  · rw [if_pos (by simp; omega)]
    simp [h]

theorem cost_m (g : Graph) (X : List Int) (hg : Valid g) (hX : X.length = g.Arcs.length) (hx : (g.Arcs.zip X).all (fun z => xB z.1 z.2) = true) : ref24_FlowCost_m g X = some (costI (g.Arcs.zip X)) := by
  unfold ref24_FlowCost_m
  have hzl := zip_len (xs := g.Arcs) (ys := X) hX
  have := iter_list (B := ref24_FlowCost_b1 g X) (fun (s : Int) i => (s, i)) (g.Arcs.zip X)
    (fun s i => -(1099511627776 * (i : Int)) ≤ s ∧ s ≤ 1099511627776 * (i : Int)) (fun s r => some (s + costI r)) ?_ ?_ FUEL 0 0 (by simp) (Nat.zero_le _) (FUEL_big (by have := hg.m; omega))
  · simpa using this
  · intro c s i z r hI hd hi hx0 hc
    obtain ⟨a, x⟩ := z
    have hi' : i < g.Arcs.length := by omega
    have him := hg.m
    obtain ⟨hza, hzx⟩ := zip_drop hd
    have hia : idx g.Arcs (i : Int) = some a := by rw [idx_nat]; exact hza
    have hix : idx X (i : Int) = some x := by rw [idx_nat]; exact hzx
    obtain ⟨v1, v2, v3, v4, v5, v6, v7, v8, v9⟩ := hg.arc a (List.mem_of_getElem? hza)
    have hmem : (a, x) ∈ g.Arcs.zip X := by
      have : ((g.Arcs.zip X).drop i) = (a, x) :: r := hd
      exact List.mem_of_mem_drop (by rw [this]; exact List.mem_cons_self)
    have hxr : 0 ≤ x ∧ x ≤ a.Cap := by
      have h := List.all_eq_true.1 hx (a, x) hmem
      simp [xB] at h; omega
    have hxc : -1099511627776 ≤ x * a.Cost ∧ x * a.Cost ≤ 1099511627776 := by
      constructor
      · have : -(x * 1048576) ≤ x * a.Cost := by
          have := Int.mul_le_mul_of_nonneg_left v8 hxr.1
          rw [Int.mul_neg] at this; exact this
        omega
      · have := Int.mul_le_mul_of_nonneg_left v9 hxr.1
        omega
    have h1 : ((i : Int) < (g.Arcs.length : Int)) := by omega
    simp only [ref24_FlowCost_b1, hia, hix, Option.bind_some, h1, decide_true, if_true]
    rw [chk_true (i64b_of (by omega) (by omega)), chk_true (i64b_of (by omega) (by omega)), hc (s + x * a.Cost) (by push_cast; omega)]
    simp [costI]; omega
  · intro c s _
    simp [ref24_FlowCost_b1, hzl, ref24_FlowCost_k1, costI]

theorem vref2 (g : Graph) (f : Flow) (hg : Valid g) (hX : f.X.length = g.Arcs.length) (hP : f.Price.length = g.Supply.length) (hp : ∀ x ∈ f.Price, -1099511627776 ≤ x ∧ x ≤ 1099511627776) :
    iter (ref24_VerifyFlow_b2 g f) FUEL 0 = some ((g.Arcs.zip f.X).all (fun z => redB f.Price z.1 z.2)) := by
  have hzl := zip_len (xs := g.Arcs) (ys := f.X) hX
  have := iter_list (B := ref24_VerifyFlow_b2 g f) (fun (_ : Unit) i => i) (g.Arcs.zip f.X) (fun _ _ => True) (fun _ r => some (r.all (fun z => redB f.Price z.1 z.2))) ?_ ?_ FUEL () 0 trivial (Nat.zero_le _) (FUEL_big (by have := hg.m; omega))
  · simpa using this
  · intro c _ i z r _ hd hi hx hc
    obtain ⟨a, x⟩ := z
    have hi' : i < g.Arcs.length := by omega
    obtain ⟨hza, hzx⟩ := zip_drop hd
    have hia : idx g.Arcs (i : Int) = some a := by rw [idx_nat]; exact hza
    have hix : idx f.X (i : Int) = some x := by rw [idx_nat]; exact hzx
    obtain ⟨v1, v2, v3, v4, v5, v6, v7, v8, v9⟩ := hg.arc a (List.mem_of_getElem? hza)
    have h1 : ((i : Int) < (g.Arcs.length : Int)) := by omega
    have hpF : idx f.Price a.From = some (f.Price.getD a.From.toNat 0) := idx_lt v1 (by omega)
    have hpT : idx f.Price a.To = some (f.Price.getD a.To.toNat 0) := idx_lt v3 (by omega)
    have bF := hp (f.Price.getD a.From.toNat 0) (by have : a.From.toNat < f.Price.length := (by omega); simp [this])
    have bT := hp (f.Price.getD a.To.toNat 0) (by have : a.To.toNat < f.Price.length := (by omega); simp [this])
    have hcc : c (i + 1) = some (r.all (fun z => redB f.Price z.1 z.2)) := hc () trivial
    simp only [ref24_VerifyFlow_b2, hia, hix, hpF, hpT, Option.bind_some, h1, decide_true, if_true, List.all_cons]
    rw [chk_true (i64b_of (by omega) (by omega)), chk_true (i64b_of (by omega) (by omega))]
    by_cases e : (decide (x < a.Cap) && decide (((a.Cost + f.Price.getD a.From.toNat 0) - f.Price.getD a.To.toNat 0) < 0)) = true
    · have hr : redB f.Price a x = false := by unfold redB; rw [e]; rfl
      simp only [e, hr, Bool.not_true, whn, Option.bind_some, Bool.true_or, if_true, Bool.false_and]
    · have e' : (decide (x < a.Cap) && decide (((a.Cost + f.Price.getD a.From.toNat 0) - f.Price.getD a.To.toNat 0) < 0)) = false := by simpa using e
      simp only [e', Bool.not_false, whn, Option.bind_some, Bool.false_or]
      by_cases e2 : (decide (0 < x) && decide (0 < ((a.Cost + f.Price.getD a.From.toNat 0) - f.Price.getD a.To.toNat 0))) = true
      · have hr : redB f.Price a x = false := by unfold redB; rw [e', e2]; rfl
        simp only [e2, hr, if_true, Bool.false_and]
      · have e2' : (decide (0 < x) && decide (0 < ((a.Cost + f.Price.getD a.From.toNat 0) - f.Price.getD a.To.toNat 0))) = false := by simpa using e2
        have hr : redB f.Price a x = true := by unfold redB; rw [e', e2']; rfl
        rw [e2', hcc]
        simp [hr]
  · intro c _ _
    simp [ref24_VerifyFlow_b2, hzl, ref24_VerifyFlow_k2]

theorem vref1 (g : Graph) (f : Flow) (hg : Valid g) (hX : f.X.length = g.Arcs.length) (hP : f.Price.length = g.Supply.length) :
    iter (ref24_VerifyFlow_b1 f g) FUEL 0 = some (f.Price.all priceB && (g.Arcs.zip f.X).all (fun z => redB f.Price z.1 z.2)) := by
  have hn := hg.n2
  have := iter_list (B := ref24_VerifyFlow_b1 f g) (fun (_ : Unit) i => i) f.Price (fun _ i => ∀ j x, j < i → f.Price[j]? = some x → priceB x = true)
    (fun _ r => some (r.all priceB && (g.Arcs.zip f.X).all (fun z => redB f.Price z.1 z.2))) ?_ ?_ FUEL () 0 (fun j x hj => by omega) (Nat.zero_le _) (FUEL_big (by omega))
  · simpa using this
  · intro c _ i x r hI hd hi hx hc
    have h1 : ((i : Int) < (f.Price.length : Int)) := by omega
    simp only [ref24_VerifyFlow_b1, hx, Option.bind_some, h1, decide_true, if_true, List.all_cons, ref24_moderate_m]
    rw [idx_nat] at hx
    by_cases hb : priceB x = true
    · have hb2 : (decide (-1099511627776 ≤ x) && decide (x ≤ 1099511627776)) = true := hb
      have hcc : c (i + 1) = _ := hc () (fun j y hj hy => by
        by_cases e : j = i
        · subst e; rw [hx] at hy; cases hy; exact hb
        · exact hI j y (by omega) hy)
      rw [hb2, hcc]
      simp only [Bool.not_true, Bool.false_eq_true, if_false, hb, Bool.true_and]
    · have hf : priceB x = false := by simpa using hb
      have hb2 : (decide (-1099511627776 ≤ x) && decide (x ≤ 1099511627776)) = false := hf
      rw [hb2]
      simp only [Bool.not_false, if_true, hf, Bool.false_and]
  · intro c _ hI
    simp only [ref24_VerifyFlow_b1, Int.lt_irrefl, decide_false, Bool.false_eq_true, if_false, ref24_VerifyFlow_k1, List.all_nil, Bool.true_and]
    refine vref2 g f hg hX hP (fun x hx => ?_)
    obtain ⟨j, hj, rfl⟩ := List.mem_iff_getElem.1 hx
    have := hI j f.Price[j] hj (by simp [hj])
    simpa [priceB] using this

theorem ext_getD {a b : List Int} (hl : a.length = b.length) (h : ∀ v, a.getD v 0 = b.getD v 0) : a = b := by
  apply List.ext_getElem hl
  intro i h1 h2
  have := h i
  simpa [h1, h2] using this

/-- All left is nought exactly where what has left is the supply. -/
theorem zero_iff (g : Graph) (X : List Int) (hg : Valid g) : ((foldL (g.Arcs.zip X) g.Supply).all (fun x => decide (x = 0)) = true) ↔ foldO (g.Arcs.zip X) (List.replicate g.Supply.length 0) = g.Supply := by
  have ha : Arcs g.Supply.length (g.Arcs.zip X) := fun z hz => by
    obtain ⟨v1, v2, v3, v4, v5, _⟩ := hg.arc z.1 (List.of_mem_zip hz).1
    omega
  have hrep : ∀ v, (List.replicate g.Supply.length (0 : Int)).getD v 0 = 0 := fun v => by
    simp [List.getElem?_replicate]
    split <;> rfl
  have key := left_out g.Supply.length (g.Arcs.zip X) (List.replicate g.Supply.length 0) g.Supply g.Supply ha (by simp) rfl (fun v => by rw [hrep]; omega)
  have hlen := foldL_len (g.Arcs.zip X) g.Supply
  have hlenO := foldO_len (g.Arcs.zip X) (List.replicate g.Supply.length 0)
  rw [List.length_replicate] at hlenO
  constructor
  · intro h
    refine ext_getD hlenO (fun v => ?_)
    have hk := key v
    have hz : (foldL (g.Arcs.zip X) g.Supply).getD v 0 = 0 := by
      by_cases hv : v < (foldL (g.Arcs.zip X) g.Supply).length
      · have := List.all_eq_true.1 h ((foldL (g.Arcs.zip X) g.Supply).getD v 0) (by simp [hv])
        simpa using this
      · simp [List.getElem?_eq_none (show (foldL (g.Arcs.zip X) g.Supply).length ≤ v by omega)]
    omega
  · intro h
    rw [List.all_eq_true]
    intro x hx
    obtain ⟨j, hj, rfl⟩ := List.mem_iff_getElem.1 hx
    have hk := key j
    rw [h] at hk
    have : (foldL (g.Arcs.zip X) g.Supply).getD j 0 = (foldL (g.Arcs.zip X) g.Supply)[j] := by simp [hj]
    rw [this] at hk
    simp; omega

theorem verifyFlow_m (g : Graph) (f : Flow) : ref24_VerifyFlow_m g f = some (verifyB g f) := by
  unfold ref24_VerifyFlow_m verifyB
  rw [checkG_m]
  simp only [Option.bind_some]
  by_cases h1 : checkB g = true
  · have hg := (valid_iff g).1 h1
    rw [h1]
    simp only [Bool.not_true, Bool.not_false, whn, Option.bind_some, Bool.false_or, Bool.true_and, feasible_m g f.X hg]
    by_cases h2 : f.X.length = g.Arcs.length
    · by_cases h4 : (g.Arcs.zip f.X).all (fun z => xB z.1 z.2) = true
      · have hall : ∀ (P : List Int), (g.Arcs.zip f.X).all (fun z => xB z.1 z.2 && redB P z.1 z.2) = (g.Arcs.zip f.X).all (fun z => redB P z.1 z.2) := fun P => by
          rw [List.all_eq_true] at h4
          rw [Bool.eq_iff_iff, List.all_eq_true, List.all_eq_true]
          constructor
          · intro h z hz; have := h z hz; simp at this; exact this.2
          · intro h z hz; simp [h4 z hz, h z hz]
        by_cases h5 : foldO (g.Arcs.zip f.X) (List.replicate g.Supply.length 0) = g.Supply
        · have h5' := (zero_iff g f.X hg).2 h5
          simp only [h2, decide_true, h4, h5', Bool.and_self, Bool.not_true, Bool.not_false, Option.bind_some, cost_m g f.X hg h2 h4, Bool.false_or, Bool.true_and, hall, h5]
          by_cases h6 : f.Cost = costI (g.Arcs.zip f.X)
          · by_cases h3 : f.Price.length = g.Supply.length
            · rw [if_neg (by simp [h6, h3]), vref1 g f hg h2 h3]
              simp [h3, h6]
            · rw [if_pos (by simp; omega)]
              simp [h3]
          · rw [if_pos (by simp [h6])]
            have : ¬ costI (g.Arcs.zip f.X) = f.Cost := fun h => h6 h.symm
            simp [this]
        · have h5' : (foldL (g.Arcs.zip f.X) g.Supply).all (fun x => decide (x = 0)) = false := by
            have := (not_congr (zero_iff g f.X hg)).2 h5
            simpa using this
          simp [h5', h5]
      · have h4' : (g.Arcs.zip f.X).all (fun z => xB z.1 z.2) = false := by simpa using h4
        have hall : (g.Arcs.zip f.X).all (fun z => xB z.1 z.2 && redB f.Price z.1 z.2) = false := by
          rw [Bool.eq_false_iff] at h4' ⊢
          intro h
          apply h4'
          rw [List.all_eq_true] at h ⊢
          intro z hz
          have := h z hz
          simp at this
          exact this.1
        simp [h4', hall]
    · simp [h2]
  · have h1' : checkB g = false := by simpa using h1
    rw [h1']
    simp [whn]
end Go.Proofs.Ytedocibniankjaa
