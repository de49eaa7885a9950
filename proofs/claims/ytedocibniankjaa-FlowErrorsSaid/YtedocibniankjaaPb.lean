/- Plain laws of chapter 27: Verify. -/
import Derived.Test.YtedocibniankjaaPa
import Derived.Test.YtedocibniankjaaFb
namespace Go.Proofs.Ytedocibniankjaa
open Go.Dc

/-- What one arc does to the sums at the nodes. -/
def updO (out : List Int) (a : Arc) (x : Int) : List Int :=
  (out.set a.From.toNat (out.getD a.From.toNat 0 + x)).set a.To.toNat ((out.set a.From.toNat (out.getD a.From.toNat 0 + x)).getD a.To.toNat 0 - x)
def updL (out : List Int) (a : Arc) (x : Int) : List Int :=
  (out.set a.From.toNat (out.getD a.From.toNat 0 - x)).set a.To.toNat ((out.set a.From.toNat (out.getD a.From.toNat 0 - x)).getD a.To.toNat 0 + x)

def xB (a : Arc) (x : Int) : Bool := !(decide (x < 0) || decide (a.Cap < x))
def redB (P : List Int) (a : Arc) (x : Int) : Bool := !((decide (x < a.Cap) && decide (((a.Cost + P.getD a.From.toNat 0) - P.getD a.To.toNat 0) < 0)) || (decide (0 < x) && decide (0 < ((a.Cost + P.getD a.From.toNat 0) - P.getD a.To.toNat 0))))
def priceB (x : Int) : Bool := decide (-1099511627776 ≤ x) && decide (x ≤ 1099511627776)
def foldO (zs : List (Arc × Int)) (out : List Int) : List Int := zs.foldl (fun o z => updO o z.1 z.2) out
def foldL (zs : List (Arc × Int)) (out : List Int) : List Int := zs.foldl (fun o z => updL o z.1 z.2) out
def costI (zs : List (Arc × Int)) : Int := (zs.map (fun z => z.2 * z.1.Cost)).sum

theorem updO_len (o : List Int) (a : Arc) (x : Int) : (updO o a x).length = o.length := by simp [updO]
theorem updL_len (o : List Int) (a : Arc) (x : Int) : (updL o a x).length = o.length := by simp [updL]
theorem foldO_len : ∀ (zs : List (Arc × Int)) (o : List Int), (foldO zs o).length = o.length
  | [], _ => rfl
  | z :: zs, o => by show (foldO zs (updO o z.1 z.2)).length = _; rw [foldO_len zs, updO_len]
theorem foldL_len : ∀ (zs : List (Arc × Int)) (o : List Int), (foldL zs o).length = o.length
  | [], _ => rfl
  | z :: zs, o => by show (foldL zs (updL o z.1 z.2)).length = _; rw [foldL_len zs, updL_len]

theorem updO_get (o : List Int) (a : Arc) (x : Int) (h1 : a.From.toNat < o.length) (h2 : a.To.toNat < o.length) (hne : a.From.toNat ≠ a.To.toNat) (v : Nat) :
    (updO o a x).getD v 0 = o.getD v 0 + (if v = a.From.toNat then x else 0) - (if v = a.To.toNat then x else 0) := by
  unfold updO
  rw [getD_set, getD_set, getD_set]
  simp only [List.length_set, h1, h2, and_true]
  by_cases e1 : v = a.To.toNat
  · subst e1
    simp [Ne.symm hne]
  · by_cases e2 : v = a.From.toNat
    · subst e2
      simp [hne]
    · simp [e1, e2]
theorem updL_get (o : List Int) (a : Arc) (x : Int) (h1 : a.From.toNat < o.length) (h2 : a.To.toNat < o.length) (hne : a.From.toNat ≠ a.To.toNat) (v : Nat) :
    (updL o a x).getD v 0 = o.getD v 0 - (if v = a.From.toNat then x else 0) + (if v = a.To.toNat then x else 0) := by
  unfold updL
  rw [getD_set, getD_set, getD_set]
  simp only [List.length_set, h1, h2, and_true]
  by_cases e1 : v = a.To.toNat
  · subst e1
    simp [Ne.symm hne]
  · by_cases e2 : v = a.From.toNat
    · subst e2
      simp [hne]
    · simp [e1, e2]

/-- The arcs lie between the nodes. -/
def Arcs (n : Nat) (zs : List (Arc × Int)) : Prop := ∀ z ∈ zs, z.1.From.toNat < n ∧ z.1.To.toNat < n ∧ z.1.From.toNat ≠ z.1.To.toNat

/-- What is left at a node and what has left it. -/
theorem left_out (n : Nat) : ∀ (zs : List (Arc × Int)) (o l s : List Int), Arcs n zs → o.length = n → l.length = n → (∀ v, l.getD v 0 = s.getD v 0 - o.getD v 0) →
    ∀ v, (foldL zs l).getD v 0 = s.getD v 0 - (foldO zs o).getD v 0
  | [], _, _, _, _, _, _, h => h
  | z :: zs, o, l, s, ha, ho, hl, h => by
    have hz := ha z List.mem_cons_self
    show ∀ v, (foldL zs (updL l z.1 z.2)).getD v 0 = s.getD v 0 - (foldO zs (updO o z.1 z.2)).getD v 0
    refine left_out n zs _ _ s (fun y hy => ha y (List.mem_cons_of_mem _ hy)) (by rw [updO_len]; exact ho) (by rw [updL_len]; exact hl) (fun v => ?_)
    rw [updO_get o z.1 z.2 (by omega) (by omega) hz.2.2, updL_get l z.1 z.2 (by omega) (by omega) hz.2.2, h v]
    omega

theorem zip_drop {α β : Type} {xs : List α} {ys : List β} {i : Nat} {x : α} {y : β} {r : List (α × β)} (h : (xs.zip ys).drop i = (x, y) :: r) : xs[i]? = some x ∧ ys[i]? = some y := by
  have h0 : (xs.zip ys)[i]? = some (x, y) := by
    have : ((xs.zip ys).drop i)[0]? = some (x, y) := by rw [h]; rfl
    simpa using this
  rw [List.getElem?_zip_eq_some] at h0
  exact h0
theorem zip_len {α β : Type} {xs : List α} {ys : List β} (h : ys.length = xs.length) : (xs.zip ys).length = xs.length := by simp [h]

/-! ### The program -/

theorem verify3 (g : Graph) (out : List Int) (cost : Int) (f : Flow) (hn : g.Supply.length ≤ 96) (ho : out.length = g.Supply.length) :
    iter (flow_Verify_b3 g out cost f) FUEL 0 = some (decide (out = g.Supply) && decide (cost = f.Cost)) := by
  have := iter_list (B := flow_Verify_b3 g out cost f) (fun (_ : Unit) i => i) g.Supply (fun _ _ => True)
    (fun _ r => some (decide (out.drop (g.Supply.length - r.length) = r) && decide (cost = f.Cost))) ?_ ?_ FUEL () 0 trivial (Nat.zero_le _) (FUEL_big (by omega))
  · rw [List.drop_zero, Nat.sub_self, List.drop_zero] at this
    exact this
  · intro c _ i x r _ hd hi hx hc
    have hr : r.length = g.Supply.length - (i + 1) := by
      have := congrArg List.length hd
      simp at this
      omega
    have hxo : idx out (i : Int) = some (out.getD i 0) := idx_lt (by omega) (by omega)
    simp only [flow_Verify_b3, hx, hxo, Option.bind_some]
    have h1 : ((i : Int) < (g.Supply.length : Int)) := by omega
    simp only [h1, decide_true, if_true]
    have e1 : g.Supply.length - (x :: r).length = i := by simp; omega
    have e2 : g.Supply.length - r.length = i + 1 := by omega
    rw [e1]
    have hio : i < out.length := by omega
    have hod : out.drop i = out.getD i 0 :: out.drop (i + 1) := by rw [List.drop_eq_getElem_cons hio]; simp [hio]
    rw [hod]
    have hcc : c (i + 1) = some (decide (out.drop (g.Supply.length - r.length) = r) && decide (cost = f.Cost)) := hc () trivial
    rw [e2] at hcc
    by_cases he : out.getD i 0 = x
    · simp only [he, ne_eq, not_true_eq_false, decide_false, Bool.false_eq_true, if_false, hcc, List.cons.injEq, true_and]
    · simp only [ne_eq, he, not_false_eq_true, decide_true, if_true, List.cons.injEq, false_and, decide_false, Bool.false_and]
  · intro c _ _
    simp only [flow_Verify_b3, Int.lt_irrefl, decide_false, Bool.false_eq_true, if_false, flow_Verify_k3, List.length_nil, Nat.sub_zero]
    have hd : out.drop g.Supply.length = [] := List.drop_of_length_le (by omega)
    simp [hd]

theorem verify2 (g : Graph) (f : Flow) (hg : Valid g) (hX : f.X.length = g.Arcs.length) (hP : f.Price.length = g.Supply.length) (hp : ∀ x ∈ f.Price, -1099511627776 ≤ x ∧ x ≤ 1099511627776) :
    iter (flow_Verify_b2 g f) FUEL (List.replicate g.Supply.length 0, 0, 0) =
      some (((g.Arcs.zip f.X).all (fun z => xB z.1 z.2 && redB f.Price z.1 z.2)) && (decide (foldO (g.Arcs.zip f.X) (List.replicate g.Supply.length 0) = g.Supply) && decide (costI (g.Arcs.zip f.X) = f.Cost))) := by
  have hzl := zip_len (xs := g.Arcs) (ys := f.X) hX
  have := iter_list (B := flow_Verify_b2 g f) (fun (s : List Int × Int) i => (s.1, s.2, i)) (g.Arcs.zip f.X)
    (fun s i => s.1.length = g.Supply.length ∧ (∀ v, -(1048576 * (i : Int)) ≤ s.1.getD v 0 ∧ s.1.getD v 0 ≤ 1048576 * (i : Int)) ∧ -(1099511627776 * (i : Int)) ≤ s.2 ∧ s.2 ≤ 1099511627776 * (i : Int))
    (fun s r => some ((r.all (fun z => xB z.1 z.2 && redB f.Price z.1 z.2)) && (decide (foldO r s.1 = g.Supply) && decide (s.2 + costI r = f.Cost)))) ?_ ?_ FUEL (List.replicate g.Supply.length 0, 0) 0 ?_ (Nat.zero_le _) (FUEL_big (by have := hg.m; omega))
  · simpa using this
  · intro c s i z r hI hd hi hx hc
    obtain ⟨a, x⟩ := z
    obtain ⟨out, cost⟩ := s
    obtain ⟨hl, hb, hc1, hc2⟩ := hI
    simp only at hl hb hc1 hc2
    have hi' : i < g.Arcs.length := by omega
    have him := hg.m
    obtain ⟨hza, hzx⟩ := zip_drop hd
    have hia : idx g.Arcs (i : Int) = some a := by rw [idx_nat]; exact hza
    have hix : idx f.X (i : Int) = some x := by rw [idx_nat]; exact hzx
    obtain ⟨v1, v2, v3, v4, v5, v6, v7, v8, v9⟩ := hg.arc a (List.mem_of_getElem? hza)
    have h1 : ((i : Int) < (g.Arcs.length : Int)) := by omega
    simp only [flow_Verify_b2, hia, hix, Option.bind_some, h1, decide_true, if_true, List.all_cons]
    by_cases hxb : xB a x = true
    · have hxr : 0 ≤ x ∧ x ≤ a.Cap := by have h := hxb; simp [xB] at h; omega
      have e1 : (decide (x < 0) || decide (a.Cap < x)) = false := by simp; omega
      simp only [e1, Bool.false_eq_true, if_false, hxb, Bool.true_and]
      have hpF : idx f.Price a.From = some (f.Price.getD a.From.toNat 0) := idx_lt v1 (by omega)
      have hpT : idx f.Price a.To = some (f.Price.getD a.To.toNat 0) := idx_lt v3 (by omega)
      have bF := hp (f.Price.getD a.From.toNat 0) (by have : a.From.toNat < f.Price.length := (by omega); simp [this])
      have bT := hp (f.Price.getD a.To.toNat 0) (by have : a.To.toNat < f.Price.length := (by omega); simp [this])
      simp only [hpF, hpT, Option.bind_some]
      rw [chk_true (i64b_of (by omega) (by omega)), chk_true (i64b_of (by omega) (by omega))]
      by_cases hrb : redB f.Price a x = true
      · have hr2 := hrb
        simp only [redB, Bool.not_eq_true'] at hr2
        rw [if_neg (by rw [hr2]; simp)]
        simp only [hrb, Bool.true_and]
        have ho1 : idx out a.From = some (out.getD a.From.toNat 0) := idx_lt v1 (by omega)
        have ho2 : idx (out.set a.From.toNat (out.getD a.From.toNat 0 + x)) a.To = some ((out.set a.From.toNat (out.getD a.From.toNat 0 + x)).getD a.To.toNat 0) := idx_lt v3 (by rw [List.length_set]; omega)
        have hne : a.From.toNat ≠ a.To.toNat := by omega
        have hgT : (out.set a.From.toNat (out.getD a.From.toNat 0 + x)).getD a.To.toNat 0 = out.getD a.To.toNat 0 := by
          rw [getD_set]; simp [Ne.symm hne]
        have b1 := hb a.From.toNat
        have b2 := hb a.To.toNat
        have hxc : -1099511627776 ≤ x * a.Cost ∧ x * a.Cost ≤ 1099511627776 := by
          constructor
          · have : -(x * 1048576) ≤ x * a.Cost := by
              have := Int.mul_le_mul_of_nonneg_left v8 hxr.1
              rw [Int.mul_neg] at this; exact this
            omega
          · have := Int.mul_le_mul_of_nonneg_left v9 hxr.1
            omega
        simp only [ho1, ho2, Option.bind_some]
        rw [chk_true (i64b_of (by omega) (by omega)), chk_true (i64b_of (by rw [hgT]; omega) (by rw [hgT]; omega)), chk_true (i64b_of (by omega) (by omega)), chk_true (i64b_of (by omega) (by omega))]
        have hcc := hc (updO out a x, cost + x * a.Cost) ⟨by rw [updO_len]; exact hl, fun v => by
          rw [updO_get out a x (by omega) (by omega) hne]
          have := hb v
          push_cast
          split <;> split <;> omega, by push_cast; omega, by push_cast; omega⟩
        have : (((out.set a.From.toNat (out.getD a.From.toNat 0 + x)).set a.To.toNat ((out.set a.From.toNat (out.getD a.From.toNat 0 + x)).getD a.To.toNat 0 - x)), (cost + (x * a.Cost)), i + 1) = (updO out a x, cost + x * a.Cost, i + 1) := rfl
        rw [this]
        simp only at hcc
        rw [hcc]
        have e2 : foldO ((a, x) :: r) out = foldO r (updO out a x) := rfl
        have e3 : cost + costI ((a, x) :: r) = cost + x * a.Cost + costI r := by simp [costI]; omega
        rw [e2, e3]
      · have hr2 : redB f.Price a x = false := by simpa using hrb
        have hr3 := hr2
        simp only [redB, Bool.not_eq_false'] at hr3
        rw [if_pos hr3]
        simp only [hr2, Bool.false_and]
    · have hxf : xB a x = false := by simpa using hxb
      have e1 : (decide (x < 0) || decide (a.Cap < x)) = true := by have h := hxf; simp only [xB, Bool.not_eq_false'] at h; exact h
      simp only [e1, if_true, hxf, Bool.false_and]
  · intro c s hI
    obtain ⟨out, cost⟩ := s
    simp only [flow_Verify_b2, hzl, Int.lt_irrefl, decide_false, Bool.false_eq_true, if_false, flow_Verify_k2]
    rw [verify3 g out cost f hg.n2 hI.1]
    simp [foldO, costI]
    rfl
  · refine ⟨by simp, fun v => ?_, by simp, by simp⟩
    simp [List.getElem?_replicate]
    split <;> simp
end Go.Proofs.Ytedocibniankjaa
