/- Cells of a route: the program's and the reference's. Resources and clashes of routes: the program's and the reference's. Resources and clashes of routes: the reference's; comparisons. Clashes of routes; equal lists; what the laws of routes compare. -/
import Derived.Test.YtnihhidbiepnhaaTa
import Derived.Test.YtnihhidbiepnhaaRe
import Derived.Test.YtnihhidbiepnhaaRq
import Derived.Test.YtnihhidbiepnhaaRr
import Derived.Test.YtnihhidbiepnhaaRs
namespace Go.Proofs.Ytnihhidbiepnhaa
open Go.Dc
set_option maxRecDepth 100000

theorem mul_1 : ∀ k : Fin 401, bits_Mul_m (IntKind.u64.wrap ((1 : Nat) : Int)) (IntKind.u64.wrap ((k.val : Nat) : Int)) = some (0, ((k.val : Nat) : Int)) := by decide +kernel
theorem wrap_small : ∀ k : Fin 401, IntKind.i64.wrap ((k.val : Nat) : Int) = ((k.val : Nat) : Int) := by decide +kernel

theorem mk_cell {p : Int} {x : Cell} (h0 : 0 ≤ p) (h : p ≤ 1000000) : mk (α := Cell) x p = some (List.replicate p.toNat x) := by
  unfold mk
  rw [if_pos]
  refine ⟨h0, ?_⟩
  show p * 16 ≤ _
  omega

theorem repeat_m (c : Cell) (k : Nat) (h1 : 1 ≤ k) (h2 : k ≤ 400) : slices_Repeat_api_Cell_api_Cell_m [c] (k : Int) = some (List.replicate k c) := by
  unfold slices_Repeat_api_Cell_api_Cell_m
  rw [if_neg (by simp)]
  unfold slices_Repeat_api_Cell_api_Cell_k1
  have hm := mul_1 ⟨k, by omega⟩
  simp only at hm
  rw [show (([c] : List Cell).length : Int) = ((1 : Nat) : Int) from rfl, hm, Option.bind_some, if_neg (by simp; omega)]
  unfold slices_Repeat_api_Cell_api_Cell_k2
  have hw := wrap_small ⟨k, by omega⟩
  simp only at hw
  rw [show ((0 : Int), (k : Int)).2 = (k : Int) from rfl, hw, mk_cell (by omega) (by omega), Option.bind_some]
  simp only [Int.toNat_natCast, List.length_replicate]
  have hc0 : cpyM (List.replicate k (Cell.mk 0 0)) 0 k [c] = some (List.replicate 1 c ++ List.replicate (k - 1) (Cell.mk 0 0)) := by
    unfold cpyM cpy
    rw [if_pos (by simp)]
    obtain ⟨j, rfl⟩ : ∃ j, k = j + 1 := ⟨k - 1, by omega⟩
    simp [List.replicate_succ]
  rw [hc0, Option.bind_some]
  have hmin : Nat.min ([c] : List Cell).length k = 1 := by show Nat.min 1 k = 1; exact Nat.min_eq_left h1
  rw [hmin]
  have key : WP (iter slices_Repeat_api_Cell_api_Cell_b1 FUEL (List.replicate 1 c ++ List.replicate (k - 1) (Cell.mk 0 0), ((1 : Nat) : Int))) (fun y => y = List.replicate k c) := by
    refine wp_iter (fun (q : List Cell × Int) => ∃ n : Nat, q.2 = n ∧ 1 ≤ n ∧ n ≤ k ∧ q.1 = List.replicate n c ++ List.replicate (k - n) (Cell.mk 0 0)) (fun q => k - q.2.toNat) _ ?_ FUEL _ ⟨1, rfl, by omega, h1, rfl⟩ (fuel_of (by simp only; omega))
    rintro ct ⟨q, n'⟩ ⟨n, hn, n1, nk, hq⟩ hct
    simp only at hn hq hct
    subst hn hq
    have hlen : (List.replicate n c ++ List.replicate (k - n) (Cell.mk 0 0)).length = k := by simp; omega
    simp only [slices_Repeat_api_Cell_api_Cell_b1]
    rw [hlen]
    refine wp_ite (fun h => ?_) (fun h => ?_)
    · simp only [decide_eq_true_eq] at h
      have s1 : sub (List.replicate n c ++ List.replicate (k - n) (Cell.mk 0 0)) (n : Int) (k : Int) = some (List.replicate (k - n) (Cell.mk 0 0)) := by
        unfold sub
        rw [if_pos (by rw [hlen]; omega)]
        congr 1
        rw [Int.toNat_natCast, Int.toNat_natCast, List.take_of_length_le (by rw [hlen]; omega)]
        rw [List.drop_append_of_le_length (by simp)]
        simp
      have s2 : sub (List.replicate n c ++ List.replicate (k - n) (Cell.mk 0 0)) 0 (n : Int) = some (List.replicate n c) := by
        unfold sub
        rw [if_pos (by rw [hlen]; omega)]
        congr 1
        rw [Int.toNat_natCast, List.take_append_of_le_length (by simp)]
        simp
      rw [s1, Option.bind_some, s2, Option.bind_some]
      simp only [List.length_replicate, Int.toNat_natCast]
      have hM : ∃ m, Nat.min n (k - n) = m ∧ 1 ≤ m ∧ n + m ≤ k := ⟨Nat.min n (k - n), rfl, by
        have h1 : 1 ≤ k - n := by omega
        exact Nat.le_min.2 ⟨n1, h1⟩, by
        have := Nat.min_le_right n (k - n)
        have h1 : Nat.min n (k - n) ≤ k - n := this
        omega⟩
      obtain ⟨m, hm, m1, m2⟩ := hM
      have hcp : cpyM (List.replicate n c ++ List.replicate (k - n) (Cell.mk 0 0)) n (k - n) (List.replicate n c) = some (List.replicate (n + m) c ++ List.replicate (k - (n + m)) (Cell.mk 0 0)) := by
        unfold cpyM cpy
        rw [if_pos (by rw [hlen]; omega), List.take_replicate, show min (k - n) n = m by rw [Nat.min_comm]; exact hm]
        congr 1
        rw [List.take_append_of_le_length (by simp), List.take_of_length_le (by simp), List.length_replicate, List.drop_append, List.length_replicate]
        rw [List.drop_of_length_le (by simp), List.nil_append, show n + m - n = m by omega, List.drop_replicate, List.replicate_append_replicate]
        congr 2
        omega
      rw [hcp, Option.bind_some, hm]
      refine wp_i64 (by omega) (hct _ ⟨n + m, by simp, by omega, m2, rfl⟩ (by simp only; omega))
    · simp only [decide_eq_false_iff_not] at h
      have : n = k := by omega
      subst this
      exact wp_some (by simp)
  obtain ⟨y, e, rfl⟩ := key
  exact e

def secAt (l : Layout) (s : Step) : Section := l.Sections.getD s.Section.toNat default
def cellOf (l : Layout) (s : Step) : Cell := ⟨(secAt l s).Limit, if s.Dir = 1 then -(secAt l s).Grade else (secAt l s).Grade⟩
def cellsF (l : Layout) (ss : List Step) : List Cell := ss.flatMap fun s => List.replicate (secAt l s).Length.toNat (cellOf l s)
def cellsE (l : Layout) (r : Route) (cs : List Cell) : List Cell × Int × Int :=
  if 4000 < cs.length then ([], 0, 7) else (cs, (secAt l (r.Steps.getD 0 default)).Length, 0)
def cellsR (l : Layout) (r : Route) : List Cell × Int × Int :=
  if (pointsF l r).2 ≠ 0 then ([], 0, (pointsF l r).2) else cellsE l r (cellsF l (r.Steps.take ((r.Steps.length : Int) - r.Overlap).toNat))

structure ROk (l : Layout) (r : Route) : Prop where
  ck : checkL (layOf l) = 0
  v : Val l
  len : r.Steps.length ≤ 24
  ov : 0 ≤ r.Overlap ∧ r.Overlap ≤ 2
  two : 2 ≤ (r.Steps.length : Int) - r.Overlap
  st : ∀ s ∈ r.Steps, isS l s = true
  dup : dupAt [] r.Steps = false
  pts : ptsL l r.Steps = some (pointsF l r).1

theorem rok_of {l : Layout} {r : Route} (h : (pointsF l r).2 = 0) : ROk l r := by
  by_cases hc : checkL (layOf l) = 0
  · by_cases h24 : 24 < r.Steps.length ∨ 2 < r.Overlap
    · have e : pointsF l r = ([], 7) := by unfold pointsF; rw [if_neg (by simp [hc]), if_pos h24]
      rw [e] at h; cases h
    · by_cases h2 : r.Overlap < 0 ∨ (r.Steps.length : Int) - r.Overlap < 2
      · have e : pointsF l r = ([], 4) := by unfold pointsF; rw [if_neg (by simp [hc]), if_neg h24, if_pos h2]
        rw [e] at h; cases h
      · by_cases ha : r.Steps.all (isS l) = false
        · have e : pointsF l r = ([], 4) := by unfold pointsF; rw [if_neg (by simp [hc]), if_neg h24, if_neg h2, if_pos ha]
          rw [e] at h; cases h
        · by_cases hd : dupAt [] r.Steps = true
          · have e : pointsF l r = ([], 5) := by unfold pointsF; rw [if_neg (by simp [hc]), if_neg h24, if_neg h2, if_neg ha, if_pos hd]
            rw [e] at h; cases h
          · have e : pointsF l r = ptsE l r := by unfold pointsF; rw [if_neg (by simp [hc]), if_neg h24, if_neg h2, if_neg ha, if_neg hd]
            refine ⟨hc, val_of hc, by omega, by omega, by omega, fun s hm => List.all_eq_true.1 (by simpa using ha) s hm, by simpa using hd, ?_⟩
            rw [e] at h ⊢
            unfold ptsE at h ⊢
            cases hp : ptsL l r.Steps with
            | none => rw [hp] at h; cases h
            | some q => rfl
  · have e : pointsF l r = ([], 1) := by unfold pointsF; rw [if_pos hc]
    rw [e] at h; cases h

theorem secAt_ok {l : Layout} (v : Val l) {s : Step} (h : isS l s = true) : idx l.Sections s.Section = some (secAt l s) ∧ 1 ≤ (secAt l s).Length ∧ (secAt l s).Length ≤ 400 ∧ -40 ≤ (secAt l s).Grade ∧ (secAt l s).Grade ≤ 40 := by
  unfold isS at h
  simp only [Bool.and_eq_true, decide_eq_true_eq] at h
  have hlt : s.Section.toNat < l.Sections.length := by omega
  have hm : secAt l s ∈ l.Sections := by unfold secAt; simp [hlt]
  have := v.secs _ hm
  exact ⟨idx_of_lt h.1.1 h.1.2, this.1, this.2.1, this.2.2.2.2.1, this.2.2.2.2.2⟩

theorem rcells_m (l : Layout) (r : Route) : route_Cells_m l r = some (cellsR l r) := by
  unfold route_Cells_m cellsR
  rw [rcheck_m, Option.bind_some]
  by_cases h0 : (pointsF l r).2 = 0
  · have o := rok_of h0
    have v := o.v
    rw [if_neg (by simp [h0]), if_neg (by simp [h0])]
    have := o.len; have := o.ov; have := o.two
    have hs : sub r.Steps 0 ((r.Steps.length : Int) - r.Overlap) = some (r.Steps.take ((r.Steps.length : Int) - r.Overlap).toNat) := by
      unfold sub
      rw [if_pos (by omega)]
      simp
    rw [chk_true (i64b_of (by omega) (by omega)), hs, Option.bind_some]
    generalize hT : r.Steps.take ((r.Steps.length : Int) - r.Overlap).toNat = T
    have hTl : T.length ≤ 24 := by rw [← hT, List.length_take]; omega
    have hTm : ∀ s ∈ T, isS l s = true := fun s hm => o.st s (List.mem_of_mem_take (by rw [← hT] at hm; exact hm))
    have := iter_list (B := route_Cells_b1 T l r) (fun (s : List Cell) i => (s, i)) T (fun s i => s.length ≤ 400 * i) (fun s q => some (cellsE l r (s ++ cellsF l q))) ?_ ?_ FUEL [] 0 (by simp) (by omega) (fuel_of (by omega))
    · simpa using this
    · intro c s i x q hI hdr hi hx hk
      have hm : x ∈ T := List.mem_of_mem_drop (i := i) (by rw [hdr]; exact List.mem_cons_self)
      obtain ⟨hsx, s1, s2, s3, s4⟩ := secAt_ok v (hTm x hm)
      simp only [route_Cells_b1]
      rw [if_pos (by simp; omega), hx, Option.bind_some, hsx, Option.bind_some]
      have hrep : ∀ g : Int, route_Cells_k2 (secAt l x) s c i g = c (s ++ List.replicate (secAt l x).Length.toNat (Cell.mk (secAt l x).Limit g), i + 1) := by
        intro g
        unfold route_Cells_k2
        have := repeat_m (Cell.mk (secAt l x).Limit g) (secAt l x).Length.toNat (by omega) (by omega)
        rw [Int.toNat_of_nonneg (by omega)] at this
        rw [this, Option.bind_some, chk_true (by simp; omega)]
      have hgo : (if decide (x.Dir = 1) = true then chk (i64b (-(secAt l x).Grade)) (route_Cells_k2 (secAt l x) s c i (-(secAt l x).Grade)) else route_Cells_k2 (secAt l x) s c i (secAt l x).Grade) = c (s ++ List.replicate (secAt l x).Length.toNat (cellOf l x), i + 1) := by
        unfold cellOf
        by_cases hd : x.Dir = 1
        · rw [if_pos (by simpa using hd), if_pos hd, chk_true (i64b_of (by omega) (by omega)), hrep]
        · rw [if_neg (by simpa using hd), if_neg hd, hrep]
      rw [hgo, hk _ (by simp; omega)]
      simp [cellsF, List.flatMap_cons]
    · intro c s hI
      simp only [route_Cells_b1]
      rw [if_neg (by simp)]
      unfold route_Cells_k1 cellsE
      simp only [cellsF, List.flatMap_nil, List.append_nil]
      by_cases hb : 4000 < s.length
      · rw [if_pos (by simp; omega), if_pos hb]
      · rw [if_neg (by simp; omega), if_neg hb]
        have h00 : 0 < r.Steps.length := by omega
        have hi0 : idx r.Steps 0 = some (r.Steps.getD 0 default) := idx_of_lt (by omega) (by omega)
        have hm0 : r.Steps.getD 0 default ∈ r.Steps := by simp [h00]
        rw [hi0, Option.bind_some, (secAt_ok v (o.st _ hm0)).1, Option.bind_some]
  · rw [if_pos (by simp [h0]), if_pos h0]

theorem refcells_m (l : Layout) (r : Route) : ref6_Cells_m l r = some (cellsR l r) := by
  unfold ref6_Cells_m cellsR
  rw [checkRoute_r, Option.bind_some]
  by_cases h0 : (pointsF l r).2 = 0
  · have o := rok_of h0
    have v := o.v
    rw [if_neg (by simp [h0]), if_neg (by simp [h0])]
    have := o.len; have := o.ov; have := o.two
    generalize hT : r.Steps.take ((r.Steps.length : Int) - r.Overlap).toNat = T
    have hTl : (T.length : Int) = (r.Steps.length : Int) - r.Overlap := by rw [← hT, List.length_take]; omega
    have hTm : ∀ s ∈ T, isS l s = true := fun s hm => o.st s (List.mem_of_mem_take (by rw [← hT] at hm; exact hm))
    have := iter_list (B := ref6_Cells_b1 r l) (fun (s : List Cell) i => (s, i)) T (fun s i => s.length ≤ 400 * i) (fun s q => some (cellsE l r (s ++ cellsF l q))) ?_ ?_ FUEL [] 0 (by simp) (by omega) (fuel_of (by omega))
    · simpa using this
    · intro c s i x q hI hdr hi hx hk
      have hm : x ∈ T := List.mem_of_mem_drop (i := i) (by rw [hdr]; exact List.mem_cons_self)
      obtain ⟨hsx, s1, s2, s3, s4⟩ := secAt_ok v (hTm x hm)
      have hx' : idx r.Steps (i : Int) = some x := by
        rw [idx_nat] at hx ⊢
        rw [← hT, List.getElem?_take, if_pos (by omega)] at hx
        exact hx
      simp only [ref6_Cells_b1]
      rw [chk_true (i64b_of (by omega) (by omega)), if_pos (by simp; omega), hx', Option.bind_some, hsx, Option.bind_some, Option.bind_some]
      have hrep : ∀ g : Int, ref6_Cells_k3 (secAt l x) i c s g = c (s ++ List.replicate (secAt l x).Length.toNat (Cell.mk (secAt l x).Limit g), i + 1) := by
        intro g
        unfold ref6_Cells_k3
        have := iter_list (B := ref6_Cells_b2 (secAt l x) g i c) (fun (z : List Cell) k => (z, k)) (List.replicate (secAt l x).Length.toNat (Cell.mk (secAt l x).Limit g)) (fun z k => z.length ≤ 400 * i + k) (fun z q => c (z ++ q, i + 1)) ?_ ?_ FUEL s 0 (by omega) (by omega) (fuel_of (by simp; omega))
        · simpa using this
        · intro c2 z k y q hz hdr hk hy hc
          rw [List.length_replicate] at hk
          have hyy : y = Cell.mk (secAt l x).Limit g := by
            have : y ∈ List.replicate (secAt l x).Length.toNat (Cell.mk (secAt l x).Limit g) := List.mem_of_mem_drop (i := k) (by rw [hdr]; exact List.mem_cons_self)
            exact List.eq_of_mem_replicate this
          simp only [ref6_Cells_b2]
          rw [if_pos (by simp; omega), chk_true (by simp; omega), chk_true (i64b_of (by omega) (by omega)), hc _ (by simp; omega), hyy]
          simp
        · intro c2 z _
          simp only [ref6_Cells_b2, List.length_replicate]
          rw [if_neg (by simp; omega)]
          simp only [ref6_Cells_k2]
          rw [chk_true (i64b_of (by omega) (by omega))]
          simp
      have hgo : (if decide (x.Dir = 1) = true then chk (i64b (-(secAt l x).Grade)) (ref6_Cells_k3 (secAt l x) i c s (-(secAt l x).Grade)) else ref6_Cells_k3 (secAt l x) i c s (secAt l x).Grade) = c (s ++ List.replicate (secAt l x).Length.toNat (cellOf l x), i + 1) := by
        unfold cellOf
        by_cases hd : x.Dir = 1
        · rw [if_pos (by simpa using hd), if_pos hd, chk_true (i64b_of (by omega) (by omega)), hrep]
        · rw [if_neg (by simpa using hd), if_neg hd, hrep]
      rw [hgo, hk _ (by simp; omega)]
      simp [cellsF, List.flatMap_cons]
    · intro c s hI
      simp only [ref6_Cells_b1]
      rw [chk_true (i64b_of (by omega) (by omega)), if_neg (by simp; omega)]
      unfold ref6_Cells_k1 cellsE
      simp only [cellsF, List.flatMap_nil, List.append_nil]
      by_cases hb : 4000 < s.length
      · rw [if_pos (by simp; omega), if_pos hb]
      · rw [if_neg (by simp; omega), if_neg hb]
        have h00 : 0 < r.Steps.length := by omega
        have hi0 : idx r.Steps 0 = some (r.Steps.getD 0 default) := idx_of_lt (by omega) (by omega)
        have hm0 : r.Steps.getD 0 default ∈ r.Steps := by simp [h00]
        rw [hi0, Option.bind_some, (secAt_ok v (o.st _ hm0)).1, Option.bind_some]
  · rw [if_pos (by simp [h0]), if_pos h0]
end Go.Proofs.Ytnihhidbiepnhaa

namespace Go.Proofs.Ytnihhidbiepnhaa
open Go.Dc

/-- The marks of the numbers of a list. -/
def uOf (N : Nat) (S : List Int) : List Bool := (List.range N).map fun (i : Nat) => decide ((i : Int) ∈ S)
theorem uOf_len (N : Nat) (S : List Int) : (uOf N S).length = N := by simp [uOf]
theorem uOf_nil (N : Nat) : List.replicate N false = uOf N [] := by
  refine List.ext_getElem (by simp [uOf]) fun i h1 h2 => ?_
  simp [uOf]
theorem uOf_congr {N : Nat} {S T : List Int} (h : ∀ x, x ∈ S ↔ x ∈ T) : uOf N S = uOf N T := by
  unfold uOf
  congr 1
  funext i
  rw [decide_eq_decide]
  exact h i
theorem uOf_set {N : Nat} {S : List Int} {x : Int} (h0 : 0 ≤ x) (h1 : x < N) : (uOf N S).set x.toNat true = uOf N (S ++ [x]) := by
  refine List.ext_getElem (by simp [uOf]) fun i a b => ?_
  rw [List.getElem_set]
  simp only [uOf, List.getElem_map, List.getElem_range, List.mem_append, List.mem_singleton]
  by_cases e : x.toNat = i
  · rw [if_pos e]
    have : (i : Int) = x := by omega
    simp [this]
  · rw [if_neg e]
    have : ¬ (i : Int) = x := by omega
    simp [this]
theorem uOf_idx {N : Nat} {S : List Int} {x : Int} (h0 : 0 ≤ x) (h1 : x < N) : idx (uOf N S) x = some (decide (x ∈ S)) := by
  have hlt : x.toNat < N := by omega
  unfold idx
  rw [if_pos h0]
  simp only [uOf, List.getElem?_map, List.getElem?_range hlt, Option.map_some]
  rw [Int.toNat_of_nonneg h0]

/-- The numbers of the marks that are set. -/
def idxs : List Bool → Nat → List Int
  | [], _ => []
  | b :: r, i => if b then (i : Int) :: idxs r (i + 1) else idxs r (i + 1)
theorem idxs_len : ∀ (u : List Bool) (i : Nat), (idxs u i).length ≤ u.length
  | [], _ => by simp [idxs]
  | b :: r, i => by
    have := idxs_len r (i + 1)
    unfold idxs
    cases b <;> simp <;> omega
theorem idxs_mem : ∀ (u : List Bool) (i : Nat) (x : Int), x ∈ idxs u i ↔ ∃ j : Nat, u[j]? = some true ∧ x = ((i + j : Nat) : Int)
  | [], i, x => by simp [idxs]
  | b :: r, i, x => by
    have ih := idxs_mem r (i + 1) x
    unfold idxs
    have step : (∃ j : Nat, (b :: r)[j]? = some true ∧ x = ((i + j : Nat) : Int)) ↔ (b = true ∧ x = i) ∨ ∃ j : Nat, r[j]? = some true ∧ x = ((i + 1 + j : Nat) : Int) := by
      constructor
      · rintro ⟨j, h1, h2⟩
        cases j with
        | zero => exact .inl ⟨by simpa using h1, by simpa using h2⟩
        | succ j => exact .inr ⟨j, by simpa using h1, by rw [h2]; congr 1; omega⟩
      · rintro (⟨h1, h2⟩ | ⟨j, h1, h2⟩)
        · exact ⟨0, by simp [h1], by simp [h2]⟩
        · exact ⟨j + 1, by simpa using h1, by rw [h2]; congr 1; omega⟩
    rw [step, ← ih]
    cases b <;> simp
theorem idxs_uOf {N : Nat} {S : List Int} {x : Int} : x ∈ idxs (uOf N S) 0 ↔ 0 ≤ x ∧ x < N ∧ x ∈ S := by
  rw [idxs_mem]
  constructor
  · rintro ⟨j, h1, h2⟩
    have hj : j < N := by have := (List.getElem?_eq_some_iff.1 h1).1; rwa [uOf_len] at this
    have := uOf_idx (N := N) (S := S) (x := (j : Int)) (by omega) (by omega)
    rw [idx_nat, h1] at this
    have h3 : (j : Int) ∈ S := by simpa using this
    have h4 : x = j := by rw [h2]; congr 1; omega
    subst h4
    exact ⟨by omega, by omega, h3⟩
  · rintro ⟨h0, h1, h2⟩
    refine ⟨x.toNat, ?_, by omega⟩
    have := uOf_idx (S := S) h0 h1
    rw [show x = ((x.toNat : Nat) : Int) by omega, idx_nat] at this
    rw [this, Int.toNat_of_nonneg h0]
    simp [h2]

def nRes (l : Layout) : Nat := l.Sections.length + l.Points.length
def ptRes (l : Layout) (p : Int) : List Int := if 0 ≤ p then [(l.Sections.length : Int) + p] else []
def usedL (l : Layout) (r : Route) : List Int := r.Steps.map (·.Section) ++ (pointsF l r).1.flatMap (ptRes l)
def resR (l : Layout) (r : Route) : List Int × Int := if (pointsF l r).2 ≠ 0 then ([], (pointsF l r).2) else (idxs (uOf (nRes l) (usedL l r)) 0, 0)

theorem tr_range {l : Layout} (v : Val l) (a b : Step) : (tr l a b).2 = true → -1 ≤ (tr l a b).1 ∧ (tr l a b).1 < l.Points.length := by
  unfold tr
  have key : ∀ ks : List Link, (∀ k ∈ ks, k ∈ l.Links) → (trF (leaveF a) (leaveF (revF b)) ks).2 = true → -1 ≤ (trF (leaveF a) (leaveF (revF b)) ks).1 ∧ (trF (leaveF a) (leaveF (revF b)) ks).1 < l.Points.length := by
    intro ks
    induction ks with
    | nil => intro _ h; cases h
    | cons k ks ih =>
      intro hk h
      unfold trF at h ⊢
      by_cases hj : joinK (leaveF a) (leaveF (revF b)) k = true
      · rw [if_pos hj]
        exact (v.links k (hk k List.mem_cons_self)).2.2.2.2.1
      · rw [if_neg hj] at h ⊢
        exact ih (fun q hq => hk q (List.mem_cons_of_mem _ hq)) h
  exact key l.Links (fun k h => h)

theorem ptsF_range {l : Layout} (v : Val l) : ∀ (ss : List Step) (a : Step) (q : List Int), ptsF l a ss = some q → q.length = ss.length ∧ ∀ p ∈ q, -1 ≤ p ∧ p < l.Points.length
  | [], a, q, h => by cases h; exact ⟨rfl, fun p hp => by simp at hp⟩
  | b :: ss, a, q, h => by
    unfold ptsF at h
    by_cases ht : (tr l a b).2 = true
    · rw [if_pos ht] at h
      cases hq : ptsF l b ss with
      | none => rw [hq] at h; cases h
      | some z =>
        rw [hq] at h
        cases h
        have ih := ptsF_range v ss b z hq
        refine ⟨by simp [ih.1], fun p hp => ?_⟩
        rcases List.mem_cons.1 hp with e | e
        · rw [e]; exact tr_range v a b ht
        · exact ih.2 p e
    · rw [if_neg ht] at h; cases h

theorem rok_pts {l : Layout} {r : Route} (o : ROk l r) : (pointsF l r).1.length ≤ 24 ∧ ∀ p ∈ (pointsF l r).1, -1 ≤ p ∧ p < l.Points.length := by
  have h := o.pts
  have hl := o.len
  obtain ⟨ss, hs⟩ : ∃ ss, r.Steps = ss := ⟨_, rfl⟩
  rw [hs] at h hl
  generalize (pointsF l r).1 = q at h
  cases ss with
  | nil =>
    unfold ptsL at h
    have := Option.some.inj h
    subst this
    exact ⟨by simp, fun p hp => by simp at hp⟩
  | cons a t =>
    unfold ptsL at h
    have := ptsF_range o.v t a _ h
    rw [List.length_cons] at hl
    exact ⟨by omega, this.2⟩

theorem res_m (l : Layout) (r : Route) : route_Resources_m l r = some (resR l r) := by
  unfold route_Resources_m resR
  rw [points_m, Option.bind_some]
  by_cases h0 : (pointsF l r).2 = 0
  · have o := rok_of h0
    have v := o.v
    have hf := v.full
    have hlen := o.len
    have hp := rok_pts o
    rw [if_neg (by simp [h0]), if_neg (by simp [h0]), chk_true (i64b_of (by omega) (by omega)), mk_bool (by omega) (by omega), Option.bind_some]
    have hN : ((l.Sections.length : Int) + (l.Points.length : Int)).toNat = nRes l := by unfold nRes; omega
    rw [hN, uOf_nil]
    -- the third loop
    have k2 : ∀ S, route_Resources_k2 (uOf (nRes l) S) () = some (idxs (uOf (nRes l) S) 0, 0) := by
      intro S
      unfold route_Resources_k2
      have hul := uOf_len (nRes l) S
      generalize uOf (nRes l) S = u at hul
      have hnr : nRes l ≤ 144 := by unfold nRes; omega
      have := iter_list (B := route_Resources_b3 u) (fun (z : List Int × Nat) i => (z.1, i)) u (fun z i => z.2 = i ∧ z.1.length ≤ i) (fun z q => some (z.1 ++ idxs q z.2, 0)) ?_ ?_ FUEL ([], 0) 0 ⟨rfl, by simp⟩ (by omega) (fuel_of (by omega))
      · simpa using this
      · rintro c ⟨z, n⟩ i x q ⟨hn, hz⟩ hdr hi hx hk
        simp only at hn hz
        subst hn
        simp only [route_Resources_b3]
        rw [if_pos (by simp; omega), hx, Option.bind_some]
        cases x with
        | true =>
          have h := hk (z ++ [(n : Int)], n + 1) ⟨rfl, by simp; omega⟩
          simp only at h
          rw [if_pos rfl, chk_true (by simp; omega)]
          simp only [route_Resources_k5]
          rw [h]
          simp [idxs]
        | false =>
          have h := hk (z, n + 1) ⟨rfl, by simp only; omega⟩
          simp only at h
          rw [if_neg (by simp)]
          simp only [route_Resources_k5]
          rw [h]
          simp [idxs]
      · rintro c ⟨z, n⟩ ⟨hn, hz⟩
        simp only [route_Resources_b3]
        rw [if_neg (by simp)]
        simp [route_Resources_k4, idxs]
    -- the second
    have k1 : ∀ S, route_Resources_k1 (pointsF l r) l (uOf (nRes l) S) () = some (idxs (uOf (nRes l) (S ++ (pointsF l r).1.flatMap (ptRes l))) 0, 0) := by
      intro S
      unfold route_Resources_k1
      have := iter_list (B := route_Resources_b2 (pointsF l r) l) (fun (S : List Int) i => (uOf (nRes l) S, i)) (pointsF l r).1 (fun _ _ => True) (fun S q => some (idxs (uOf (nRes l) (S ++ q.flatMap (ptRes l))) 0, 0)) ?_ ?_ FUEL S 0 trivial (by omega) (fuel_of (by omega))
      · simpa using this
      · intro c S i x q _ hdr hi hx hk
        have hm : x ∈ (pointsF l r).1 := List.mem_of_mem_drop (i := i) (by rw [hdr]; exact List.mem_cons_self)
        have hr := hp.2 x hm
        simp only [route_Resources_b2]
        rw [if_pos (by simp; omega), hx, Option.bind_some]
        by_cases hx0 : 0 ≤ x
        · have hlt : (l.Sections.length : Int) + x < nRes l := by unfold nRes; omega
          rw [if_pos (by simpa using hx0), chk_true (i64b_of (by omega) (by omega)), uOf_idx (by omega) hlt, Option.bind_some]
          simp only [route_Resources_k3]
          rw [uOf_set (by omega) hlt, hk _ trivial]
          simp [List.flatMap_cons, ptRes, hx0]
        · rw [if_neg (by simpa using hx0)]
          simp only [route_Resources_k3]
          rw [hk _ trivial]
          simp [List.flatMap_cons, ptRes, hx0]
      · intro c S _
        simp only [route_Resources_b2]
        rw [if_neg (by simp), k2]
        simp
    have := iter_list (B := route_Resources_b1 r (pointsF l r) l) (fun (S : List Int) i => (uOf (nRes l) S, i)) r.Steps (fun _ _ => True) (fun S q => some (idxs (uOf (nRes l) (S ++ q.map (·.Section) ++ (pointsF l r).1.flatMap (ptRes l))) 0, 0)) ?_ ?_ FUEL [] 0 trivial (by omega) (fuel_of (by omega))
    · simpa [usedL] using this
    · intro c S i x q _ hdr hi hx hk
      have hm : x ∈ r.Steps := List.mem_of_mem_drop (i := i) (by rw [hdr]; exact List.mem_cons_self)
      have hs := o.st x hm
      unfold isS at hs
      simp only [Bool.and_eq_true, decide_eq_true_eq] at hs
      have hlt : x.Section < nRes l := by unfold nRes; omega
      simp only [route_Resources_b1]
      rw [if_pos (by simp; omega), hx, Option.bind_some, uOf_idx hs.1.1 hlt, Option.bind_some, uOf_set hs.1.1 hlt, hk _ trivial]
      simp
    · intro c S _
      simp only [route_Resources_b1]
      rw [if_neg (by simp), k1]
      simp
  · rw [if_pos (by simp [h0]), if_pos h0]
end Go.Proofs.Ytnihhidbiepnhaa

namespace Go.Proofs.Ytnihhidbiepnhaa
open Go.Dc

def refU (l : Layout) : Option Step → List Step → List Int
  | _, [] => []
  | none, x :: q => x.Section :: refU l (some x) q
  | some p, x :: q => x.Section :: (ptRes l (joinF l p x).1.Point ++ refU l (some x) q)

theorem refU_mem {l : Layout} (v : Val l) : ∀ (ss : List Step) (p : Step) (q : List Int), isS l p = true → (∀ s ∈ ss, isS l s = true) → ptsF l p ss = some q → ∀ x, x ∈ refU l (some p) ss ↔ x ∈ ss.map (·.Section) ∨ x ∈ q.flatMap (ptRes l)
  | [], p, q, _, _, h, x => by cases h; simp [refU]
  | b :: ss, p, q, hp, hs, h, x => by
    unfold ptsF at h
    by_cases ht : (tr l p b).2 = true
    · rw [if_pos ht] at h
      cases hq : ptsF l b ss with
      | none => rw [hq] at h; cases h
      | some z =>
        rw [hq] at h
        cases h
        have hb := hs b List.mem_cons_self
        have ih := refU_mem v ss b z hb (fun s hm => hs s (List.mem_cons_of_mem _ hm)) hq x
        have hj : (joinF l p b).1.Point = (tr l p b).1 := by rw [join_tr v hp hb]
        unfold refU
        rw [hj, List.mem_cons, List.mem_append, ih]
        simp only [List.map_cons, List.mem_cons, List.flatMap_cons, List.mem_append]
        constructor
        · rintro (h | h | h | h)
          · exact .inl (.inl h)
          · exact .inr (.inl h)
          · exact .inl (.inr h)
          · exact .inr (.inr h)
        · rintro ((h | h) | (h | h))
          · exact .inl h
          · exact .inr (.inr (.inl h))
          · exact .inr (.inl h)
          · exact .inr (.inr (.inr h))
    · rw [if_neg ht] at h; cases h

theorem used_r {l : Layout} {r : Route} (o : ROk l r) : ref6_used_m l r = some (uOf (nRes l) (usedL l r)) := by
  have v := o.v
  have hf := v.full
  have hlen := o.len
  have hll : l.Links.length ≤ 1000 := by omega
  have hN : ((l.Sections.length : Int) + (l.Points.length : Int)).toNat = nRes l := by unfold nRes; omega
  unfold ref6_used_m
  rw [chk_true (i64b_of (by omega) (by omega)), mk_bool (by omega) (by omega), Option.bind_some, hN, uOf_nil]
  have := iter_list (B := ref6_used_b1 r l) (fun (s : List Int × Option Step) i => (uOf (nRes l) s.1, i)) r.Steps
    (fun s i => match s.2 with | none => i = 0 | some p => 1 ≤ i ∧ r.Steps[i - 1]? = some p ∧ isS l p = true ∧ ∃ z, ptsF l p (r.Steps.drop i) = some z)
    (fun s q => some (uOf (nRes l) (s.1 ++ refU l s.2 q))) ?_ ?_ FUEL ([], none) 0 rfl (by omega) (fuel_of (by omega))
  · simp only [List.drop_zero, List.nil_append] at this
    rw [this]
    congr 1
    refine uOf_congr fun x => ?_
    have hp := o.pts
    have hst := o.st
    unfold usedL
    generalize (pointsF l r).1 = q at hp ⊢
    cases hs : r.Steps with
    | nil =>
      rw [hs] at hp
      unfold ptsL at hp
      have := Option.some.inj hp
      subst this
      simp [refU]
    | cons a t =>
      rw [hs] at hp hst
      unfold ptsL at hp
      unfold refU
      rw [List.mem_cons, refU_mem v t a q (hst a List.mem_cons_self) (fun s hm => hst s (List.mem_cons_of_mem _ hm)) hp x]
      simp only [List.map_cons, List.cons_append, List.mem_cons, List.mem_append]
  · rintro c ⟨S, pv⟩ i x q hI hdr hi hx hk
    have hm : x ∈ r.Steps := List.mem_of_mem_drop (i := i) (by rw [hdr]; exact List.mem_cons_self)
    have hxs := o.st x hm
    have hs := hxs
    unfold isS at hs
    simp only [Bool.and_eq_true, decide_eq_true_eq] at hs
    have hlt : x.Section < nRes l := by unfold nRes; omega
    simp only [ref6_used_b1]
    rw [if_pos (by simp; omega), hx, Option.bind_some, uOf_idx hs.1.1 hlt, Option.bind_some]
    have hd1 : r.Steps.drop (i + 1) = q := by
      have := congrArg List.tail hdr
      rw [List.tail_drop] at this
      simpa using this
    cases pv with
    | none =>
      simp only at hI
      subst hI
      rw [if_neg (by simp)]
      simp only [ref6_used_k2]
      have hz : ∃ z, ptsF l x (r.Steps.drop (0 + 1)) = some z := by
        have hp := o.pts
        rw [List.drop_zero] at hdr
        rw [hdr] at hp
        rw [hd1]
        exact ⟨_, hp⟩
      have h := hk (S ++ [x.Section], some x) ⟨by omega, by rw [idx_nat] at hx; simpa using hx, hxs, hz⟩
      simp only at h
      rw [chk_true (i64b_of (by omega) (by omega)), uOf_set hs.1.1 hlt, h]
      simp [refU]
    | some p =>
      obtain ⟨h1, hp, hps, z, hz⟩ := hI
      have hp' : idx r.Steps ((i : Int) - 1) = some p := by
        rw [show (i : Int) - 1 = ((i - 1 : Nat) : Int) by omega, idx_nat]; exact hp
      rw [if_pos (by simp; omega), chk_true (i64b_of (by omega) (by omega)), hp', Option.bind_some, Option.bind_some, joined_r l p x hll, Option.bind_some]
      rw [hdr] at hz
      unfold ptsF at hz
      have ht : (tr l p x).2 = true := by
        by_cases ht : (tr l p x).2 = true
        · exact ht
        · rw [if_neg ht] at hz; cases hz
      rw [if_pos ht] at hz
      have hz2 : ∃ z, ptsF l x (r.Steps.drop (i + 1)) = some z := by
        rw [hd1]
        cases hq : ptsF l x q with
        | none => rw [hq] at hz; cases hz
        | some z => exact ⟨z, rfl⟩
      have hj : (joinF l p x).1.Point = (tr l p x).1 := by rw [join_tr v hps hxs]
      have hr := tr_range v p x ht
      rw [← hj] at hr
      have hn : r.Steps[i + 1 - 1]? = some x := by rw [Nat.add_sub_cancel]; rw [idx_nat] at hx; exact hx
      simp only [ref6_used_k3, ref6_used_k2]
      by_cases h0 : 0 ≤ (joinF l p x).1.Point
      · have hlt2 : (l.Sections.length : Int) + (joinF l p x).1.Point < nRes l := by unfold nRes; omega
        have h := hk (S ++ [x.Section] ++ [(l.Sections.length : Int) + (joinF l p x).1.Point], some x) ⟨by omega, hn, hxs, hz2⟩
        simp only at h
        rw [if_pos (by simpa using h0), chk_true (i64b_of (by omega) (by omega)), uOf_set hs.1.1 hlt, uOf_idx (by omega) hlt2, Option.bind_some, uOf_set (by omega) hlt2, chk_true (i64b_of (by omega) (by omega)), h]
        simp [refU, ptRes, h0]
      · have h := hk (S ++ [x.Section], some x) ⟨by omega, hn, hxs, hz2⟩
        simp only at h
        rw [if_neg (by simpa using h0), uOf_set hs.1.1 hlt, chk_true (i64b_of (by omega) (by omega)), h]
        simp [refU, ptRes, h0]
  · rintro c ⟨S, pv⟩ _
    simp only [ref6_used_b1]
    rw [if_neg (by simp)]
    simp [ref6_used_k1, refU]

theorem refres_m (l : Layout) (r : Route) : ref6_Resources_m l r = some (resR l r) := by
  unfold ref6_Resources_m resR
  rw [checkRoute_r, Option.bind_some]
  by_cases h0 : (pointsF l r).2 = 0
  · have o := rok_of h0
    have hf := o.v.full
    rw [if_neg (by simp [h0]), if_neg (by simp [h0]), used_r o, Option.bind_some]
    have hul := uOf_len (nRes l) (usedL l r)
    generalize uOf (nRes l) (usedL l r) = u at hul
    have hnr : nRes l ≤ 144 := by unfold nRes; omega
    have := iter_list (B := ref6_Resources_b1 u) (fun (z : List Int × Nat) i => (z.1, i)) u (fun z i => z.2 = i ∧ z.1.length ≤ i) (fun z q => some (z.1 ++ idxs q z.2, 0)) ?_ ?_ FUEL ([], 0) 0 ⟨rfl, by simp⟩ (by omega) (fuel_of (by omega))
    · simpa using this
    · rintro c ⟨z, n⟩ i x q ⟨hn, hz⟩ hdr hi hx hk
      simp only at hn hz
      subst hn
      simp only [ref6_Resources_b1]
      rw [if_pos (by simp; omega), hx, Option.bind_some]
      cases x with
      | true =>
        have h := hk (z ++ [(n : Int)], n + 1) ⟨rfl, by simp; omega⟩
        simp only at h
        rw [if_pos rfl, chk_true (by simp; omega)]
        simp only [ref6_Resources_k2]
        rw [chk_true (i64b_of (by omega) (by omega)), h]
        simp [idxs]
      | false =>
        have h := hk (z, n + 1) ⟨rfl, by simp only; omega⟩
        simp only at h
        rw [if_neg (by simp)]
        simp only [ref6_Resources_k2]
        rw [chk_true (i64b_of (by omega) (by omega)), h]
        simp [idxs]
    · rintro c ⟨z, n⟩ ⟨hn, hz⟩
      simp only [ref6_Resources_b1]
      rw [if_neg (by simp)]
      simp [ref6_Resources_k1, idxs]
  · rw [if_pos (by simp [h0]), if_pos h0]
end Go.Proofs.Ytnihhidbiepnhaa

namespace Go.Proofs.Ytnihhidbiepnhaa
open Go.Dc

theorem index_wp (s : List Int) (v : Int) (hl : s.length ≤ 1000) : WP (slices_Index_int_int_m s v) (fun y => 0 ≤ y ↔ v ∈ s) := by
  unfold slices_Index_int_int_m
  refine wp_iter (fun (t : Nat) => t ≤ s.length ∧ ∀ j : Nat, j < t → s[j]? ≠ some v) (fun t => s.length - t) _ ?_ FUEL _ ⟨by omega, fun j h => by omega⟩ (fuel_of (by omega))
  rintro c t ⟨ht, hA⟩ hc
  simp only [slices_Index_int_int_b1]
  refine wp_ite (fun h => ?_) (fun h => ?_)
  · simp only [decide_eq_true_eq] at h
    have hlt : t < s.length := by omega
    rw [idx_nat, List.getElem?_eq_getElem hlt, Option.bind_some]
    refine wp_ite (fun hb => ?_) (fun hb => ?_)
    · simp only [decide_eq_true_eq] at hb
      exact wp_some ⟨fun _ => by rw [hb]; exact List.getElem_mem hlt, fun _ => by omega⟩
    · simp only [decide_eq_false_iff_not] at hb
      refine hc _ ⟨by omega, fun j hj => ?_⟩ (by omega)
      by_cases e : j = t
      · rw [e, List.getElem?_eq_getElem hlt]; simp; exact fun h => hb h.symm
      · exact hA j (by omega)
  · simp only [decide_eq_false_iff_not] at h
    refine wp_some ⟨fun h => by omega, fun hm => ?_⟩
    obtain ⟨j, hj, e⟩ := List.mem_iff_getElem.1 hm
    exact absurd (show s[j]? = some v by rw [List.getElem?_eq_getElem hj, e]) (hA j (by omega))

theorem contains_m (s : List Int) (v : Int) (hl : s.length ≤ 1000) : slices_Contains_int_int_m s v = some (decide (v ∈ s)) := by
  unfold slices_Contains_int_int_m
  obtain ⟨y, e, h⟩ := index_wp s v hl
  rw [e, Option.bind_some, decide_eq_decide.2 h]

theorem cfunc_m (s f : List Int) (hs : s.length ≤ 1000) (hf : f.length ≤ 1000) : slices_ContainsFunc_int_int_m s f = some (decide (∃ x ∈ s, x ∈ f)) := by
  unfold slices_ContainsFunc_int_int_m slices_IndexFunc_int_int_m
  have k : WP (iter (slices_IndexFunc_int_int_b1 s f) FUEL 0) (fun y => 0 ≤ y ↔ ∃ x ∈ s, x ∈ f) := by
    refine wp_iter (fun (t : Nat) => t ≤ s.length ∧ ∀ (j : Nat) x, j < t → s[j]? = some x → ¬ x ∈ f) (fun t => s.length - t) _ ?_ FUEL _ ⟨by omega, fun j x h => by omega⟩ (fuel_of (by omega))
    rintro c t ⟨ht, hA⟩ hc
    simp only [slices_IndexFunc_int_int_b1]
    refine wp_ite (fun h => ?_) (fun h => ?_)
    · simp only [decide_eq_true_eq] at h
      have hlt : t < s.length := by omega
      rw [idx_nat, List.getElem?_eq_getElem hlt, Option.bind_some]
      unfold route_Clashes_c1_m
      rw [contains_m f _ hf, Option.bind_some, Option.bind_some]
      refine wp_ite (fun hb => ?_) (fun hb => ?_)
      · simp only [decide_eq_true_eq] at hb
        exact wp_some ⟨fun _ => ⟨_, List.getElem_mem hlt, hb⟩, fun _ => by omega⟩
      · simp only [decide_eq_false_iff_not] at hb
        refine hc _ ⟨by omega, fun j x hj hx => ?_⟩ (by omega)
        by_cases e : j = t
        · subst e
          rw [List.getElem?_eq_getElem hlt] at hx
          rw [← Option.some.inj hx]; exact hb
        · exact hA j x (by omega) hx
    · simp only [decide_eq_false_iff_not] at h
      refine wp_some ⟨fun h => by omega, ?_⟩
      rintro ⟨x, hm, hx⟩
      obtain ⟨j, hj, e⟩ := List.mem_iff_getElem.1 hm
      exact absurd hx (hA j x (by omega) (by rw [List.getElem?_eq_getElem hj, e]))
  obtain ⟨y, e, h⟩ := k
  rw [e, Option.bind_some, decide_eq_decide.2 h]

def clashR (l : Layout) (a b : Route) : Bool × Int :=
  if (pointsF l a).2 ≠ 0 then (false, (pointsF l a).2) else if (pointsF l b).2 ≠ 0 then (false, (pointsF l b).2) else
  (decide (∃ x ∈ idxs (uOf (nRes l) (usedL l a)) 0, x ∈ idxs (uOf (nRes l) (usedL l b)) 0), 0)

theorem res_len {l : Layout} (v : Val l) (S : List Int) : (idxs (uOf (nRes l) S) 0).length ≤ 1000 := by
  have := idxs_len (uOf (nRes l) S) 0
  rw [uOf_len] at this
  have := v.full
  unfold nRes at *
  omega

theorem clash_m (l : Layout) (a b : Route) : route_Clashes_m l a b = some (clashR l a b) := by
  unfold route_Clashes_m clashR
  rw [res_m, Option.bind_some]
  by_cases ha : (pointsF l a).2 = 0
  · have ea : resR l a = (idxs (uOf (nRes l) (usedL l a)) 0, 0) := by unfold resR; rw [if_neg (by simp [ha])]
    have v := (rok_of ha).v
    rw [ea, if_neg (by simp), if_neg (by simp [ha]), res_m, Option.bind_some]
    by_cases hb : (pointsF l b).2 = 0
    · have eb : resR l b = (idxs (uOf (nRes l) (usedL l b)) 0, 0) := by unfold resR; rw [if_neg (by simp [hb])]
      rw [eb, if_neg (by simp), if_neg (by simp [hb]), cfunc_m _ _ (res_len v _) (res_len v _), Option.bind_some]
    · have eb : resR l b = ([], (pointsF l b).2) := by unfold resR; rw [if_pos hb]
      rw [eb, if_pos (by simp [hb]), if_pos hb]
  · have ea : resR l a = ([], (pointsF l a).2) := by unfold resR; rw [if_pos ha]
    rw [ea, if_pos (by simp [ha]), if_pos ha]

theorem refclash_m (l : Layout) (a b : Route) : ref6_Clashes_m l a b = some (clashR l a b) := by
  unfold ref6_Clashes_m clashR
  rw [checkRoute_r, Option.bind_some]
  by_cases ha : (pointsF l a).2 = 0
  · rw [if_neg (by simp [ha]), if_neg (by simp [ha]), checkRoute_r, Option.bind_some]
    by_cases hb : (pointsF l b).2 = 0
    · have oa := rok_of ha
      have ob := rok_of hb
      have hf := oa.v.full
      have hnr : nRes l ≤ 144 := by unfold nRes; omega
      rw [if_neg (by simp [hb]), if_neg (by simp [hb]), used_r oa, Option.bind_some, used_r ob, Option.bind_some]
      have k : WP (iter (ref6_Clashes_b1 (uOf (nRes l) (usedL l a)) (uOf (nRes l) (usedL l b))) FUEL 0) (fun y => y.2 = 0 ∧ (y.1 = true ↔ ∃ x ∈ idxs (uOf (nRes l) (usedL l a)) 0, x ∈ idxs (uOf (nRes l) (usedL l b)) 0)) := by
        refine wp_iter (fun (t : Nat) => t ≤ nRes l ∧ ∀ j : Nat, j < t → ¬ ((j : Int) ∈ usedL l a ∧ (j : Int) ∈ usedL l b)) (fun t => nRes l - t) _ ?_ FUEL _ ⟨by omega, fun j h => by omega⟩ (fuel_of (by omega))
        rintro c t ⟨ht, hA⟩ hc
        simp only [ref6_Clashes_b1, uOf_len]
        refine wp_ite (fun h => ?_) (fun h => ?_)
        · simp only [decide_eq_true_eq] at h
          have h' : (t : Int) < nRes l := h
          rw [uOf_idx (by omega) h', Option.bind_some, uOf_idx (by omega) h', whn_v, Option.bind_some]
          refine wp_ite (fun hb => ?_) (fun hb => ?_)
          · have hb' : (t : Int) ∈ usedL l a ∧ (t : Int) ∈ usedL l b := by
              by_cases e : (t : Int) ∈ usedL l a
              · simp [e] at hb; exact ⟨e, hb⟩
              · simp [e] at hb
            exact wp_some ⟨rfl, fun _ => ⟨t, idxs_uOf.2 ⟨by omega, h', hb'.1⟩, idxs_uOf.2 ⟨by omega, h', hb'.2⟩⟩, fun _ => rfl⟩
          · refine wp_i64 (by omega) (hc _ ⟨by omega, fun j hj => ?_⟩ (by omega))
            by_cases e : j = t
            · subst e
              rintro ⟨h1, h2⟩
              simp [h1, h2] at hb
            · exact hA j (by omega)
        · simp only [decide_eq_false_iff_not] at h
          refine wp_some ⟨rfl, (fun h => by cases h), ?_⟩
          rintro ⟨x, h1, h2⟩
          have a1 := idxs_uOf.1 h1
          have a2 := idxs_uOf.1 h2
          refine absurd ⟨?_, ?_⟩ (hA x.toNat (by omega))
          · rw [Int.toNat_of_nonneg a1.1]; exact a1.2.2
          · rw [Int.toNat_of_nonneg a1.1]; exact a2.2.2
      obtain ⟨⟨y, z⟩, e, h1, h2⟩ := k
      simp only at h1 h2
      subst h1
      rw [e]
      congr 2
      rw [Bool.eq_iff_iff, h2, decide_eq_true_eq]
    · rw [if_pos (by simp [hb]), if_pos hb]
  · rw [if_pos (by simp [ha]), if_pos ha]

theorem sameC_m (a : List Cell) (h : a.length ≤ 140737488355328) : keep_Same_api_Cell_m a a = some true := by
  unfold keep_Same_api_Cell_m
  rw [if_neg (by simp)]
  have := iter_list (B := keep_Same_api_Cell_b1 a a) (fun (_ : Unit) i => i) a (fun _ _ => True) (fun _ _ => some true) ?_ ?_ FUEL () 0 trivial (by omega) (fuel_of (by omega))
  · exact this
  · intro c _ i x q _ hdr hi hx hk
    simp only [keep_Same_api_Cell_b1]
    rw [if_pos (by simp; omega), hx, Option.bind_some, Option.bind_some, if_neg (by simp), hk () trivial]
  · intro c _ _
    simp only [keep_Same_api_Cell_b1]
    rw [if_neg (by simp)]
    rfl
theorem sameI_m (a : List Int) (h : a.length ≤ 140737488355328) : keep_Same_int_m a a = some true := by
  unfold keep_Same_int_m
  rw [if_neg (by simp)]
  have := iter_list (B := keep_Same_int_b1 a a) (fun (_ : Unit) i => i) a (fun _ _ => True) (fun _ _ => some true) ?_ ?_ FUEL () 0 trivial (by omega) (fuel_of (by omega))
  · exact this
  · intro c _ i x q _ hdr hi hx hk
    simp only [keep_Same_int_b1]
    rw [if_pos (by simp; omega), hx, Option.bind_some, Option.bind_some, if_neg (by simp), hk () trivial]
  · intro c _ _
    simp only [keep_Same_int_b1]
    rw [if_neg (by simp)]
    rfl

theorem cellsR_len (l : Layout) (r : Route) : (cellsR l r).1.length ≤ 4000 := by
  unfold cellsR cellsE
  split
  · simp
  · split
    · simp
    · rename_i h; simp only; omega
theorem resR_len (l : Layout) (r : Route) : (resR l r).1.length ≤ 1000 := by
  unfold resR
  by_cases h : (pointsF l r).2 ≠ 0
  · rw [if_pos h]; simp
  · rw [if_neg h]; exact res_len (rok_of (by simpa using h)).v _

theorem lawCells_m (l : Layout) (r : Route) : law7_cells_m l r = some true := by
  unfold law7_cells_m
  have := cellsR_len l r
  rw [rcells_m, Option.bind_some, refcells_m, Option.bind_some, rcheck_m, Option.bind_some, checkRoute_r, Option.bind_some, whn_t (by simp), sameC_m _ (by omega), Option.bind_some]
  simp
theorem lawRes_m (l : Layout) (r s : Route) : law7_resources_m l r s = some true := by
  unfold law7_resources_m
  have := resR_len l r
  rw [res_m, Option.bind_some, refres_m, Option.bind_some, clash_m, Option.bind_some, refclash_m, Option.bind_some, sameI_m _ (by omega), Option.bind_some]
  simp
end Go.Proofs.Ytnihhidbiepnhaa
