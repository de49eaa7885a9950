/- Cells of a route: the program's and the reference's. Resources and clashes of routes: the program's and the reference's. Resources and clashes of routes: the reference's; comparisons. Clashes of routes; equal lists; what the laws of routes compare. -/
import Derived.Test.YtnihhidbiepnhaaTa
import Derived.Test.YtnihhidbiepnhaaRe
import Derived.Test.YtnihhidbiepnhaaRq
import Derived.Test.YtnihhidbiepnhaaRr
import Derived.Test.YtnihhidbiepnhaaRs
namespace Go.Proofs.Ytnihhidbiepnhaa
open Go.Dc
set_option maxRecDepth 100000

theorem mul_1 : ∀ k : Fin 401, bits_Mul_m (IntKind.u64.wrap ((1 : Nat) : Int)) (IntKind.u64.wrap ((k.val : Nat) : Int)) = some (0, ((k.val : Nat) : Int)) := by decide +kernel
theorem wrap_small : ∀ k : Fin 401, IntKind.i64.wrap ((k.val : Nat) : Int) = ((k.val : Nat) : Int) := by decide +kernel

theorem mk_cell {p : Int} {x : Cell} (h0 : 0 ≤ p) (h : p ≤ 1000000) : mk (α := Cell) x p = some (List.replicate p.toNat x) := by
  unfold mk
  rw [if_pos]
  refine ⟨h0, ?_⟩
  show p * 16 ≤ _
  omega

theorem repeat_m (c : Cell) (k : Nat) (h1 : 1 ≤ k) (h2 : k ≤ 400) : slices_Repeat_api_Cell_api_Cell_m [c] (k : Int) = some (List.replicate k c) := by
  unfold slices_Repeat_api_Cell_api_Cell_m
  rw [if_neg (by simp)]
  unfold slices_Repeat_api_Cell_api_Cell_k1
  have hm := mul_1 ⟨k, by omega⟩
  simp only at hm
  rw [show (([c] : List Cell).length : Int) = ((1 : Nat) : Int) from rfl, hm, Option.bind_some, if_neg (by simp; omega)]
  unfold slices_Repeat_api_Cell_api_Cell_k2
  have hw := wrap_small ⟨k, by omega⟩
  simp only at hw
  rw [show ((0 : Int), (k : Int)).2 = (k : Int) from rfl, hw, mk_cell (by omega) (by omega), Option.bind_some]
  simp only [Int.toNat_natCast, List.length_replicate]
  have hc0 : cpyM (List.replicate k (Cell.mk 0 0)) 0 k [c] = some (List.replicate 1 c ++ List.replicate (k - 1) (Cell.mk 0 0)) := by
    unfold cpyM cpy
    rw [if_pos (by simp)]
    obtain ⟨j, rfl⟩ : ∃ j, k = j + 1 := ⟨k - 1, by omega⟩
    simp [List.replicate_succ]
  rw [hc0, Option.bind_some]
  have hmin : Nat.min ([c] : List Cell).length k = 1 := by show Nat.min 1 k = 1; exact Nat.min_eq_left h1
  rw [hmin]
  have key : WP (iter slices_Repeat_api_Cell_api_Cell_b1 FUEL (List.replicate 1 c ++ List.replicate (k - 1) (Cell.mk 0 0), ((1 : Nat) : Int))) (fun y => y = List.replicate k c) := by
    refine wp_iter (fun (q : List Cell × Int) => ∃ n : Nat, q.2 = n ∧ 1 ≤ n ∧ n ≤ k ∧ q.1 = List.replicate n c ++ List.replicate (k - n) (Cell.mk 0 0)) (fun q => k - q.2.toNat) _ ?_ FUEL _ ⟨1, rfl, by omega, h1, rfl⟩ (fuel_of (by simp only; omega))
    rintro ct ⟨q, n'⟩ ⟨n, hn, n1, nk, hq⟩ hct
    simp only at hn hq hct
    subst hn hq
    have hlen : (List.replicate n c ++ List.replicate (k - n) (Cell.mk 0 0)).length = k := by simp; omega
    simp only [slices_Repeat_api_Cell_api_Cell_b1]
    rw [hlen]
    refine wp_ite (fun h => ?_) (fun h => ?_)
    · simp only [decide_eq_true_eq] at h
      have s1 : sub (List.replicate n c ++ List.replicate (k - n) (Cell.mk 0 0)) (n : Int) (k : Int) = some (List.replicate (k - n) (Cell.mk 0 0)) := by
        unfold sub
        rw [if_pos (by rw [hlen]; omega)]
        congr 1
        rw [Int.toNat_natCast, Int.toNat_natCast, List.take_of_length_le (by rw [hlen]; omega)]
        rw [List.drop_append_of_le_length (by simp)]
        simp
      have s2 : sub (List.replicate n c ++ List.replicate (k - n) (Cell.mk 0 0)) 0 (n : Int) = some (List.replicate n c) := by
        unfold sub
        rw [if_pos (by rw [hlen]; omega)]
        congr 1
        rw [Int.toNat_natCast, List.take_append_of_le_length (by simp)]
        simp
      rw [s1, Option.bind_some, s2, Option.bind_some]
      simp only [List.length_replicate, Int.toNat_natCast]
      have hM : ∃ m, Nat.min n (k - n) = m ∧ 1 ≤ m ∧ n + m ≤ k := ⟨Nat.min n (k - n), rfl, by
        have h1 : 1 ≤ k - n := by omega
        exact Nat.le_min.2 ⟨n1, h1⟩, by
        have := Nat.min_le_right n (k - n)
        have h1 : Nat.min n (k - n) ≤ k - n := this
        omega⟩
      obtain ⟨m, hm, m1, m2⟩ := hM
      have hcp : cpyM (List.replicate n c ++ List.replicate (k - n) (Cell.mk 0 0)) n (k - n) (List.replicate n c) = some (List.replicate (n + m) c ++ List.replicate (k - (n + m)) (Cell.mk 0 0)) := by
        unfold cpyM cpy
        rw [if_pos (by rw [hlen]; omega), List.take_replicate, show min (k - n) n = m by rw [Nat.min_comm]; exact hm]
        congr 1
        rw [List.take_append_of_le_length (by simp), List.take_of_length_le (by simp), List.length_replicate, List.drop_append, List.length_replicate]
        rw [List.drop_of_length_le (by simp), List.nil_append, show n + m - n = m by omega, List.drop_replicate, List.replicate_append_replicate]
        congr 2
        omega
      rw [hcp, Option.bind_some, hm]
      refine wp_i64 (by omega) (hct _ ⟨n + m, by simp, by omega, m2, rfl⟩ (by simp only; omega))
    · simp only [decide_eq_false_iff_not] at h
      have : n = k := by omega
      subst this
      exact wp_some (by simp)
  obtain ⟨y, e, rfl⟩ := key
  exact e

def secAt (l : Layout) (s : Step) : Section := l.Sections.getD s.Section.toNat default
def cellOf (l : Layout) (s : Step) : Cell := ⟨(secAt l s).Limit, if s.Dir = 1 then -(secAt l s).Grade else (secAt l s).Grade⟩
def cellsF (l : Layout) (ss : List Step) : List Cell := ss.flatMap fun s => List.replicate (secAt l s).Length.toNat (cellOf l s)
def cellsE (l : Layout) (r : Route) (cs : List Cell) : List Cell × Int × Int :=
  if 4000 < cs.length then ([], 0, 7) else (cs, (secAt l (r.Steps.getD 0 default)).Length, 0)
def cellsR (l : Layout) (r : Route) : List Cell × Int × Int :=
  if (pointsF l r).2 ≠ 0 then ([], 0, (pointsF l r).2) else cellsE l r (cellsF l (r.Steps.take ((r.Steps.length : Int) - r.Overlap).toNat))

structure ROk (l : Layout) (r : Route) : Prop where
  ck : checkL (layOf l) = 0
  v : Val l
  len : r.Steps.length ≤ 24
  ov : 0 ≤ r.Overlap ∧ r.Overlap ≤ 2
  two : 2 ≤ (r.Steps.length : Int) - r.Overlap
  st : ∀ s ∈ r.Steps, isS l s = true
  dup : dupAt [] r.Steps = false
  pts : ptsL l r.Steps = some (pointsF l r).1

theorem rok_of {l : Layout} {r : Route} (h : (pointsF l r).2 = 0) : ROk l r := by
  by_cases hc : checkL (layOf l) = 0
  · by_cases h24 : 24 < r.Steps.length ∨ 2 < r.Overlap
    · have e : pointsF l r = ([], 7) := by unfold pointsF; rw [if_neg (by simp [hc]), if_pos h24]
      rw [e] at h; cases h
    · by_cases h2 : r.Overlap < 0 ∨ (r.Steps.length : Int) - r.Overlap < 2
      · have e : pointsF l r = ([], 4) := by unfold pointsF; rw [if_neg (by simp [hc]), if_neg h24, if_pos h2]
        rw [e] at h; cases h
      · by_cases ha : r.Steps.all (isS l) = false
        · have e : pointsF l r = ([], 4) := by unfold pointsF; rw [if_neg (by simp [hc]), if_neg h24, if_neg h2, if_pos ha]
          rw [e] at h; cases h
        · by_cases hd : dupAt [] r.Steps = true
          · have e : pointsF l r = ([], 5) := by unfold pointsF; rw [if_neg (by simp [hc]), if_neg h24, if_neg h2, if_neg ha, if_pos hd]
            rw [e] at h; cases h
          · have e : pointsF l r = ptsE l r := by unfold pointsF; rw [if_neg (by simp [hc]), if_neg h24, if_neg h2, if_neg ha, if_neg hd]
            refine ⟨hc, val_of hc, by omega, by omega, by omega, fun s hm => List.all_eq_true.1 (by simpa using ha) s hm, by simpa using hd, ?_⟩
            rw [e] at h ⊢
            unfold ptsE at h ⊢
            cases hp : ptsL l r.Steps with
            | none => rw [hp] at h; cases h
            | some q => rfl
  · have e : pointsF l r = ([], 1) := by unfold pointsF; rw [if_pos hc]
    rw [e] at h; cases h

theorem secAt_ok {l : Layout} (v : Val l) {s : Step} (h : isS l s = true) : idx l.Sections s.Section = some (secAt l s) ∧ 1 ≤ (secAt l s).Length ∧ (secAt l s).Length ≤ 400 ∧ -40 ≤ (secAt l s).Grade ∧ (secAt l s).Grade ≤ 40 := by
  unfold isS at h
  simp only [Bool.and_eq_true, decide_eq_true_eq] at h
  have hlt : s.Section.toNat < l.Sections.length := by omega
  have hm : secAt l s ∈ l.Sections := by unfold secAt; simp [hlt]
  have := v.secs _ hm
  exact ⟨idx_of_lt h.1.1 h.1.2, this.1, this.2.1, this.2.2.2.2.1, this.2.2.2.2.2⟩

theorem rcells_m (l : Layout) (r : Route) : route_Cells_m l r = some (cellsR l r) := by
  unfold route_Cells_m cellsR
  rw [rcheck_m, Option.bind_some]
  by_cases h0 : (pointsF l r).2 = 0
  · have o := rok_of h0
    have v := o.v
    rw [if_neg (by simp [h0]), if_neg (by simp [h0])]
    have := o.len; have := o.ov; have := o.two
    have hs : sub r.Steps 0 ((r.Steps.length : Int) - r.Overlap) = some (r.Steps.take ((r.Steps.length : Int) - r.Overlap).toNat) := by
      unfold sub
      rw [if_pos (by omega)]
      simp
    rw [chk_true (i64b_of (by omega) (by omega)), hs, Option.bind_some]
    generalize hT : r.Steps.take ((r.Steps.length : Int) - r.Overlap).toNat = T
    have hTl : T.length ≤ 24 := by rw [← hT, List.length_take]; omega
    have hTm : ∀ s ∈ T, isS l s = true := fun s hm => o.st s (List.mem_of_mem_take (by rw [← hT] at hm; exact hm))
    have := iter_list (B := route_Cells_b1 T l r) (fun (s : List Cell) i => (s, i)) T (fun s i => s.length ≤ 400 * i) (fun s q => some (cellsE l r (s ++ cellsF l q))) ?_ ?_ FUEL [] 0 (by simp) (by omega) (fuel_of (by omega))
    · simpa using this
    · intro c s i x q hI hdr hi hx hk
      have hm : x ∈ T := List.mem_of_mem_drop (i := i) (by rw [hdr]; exact List.mem_cons_self)
      obtain ⟨hsx, s1, s2, s3, s4⟩ := secAt_ok v (hTm x hm)
      simp only [route_Cells_b1]
      rw [if_pos (by simp; omega), hx, Option.bind_some, hsx, Option.bind_some]
      have hrep : ∀ g : Int, route_Cells_k2 (secAt l x) s c i g = c (s ++ List.replicate (secAt l x).Length.toNat (Cell.mk (secAt l x).Limit g), i + 1) := by
        intro g
        unfold route_Cells_k2
        have := repeat_m (Cell.mk (secAt l x).Limit g) (secAt l x).Length.toNat (by omega) (by omega)
        rw [Int.toNat_of_nonneg (by omega)] at this
        rw [this, Option.bind_some, chk_true (by simp; omega)]
      have hgo : (if decide (x.Dir = 1) = true then chk (i64b (-(secAt l x).Grade)) (route_Cells_k2 (secAt l x) s c i (-(secAt l x).Grade)) else route_Cells_k2 (secAt l x) s c i (secAt l x).Grade) = c (s ++ List.replicate (secAt l x).Length.toNat (cellOf l x), i + 1) := by
        unfold cellOf
        by_cases hd : x.Dir = 1
        · rw [if_pos (by simpa using hd), if_pos hd, chk_true (i64b_of (by omega) (by omega)), hrep]
        · rw [if_neg (by simpa using hd), if_neg hd, hrep]
      rw [hgo, hk _ (by simp; omega)]
      simp [cellsF, List.flatMap_cons]
    · intro c s hI
      simp only [route_Cells_b1]
      rw [if_neg (by simp)]
      unfold route_Cells_k1 cellsE
      simp only [cellsF, List.flatMap_nil, List.append_nil]
      by_cases hb : 4000 < s.length
      · rw [if_pos (by simp; omega), if_pos hb]
      · rw [if_neg (by simp; omega), if_neg hb]
        have h00 : 0 < r.Steps.length := by omega
        have hi0 : idx r.Steps 0 = some (r.Steps.getD 0 default) := idx_of_lt (by omega) (by omega)
        have hm0 : r.Steps.getD 0 default ∈ r.Steps := by simp [h00]
        rw [hi0, Option.bind_some, (secAt_ok v (o.st _ hm0)).1, Option.bind_some]
  · rw [if_pos (by simp [h0]), if_pos h0]

end Go.Proofs.Ytnihhidbiepnhaa

namespace Go.Proofs.Ytnihhidbiepnhaa
open Go.Dc

end Go.Proofs.Ytnihhidbiepnhaa

namespace Go.Proofs.Ytnihhidbiepnhaa
open Go.Dc

end Go.Proofs.Ytnihhidbiepnhaa

namespace Go.Proofs.Ytnihhidbiepnhaa
open Go.Dc

end Go.Proofs.Ytnihhidbiepnhaa
