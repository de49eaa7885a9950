/- RouteCellsAdd, the plain law. -/
import Derived.Test.YtnihhidbiepnhaaGb
import Derived.Test.YtnihhidbiepnhaaGc
import Derived.Test.YtnihhidbiepnhaaRg
import Derived.Test.YtnihhidbiepnhaaOpens
import Derived.Test.YtnihhidbiepnhaaWRouteCellsAdd
namespace Go.Proofs.Ytnihhidbiepnhaa
open Go.Dc

theorem cells_inner (sec : Section) (r : Route) (i : Nat) (y : List Cell × Int × Int) (c1 : Int × Nat → Option Bool) (s : Step) (hs : r.Steps[i]? = some s) (hi : i ≤ 1000) (at0 : Nat) (n : Nat) (hn : sec.Length = (n : Int)) (hn2 : n ≤ 400) (hat : at0 ≤ 100000) (hg : -40 ≤ sec.Grade ∧ sec.Grade ≤ 40)
    (pre post : List Cell) (hy : y.1 = pre ++ List.replicate n ⟨sec.Limit, if s.Dir = 1 then -sec.Grade else sec.Grade⟩ ++ post) (hp : pre.length = at0) :
    iter (law7_RouteCellsAdd_b2 sec r i y c1) FUEL ((at0 : Int), 0) = c1 (((at0 + n : Nat) : Int), i + 1) := by
  have := iter_list (B := law7_RouteCellsAdd_b2 sec r i y c1) (fun (q : Nat) k => (((q : Nat) : Int), k)) (List.replicate n ()) (fun q k => q = at0 + k) (fun _ _ => c1 (((at0 + n : Nat) : Int), i + 1)) ?_ ?_ FUEL at0 0 (by omega) (by omega) (fuel_of (by simp; omega))
  · simpa using this
  · intro c q k a rr hq hdr hk hx hc
    subst hq
    have hk' : k < n := by simpa using hk
    have hget : y.1[at0 + k]? = some ⟨sec.Limit, if s.Dir = 1 then -sec.Grade else sec.Grade⟩ := by
      rw [hy, List.append_assoc, List.getElem?_append_right (by omega), hp, List.getElem?_append_left (by simp; omega)]
      simp [hk']
    have hlt : at0 + k < y.1.length := (List.getElem?_eq_some_iff.1 hget).1
    have hk3 : ∀ g : Int, g = (if s.Dir = 1 then -sec.Grade else sec.Grade) → law7_RouteCellsAdd_k3 y ((at0 + k : Nat) : Int) sec k c g = c1 (((at0 + n : Nat) : Int), i + 1) := by
      intro g hgg
      subst hgg
      unfold law7_RouteCellsAdd_k3
      rw [whn_t (by simp; omega), idx_nat, hget, Option.bind_some, if_neg (by simp; omega), chk_true (i64b_of (by omega) (by omega)), chk_true (i64b_of (by omega) (by omega))]
      exact hc (at0 + k + 1) (by omega)
    simp only [law7_RouteCellsAdd_b2]
    rw [if_pos (by simp; omega), idx_nat, hs, Option.bind_some]
    by_cases hd : s.Dir = 1
    · rw [if_pos (by simpa using hd), chk_true (i64b_of (by omega) (by omega))]
      exact hk3 _ (by simp [hd])
    · rw [if_neg (by simpa using hd)]
      exact hk3 _ (by simp [hd])
  · intro c q hq
    simp only [List.length_replicate] at hq ⊢
    subst hq
    simp only [law7_RouteCellsAdd_b2]
    rw [if_neg (by simp; omega)]
    unfold law7_RouteCellsAdd_k2
    rw [chk_true (i64b_of (by omega) (by omega))]

theorem cellsF_cons (l : Layout) (s : Step) (ss : List Step) : cellsF l (s :: ss) = List.replicate (secAt l s).Length.toNat (cellOf l s) ++ cellsF l ss := by simp [cellsF]
theorem cellsF_append (l : Layout) (a b : List Step) : cellsF l (a ++ b) = cellsF l a ++ cellsF l b := by simp [cellsF]
theorem cellsF_len {l : Layout} (v : Val l) (hr : RngA l.Sections) : ∀ ss : List Step, (∀ s ∈ ss, isS l s = true) → (cellsF l ss).length ≤ 12 * ss.length
  | [], _ => by simp [cellsF]
  | s :: ss, h => by
    have ih := cellsF_len v hr ss (fun x hx => h x (by simp [hx]))
    obtain ⟨e1, _⟩ := secAt_ok v (h s (by simp))
    have hm : secAt l s ∈ l.Sections := by
      obtain ⟨a, b, c⟩ := idx_some e1
      exact List.mem_of_getElem? c
    have := hr _ hm
    unfold Rng at this
    rw [cellsF_cons, List.length_append, List.length_replicate, List.length_cons]
    omega

theorem routeCellsAdd_plain (l c : List Int) (hl : Wf.wf l) (hc : Wf.wf c) : law7_RouteCellsAdd_m l c = some true := by
  unfold law7_RouteCellsAdd_m
  obtain ⟨x, ex, gx⟩ := layout_m l (by have : l.length * 8 ≤ 140737488351232 := hl.1; omega)
  have vx := gen_val gx
  have ck := gen_check gx
  obtain ⟨r, er, gr⟩ := route_wp vx c (by have : c.length * 8 ≤ 140737488351232 := hc.1; omega)
  have hlen := gr.len
  have hov := gr.ov
  rw [ex, Option.bind_some, er, Option.bind_some]
  by_cases h2 : r.Steps.length < 2
  · rw [if_pos (by simp; omega), awake7]; rfl
  · obtain ⟨q, hp, _⟩ := route_pts ck gr (by omega)
    have two := gr.two (by omega)
    have hst := gr.good.st
    rw [if_neg (by simp; omega), rcells_m, Option.bind_some]
    obtain ⟨m, hm⟩ : ∃ m : Nat, ((r.Steps.length : Int) - r.Overlap) = (m : Int) := ⟨((r.Steps.length : Int) - r.Overlap).toNat, by omega⟩
    obtain ⟨ts, hts⟩ : ∃ ts, ts = r.Steps.take m := ⟨_, rfl⟩
    have tl : ts.length = m := by rw [hts, List.length_take]; omega
    have hin : ∀ s ∈ ts, isS x s = true := fun s hs => hst s (List.mem_of_mem_take (hts ▸ hs))
    have hcl := cellsF_len vx gx.rng ts hin
    obtain ⟨s0, hs0⟩ : ∃ s0, r.Steps[0]? = some s0 := ⟨_, List.getElem?_eq_getElem (by omega)⟩
    have eR : cellsR x r = (cellsF x ts, (secAt x s0).Length, 0) := by
      unfold cellsR cellsE
      rw [if_neg (by simp [hp]), hm, Int.toNat_natCast, ← hts, if_neg (by omega)]
      rw [List.getD_eq_getElem?_getD, hs0]
      rfl
    rw [eR]
    have := iter_list (B := law7_RouteCellsAdd_b1 r x (cellsF x ts, (secAt x s0).Length, 0)) (fun (q : Nat) k => (((q : Nat) : Int), k)) ts (fun q k => q = (cellsF x (ts.take k)).length ∧ q ≤ 12 * k) (fun _ _ => some true) ?_ ?_ FUEL 0 0 ⟨by simp [cellsF], by omega⟩ (by omega) (fuel_of (by omega))
    · exact this
    · rintro k q i s rr ⟨hq, hq2⟩ hdr hi hx hk
      have hsm : s ∈ ts := by rw [idx_nat] at hx; exact List.mem_of_getElem? hx
      obtain ⟨e1, e2, e3, e4, e5⟩ := secAt_ok vx (hin s hsm)
      have hrs : r.Steps[i]? = some s := by
        rw [idx_nat, hts, List.getElem?_take] at hx
        rw [if_pos (by omega)] at hx; exact hx
      simp only [law7_RouteCellsAdd_b1]
      rw [chk_true (i64b_of (by omega) (by omega)), hm, if_pos (by simp; omega), idx_nat, hrs, Option.bind_some, e1, Option.bind_some]
      obtain ⟨n, hn⟩ : ∃ n : Nat, (secAt x s).Length = (n : Int) := ⟨(secAt x s).Length.toNat, by omega⟩
      have hsplit : ts = ts.take i ++ s :: rr := by rw [← hdr, List.take_append_drop]
      have hcells : cellsF x ts = cellsF x (ts.take i) ++ List.replicate n (cellOf x s) ++ cellsF x rr := by
        conv => lhs; rw [hsplit]
        rw [cellsF_append, cellsF_cons, hn, Int.toNat_natCast, List.append_assoc]
      have hseg : (secAt x s) ∈ x.Sections := by obtain ⟨a, b, c⟩ := idx_some e1; exact List.mem_of_getElem? c
      have hrng := gx.rng _ hseg
      unfold Rng at hrng
      rw [cells_inner (secAt x s) r i _ k s hrs (by omega) q n hn (by omega) (by omega) ⟨e4, e5⟩ (cellsF x (ts.take i)) (cellsF x rr) hcells hq.symm]
      refine hk (q + n) ⟨?_, by omega⟩
      have : ts.take (i + 1) = ts.take i ++ [s] := by
        rw [List.take_add_one]; rw [idx_nat] at hx; rw [hx]; rfl
      rw [this, cellsF_append, cellsF_cons, hn, Int.toNat_natCast]
      simp [cellsF] at hq ⊢
      omega
    · rintro k q ⟨hq, hq2⟩
      rw [List.take_length] at hq
      simp only [law7_RouteCellsAdd_b1]
      rw [chk_true (i64b_of (by omega) (by omega)), hm, if_neg (by simp; omega)]
      unfold law7_RouteCellsAdd_k1
      have hs0m : s0 ∈ r.Steps := List.mem_of_getElem? hs0
      obtain ⟨e1, _⟩ := secAt_ok vx (hst s0 hs0m)
      have e0 : idx r.Steps 0 = some s0 := by simpa [idx] using hs0
      rw [awake7, Option.bind_some]
      simp [hq, e0, e1, whn]
end Go.Proofs.Ytnihhidbiepnhaa
