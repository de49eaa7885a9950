/- The search for routes, plainly: the program's search computes it, and so does the reference's. -/
import Derived.Test.YtnihhidbiepnhaaFl
import Derived.Test.YtnihhidbiepnhaaGc
import Derived.Test.YtnihhidbiepnhaaTb
namespace Go.Proofs.Ytnihhidbiepnhaa
open Go.Dc

def secsP (p : List Step) : List Int := p.map (·.Section)
theorem secsP_snoc (p : List Step) (a : Step) : secsP (p ++ [a]) = secsP p ++ [a.Section] := by simp [secsP]

def extL (f : List Step → Int → List Route → Option (Int × List Route)) (to_ b : Int) (p : List Step) : List Hop → Int → List Route → Option (Int × List Route)
  | [], u, o => some (u, o)
  | h :: hs, u, o =>
    if h.To.Section ∈ secsP p then extL f to_ b p hs u o
    else if b < u + 1 then none
    else if h.To.Section = to_ then extL f to_ b p hs (u + 1) (o ++ [⟨p ++ [h.To], 0⟩])
    else (f (p ++ [h.To]) (u + 1) o).bind fun q => extL f to_ b p hs q.1 q.2
def ext (hp : Step → List Hop) (to_ b : Int) : Nat → List Step → Int → List Route → Option (Int × List Route)
  | 0 => fun _ u o => some (u, o)
  | n + 1 => fun p u o => extL (ext hp to_ b n) to_ b p (hp (p.getLastD default)) u o

theorem extL_cons (f : List Step → Int → List Route → Option (Int × List Route)) (to_ b : Int) (p : List Step) (h : Hop) (hs : List Hop) (u : Int) (o : List Route) : extL f to_ b p (h :: hs) u o =
    (if h.To.Section ∈ secsP p then extL f to_ b p hs u o
    else if b < u + 1 then none
    else if h.To.Section = to_ then extL f to_ b p hs (u + 1) (o ++ [⟨p ++ [h.To], 0⟩])
    else (f (p ++ [h.To]) (u + 1) o).bind fun q => extL f to_ b p hs q.1 q.2) := rfl

def Bnd (b u : Int) (o : List Route) : Prop := 0 ≤ u ∧ u ≤ b ∧ (o.length : Int) ≤ u
theorem extL_bnd {f : List Step → Int → List Route → Option (Int × List Route)} {to_ b : Int} (hf : ∀ p u o q, f p u o = some q → Bnd b u o → Bnd b q.1 q.2) (p : List Step) :
    ∀ (hs : List Hop) (u : Int) (o : List Route) (q : Int × List Route), extL f to_ b p hs u o = some q → Bnd b u o → Bnd b q.1 q.2
  | [], u, o, q, h, hb => by simp [extL] at h; subst h; exact hb
  | x :: hs, u, o, q, h, hb => by
    unfold extL at h
    by_cases h1 : x.To.Section ∈ secsP p
    · rw [if_pos h1] at h; exact extL_bnd hf p hs u o q h hb
    · rw [if_neg h1] at h
      by_cases h2 : b < u + 1
      · rw [if_pos h2] at h; cases h
      · rw [if_neg h2] at h
        obtain ⟨b1, b2, b3⟩ := hb
        by_cases h3 : x.To.Section = to_
        · rw [if_pos h3] at h
          exact extL_bnd hf p hs _ _ q h ⟨by omega, by omega, by simp; omega⟩
        · rw [if_neg h3] at h
          obtain ⟨z, hz, h⟩ := bind_some h
          exact extL_bnd hf p hs _ _ q h (hf _ _ _ _ hz ⟨by omega, by omega, by omega⟩)
theorem ext_bnd (hp : Step → List Hop) (to_ b : Int) : ∀ (n : Nat) (p : List Step) (u : Int) (o : List Route) (q : Int × List Route), ext hp to_ b n p u o = some q → Bnd b u o → Bnd b q.1 q.2
  | 0, p, u, o, q, h, hb => by simp [ext] at h; subst h; exact hb
  | n + 1, p, u, o, q, h, hb => extL_bnd (ext_bnd hp to_ b n) p _ u o q h hb

theorem isS_rng {l : Layout} {s : Step} (h : isS l s = true) : 0 ≤ s.Section ∧ s.Section < l.Sections.length ∧ (s.Dir = 0 ∨ s.Dir = 1) := by
  unfold isS at h
  simp only [Bool.and_eq_true, Bool.or_eq_true, decide_eq_true_eq] at h
  exact ⟨h.1.1, h.1.2, h.2⟩

theorem has_m (l : Layout) (s : Step) : layout_Has_m l s = some (isS l s && decide (checkL (layOf l) = 0)) := by
  unfold layout_Has_m layout_Check_m
  show (whn (isS l s) default (some (checkL (layOf l)))).bind (fun y3 => some (isS l s && decide (y3 = 0))) = _
  cases isS l s <;> rfl

/-- The program's hops. -/
theorem hops_m {l : Layout} (ck : checkL (layOf l) = 0) {s : Step} (hs : isS l s = true) : layout_Hops_m l s = some (hopsF l s) := by
  have v := val_of ck
  have hl := v.full
  have key : ∀ e : Int, e = (if s.Dir = 1 then 0 else 1) → layout_Hops_k1 l s e = some (hopsF l s) := by
    intro e he
    unfold layout_Hops_k1 hopsF
    have := iter_list (B := layout_Hops_b1 l s e) (fun (q : List Hop) i => (q, i)) l.Links (fun q i => q.length ≤ i) (fun q r => some (q ++ r.filterMap (hopF s))) ?_ ?_ FUEL [] 0 (by simp) (by omega) (fuel_of (by omega))
    · simpa using this
    · intro c q i k r hq hdr hi hx hk
      have hkm : k ∈ l.Links := List.mem_of_mem_drop (i := i) (by rw [hdr]; exact List.mem_cons_self)
      obtain ⟨ha, hb, hae, hbe, _⟩ := v.links k hkm
      simp only [layout_Hops_b1, layout_ends_m]
      rw [if_pos (by simp; omega), hx, Option.bind_some, Option.bind_some]
      have ent : ∀ x y : Int, 0 ≤ x → (y = 0 ∨ y = 1) → ∃ t, layout_enter_m ⟨x, y⟩ = some t ∧ hopTo k x y = some ⟨t, k.Point, k.Pos⟩ := by
        intro x y h0 hy
        unfold layout_enter_m hopTo
        rw [if_pos h0]
        rcases hy with rfl | rfl
        · exact ⟨_, rfl, rfl⟩
        · exact ⟨_, rfl, rfl⟩
      have hh : ∀ t : Step, hopF s k = some ⟨t, k.Point, k.Pos⟩ → (chk (decide ((q.length + ([(Hop.mk t k.Point k.Pos)] : List Hop).length) * 32 ≤ 140737488355328)) <| layout_Hops_k3 c i (q ++ ([(Hop.mk t k.Point k.Pos)] : List Hop))) = some (q ++ List.filterMap (hopF s) (k :: r)) := by
        intro t ht
        rw [chk_true (by simp; omega)]
        unfold layout_Hops_k3
        rw [hk _ (by simp; omega)]
        simp [List.filterMap_cons, ht]
      by_cases h1 : k.A = s.Section ∧ k.AEnd = e
      · rw [if_pos (by simp [h1])]
        obtain ⟨t, e1, e2⟩ := ent k.B k.BEnd hb.1 hbe
        rw [e1, Option.bind_some]
        exact hh t (by unfold hopF; rw [← he, if_pos h1]; exact e2)
      · rw [if_neg (by simp only [decide_eq_true_eq, Layout_end.mk.injEq]; exact fun h => h1 ⟨h.1.symm, h.2.symm⟩)]
        by_cases h2 : k.B = s.Section ∧ k.BEnd = e
        · rw [if_pos (by simp [h2])]
          obtain ⟨t, e1, e2⟩ := ent k.A k.AEnd ha.1 hae
          rw [e1, Option.bind_some]
          exact hh t (by unfold hopF; rw [← he, if_neg h1, if_pos h2]; exact e2)
        · rw [if_neg (by simp only [decide_eq_true_eq, Layout_end.mk.injEq]; exact fun h => h2 ⟨h.1.symm, h.2.symm⟩)]
          unfold layout_Hops_k3
          rw [hk _ (by omega)]
          have : hopF s k = none := by unfold hopF; rw [← he, if_neg h1, if_neg h2]
          simp [List.filterMap_cons, this]
    · intro c q _
      simp only [layout_Hops_b1]
      rw [if_neg (by simp)]
      simp [layout_Hops_k2]
  unfold layout_Hops_m
  rw [has_m, Option.bind_some, hs, ck]
  by_cases h1 : s.Dir = 1
  · simp only [decide_true, Bool.and_self, Bool.not_true, Bool.false_eq_true, if_false]
    rw [if_pos (by simpa using h1)]; exact key 0 (by rw [if_pos h1])
  · simp only [decide_true, Bool.and_self, Bool.not_true, Bool.false_eq_true, if_false]
    rw [if_neg (by simpa using h1)]; exact key 1 (by rw [if_neg h1])

/-- What is kept of hops is right. -/
def Memo (l : Layout) (m : List Ment_Entry101) : Prop := ∀ e ∈ m, e.val = hopsF l e.key

theorem from_m {l : Layout} (ck : checkL (layOf l) = 0) (s : Route_search) (hl : s.l = l) (hm : Memo l s.hops.l) {a : Step} (ha : isS l a = true) :
    ∃ m', route_search_from_m s a = some (hopsF l a, ⟨m'⟩) ∧ Memo l m' := by
  unfold route_search_from_m
  cases hany : s.hops.l.any (fun x => decide (a = x.key)) with
  | false =>
    rw [if_pos (by simp), hl, hops_m ck ha, Option.bind_some, chk_true (by simp)]
    refine ⟨_, rfl, fun e he => ?_⟩
    rcases List.mem_append.1 he with h | h
    · exact hm e h
    · rw [List.mem_singleton] at h; subst h; rfl
  | true =>
    rw [if_neg (by simp)]
    have : mval s.hops.l (fun x => decide (a = x.key)) = hopsF l a := by
      unfold mval
      rcases find_idx (xs := s.hops.l) (p := fun x => decide (a = x.key)) with ⟨_, _, h3, _⟩ | ⟨i, x, h1, _, hx, _, hp, _⟩
      · rw [hany] at h3; cases h3
      · rw [h1]
        have hk : a = x.key := of_decide_eq_true hp
        show x.val = _
        rw [hm x (List.mem_of_getElem? hx), hk]
    rw [this]
    exact ⟨_, rfl, hm⟩

theorem append_m (s : Route_search) (a : Step) (S : List Int) (N : Nat) (hp : s.passed = uOf N S) (h0 : 0 ≤ a.Section) (h1 : a.Section < N) (hq : s.sequence.length ≤ 1000) (hu : 0 ≤ s.units ∧ s.units ≤ 1000000000) :
    route_search_append_m s a = some (decide (s.units + 1 ≤ s.budget), s.units + 1, s.sequence ++ [a], uOf N (S ++ [a.Section])) := by
  unfold route_search_append_m
  rw [chk_true (i64b_of (by omega) (by omega)), chk_true (by simp; omega), hp, uOf_idx h0 h1, Option.bind_some, uOf_set h0 h1]

theorem uOf_unset {N : Nat} {S : List Int} {x : Int} (h0 : 0 ≤ x) (hx : x ∉ S) : (uOf N (S ++ [x])).set x.toNat false = uOf N S := by
  refine List.ext_getElem (by simp [uOf]) fun i a b => ?_
  rw [List.getElem_set]
  simp only [uOf, List.getElem_map, List.getElem_range, List.mem_append, List.mem_singleton]
  by_cases e : x.toNat = i
  · rw [if_pos e]
    have : (i : Int) = x := by omega
    rw [this]
    simp [hx]
  · rw [if_neg e]
    have : ¬ (i : Int) = x := by omega
    simp [this]

theorem remove_m (s : Route_search) (p : List Step) (a : Step) (N : Nat) (hs : s.sequence = p ++ [a]) (hp : s.passed = uOf N (secsP p ++ [a.Section])) (h0 : 0 ≤ a.Section) (h1 : a.Section < N) (hn : a.Section ∉ secsP p) (hl : p.length ≤ 1000) :
    route_search_remove_m s = some (p, uOf N (secsP p)) := by
  unfold route_search_remove_m
  have hlen : (s.sequence.length : Int) - 1 = (p.length : Nat) := by rw [hs]; simp
  rw [hlen, chk_true (i64b_of (by omega) (by omega)), hs, idx_nat]
  simp only [List.getElem?_append_right (Nat.le_refl _), Nat.sub_self, List.getElem?_cons_zero, Option.bind_some]
  rw [hp, uOf_idx h0 h1, Option.bind_some, uOf_unset h0 hn]
  have : sub (p ++ [a]) 0 (p.length : Nat) = some p := by
    unfold sub
    rw [if_pos ⟨by omega, by omega, by simp; omega⟩]
    simp
  rw [this, Option.bind_some]

theorem clone_m (p : List Step) (h : p.length ≤ 1000) : slices_Clone_api_Step_api_Step_m p = some p := by
  unfold slices_Clone_api_Step_api_Step_m
  rw [chk_true (by simp; omega)]

theorem last_idx {p : List Step} (h : p ≠ []) : idx p ((p.length : Int) - 1) = some (p.getLastD default) := by
  have : 0 < p.length := List.length_pos_iff.2 h
  have e : ((p.length : Int) - 1) = ((p.length - 1 : Nat) : Int) := by omega
  rw [e, idx_nat, List.getLastD_eq_getLast?, List.getLast?_eq_getElem?]
  rw [List.getElem?_eq_getElem (by omega)]
  rfl
theorem last_mem {p : List Step} (h : p ≠ []) : p.getLastD default ∈ p := by
  rw [List.getLastD_eq_getLast?, List.getLast?_eq_some_getLast h]
  exact List.getLast_mem h

/-- What the search leaves, against what it should. -/
def PRes (l : Layout) (p : List Step) (r : Option (Int × List Route)) (y : Bool × Int × (List Step) × (List Bool) × (GMap Ment_Entry101) × (List Route)) : Prop :=
  match r with
  | none => y.1 = false
  | some q => ∃ m', Memo l m' ∧ y = (true, q.1, p, uOf l.Sections.length (secsP p), ⟨m'⟩, q.2)

theorem prog_ext {l : Layout} (ck : checkL (layOf l) = 0) (to_ b : Int) (hb : b ≤ 1048576) : ∀ (n : Nat) (p : List Step) (u : Int) (o : List Route) (m : List Ment_Entry101) (fu : Nat),
    p.length + n = 24 → p ≠ [] → (∀ s ∈ p, isS l s = true) → Bnd b u o → Memo l m → n < fu →
    WP (route_search_extend_f fu ⟨l, to_, b, u, p, uOf l.Sections.length (secsP p), ⟨m⟩, o⟩) (PRes l p (ext (hopsF l) to_ b n p u o)) := by
  have v := val_of ck
  have hfull := v.full
  intro n
  induction n with
  | zero =>
    intro p u o m fu hlen hne hst hbd hm hfu
    obtain ⟨f, rfl⟩ : ∃ f, fu = f + 1 := ⟨fu - 1, by omega⟩
    show WP (route_search_extend_F _ _) _
    unfold route_search_extend_F
    rw [if_pos (by simp; omega)]
    exact wp_some ⟨m, hm, rfl⟩
  | succ n ih =>
    intro p u o m fu hlen hne hst hbd hm hfu
    obtain ⟨f, rfl⟩ : ∃ f, fu = f + 1 := ⟨fu - 1, by omega⟩
    show WP (route_search_extend_F _ _) _
    unfold route_search_extend_F
    rw [if_neg (by simp; omega)]
    rw [chk_true (i64b_of (by simp; omega) (by simp; omega))]
    rw [last_idx hne, Option.bind_some]
    have hla : isS l (p.getLastD default) = true := hst _ (last_mem hne)
    obtain ⟨m0, hf0, hm0⟩ := from_m ck ⟨l, to_, b, u, p, uOf l.Sections.length (secsP p), ⟨m⟩, o⟩ rfl hm hla
    rw [hf0, Option.bind_some]
    have hhl : (hopsF l (p.getLastD default)).length ≤ 1000 := Nat.le_trans (List.length_filterMap_le _ _) (by omega)
    have hto : ∀ h ∈ hopsF l (p.getLastD default), isS l h.To = true := fun h hh => hop_step v hh
    show WP (iter _ _ _) (PRes l p (extL (ext (hopsF l) to_ b n) to_ b p (hopsF l (p.getLastD default)) u o))
    generalize hopsF l (p.getLastD default) = hs at hhl hto
    obtain ⟨R, hR⟩ : ∃ R, R = extL (ext (hopsF l) to_ b n) to_ b p hs u o := ⟨_, rfl⟩
    rw [← hR]
    have loop := wp_iter (B := route_search_extend_b1 (hs, ⟨m0⟩) ⟨l, to_, b, u, p, uOf l.Sections.length (secsP p), ⟨m⟩, o⟩ (route_search_extend_f f))
      (fun s => ∃ u1 m1 o1 i, s = (u1, p, uOf l.Sections.length (secsP p), m1, o1, i) ∧ Bnd b u1 o1 ∧ Memo l m1 ∧ i ≤ hs.length ∧ extL (ext (hopsF l) to_ b n) to_ b p (hs.drop i) u1 o1 = R)
      (fun s => hs.length - s.2.2.2.2.2) (PRes l p (R)) ?_ FUEL (u, p, uOf l.Sections.length (secsP p), m0, o, 0) ⟨u, m0, o, 0, rfl, hbd, hm0, by omega, hR.symm⟩ (fuel_of (by simp; omega))
    · exact loop
    · rintro c s ⟨u1, m1, o1, i, rfl, hb1, hm1, hi, he⟩ hc
      obtain ⟨hb10, hb11, hb12⟩ := hb1
      simp only [route_search_extend_b1]
      by_cases hlt : i < hs.length
      · rw [if_pos (by simp; omega), idx_nat, List.getElem?_eq_getElem hlt, Option.bind_some]
        have hx := hto _ (List.getElem_mem hlt)
        have hdr : hs.drop i = hs[i] :: hs.drop (i + 1) := List.drop_eq_getElem_cons hlt
        generalize hs[i] = x at hx hdr
        obtain ⟨x0, x1, _⟩ := isS_rng hx
        rw [uOf_idx x0 x1, Option.bind_some]
        rw [hdr, extL_cons] at he
        by_cases h1 : x.To.Section ∈ secsP p
        · rw [if_pos (by simpa using h1)]
          rw [if_pos h1] at he
          simp only [route_search_extend_k2]
          exact hc _ ⟨u1, m1, o1, i + 1, rfl, ⟨hb10, hb11, hb12⟩, hm1, by omega, he⟩ (by simp; omega)
        · rw [if_neg (by simpa using h1)]
          rw [if_neg h1] at he
          rw [append_m _ _ (secsP p) l.Sections.length rfl x0 x1 (by simp; omega) ⟨by simpa using hb10, by simp; omega⟩, Option.bind_some]
          dsimp only
          by_cases h2 : b < u1 + 1
          · rw [if_pos h2] at he
            rw [if_pos (by simp; omega)]
            rw [← he]
            exact wp_some rfl
          · rw [if_neg h2] at he
            rw [if_neg (by simp; omega)]
            have back : ∀ (u2 : Int) (m2 : List Ment_Entry101) (o2 : List Route), Bnd b u2 o2 → Memo l m2 → extL (ext (hopsF l) to_ b n) to_ b p (hs.drop (i + 1)) u2 o2 = R →
                WP (route_search_extend_k3 ⟨l, to_, b, u, p, uOf l.Sections.length (secsP p), ⟨m⟩, o⟩ c i (u2, p ++ [x.To], uOf l.Sections.length (secsP p ++ [x.To.Section]), m2, o2)) (PRes l p (R)) := by
              intro u2 m2 o2 hb2 hm2 he2
              simp only [route_search_extend_k3]
              rw [remove_m _ p x.To l.Sections.length rfl rfl x0 x1 h1 (by omega), Option.bind_some]
              simp only [route_search_extend_k2]
              exact hc _ ⟨u2, m2, o2, i + 1, rfl, hb2, hm2, by omega, he2⟩ (by simp; omega)
            by_cases h3 : x.To.Section = to_
            · rw [if_pos h3] at he
              rw [if_pos (by simpa using h3), clone_m _ (by simp; omega), Option.bind_some, chk_true (by simp; omega)]
              exact back _ _ _ ⟨by omega, by omega, by simp; omega⟩ hm1 he
            · rw [if_neg h3] at he
              rw [if_neg (by simpa using h3)]
              have hrec := ih (p ++ [x.To]) (u1 + 1) o1 m1 f (by simp; omega) (by simp) (fun s hs' => by
                rcases List.mem_append.1 hs' with h | h
                · exact hst s h
                · rw [List.mem_singleton] at h; subst h; exact hx) ⟨by omega, by omega, by omega⟩ hm1 (by omega)
              rw [secsP_snoc] at hrec
              obtain ⟨y, hy, hq⟩ := hrec
              rw [hy, Option.bind_some]
              cases hex : ext (hopsF l) to_ b n (p ++ [x.To]) (u1 + 1) o1 with
              | none =>
                rw [hex] at hq he
                have hq : y.1 = false := hq
                rw [if_pos (by simp [hq]), ← he]
                exact wp_some rfl
              | some q =>
                rw [hex] at hq he
                obtain ⟨m', hm', rfl⟩ := hq
                rw [if_neg (by simp)]
                simp only
                rw [secsP_snoc]
                exact back _ _ _ (ext_bnd _ _ _ n _ _ _ _ hex ⟨by omega, by omega, by omega⟩) hm' he
      · rw [if_neg (by simp; omega)]
        have : i = hs.length := by omega
        subst this
        rw [List.drop_length] at he
        have he : some (u1, o1) = R := he
        rw [← he]
        exact wp_some ⟨m1, hm1, rfl⟩
end Go.Proofs.Ytnihhidbiepnhaa
