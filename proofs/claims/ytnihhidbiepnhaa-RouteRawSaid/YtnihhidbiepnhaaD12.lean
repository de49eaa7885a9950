/- Engine of the decompiler, part 12: slices of slices of the call's own that grow. -/
import Derived.Test.YtnihhidbiepnhaaD10
namespace Go.Dc
open Go.RowKit GoRep

/-- A slice's header as data. -/
structure Hdr where
  a : Option Addr
  len : Nat
  cap : Nat
instance : GoRep Hdr where
  R := Unit
  n := 1
  bytes := 24
  enc := fun _ x => [.slice x.a x.len x.cap]
  ok := fun _ _ _ _ => True
  npos := by decide
  bpos := by decide
  len := fun _ _ => rfl
  one := fun r x v hv => by simp at hv; subst hv; rfl
  mono := fun _ _ _ _ _ _ h => h
  dep := fun _ _ _ _ _ _ h => h

def hdrs {ρ β : Type} (es : Nat → SR ρ) (xs : List (List β)) : List Hdr := xs.mapIdx (fun i x => ⟨(es i).a, x.length, (es i).cap⟩)
theorem hdrs_get {ρ β : Type} (es : Nat → SR ρ) (xs : List (List β)) (i : Nat) : (hdrs es xs)[i]? = (xs[i]?).map (fun x => ⟨(es i).a, x.length, (es i).cap⟩) := by simp [hdrs]
theorem hdrs_len {ρ β : Type} (es : Nat → SR ρ) (xs : List (List β)) : (hdrs es xs).length = xs.length := by simp [hdrs]

/-- The elements of a slice of slices, by themselves. -/
def inn {β : Type} [GoRep β] (e2 : TypeId) (es : Nat → SR (R β)) (xs : List (List β)) : Chunk where
  fp := fun k => ∃ i x p, xs[i]? = some x ∧ (es i).a = some p ∧ k = p.block
  φ := fun S w => (∀ (i : Nat) (x : List β), xs[i]? = some x → (trow (α := β) e2 (es i) x).φ S w) ∧
    (∀ (i j : Nat) (x y : List β) (p q : Addr), i ≠ j → xs[i]? = some x → xs[j]? = some y → (es i).a = some p → (es j).a = some q → p.block ≠ q.block)
  dep := fun S w w' h hw => ⟨fun i x hx => (trow (α := β) e2 (es i) x).dep S w w' (fun k hk => h k (by
    rcases hk with ⟨p, hp, rfl⟩ | hk
    · exact .inl ⟨i, x, p, hx, hp, rfl⟩
    · exact .inr hk)) (hw.1 i x hx), hw.2⟩
  mono := fun S S' w h hw => ⟨fun i x hx => (trow (α := β) e2 (es i) x).mono S S' w h (hw.1 i x hx), hw.2⟩

section
variable {P : Program} {n : Nat} {κ : Ctx} {ρ : Env} {H : List Chunk} {g : Bool} {C : Env → List Chunk → Prop} {β : Type} [GoRep β]

theorem Mem.split2 {e e2 : TypeId} {r : SR (SR (R β))} {xs : List (List β)} {w : World} {H1 : List Chunk} (hm : Mem κ H w) (hsel : Sel H (rows2 (fun _ => True) e e2 r xs) H1) :
    Mem κ (trow (α := Hdr) e ⟨r.a, r.cap, fun _ => ()⟩ (hdrs r.es xs) :: inn e2 r.es xs :: H1) w := by
  obtain ⟨S, hs⟩ := hm
  have hp := hs.perm hsel.perm
  have h0 := hp.all _ List.mem_cons_self
  obtain ⟨h1, h2, h3, h4, h5⟩ := h0.1
  have hd := List.pairwise_cons.1 hp.disj
  have sub1 : ∀ k, (trow (α := Hdr) e (⟨r.a, r.cap, fun _ => ()⟩ : SR (R Hdr)) (hdrs r.es xs)).fp k → (rows2 (fun _ => True) e e2 r xs).fp k := fun k hk => .inl hk
  have sub2 : ∀ k, (inn e2 r.es xs).fp k → (rows2 (fun _ => True) e e2 r xs).fp k := fun k ⟨i, x, p, hx, hp, hk⟩ => .inr ⟨i, x, p, hx, trivial, hp, hk⟩
  refine ⟨S, hp.frame, hp.sub, hp.sup, hp.lt, fun c hc => ?_, ?_⟩
  · rcases List.mem_cons.1 hc with rfl | hc
    · refine ⟨⟨by rw [hdrs_len]; exact h1, ?_⟩, fun k hk => h0.2 k (sub1 k hk)⟩
      rcases h2 with ⟨a1, a2, a3⟩ | ⟨g, o, cur, ha, hg, g3, g4, g5⟩
      · exact .inl ⟨a1, by subst a2; rfl, a3⟩
      · refine .inr ⟨g, o, cur, ha, hg, by rw [hdrs_len]; exact g3, by show o + r.cap * 1 ≤ _; omega, fun i x hx => ⟨fun j v hv => ?_, trivial⟩⟩
        rw [hdrs_get] at hx
        cases hxi : xs[i]? with
        | none => rw [hxi] at hx; cases hx
        | some y =>
          rw [hxi] at hx
          obtain rfl := Option.some.inj hx
          have hj : j = 0 := by
            have h := (List.getElem?_eq_some_iff.1 hv).1
            rw [GoRep.len] at h
            have h1' : GoRep.n Hdr = 1 := rfl
            omega
          subst hj
          have hv' : v = .slice (r.es i).a y.length (r.es i).cap := (Option.some.inj hv).symm
          rw [hv']
          show cur[o + (i * 1 + 0)]? = _
          rw [Nat.mul_one, Nat.add_zero]
          exact g5 i y hxi
    · rcases List.mem_cons.1 hc with rfl | hc
      · exact ⟨⟨fun i x hx => h3 i x hx trivial, fun i j x y p q hne hx hy => h4 i j x y p q hne hx hy trivial trivial⟩, fun k hk => h0.2 k (sub2 k hk)⟩
      · exact hp.all c (List.mem_cons_of_mem _ hc)
  · rw [List.pairwise_cons, List.pairwise_cons]
    refine ⟨fun c hc k hk hk' => ?_, fun c hc k hk => hd.1 c hc k (sub2 k hk), hd.2⟩
    rcases List.mem_cons.1 hc with rfl | hc
    · obtain ⟨q, hq, rfl⟩ := hk
      obtain ⟨i, x, p, hx, hp', he⟩ := hk'
      exact h5 i x p q hx trivial hp' hq he.symm
    · exact hd.1 c hc k (sub1 k hk) hk'

theorem Mem.join2 {e e2 : TypeId} {r : SR (SR (R β))} {r' : SR (R Hdr)} {xs : List (List β)} {w : World} {H1 : List Chunk} (es0 : Nat → R β)
    (hm : Mem κ (trow (α := Hdr) e r' (hdrs r.es xs ++ [⟨none, 0, 0⟩]) :: inn e2 r.es xs :: H1) w) :
    Mem κ (rows2 (fun _ => True) e e2 (⟨r'.a, r'.cap, fun i => if i < xs.length then r.es i else ⟨none, 0, es0⟩⟩ : SR (SR (R β))) (xs ++ [[]]) :: H1) w := by
  obtain ⟨S, hp⟩ := hm
  have h0 := hp.all _ List.mem_cons_self
  have h00 := hp.all _ (List.mem_cons_of_mem _ List.mem_cons_self)
  have hd := List.pairwise_cons.1 hp.disj
  have hd2 := List.pairwise_cons.1 hd.2
  have hdd := hd.1 _ List.mem_cons_self
  obtain ⟨h1, h2⟩ := h0.1
  obtain ⟨h3, h4⟩ := h00.1
  -- an element is one of the old ones, or nil
  have el : ∀ (i : Nat) (x : List β), (xs ++ [[]])[i]? = some x → (i < xs.length ∧ xs[i]? = some x) ∨ (i = xs.length ∧ x = []) := fun i x hx => by
    by_cases hlt : i < xs.length
    · exact .inl ⟨hlt, by rwa [List.getElem?_append_left hlt] at hx⟩
    · right
      rw [List.getElem?_append_right (by omega)] at hx
      have hlt2 := (List.getElem?_eq_some_iff.1 hx).1
      simp at hlt2
      have : i = xs.length := by omega
      subst this
      simp at hx
      exact ⟨rfl, hx⟩
  have nn : ∀ (i : Nat) (x : List β) (p : Addr), (xs ++ [[]])[i]? = some x → ((if i < xs.length then r.es i else (⟨none, 0, es0⟩ : SR (R β))).a = some p) → i < xs.length ∧ xs[i]? = some x ∧ (r.es i).a = some p := fun i x p hx hp' => by
    rcases el i x hx with ⟨hlt, hxi⟩ | ⟨rfl, _⟩
    · rw [if_pos hlt] at hp'; exact ⟨hlt, hxi, hp'⟩
    · rw [if_neg (by omega)] at hp'; cases hp'
  have cases2 : ∀ k, (rows2 (fun _ => True) e e2 (⟨r'.a, r'.cap, fun i => if i < xs.length then r.es i else ⟨none, 0, es0⟩⟩ : SR (SR (R β))) (xs ++ [[]])).fp k → (trow (α := Hdr) e r' (hdrs r.es xs ++ [⟨none, 0, 0⟩])).fp k ∨ (inn e2 r.es xs).fp k := fun k hk => by
    rcases hk with hk | ⟨i, x, p, hx, _, hp', rfl⟩
    · exact .inl hk
    · obtain ⟨_, hxi, hpi⟩ := nn i x p hx hp'
      exact .inr ⟨i, x, p, hxi, hpi, rfl⟩
  refine ⟨S, hp.frame, hp.sub, hp.sup, hp.lt, fun c hc => ?_, ?_⟩
  · rcases List.mem_cons.1 hc with rfl | hc
    · refine ⟨⟨?_, .inr ?_, fun i x hx _ => ?_, fun i j x y p q hne hx hy _ _ hp' hq => ?_, fun i x p q hx _ hp' hq => ?_⟩, fun k hk => ?_⟩
      · simp only [List.length_append, hdrs_len, List.length_singleton] at h1 ⊢; exact h1
      · rcases h2 with ⟨_, a2, _⟩ | ⟨g, o, cur, ha, hg, g3, g4, g5⟩
        · simp at a2
        · refine ⟨g, o, cur, ha, hg, by simpa [hdrs_len] using g3, by have : o + r'.cap * 1 ≤ cur.size := g4; show o + r'.cap ≤ _; omega, fun i x hx => ?_⟩
          rcases el i x hx with ⟨hlt, hxi⟩ | ⟨rfl, rfl⟩
          · have hi : (hdrs r.es xs ++ [(⟨none, 0, 0⟩ : Hdr)])[i]? = some ⟨(r.es i).a, x.length, (r.es i).cap⟩ := by
              rw [List.getElem?_append_left (by rw [hdrs_len]; exact hlt), hdrs_get, hxi]; rfl
            have := (g5 i _ hi).1 0 (.slice (r.es i).a x.length (r.es i).cap) rfl
            have hh : cur[o + (i * 1 + 0)]? = some (.slice (r.es i).a x.length (r.es i).cap) := this
            rw [Nat.mul_one, Nat.add_zero] at hh
            show cur[o + i]? = some (.slice (if i < xs.length then r.es i else (⟨none, 0, es0⟩ : SR (R β))).a x.length (if i < xs.length then r.es i else (⟨none, 0, es0⟩ : SR (R β))).cap)
            rw [if_pos hlt]; exact hh
          · have hi : (hdrs r.es xs ++ [(⟨none, 0, 0⟩ : Hdr)])[xs.length]? = some ⟨none, 0, 0⟩ := by
              rw [List.getElem?_append_right (by rw [hdrs_len]; exact Nat.le_refl _), hdrs_len]; simp
            have := (g5 xs.length _ hi).1 0 (.slice none 0 0) rfl
            have hh : cur[o + (xs.length * 1 + 0)]? = some (.slice none 0 0) := this
            rw [Nat.mul_one, Nat.add_zero] at hh
            show cur[o + xs.length]? = some (.slice (if xs.length < xs.length then r.es xs.length else (⟨none, 0, es0⟩ : SR (R β))).a 0 (if xs.length < xs.length then r.es xs.length else (⟨none, 0, es0⟩ : SR (R β))).cap)
            rw [if_neg (by omega)]; exact hh
      · show (trow (α := β) e2 (if i < xs.length then r.es i else (⟨none, 0, es0⟩ : SR (R β))) x).φ S w
        rcases el i x hx with ⟨hlt, hxi⟩ | ⟨rfl, rfl⟩
        · rw [if_pos hlt]; exact h3 i x hxi
        · rw [if_neg (by omega)]; exact ⟨by simp, .inl ⟨rfl, rfl, rfl⟩⟩
      · obtain ⟨_, hxi, hpi⟩ := nn i x p hx hp'
        obtain ⟨_, hyj, hqj⟩ := nn j y q hy hq
        exact h4 i j x y p q hne hxi hyj hpi hqj
      · obtain ⟨_, hxi, hpi⟩ := nn i x p hx hp'
        intro he
        exact hdd q.block ⟨q, hq, rfl⟩ ⟨i, x, p, hxi, hpi, he.symm⟩
      · rcases cases2 k hk with h | h
        · exact h0.2 k h
        · exact h00.2 k h
    · exact hp.all c (List.mem_cons_of_mem _ (List.mem_cons_of_mem _ hc))
  · rw [List.pairwise_cons]
    refine ⟨fun c hc k hk hk' => ?_, hd2.2⟩
    rcases cases2 k hk with h | h
    · exact hd.1 c (List.mem_cons_of_mem _ hc) k h hk'
    · exact hd2.1 c hc k h hk'

/-- All of it, as a slice whose elements will not be written any more. -/
theorem Mem.freeze2 {e e2 : TypeId} {r : SR (SR (R β))} {xs : List (List β)} {w : World} {H' : List Chunk} (hm : Mem κ H w) (hu : Upd H (rows2 (fun _ => True) e e2 r xs) (trow (α := List β) e r xs) H') : Mem κ H' w := by
  obtain ⟨S, hs⟩ := hm
  have h0 := hs.all _ hu.has.mem
  obtain ⟨h1, h2, h3, h4, h5⟩ := h0.1
  refine ⟨fun k => S k ∨ ∃ i x p, xs[i]? = some x ∧ (r.es i).a = some p ∧ k = p.block, hs.upd hu (Frame.refl _ w) (fun _ h => .inl h) (fun k hk => ?_) (fun k hk => ?_) ⟨h1, ?_⟩ (fun k hk => ?_)⟩
  · rcases hk with hk | ⟨i, x, p, hx, hp, he⟩
    · exact .inl hk
    · exact .inr (.inl (.inr ⟨i, x, p, hx, trivial, hp, he⟩))
  · rcases hk with hk | ⟨i, x, p, hx, hp, he⟩
    · exact hs.lt k hk
    · exact (h0.2 k (.inr ⟨i, x, p, hx, trivial, hp, he⟩)).1
  · rcases h2 with h2 | ⟨g, o, cur, ha, hg, g3, g4, g5⟩
    · exact .inl h2
    · refine .inr ⟨g, o, cur, ha, hg, g3, by show o + r.cap * 1 ≤ _; omega, fun i x hx => ⟨fun j v hv => ?_, ?_⟩⟩
      · have hj : j = 0 := by
          have := (List.getElem?_eq_some_iff.1 hv).1
          have h1' : (GoRep.enc (α := List β) (r.es i) x).length = 1 := rfl
          omega
        subst hj
        have hv' : v = .slice (r.es i).a x.length (r.es i).cap := by
          have h2' : (GoRep.enc (α := List β) (r.es i) x)[0]? = some (.slice (r.es i).a x.length (r.es i).cap) := rfl
          rw [h2'] at hv
          exact (Option.some.inj hv).symm
        rw [hv']
        show cur[o + (i * 1 + 0)]? = _
        rw [Nat.mul_one, Nat.add_zero]
        exact g5 i x hx
      · refine SlOk.mono (fun k hk => ?_) (trow_slOk (h3 i x hx trivial))
        rcases hk with hk | ⟨p, hp, rfl⟩
        · exact .inl hk
        · exact .inr ⟨i, x, p, hx, hp, rfl⟩
  · have hk' : (rows2 (fun _ => True) e e2 r xs).fp k := .inl hk
    refine ⟨.inl hk', (h0.2 k hk').1, ?_⟩
    rintro (hsk | ⟨i, x, p, hx, hp, he⟩)
    · exact (h0.2 k hk').2.1 hsk
    · obtain ⟨q, hq, hkq⟩ := hk
      exact h5 i x p q hx trivial hp hq (he.symm.trans hkq)

theorem Mem.nil0 {e e2 : TypeId} {es : Nat → SR (R β)} {w : World} {H' : List Chunk} (hm : Mem κ H w) (hr : ∀ i, (es i).a = none ∧ (es i).cap = 0)
    (hu : Upd H (trow (α := List β) e (⟨none, 0, es⟩ : SR (SR (R β))) ([] : List (List β))) (rows2 (fun _ => True) e e2 (⟨none, 0, es⟩ : SR (SR (R β))) ([] : List (List β))) H') : Mem κ H' w :=
  Mem.rows2_nil (m := 0) hm hr hu

/-- append(s, nil), s a slice of slices of the call's own. -/
theorem st_app2 {x y : Operand} {t e e2 d : Nat} {ty : TypeId} {pos : String} {aft : Array Edge} {gd : Option (Nat × Bool)} {r r2 : SR (SR (R β))} {xs : List (List β)} {m m2 : Nat} {H1 : List Chunk} (es0 : Nat → R β)
    (hsel : Sel H (rows2 (fun _ => True) e e2 r xs) H1) (h2 : Has H1 (trow (α := List β) e r2 [[]])) (hr2 : ∀ i, r2.es i = ⟨none, 0, es0⟩)
    (hb : (xs.length + 1) * 24 ≤ 140737488355328)
    (k : ∀ r' : SR (SR (R β)), C ((d, .v (.slice r'.a (xs ++ [[]]).length r'.cap)) :: ρ) (rows2 (fun _ => True) e e2 r' (xs ++ [[]]) :: H1))
    (hx : Gets ρ true x (.slice r.a m r.cap) := by first | exact .plain rfl | exact .cond rfl id | exact .cond rfl gl) (hy : Gets ρ true y (.slice r2.a m2 r2.cap) := by first | exact .plain rfl | exact .cond rfl id | exact .cond rfl gl)
    (hm1 : m = xs.length := by first | rfl | simp only [List.length_set, List.length_append, List.length_replicate]) (hm2 : m2 = 1 := by first | rfl | simp only [List.length_set, List.length_append, List.length_replicate])
    (hd : Nat.blt d n = true := by rfl) (hi : rowInfo P t e 1 24 = true := by kernel_rfl) :
    StepO P n κ ⟨some d, .call { callee := .builtin .append, args := #[x, y], argTypes := #[t, t] }, ty, pos, aft, gd⟩ ρ H C := by
  subst hm1 hm2
  intro K Q hs w act hm ho
  have hm' := hm.split2 hsel
  have hk : Kn κ (trow (α := Hdr) e (⟨r.a, r.cap, fun _ => ()⟩ : SR (R Hdr)) (hdrs r.es xs) :: inn e2 r.es xs :: H1) (α := List Hdr) (⟨r2.a, r2.cap, fun _ => ()⟩ : SR (R Hdr)) [⟨none, 0, 0⟩] := fun S w hms => by
    have hmem : trow (α := List β) e r2 [[]] ∈ (trow (α := Hdr) e (⟨r.a, r.cap, fun _ => ()⟩ : SR (R Hdr)) (hdrs r.es xs) :: inn e2 r.es xs :: H1) := List.mem_cons_of_mem _ (List.mem_cons_of_mem _ h2.mem)
    have hφ := (hms.all _ hmem).1
    refine ⟨(trow (α := List β) e r2 [[]]).fp, fun k hk => ⟨_, hmem, hk⟩, ?_⟩
    rcases hφ.2 with ⟨_, a2, _⟩ | ⟨g, o, cur, ha, hg, g3, g4, g5⟩
    · cases a2
    · refine ⟨g3, by show 1 * 24 ≤ _; omega, fun i x hx => ?_⟩
      have hi0 : i = 0 := by
        have := (List.getElem?_eq_some_iff.1 hx).1
        simp at this; exact this
      subst hi0
      obtain rfl : (⟨none, 0, 0⟩ : Hdr) = x := by simpa using hx
      refine ⟨by show r2.a = _; rw [ha]; rfl, .inr ⟨_, ha, by show sb r2.a = _; rw [ha]; rfl⟩, fun j v hv => ?_, trivial⟩
      have hj : j = 0 := by
        have h := (List.getElem?_eq_some_iff.1 hv).1
        rw [GoRep.len] at h
        have h1' : GoRep.n Hdr = 1 := rfl
        omega
      subst hj
      have hv' : v = .slice none 0 0 := (Option.some.inj hv).symm
      rw [hv']
      show w.cell? ⟨sb r2.a, so r2.a + (0 * 1 + 0), none⟩ = _
      rw [ha]
      have := (g5 0 [] rfl).1 0 (.slice (r2.es 0).a 0 (r2.es 0).cap) rfl
      rw [hr2 0] at this
      have hh : cur[o + (0 * 1 + 0)]? = some (.slice none 0 0) := this
      show w.cell? ⟨g, o + (0 * 1 + 0), none⟩ = _
      simp only [World.cell?, hg]
      simpa using hh
  have hst : StepO P n κ ⟨some d, .call { callee := .builtin .append, args := #[x, y], argTypes := #[t, t] }, ty, pos, aft, gd⟩ ρ (trow (α := Hdr) e (⟨r.a, r.cap, fun _ => ()⟩ : SR (R Hdr)) (hdrs r.es xs) :: inn e2 r.es xs :: H1)
      (fun ρ' H' => ∃ r' : SR (R Hdr), ρ' = (d, .v (.slice r'.a (hdrs r.es xs ++ [(⟨none, 0, 0⟩ : Hdr)]).length r'.cap)) :: ρ ∧ H' = trow (α := Hdr) e r' (hdrs r.es xs ++ [⟨none, 0, 0⟩]) :: inn e2 r.es xs :: H1) := by
    refine st_append (α := Hdr) (e := e) (sz := 1) (by_ := 24) (xs := hdrs r.es xs) (ys := [⟨none, 0, 0⟩]) (m := xs.length) (m2 := 1) (r := (⟨r.a, r.cap, fun _ => ()⟩ : SR (R Hdr))) (r2 := (⟨r2.a, r2.cap, fun _ => ()⟩ : SR (R Hdr)))
      (H' := fun r' => trow (α := Hdr) e r' (hdrs r.es xs ++ [⟨none, 0, 0⟩]) :: inn e2 r.es xs :: H1) ?_ hk ?_ ?_ ?_ hx hy ?_ ?_ hd ?_ ?_ hi
    · intro r'; exact Upd.head
    · intro _ _ _ _ _ _; trivial
    · rw [hdrs_len]; exact hb
    · intro r'; exact ⟨r', rfl, rfl⟩
    · rw [hdrs_len]
    · rfl
    · rfl
    · rfl
  refine hst K Q ?_ w act hm' ho
  rintro ρ' H' ⟨r', rfl, rfl⟩ w' a' hw ho'
  refine hs _ _ (k ⟨r'.a, r'.cap, fun i => if i < xs.length then r.es i else ⟨none, 0, es0⟩⟩) w' a' (hw.join2 es0) ?_
  have hl : (hdrs r.es xs ++ [(⟨none, 0, 0⟩ : Hdr)]).length = (xs ++ [([] : List β)]).length := by simp [hdrs_len]
  rw [hl] at ho'
  exact ho'

/-- A slice literal; what is open of its elements is known. -/
theorem st_bsliceE {α : Type} [GoRep α] {t d len : Nat} {parts : List (Nat × Operand)} {vs : List (Nat × Value)} {ty : TypeId} {pos : String} {aft : Array Edge} {gd : Option (Nat × Bool)} (e : Nat) (es : Nat → R α) (xs : List α)
    (hok : ∀ S w, MemS S κ H w → ∀ i y, xs[i]? = some y → ok S w (es i) y)
    (k : ∀ r : SR (R α), (∀ i, r.es i = es i) → C ((d, .v (.slice r.a xs.length r.cap)) :: ρ) (trow e r xs :: H))
    (hv : GetsP ρ true parts vs := by repeat (first | exact GetsP.nil | (apply GetsP.cons; first | exact .plain rfl | exact .cond rfl id | exact .cond rfl gl)))
    (hb : ∀ w, (Instr.buildSlice t len vs.toArray).run P w = .ok (.slice (some ⟨w.heap.size, 0, none⟩) len len) (w.alloc (.cells (encL es xs 0).toArray e)) := by intro w; kernel_rfl)
    (hlen : xs.length = len := by rfl) (hbb : Nat.ble (xs.length * GoRep.bytes α) 140737488355328 = true := by rfl)
    (hd : Nat.blt d n = true := by rfl) : StepO P n κ ⟨some d, .buildSlice t len parts.toArray, ty, pos, aft, gd⟩ ρ H C := by
  intro K Q hs w a hm ho
  subst hlen
  have e' := hv.eval ho rfl
  have hr : (execOp a.eval ⟨some d, .buildSlice t xs.length parts.toArray, ty, pos, aft, gd⟩).run P w = .ok (.value (.slice (some ⟨w.heap.size, 0, none⟩) xs.length xs.length)) (w.alloc (.cells (encL es xs 0).toArray e)) := by
    show (Instr.buildSlice t xs.length (parts.toArray.map fun (i, x) => (i, a.eval x)) >>= fun v => pure (Next.value v)).run P w = _
    refine run_value ?_
    have : (parts.toArray.map fun (i, x) => (i, a.eval x)) = vs.toArray := by rw [← e']; simp
    rw [this]
    exact hb w
  unfold Oper.wp
  rw [hr]
  obtain ⟨S, hms⟩ := hm
  have hw' : ∀ k, k < w.heap.size → (w.alloc (.cells (encL es xs 0).toArray e)).heap[k]? = w.heap[k]? := fun k hk => Below.heap_alloc w _ k hk
  refine hs _ _ (k ⟨some ⟨w.heap.size, 0, none⟩, xs.length, es⟩ (fun _ => rfl)) _ _ ⟨S, hms.add (c := trow e ⟨some ⟨w.heap.size, 0, none⟩, xs.length, es⟩ xs) ⟨rfl, rfl, rfl, by simp, fun k hk _ => hw' k hk⟩ (fun _ h => h) (fun _ h => .inl h) (fun k hk => ?_) ⟨by simpa using hbb, .inr ⟨w.heap.size, 0, (encL es xs 0).toArray, rfl, ?_, Nat.le_refl _, ?_, ?_⟩⟩ ?_⟩ (ho.put (by simpa [Nat.blt_eq] using hd) rfl)
  · have := hms.lt k hk
    show k < (w.heap.push _).size
    simp; omega
  · show (w.heap.push _)[w.heap.size]? = _
    simp
  · simp [encL_len]
  · intro i x hx
    refine ⟨fun j v hv => ?_, GoRep.dep S w _ _ _ (fun k hk => hw' k (hms.lt k hk)) (hok S w hms i x hx)⟩
    have hj : j < GoRep.n α := by have := (List.getElem?_eq_some_iff.1 hv).1; rwa [GoRep.len] at this
    simp only [List.getElem?_toArray, Nat.zero_add]
    rw [encL_get es xs 0 i j x hx hj, Nat.zero_add]
    exact hv
  · rintro kk ⟨p, hp, rfl⟩
    cases hp
    exact ⟨Nat.le_refl _, by show w.heap.size < (w.heap.push _).size; simp, fun h => by have := hms.lt w.heap.size h; omega⟩
end
end Go.Dc
