/- Engine of the decompiler, part 13: parts of slices that are only read, values that are the same. -/
import Derived.Test.YtnihhidbiepnhaaD12
namespace Go.Dc
open Go.RowKit GoRep

section
variable {P : Program} {n : Nat} {κ : Ctx} {ρ : Env} {H : List Chunk} {g : Bool}

theorem Kn.subv {α : Type} [GoRep α] {r : SR (R α)} {xs ys : List α} {lo hi : Int} (h : Kn κ H (α := List α) r xs) (hq : sub xs lo hi = some ys) : Kn κ H (α := List α) (r.sub lo.toNat (GoRep.n α)) ys :=
  h.map fun _ _ hs => SlOk.sub hs hq

/-- xs[lo:hi], to be read. -/
theorem ev_subv {α : Type} [GoRep α] {x : Operand} {lo hi : Option Operand} {t m : Nat} {r : SR (R α)} {xs ys : List α} {ol oh : Option (IntKind × Int)}
    (hk : Kn κ H (α := List α) r xs) (hq : g = true → sub xs (oval ol 0) (oval oh xs.length) = some ys)
    (hx : Gets ρ g x (.slice r.a m r.cap) := by first | exact .plain rfl | exact .cond rfl id | exact .cond rfl gl)
    (hm1 : m = xs.length := by first | rfl | simp only [List.length_set, List.length_append, List.length_replicate])
    (hlo : GetsO ρ g lo ol := by first | exact .none | exact .some (.plain rfl) | exact .some (.cond rfl id) | exact .some (.cond rfl gl))
    (hhi : GetsO ρ g hi oh := by first | exact .none | exact .some (.plain rfl) | exact .some (.cond rfl id) | exact .some (.cond rfl gl))
    (hsz : elemSize P t = some (GoRep.n α) := by kernel_rfl) :
    Ev P n κ H ρ g (.slice t x lo hi none) (.slice (r.sub (oval ol 0).toNat (GoRep.n α)).a ys.length (r.sub (oval ol 0).toNat (GoRep.n α)).cap) := by
  subst hm1
  intro w a dst ty pos aft gd hm ho hg
  have hcap : xs.length ≤ r.cap := by
    obtain ⟨S, hs⟩ := hm
    obtain ⟨L, _, h2⟩ := hk S w hs
    exact h2.1
  show (Instr.sliceAt t (a.eval x) (lo.map a.eval) (hi.map a.eval) none >>= fun v => pure (Next.value v)).run P w = _
  rw [hx.eval ho hg, hlo.eval ho hg, hhi.eval ho hg]
  exact run_value (run_sub (hq hg) hcap hsz)

theorem Ok.same {v v' : Value} {a : Act} {t : Nat} (h : Ok n ρ a) (hl : look ρ t = some (.v v)) (he : v = v') : Ok n ((t, .v v') :: ρ) a := by
  subst he
  refine ⟨h.size, h.nodef, fun u e he => ?_⟩
  simp only [look] at he
  by_cases hb : t = u
  · subst hb
    simp at he
    subst he
    exact h.get _ _ hl
  · have hb' : Nat.beq t u = false := beq_ne hb
    rw [hb'] at he
    exact h.get u e he
theorem ow_same {ops : Array Oper} {Q : Exit → Act → World → Prop} {rest : List Oper} {v v' : Value} (t : Nat) (hl : look ρ t = some (.v v)) (he : v = v') (k : OW P n κ ops Q rest ((t, .v v') :: ρ) H) : OW P n κ ops Q rest ρ H :=
  fun w a hm ho => k w a hm (ho.same hl he)
theorem aw_same {ops : Array Oper} {K : Act → World → Prop} {Hs : List Chunk} {fuel : Nat} {listed : Array Bool} {v v' : Value} (t : Nat) (hl : look ρ t = some (.v v)) (he : v = v') (k : AW P n κ ops K Hs fuel listed ((t, .v v') :: ρ) H) : AW P n κ ops K Hs fuel listed ρ H :=
  fun w a hm hs ho => k w a hm hs (ho.same hl he)
end
end Go.Dc
