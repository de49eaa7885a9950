/- Models of functions, and that the code computes them. -/
import Derived.Test.YtcalibhfgdncaaaTypes
set_option linter.all false
namespace Go.Proofs.Ytcalibhfgdncaaa
open Go.Dc Go.RowKit
set_option maxRecDepth 10000
def LA (c0 : Int) : Option Bool :=
  some (decide (48 ≤ c0) && decide (c0 ≤ 57))
theorem VX (S : bU) (w : World) (c0 : Int) (y : Bool) (hM : LA c0 = some y) (hS : sB S w)  :
    Calls Try.prog 95 #[.int .u8 c0] w (dQ w (.bool y)) := by
 refine dH (args := [_]) Try.func95 rfl ((pre_nil hS).start) rfl ?_; unfold LA at hM; refine sr ?_; refine oa ?_; refine on ?_; refine sr ?_; refine om ?_; refine oe iM ?_; refine om ?_; refine aF rfl aL ?_; refine aF rfl nG ?_; refine oe dO ?_; refine oa ?_; refine on ?_; obtain rfl := some_inj hM; refine bn (bT (fun w hm => bQ hm rfl))
def V8 (kR : List Str) : Unit → Option (List Str) := fun _ =>
  some kR
def QF (l0 : Layout) (bI : ((List Str) × Nat) → Option (List Str)) : ((List Str) × Nat) → Option (List Str) := fun (kR, bN) =>
  if decide ((bN : Int) < (l0.Sections.length : Int)) then
    ((idx l0.Sections (bN : Int)).bind fun x4 =>
    bq (decide ((kR.length + ([x4.Name] : List Str).length) * 16 ≤ 140737488355328)) <|
    bq (bP ((bN : Int) + 1)) <|
    bI ((kR ++ ([x4.Name] : List Str)), bN + 1))
  else
    (V8 kR ())
def LJ (l0 : Layout) : Option (List Str) :=
  iter (QF l0) FUEL (([] : List Str), 0)
theorem V9 (S : bU) (w : World) (l0 : Layout) (aG : aj.R Layout) (y : (List Str)) (hM : LJ l0 = some y) (hS : sB S w) (fJ : aj.ok S w aG l0) :
    Calls Try.prog 80 #[.agg (kX l0 aG)] w (Post (β := (aj.R (List Str))) S [] (fun g => sL g y) (fun g => [ah 9 g y]) w) := by
 refine dH (args := [_]) Try.func80 rfl ((pre_nil hS).start |>.nX fJ) rfl ?_; unfold LJ at hM; refine sr ?_; refine aM (dU (l := (fq l0 aG)) (k := fun b1 => ?_)); refine oa ?_; refine on ?_; refine sr ?_; refine oa ?_; refine on ?_; refine aO fun K3 hK3 => ?_; refine sr ?_; refine oa ?_; refine on ?_; refine bX ?_; refine cK (fun w hm => hm.dL (α := Str) 9 (fun _ => ())) ?_; refine fM (γ := Nat × ((List Str) × Nat) × (SR (aj.R Str))) (env := fun (_, (kR, bN), rQ) => [(1, eP b1), (3, eS rQ kR), (4, eI (bN : Int))]) (mem := fun (_, (kR, bN), rQ) => [iL l0.aQ aG.1, iL l0.aR aG.2.1, iL l0.Sections aG.2.2.1, iL l0.Links aG.2.2.2, own b1 27 (fq l0 aG), ah 9 rQ kR]) (R := fun g => iter (QF l0) g.1 g.2.1 = some y) (μ := fun g => g.1) (FUEL, (([] : List Str), 0), (⟨none, 0, (fun _ => ())⟩ : SR (aj.R Str) )) hM ⟨rfl, rfl, rfl, trivial⟩ rI ?_
 clear hM; intro g hM jw hL1; obtain ⟨dx, ⟨kR, bN⟩, rQ⟩ := g; dsimp only at hM ⊢; obtain ⟨dx, bI, rfl, eH, hM⟩ := gG hM; dsimp only [QF] at hM; refine aO fun K5 dW => ?_; refine sr ?_; refine om ?_; refine oe (aH 2) ?_; refine oe (aN (b := b1)) ?_; refine oe bR ?_; refine oe dJ ?_; refine on ?_; refine cc rfl hM (fun hc3 hM => ?_) (fun hc3 hM => ?_)
 · refine bA (dW _ _ ?_); clear dW; refine aO fun K7 eZ => ?_; refine bX ?_; refine bE ?_; refine om ?_; refine oe (aH 2) ?_; refine oe (aN (b := b1)) ?_; refine om ?_; obtain ⟨x4, hx5, hM⟩ := bind_some hM; refine oe (bK (xs := l0.Sections) 5 (kG l0.Sections aG.2.2.1) (iS hx5)) ?_; refine oe (aH 0) ?_; refine oe (dn (i := (bN : Int)) (xs := l0.Sections) (y := x4) 0 (kG l0.Sections aG.2.2.1) (fun _ => hx5)) ?_; refine aM (gq (α := Str) 9 (fun _ => ()) ([x4.Name] : List Str) oF (fun r6 => ?_)); obtain ⟨Oa, hM⟩ := bC hM; refine aM (iQ (r := rQ) (r2 := r6) uR (Kn.ah (e := 9) (r := r6) hA) oF (of_decide_eq_true Oa) (fun r7 => ?_)); refine oa ?_; refine bF (eZ _ _ ?_); clear eZ; refine bE ?_; refine om ?_; obtain ⟨GR, hM⟩ := bC hM; refine oe (dh (hr := fun hg => bS GR)) ?_; refine oa ?_; refine bF (hL1 (dx, ((kR ++ ([x4.Name] : List Str)), bN + 1), r7) _ _ (eqc eH hM) (Nat.lt_succ_self _) ⟨rfl, rfl, rfl, trivial⟩ rI)
 refine fI (hK3 _ _ ?_); clear hK3; dsimp only [V8] at hM; refine sr ?_; refine om ?_; refine oa ?_; refine on ?_; obtain rfl := some_inj hM; refine bn (bT (fun w hm => fK rQ hm rfl))
end Go.Proofs.Ytcalibhfgdncaaa
