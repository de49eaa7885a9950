/- Models of functions, and that the code computes them. -/
import Derived.Test.YtcalibhfgdncaaaGreatDoorTypes
set_option linter.all false
namespace Go.Proofs.YtcalibhfgdncaaaGreatDoor
open Go.Dc Go.RowKit
set_option maxRecDepth 10000
def J6 (c0 : Int) : Option Bool :=
  some (decide (48 ≤ c0) && decide (c0 ≤ 57))
theorem Y3 (S : bD) (w : World) (c0 : Int) (y : Bool) (hM : J6 c0 = some y) (hS : sB S w)  :
    Calls Tryz.prog 166 #[.int .u8 c0] w (bW w (.bool y)) := by
 refine bR (args := [_]) Tryz.func166 rfl ((pre_nil hS).start) rfl ?_; unfold J6 at hM; refine sr ?_; refine oa ?_; refine on ?_; refine sr ?_; refine om ?_; refine oe gW ?_; refine om ?_; refine av rfl aG ?_; refine av rfl kr ?_; refine oe cO ?_; refine oa ?_; refine on ?_; obtain rfl := some_inj hM; refine aL (aZ (fun w hm => aW hm rfl))
def Sg (jO : List Str) : Unit → Option (List Str) := fun _ =>
  some jO
def Fv (l0 : Layout) (aQ : ((List Str) × Nat) → Option (List Str)) : ((List Str) × Nat) → Option (List Str) := fun (jO, aK) =>
  if decide ((aK : Int) < (l0.Sections.length : Int)) then
    ((idx l0.Sections (aK : Int)).bind fun x4 =>
    bM (decide ((jO.length + ([x4.Name] : List Str).length) * 16 ≤ 140737488355328)) <|
    bM (bP ((aK : Int) + 1)) <|
    aQ ((jO ++ ([x4.Name] : List Str)), aK + 1))
  else
    (Sg jO ())
def Fw (l0 : Layout) : Option (List Str) :=
  iter (Fv l0) FUEL (([] : List Str), 0)
theorem Y9 (S : bD) (w : World) (l0 : Layout) (aj : ak.R Layout) (y : (List Str)) (hM : Fw l0 = some y) (hS : sB S w) (dH : ak.ok S w aj l0) :
    Calls Tryz.prog 52 #[.agg (iy l0 aj)] w (Post (β := (ak.R (List Str))) S [] (fun g => sL g y) (fun g => [aO 9 g y]) w) := by
 refine bR (args := [_]) Tryz.func52 rfl ((pre_nil hS).start |>.jw dH) rfl ?_; unfold Fw at hM; refine sr ?_; refine aF (bU (l := (bK l0 aj)) (k := fun b1 => ?_)); refine oa ?_; refine on ?_; refine sr ?_; refine oa ?_; refine on ?_; refine aD fun K3 hK3 => ?_; refine sr ?_; refine oa ?_; refine on ?_; refine bf ?_; refine fZ (fun w hm => hm.fF (α := Str) 9 (fun _ => ())) ?_; refine dF (γ := Nat × ((List Str) × Nat) × (SR (ak.R Str))) (env := fun (_, (jO, aK), qd) => [(1, eP b1), (3, eS qd jO), (4, eI (aK : Int))]) (mem := fun (_, (jO, aK), qd) => [iL l0.aX aj.1, iL l0.bF aj.2.1, iL l0.Sections aj.2.2.1, iL l0.Links aj.2.2.2, own b1 26 (bK l0 aj), aO 9 qd jO]) (R := fun g => iter (Fv l0) g.1 g.2.1 = some y) (μ := fun g => g.1) (FUEL, (([] : List Str), 0), (⟨none, 0, (fun _ => ())⟩ : SR (ak.R Str) )) hM ⟨rfl, rfl, rfl, trivial⟩ rI ?_
 clear hM; intro g hM gy hL1; obtain ⟨bJ, ⟨jO, aK⟩, qd⟩ := g; dsimp only at hM ⊢; obtain ⟨bJ, aQ, rfl, dz, hM⟩ := dL hM; dsimp only [Fv] at hM; refine aD fun K5 cu => ?_; refine sr ?_; refine om ?_; refine oe (ay 2) ?_; refine oe (aC (b := b1)) ?_; refine oe bE ?_; refine oe bN ?_; refine on ?_; refine cc rfl hM (fun hc3 hM => ?_) (fun hc3 hM => ?_)
 · refine aM (cu _ _ ?_); clear cu; refine aD fun K7 dI => ?_; refine bf ?_; refine aR ?_; refine om ?_; refine oe (ay 2) ?_; refine oe (aC (b := b1)) ?_; refine om ?_; obtain ⟨x4, hx5, hM⟩ := bind_some hM; refine oe (bA (xs := l0.Sections) 5 (kG l0.Sections aj.2.2.1) (iS hx5)) ?_; refine oe (ay 0) ?_; refine oe (cZ (i := (aK : Int)) (xs := l0.Sections) (y := x4) 0 (kG l0.Sections aj.2.2.1) (fun _ => hx5)) ?_; refine aF (kE (α := Str) 9 (fun _ => ()) ([x4.Name] : List Str) oF (fun r6 => ?_)); obtain ⟨Qg, hM⟩ := bO hM; refine aF (ow (r := qd) (r2 := r6) uR (Kn.aO (e := 9) (r := r6) hA) oF (of_decide_eq_true Qg) (fun r7 => ?_)); refine oa ?_; refine aU (dI _ _ ?_); clear dI; refine aR ?_; refine om ?_; obtain ⟨PZ, hM⟩ := bO hM; refine oe (dh (hr := fun hg => dn PZ)) ?_; refine oa ?_; refine aU (hL1 (bJ, ((jO ++ ([x4.Name] : List Str)), aK + 1), r7) _ _ (eqc dz hM) (Nat.lt_succ_self _) ⟨rfl, rfl, rfl, trivial⟩ rI)
 refine dD (hK3 _ _ ?_); clear hK3; dsimp only [Sg] at hM; refine sr ?_; refine om ?_; refine oa ?_; refine on ?_; obtain rfl := some_inj hM; refine aL (aZ (fun w hm => fO qd hm rfl))
end Go.Proofs.YtcalibhfgdncaaaGreatDoor
