/- Models of functions, and that the code computes them. -/
import Derived.Test.YtcalibhfgdncaaaTypes
set_option linter.all false
namespace Go.Proofs.Ytcalibhfgdncaaa
open Go.Dc Go.RowKit
set_option maxRecDepth 10000
def jH (v0 : Int) (n0 : Int) : Option Int :=
  bq (decide ((IntKind.u64.wrap n0) ≠ 0)) <|
  some (IntKind.i64.wrap ((IntKind.u64.wrap v0).tmod (IntKind.u64.wrap n0)))
theorem jN (S : bU) (w : World) (v0 : Int) (n0 : Int) (y : Int) (hM : jH v0 n0 = some y) (hS : sB S w)  :
    Calls Try.prog 17 #[vI v0, vI n0] w (dQ w (vI y)) := by
 refine dH (args := [_, _]) Try.func17 rfl ((pre_nil hS).start) rfl ?_; unfold jH at hM; refine sr ?_; refine oa ?_; refine on ?_; refine sr ?_; refine om ?_; refine oe (z8 .u64) ?_; refine om ?_; refine oe (z8 .u64) ?_; obtain ⟨hI1, hM⟩ := bC hM; refine oe (xH (hq := fun hg => of_decide_eq_true hI1)) ?_; refine oe (z8 .i64) ?_; refine oa ?_; refine on ?_; obtain rfl := some_inj hM; refine bn (bT (fun w hm => bQ hm rfl))
def KI (l0 : List Int) : Option bW :=
  some (bW.mk l0 0)
theorem acg (S : bU) (w : World) (l0 : List Int) (aG : aj.R (List Int)) (y : bW) (hM : KI l0 = some y) (hS : sB S w) (fJ : aj.ok S w aG l0) :
    Calls Try.prog 10 #[sL aG l0] w (Post (β := Nat × (aj.R (List Int))) S [] (fun g => vP g.1) (fun g => [own g.1 85 (wI y g.2), iL y.l g.2]) w) := by
 refine dH (args := [_]) Try.func10 rfl ((pre_nil hS).start |>.gU (α := List Int) (r := aG) (x := l0) fJ) rfl ?_; unfold KI at hM; refine sr ?_; refine oa ?_; refine on ?_; refine sr ?_; refine om ?_; refine oe (fU [sL aG l0, vI 0]) ?_; refine aM (dU (l := [sL aG l0, vI 0]) (k := fun b1 => ?_)); refine oa ?_; refine on ?_; obtain rfl := some_inj hM; refine bn (bT (fun w hm => fK (b1, aG) hm rfl))
def jq (s0 : bW) (n0 : Int) : Option (Int × Int) :=
  if decide ((s0.l.length : Int) ≤ s0.i) then
    (some (0, s0.i))
  else
    (bq (bP (s0.i + 1)) <|
    bq (bP ((s0.i + 1) - 1)) <|
    (idx s0.l ((s0.i + 1) - 1)).bind fun x4 =>
    (jH x4 n0).bind fun y6 =>
    some (y6, (s0.i + 1)))
theorem gV (S : bU) (w : World) (dY : Nat) (s0 : bW) (bV : aj.R bW) (n0 : Int) (y : Int × Int) (hM : jq s0 n0 = some y) (hP : Pre S [own dY 85 (wI s0 bV)] w) (yT : aj.ok (α := List Int) S w bV s0.l) :
    Calls Try.prog 12 #[vP dY, vI n0] w (Post (β := Unit) S [own dY 85 (wI s0 bV)] (fun g => vI y.1) (fun g => [own dY 85 [sL bV s0.l, vI y.2]]) w) := by
 refine dH (args := [_, _]) Try.func12 rfl (hP.start |>.gU (α := List Int) (r := bV) (x := s0.l) yT) rfl ?_; unfold jq at hM; refine sr ?_; refine oa ?_; refine on ?_; refine aO fun K2 hK2 => ?_; refine aO fun K3 hK3 => ?_; refine jh _ (List.Sublist.refl _) ?_; refine aJ 0 rfl aL ?_; refine aJ 1 rfl fG ?_; refine aJ 2 rfl (aH 1) ?_; refine aJ 3 rfl (aN (b := dY)) ?_; refine aJ 4 rfl aL ?_; refine aJ 5 rfl fG ?_; refine aJ 6 rfl (aH 0) ?_; refine aJ 7 rfl (aN (b := dY)) ?_; refine aJ 8 rfl bR ?_; refine aJ 9 rfl iM ?_; refine eT (hK3 _ _ ?_); clear hK3; refine cc rfl hM (fun hc1 hM => ?_) (fun hc1 hM => ?_)
 · refine sr ?_; refine oa ?_; refine on ?_; obtain rfl := some_inj hM; refine bn (bT (fun w hm => fK () hm rfl))
 refine bA (hK2 _ _ ?_); clear hK2; refine sr ?_; refine om ?_; refine oe fG ?_; refine oe (aH 1) ?_; refine oe (aN (b := dY)) ?_; obtain ⟨hI2, hM⟩ := bC hM; refine oe (dh (hr := fun hg => bS hI2)) ?_; refine oe fG ?_; refine oe (aH 1) ?_; refine aM (gK (b := dY) (l' := [sL bV s0.l, vI (s0.i + 1)]) (k := ?_)); refine on ?_; refine aO fun K6 dM => ?_; refine jh _ (List.Sublist.refl _) ?_; refine aJ 0 rfl aL ?_; refine aJ 1 rfl fG ?_; refine aJ 2 rfl (aH 0) ?_; refine aJ 3 rfl (aN (b := dY)) ?_; refine aJ 4 rfl aL ?_; refine aJ 5 rfl fG ?_; refine aJ 6 rfl (aH 1) ?_; refine aJ 7 rfl (aN (b := dY)) ?_; obtain ⟨NI, hM⟩ := bC hM; refine aJ 8 rfl (iy (hr := fun hg => bS NI)) ?_; obtain ⟨x4, hx5, hM⟩ := bind_some hM; refine aJ 9 rfl (bK (xs := s0.l) 1 (kG s0.l bV) (iS hx5)) ?_; refine aJ 10 rfl (dn (i := ((s0.i + 1) - 1)) (xs := s0.l) (y := x4) 0 (kG s0.l bV) (fun _ => hx5)) ?_; refine aJ 11 rfl aL ?_; obtain ⟨y6, uD, hM⟩ := bind_some hM; refine bO 12 rfl (bJ (fun w hm => let ⟨S, hs⟩ := hm; jN _ w x4 n0 y6 uD (bB hs) ) ⟨rI, ?_⟩); refine aJ 13 rfl d9 ?_; refine eT (dM _ _ ?_); clear dM
 obtain rfl := some_inj hM; refine bn (bT (fun w hm => fK () hm rfl))
end Go.Proofs.Ytcalibhfgdncaaa
