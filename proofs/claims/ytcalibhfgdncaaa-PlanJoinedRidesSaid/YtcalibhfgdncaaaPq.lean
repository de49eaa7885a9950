/- Models of functions, and that the code computes them. -/
import Derived.Test.YtcalibhfgdncaaaRe
set_option linter.all false
namespace Go.Proofs.Ytcalibhfgdncaaa
open Go.Dc Go.RowKit
set_option maxRecDepth 10000
def Gr (s0 : av) : Option Bool :=
  some (((((((decide (1 ≤ s0.Length) && decide (s0.Length ≤ 40)) && decide (1000 ≤ s0.zU)) && decide (s0.zU ≤ 100000)) && decide (100 ≤ s0.zM)) && decide (s0.zM ≤ 2000)) && decide (100 ≤ s0.zO)) && decide (s0.zO ≤ 2000))
theorem Te (S : bU) (w : World) (s0 : av) (y : Bool) (hM : Gr s0 = some y) (hS : sB S w)  :
    Calls Try.prog 40 #[.agg (F9 s0)] w (dQ w (.bool y)) := by
 refine dH (args := [_]) Try.func40 rfl ((pre_nil hS).start) rfl ?_; unfold Gr at hM; refine sr ?_; refine aM (dU (l := (tJ s0)) (k := fun b1 => ?_)); refine oa ?_; refine on ?_; refine sr ?_; refine oe (aH 1) ?_; refine oe (aN (b := b1)) ?_; refine oe iM ?_; refine om ?_; refine aF rfl (aH 1) ?_; refine aF rfl (aN (b := b1)) ?_; refine aF rfl nG ?_; refine oe dO ?_; refine om ?_; refine aF rfl (aH 2) ?_; refine aF rfl (aN (b := b1)) ?_; refine aF rfl iM ?_; refine oe dO ?_; refine om ?_; refine aF rfl (aH 2) ?_; refine aF rfl (aN (b := b1)) ?_; refine aF rfl nG ?_; refine oe dO ?_; refine om ?_; refine aF rfl (aH 3) ?_; refine aF rfl (aN (b := b1)) ?_; refine aF rfl iM ?_; refine oe dO ?_; refine om ?_; refine aF rfl (aH 3) ?_; refine aF rfl (aN (b := b1)) ?_; refine aF rfl nG ?_; refine oe dO ?_; refine om ?_; refine aF rfl (aH 4) ?_; refine aF rfl (aN (b := b1)) ?_; refine aF rfl iM ?_; refine oe dO ?_; refine om ?_; refine aF rfl (aH 4) ?_; refine aF rfl (aN (b := b1)) ?_
 refine aF rfl nG ?_; refine oe dO ?_; refine oa ?_; refine on ?_; obtain rfl := some_inj hM; refine bn (bT (fun w hm => bQ hm rfl))
def Gm (r0 : aI) : Option (List Step) :=
  bq (bP ((r0.Steps.length : Int) - r0.Overlap)) <|
  (sub r0.Steps 0 ((r0.Steps.length : Int) - r0.Overlap)).bind fun l3 =>
  some l3
theorem Yd (S : bU) (w : World) (r0 : aI) (dX : aj.R aI) (y : (List Step)) (hM : Gm r0 = some y) (hS : sB S w) (sj : aj.ok S w dX r0) :
    Calls Try.prog 86 #[.agg (sM r0 dX)] w (Post (β := (aj.R (List Step))) S [] (fun g => sL g y) (fun g => [iL y g]) w) := by
 refine dH (args := [_]) Try.func86 rfl ((pre_nil hS).start |>.gU (α := List Step) (r := dX) (x := r0.Steps) sj) rfl ?_; unfold Gm at hM; refine sr ?_; refine aM (dU (l := (mY r0 dX)) (k := fun b1 => ?_)); refine oa ?_; refine on ?_; refine sr ?_; refine oe (aH 0) ?_; refine oe (aN (b := b1)) ?_; refine oe (aH 0) ?_; refine oe (aN (b := b1)) ?_; refine oe bR ?_; refine oe (aH 1) ?_; refine oe (aN (b := b1)) ?_; obtain ⟨hI2, hM⟩ := bC hM; refine oe (iy (hr := fun hg => bS hI2)) ?_; obtain ⟨l3, hl4, hM⟩ := bind_some hM; refine aM (Dh (r := dX) (xs := r0.Steps) (ol := none) (oh := some (.i64, ((r0.Steps.length : Int) - r0.Overlap))) (Sk.eB (α := List Step) (r := dX) (x := r0.Steps) hA) hl4 (fun r5 => ?_)); refine oa ?_; refine on ?_; obtain rfl := some_inj hM; refine bn (bT (fun w hm => fK r5 hm rfl))
def SN (y5 : (List Cell) × Int × Int) : Unit → Option (qb × Int) := fun _ =>
  some ((qb.mk y5.1 y5.2.1), 0)
def DC (bZ : (List Step)) (l0 : Layout) (s0 : av) (y5 : (List Cell) × Int × Int) (bI : Nat → Option (qb × Int)) : Nat → Option (qb × Int) := fun zy =>
  if decide ((zy : Int) < (bZ.length : Int)) then
    ((idx bZ (zy : Int)).bind fun x20 =>
    (idx l0.Sections x20.Section).bind fun x23 =>
    if decide (x23.Length < (if s0.Length > 2 then s0.Length else 2)) then
      (some ((qb.mk ([] : List Cell) 0), 12))
    else
      (bI (zy + 1)))
  else
    (SN y5 ())
def J4 (l0 : Layout) (r0 : aI) (s0 : av) : Option (qb × Int) :=
  (Je l0 r0).bind fun y5 =>
  if decide (y5.2.2 ≠ 0) then
    (some ((qb.mk ([] : List Cell) 0), y5.2.2))
  else
    ((Gr s0).bind fun jk =>
    if (!jk) then
      (some ((qb.mk ([] : List Cell) 0), 1))
    else
      ((Gm r0).bind fun bZ =>
      iter (DC bZ l0 s0 y5) FUEL 0))
theorem Yc (S : bU) (w : World) (l0 : Layout) (aG : aj.R Layout) (r0 : aI) (dX : aj.R aI) (s0 : av) (y : qb × Int) (hM : J4 l0 r0 s0 = some y) (hS : sB S w) (fJ : aj.ok S w aG l0) (sj : aj.ok S w dX r0) :
    Calls Try.prog 75 #[.agg (kX l0 aG), .agg (sM r0 dX), .agg (F9 s0)] w (Post (β := (aj.R qb)) S [] (fun g => .tuple #[.agg (MV y.1 g), vI y.2]) (fun g => [ah 172 g y.1.cells]) w) := by
 refine dH (args := [_, _, _]) Try.func75 rfl ((pre_nil hS).start |>.nX fJ|>.gU (α := List Step) (r := dX) (x := r0.Steps) sj) rfl ?_; unfold J4 at hM; refine sr ?_; refine aM (dU (l := (fq l0 aG)) (k := fun b1 => ?_)); refine aM (dU (l := (mY r0 dX)) (k := fun b2 => ?_)); refine aM (dU (l := (tJ s0)) (k := fun b3 => ?_)); refine aM (cO rfl (k := fun b4 => ?_)); refine oa ?_; refine on ?_; refine sr ?_; refine oe (cu (b := b1)) ?_; refine oe (cu (b := b2)) ?_; obtain ⟨y5, yY, hM⟩ := bind_some hM; refine aM (fD jF.nil (fun S w hs hP => adG _ w l0 aG r0 dX y5 yY (bB hs) ⟨(kM hs), (kM hs), (kM hs), (kM hs)⟩ (kM hs)) fC (fun r7 => ?_)); dsimp only [List.cons_append, List.nil_append]; refine om ?_
 refine oe (jA (vs := [sL r7 y5.1, vI y5.2.1, vI y5.2.2])) ?_; refine oe (jA (vs := [sL r7 y5.1, vI y5.2.1, vI y5.2.2])) ?_; refine oe (jA (vs := [sL r7 y5.1, vI y5.2.1, vI y5.2.2])) ?_; refine oa ?_; refine oa ?_; refine oa ?_; refine on ?_; refine aO fun K3 hK3 => ?_; refine sr ?_; refine om ?_; refine oe jo ?_; refine on ?_; refine cc rfl hM (fun hc8 hM => ?_) (fun hc8 hM => ?_)
 · refine sr ?_; refine oe (fU [.slice none 0 0, vI 0]) ?_; refine om ?_; refine aM (bY (b := b4) (vs := [.slice none 0 0, vI 0]) (k := ?_)); refine oa ?_; refine on ?_; refine cK (fun w hm => hm.dL (α := Cell) 172 (fun _ => ())) ?_; obtain rfl := some_inj hM; refine bn (lF (fun w hm => fK (⟨none, 0, (fun _ => ())⟩ : SR (aj.R Cell) ) hm rfl))
 refine bA (hK3 _ _ ?_); clear hK3; refine aO fun K6 dM => ?_; refine sr ?_; refine oe (cu (b := b3)) ?_; obtain ⟨jk, uq, hM⟩ := bind_some hM; refine aM (bJ (fun w hm => let ⟨S, hs⟩ := hm; Te _ w s0 jk uq (bB hs) ) ?_); refine oe gB ?_; refine on ?_; refine cc rfl hM (fun xK hM => ?_) (fun xK hM => ?_)
 · refine sr ?_; refine oe (fU [.slice none 0 0, vI 0]) ?_; refine aM (bY (b := b4) (vs := [.slice none 0 0, vI 0]) (k := ?_)); refine oa ?_; refine on ?_; refine cK (fun w hm => hm.dL (α := Cell) 172 (fun _ => ())) ?_; obtain rfl := some_inj hM; refine bn (lF (fun w hm => fK (⟨none, 0, (fun _ => ())⟩ : SR (aj.R Cell)  ) hm rfl))
 refine bA (dM _ _ ?_); clear dM; refine aO fun K9 gJ => ?_; refine sr ?_; refine oe (cu (b := b2)) ?_; obtain ⟨bZ, pQ, hM⟩ := bind_some hM; refine aM (qB jF.nil (fun S w hs hP => Yd _ w r0 dX bZ pQ hs.lt (kI hs))  (fun r16 => ?_)); dsimp only [List.cons_append, List.nil_append]; refine mZ (fun w hm => Kn.len (kG bZ r16) hm) fun aeW => ?_; refine oe bR ?_; refine om ?_; refine on ?_; refine bX ?_; refine cK (fun w hm => hm.dL (α := Cell) 172 (fun _ => ())) ?_; refine fM (γ := Nat × Nat × Unit) (env := fun (_, zy, _) => [(3, eP b1), (5, eP b3), (6, eP b4), (8, eS r7 y5.1), (9, eI y5.2.1), (29, eS r16 bZ), (30, eI (bZ.length : Int)), (31, eI (zy : Int))]) (mem := fun (_, zy, _) => [iL l0.aQ aG.1, iL l0.aR aG.2.1, iL l0.Sections aG.2.2.1, iL l0.Links aG.2.2.2, own b1 27 (fq l0 aG), own b3 56 (tJ s0), ah 172 (⟨none, 0, (fun _ => ())⟩ : SR (aj.R Cell)   ) ([] : List Cell), own b4 148 [.slice (⟨none, 0, (fun _ => ())⟩ : SR (aj.R Cell)   ).a (([] : List Cell).length) (⟨none, 0, (fun _ => ())⟩ : SR (aj.R Cell)   ).cap, vI 0], ah 172 r7 y5.1, iL bZ r16]) (R := fun g => iter (DC bZ l0 s0 y5) g.1 g.2.1 = some y) (μ := fun g => g.1) (FUEL, 0, ()) hM ⟨rfl, rfl, rfl, rfl, rfl, rfl, rfl, rfl, trivial⟩ rI ?_
 clear hM; intro g hM jw hL1; obtain ⟨dx, zy, ⟨⟩⟩ := g; dsimp only at hM ⊢; obtain ⟨dx, bI, rfl, eH, hM⟩ := gG hM; dsimp only [DC] at hM; refine sr ?_; refine oe dJ ?_; refine on ?_; refine aO fun yH lK => ?_; refine cc rfl hM (fun hc19 hM => ?_) (fun hc19 hM => ?_)
 · have aeK := of_decide_eq_true hc19; refine bA (lK _ _ ?_); clear lK; refine aO fun zP mM => ?_; refine bX ?_; refine sr ?_; obtain ⟨x20, yX, hM⟩ := bind_some hM; refine oe (bK (xs := bZ) 2 (kG bZ r16) (iS yX)) ?_; refine oe (jm (m := 2) (i := (zy : Int)) (xs := bZ) (y := x20) (l := (qW x20)) 0 (kG bZ r16) (fun _ => yX)) ?_; refine aM (cO rfl (k := fun Sb => ?_)); refine aM (bY (b := Sb) (vs := (qW x20)) (k := ?_)); refine on ?_; refine aO fun yJ lN => ?_; refine jh _ (List.Sublist.refl _) ?_; refine aJ 0 rfl (aH 2) ?_; refine aJ 1 rfl (aN (b := b1)) ?_; refine aJ 2 rfl (aH 0) ?_; refine aJ 3 rfl (aN (b := Sb)) ?_; obtain ⟨x23, hx24, hM⟩ := bind_some hM; refine aJ 4 rfl (bK (xs := l0.Sections) 5 (kG l0.Sections aG.2.2.1) (iS hx24)) ?_; refine aJ 5 rfl (aH 1) ?_; refine aJ 6 rfl (dn (i := x20.Section) (xs := l0.Sections) (y := x23) 1 (kG l0.Sections aG.2.2.1) (fun _ => hx24)) ?_; refine aJ 7 rfl (aH 1) ?_; refine aJ 8 rfl (aN (b := b3)) ?_; refine aJ 9 rfl Tk ?_; refine aJ 10 rfl dJ ?_; refine eT (lN _ _ ?_); clear lN
   refine cc rfl hM (fun hc25 hM => ?_) (fun hc25 hM => ?_)
   · refine sr ?_; refine oe (fU [.slice none 0 0, vI 0]) ?_; refine aM (bY (b := b4) (vs := [.slice none 0 0, vI 0]) (k := ?_)); refine oa ?_; refine on ?_; refine cK (fun w hm => hm.dL (α := Cell) 172 (fun _ => ())) ?_; obtain rfl := some_inj hM; refine bn (lF (fun w hm => fK (⟨none, 0, (fun _ => ())⟩ : SR (aj.R Cell)        ) hm rfl))
   refine bA (mM _ _ ?_); clear mM; refine bE ?_; refine oe (dh (hr := fun _ => by unfold gy; omega)) ?_; refine om ?_; refine bF (hL1 (dx, (zy + 1), ()) _ _ (eqc eH hM) (Nat.lt_succ_self _) ⟨rfl, rfl, rfl, rfl, rfl, rfl, rfl, rfl, trivial⟩ rI)
 refine fI (gJ _ _ ?_); clear gJ; dsimp only [SN] at hM; refine sr ?_; refine om ?_; refine om ?_; refine oe (fU [sL r7 y5.1, vI y5.2.1]) ?_; refine aM (bY (b := b4) (vs := [sL r7 y5.1, vI y5.2.1]) (k := ?_)); refine oa ?_; refine on ?_; obtain rfl := some_inj hM; refine bn (lF (fun w hm => fK r7 hm rfl))
def Gl (l0 : Layout) (r0 : aI) (s0 : av) : Option Int :=
  (J4 l0 r0 s0).bind fun y4 =>
  some y4.2
theorem Yb (S : bU) (w : World) (l0 : Layout) (aG : aj.R Layout) (r0 : aI) (dX : aj.R aI) (s0 : av) (y : Int) (hM : Gl l0 r0 s0 = some y) (hS : sB S w) (fJ : aj.ok S w aG l0) (sj : aj.ok S w dX r0) :
    Calls Try.prog 63 #[.agg (kX l0 aG), .agg (sM r0 dX), .agg (F9 s0)] w (dQ w (vI y)) := by
 refine dH (args := [_, _, _]) Try.func63 rfl ((pre_nil hS).start |>.nX fJ|>.gU (α := List Step) (r := dX) (x := r0.Steps) sj) rfl ?_; unfold Gl at hM; refine sr ?_; refine aM (dU (l := (fq l0 aG)) (k := fun b1 => ?_)); refine aM (dU (l := (mY r0 dX)) (k := fun b2 => ?_)); refine aM (dU (l := (tJ s0)) (k := fun b3 => ?_)); refine oa ?_; refine on ?_; refine sr ?_; refine oe (cu (b := b1)) ?_; refine oe (cu (b := b2)) ?_; refine oe (cu (b := b3)) ?_; obtain ⟨y4, hy5, hM⟩ := bind_some hM; refine aM (fD jF.nil (fun S w hs hP => Yc _ w l0 aG r0 dX s0 y4 hy5 (bB hs) ⟨(kM hs), (kM hs), (kM hs), (kM hs)⟩ (kM hs)) fC (fun r6 => ?_)); dsimp only [List.cons_append, List.nil_append]; refine om ?_
 refine oe (jA (vs := [.agg (MV y4.1 r6), vI y4.2])) ?_; refine oe (jA (vs := [.agg (MV y4.1 r6), vI y4.2])) ?_; refine aM (cO rfl (k := fun b7 => ?_)); refine aM (bY (b := b7) (vs := (Va y4.1 r6)) (k := ?_)); refine oa ?_; refine on ?_; refine sr ?_; refine om ?_; refine oa ?_; refine on ?_; obtain rfl := some_inj hM; refine bn (bT (fun w hm => bQ hm rfl))
end Go.Proofs.Ytcalibhfgdncaaa
