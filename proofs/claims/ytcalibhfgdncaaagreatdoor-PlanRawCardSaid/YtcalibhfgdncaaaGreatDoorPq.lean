/- Models of functions, and that the code computes them. -/
import Derived.Test.YtcalibhfgdncaaaGreatDoorRe
set_option linter.all false
namespace Go.Proofs.YtcalibhfgdncaaaGreatDoor
open Go.Dc Go.RowKit
set_option maxRecDepth 10000
def Ie (s0 : bL) : Option Bool :=
  some (((((((decide (1 ≤ s0.Length) && decide (s0.Length ≤ 40)) && decide (1000 ≤ s0.lI)) && decide (s0.lI ≤ 100000)) && decide (100 ≤ s0.lF)) && decide (s0.lF ≤ 2000)) && decide (100 ≤ s0.lG)) && decide (s0.lG ≤ 2000))
theorem Vm (S : bD) (w : World) (s0 : bL) (y : Bool) (hM : Ie s0 = some y) (hS : sB S w)  :
    Calls Tryz.prog 81 #[.agg (Bb s0)] w (bW w (.bool y)) := by
 refine bR (args := [_]) Tryz.func81 rfl ((pre_nil hS).start) rfl ?_; unfold Ie at hM; refine sr ?_; refine aF (bU (l := (mg s0)) (k := fun b1 => ?_)); refine oa ?_; refine on ?_; refine sr ?_; refine oe (ay 1) ?_; refine oe (aC (b := b1)) ?_; refine oe gW ?_; refine om ?_; refine av rfl (ay 1) ?_; refine av rfl (aC (b := b1)) ?_; refine av rfl kr ?_; refine oe cO ?_; refine om ?_; refine av rfl (ay 2) ?_; refine av rfl (aC (b := b1)) ?_; refine av rfl gW ?_; refine oe cO ?_; refine om ?_; refine av rfl (ay 2) ?_; refine av rfl (aC (b := b1)) ?_; refine av rfl kr ?_; refine oe cO ?_; refine om ?_; refine av rfl (ay 3) ?_; refine av rfl (aC (b := b1)) ?_; refine av rfl gW ?_; refine oe cO ?_; refine om ?_; refine av rfl (ay 3) ?_; refine av rfl (aC (b := b1)) ?_; refine av rfl kr ?_; refine oe cO ?_; refine om ?_; refine av rfl (ay 4) ?_; refine av rfl (aC (b := b1)) ?_; refine av rfl gW ?_; refine oe cO ?_; refine om ?_; refine av rfl (ay 4) ?_; refine av rfl (aC (b := b1)) ?_
 refine av rfl kr ?_; refine oe cO ?_; refine oa ?_; refine on ?_; obtain rfl := some_inj hM; refine aL (aZ (fun w hm => aW hm rfl))
def H7 (r0 : aV) : Option (List Step) :=
  bM (bP ((r0.Steps.length : Int) - r0.Overlap)) <|
  (sub r0.Steps 0 ((r0.Steps.length : Int) - r0.Overlap)).bind fun l3 =>
  some l3
theorem aaE (S : bD) (w : World) (r0 : aV) (bC : ak.R aV) (y : (List Step)) (hM : H7 r0 = some y) (hS : sB S w) (kZ : ak.ok S w bC r0) :
    Calls Tryz.prog 194 #[.agg (qM r0 bC)] w (Post (β := (ak.R (List Step))) S [] (fun g => sL g y) (fun g => [iL y g]) w) := by
 refine bR (args := [_]) Tryz.func194 rfl ((pre_nil hS).start |>.gQ (α := List Step) (r := bC) (x := r0.Steps) kZ) rfl ?_; unfold H7 at hM; refine sr ?_; refine aF (bU (l := (gJ r0 bC)) (k := fun b1 => ?_)); refine oa ?_; refine on ?_; refine sr ?_; refine oe (ay 0) ?_; refine oe (aC (b := b1)) ?_; refine oe (ay 0) ?_; refine oe (aC (b := b1)) ?_; refine oe bE ?_; refine oe (ay 1) ?_; refine oe (aC (b := b1)) ?_; obtain ⟨hI2, hM⟩ := bO hM; refine oe (jo (hr := fun hg => dn hI2)) ?_; obtain ⟨l3, hl4, hM⟩ := bind_some hM; refine aF (Gs (r := bC) (xs := r0.Steps) (ol := none) (oh := some (.i64, ((r0.Steps.length : Int) - r0.Overlap))) (Sk.dJ (α := List Step) (r := bC) (x := r0.Steps) hA) hl4 (fun r5 => ?_)); refine oa ?_; refine on ?_; obtain rfl := some_inj hM; refine aL (aZ (fun w hm => fO r5 hm rfl))
def U6 (y5 : (List Cell) × Int × Int) : Unit → Option (nT × Int) := fun _ =>
  some ((nT.mk y5.1 y5.2.1), 0)
def Dj (bV : (List Step)) (l0 : Layout) (s0 : bL) (y5 : (List Cell) × Int × Int) (aQ : Nat → Option (nT × Int)) : Nat → Option (nT × Int) := fun yU =>
  if decide ((yU : Int) < (bV.length : Int)) then
    ((idx bV (yU : Int)).bind fun x20 =>
    (idx l0.Sections x20.Section).bind fun x23 =>
    if decide (x23.Length < (if s0.Length > 2 then s0.Length else 2)) then
      (some ((nT.mk ([] : List Cell) 0), 12))
    else
      (aQ (yU + 1)))
  else
    (U6 y5 ())
def Mc (l0 : Layout) (r0 : aV) (s0 : bL) : Option (nT × Int) :=
  (KE l0 r0).bind fun y5 =>
  if decide (y5.2.2 ≠ 0) then
    (some ((nT.mk ([] : List Cell) 0), y5.2.2))
  else
    ((Ie s0).bind fun iZ =>
    if (!iZ) then
      (some ((nT.mk ([] : List Cell) 0), 1))
    else
      ((H7 r0).bind fun bV =>
      iter (Dj bV l0 s0 y5) FUEL 0))
theorem aaD (S : bD) (w : World) (l0 : Layout) (aj : ak.R Layout) (r0 : aV) (bC : ak.R aV) (s0 : bL) (y : nT × Int) (hM : Mc l0 r0 s0 = some y) (hS : sB S w) (dH : ak.ok S w aj l0) (kZ : ak.ok S w bC r0) :
    Calls Tryz.prog 176 #[.agg (iy l0 aj), .agg (qM r0 bC), .agg (Bb s0)] w (Post (β := (ak.R nT)) S [] (fun g => .tuple #[.agg (OL y.1 g), vI y.2]) (fun g => [aO 254 g y.1.cells]) w) := by
 refine bR (args := [_, _, _]) Tryz.func176 rfl ((pre_nil hS).start |>.jw dH|>.gQ (α := List Step) (r := bC) (x := r0.Steps) kZ) rfl ?_; unfold Mc at hM; refine sr ?_; refine aF (bU (l := (bK l0 aj)) (k := fun b1 => ?_)); refine aF (bU (l := (gJ r0 bC)) (k := fun b2 => ?_)); refine aF (bU (l := (mg s0)) (k := fun b3 => ?_)); refine aF (bQ rfl (k := fun b4 => ?_)); refine oa ?_; refine on ?_; refine sr ?_; refine oe (bH (b := b1)) ?_; refine oe (bH (b := b2)) ?_; obtain ⟨y5, mQ, hM⟩ := bind_some hM; refine aF (mK iQ.nil (fun S w hs hP => agX _ w l0 aj r0 bC y5 mQ (aT hs) ⟨(kM hs), (kM hs), (kM hs), (kM hs)⟩ (kM hs)) pJ (fun r7 => ?_)); dsimp only [List.cons_append, List.nil_append]; refine om ?_
 refine oe (gF (vs := [sL r7 y5.1, vI y5.2.1, vI y5.2.2])) ?_; refine oe (gF (vs := [sL r7 y5.1, vI y5.2.1, vI y5.2.2])) ?_; refine oe (gF (vs := [sL r7 y5.1, vI y5.2.1, vI y5.2.2])) ?_; refine oa ?_; refine oa ?_; refine oa ?_; refine on ?_; refine aD fun K3 hK3 => ?_; refine sr ?_; refine om ?_; refine oe fB ?_; refine on ?_; refine cc rfl hM (fun hc8 hM => ?_) (fun hc8 hM => ?_)
 · refine sr ?_; refine oe (jE [.slice none 0 0, vI 0]) ?_; refine om ?_; refine aF (bI (b := b4) (vs := [.slice none 0 0, vI 0]) (k := ?_)); refine oa ?_; refine on ?_; refine fZ (fun w hm => hm.fF (α := Cell) 254 (fun _ => ())) ?_; obtain rfl := some_inj hM; refine aL (jQ (fun w hm => fO (⟨none, 0, (fun _ => ())⟩ : SR (ak.R Cell) ) hm rfl))
 refine aM (hK3 _ _ ?_); clear hK3; refine aD fun K6 cK => ?_; refine sr ?_; refine oe (bH (b := b3)) ?_; obtain ⟨iZ, qz, hM⟩ := bind_some hM; refine aF (bg (fun w hm => let ⟨S, hs⟩ := hm; Vm _ w s0 iZ qz (aT hs) ) ?_); refine oe dN ?_; refine on ?_; refine cc rfl hM (fun lK hM => ?_) (fun lK hM => ?_)
 · refine sr ?_; refine oe (jE [.slice none 0 0, vI 0]) ?_; refine aF (bI (b := b4) (vs := [.slice none 0 0, vI 0]) (k := ?_)); refine oa ?_; refine on ?_; refine fZ (fun w hm => hm.fF (α := Cell) 254 (fun _ => ())) ?_; obtain rfl := some_inj hM; refine aL (jQ (fun w hm => fO (⟨none, 0, (fun _ => ())⟩ : SR (ak.R Cell)  ) hm rfl))
 refine aM (cK _ _ ?_); clear cK; refine aD fun K9 eZ => ?_; refine sr ?_; refine oe (bH (b := b2)) ?_; obtain ⟨bV, oO, hM⟩ := bind_some hM; refine aF (qg iQ.nil (fun S w hs hP => aaE _ w r0 bC bV oO hs.lt (kI hs))  (fun r16 => ?_)); dsimp only [List.cons_append, List.nil_append]; refine jS (fun w hm => Kn.len (kG bV r16) hm) fun aiq => ?_; refine oe bE ?_; refine om ?_; refine on ?_; refine bf ?_; refine fZ (fun w hm => hm.fF (α := Cell) 254 (fun _ => ())) ?_; refine dF (γ := Nat × Nat × Unit) (env := fun (_, yU, _) => [(3, eP b1), (5, eP b3), (6, eP b4), (8, eS r7 y5.1), (9, eI y5.2.1), (29, eS r16 bV), (30, eI (bV.length : Int)), (31, eI (yU : Int))]) (mem := fun (_, yU, _) => [iL l0.aX aj.1, iL l0.bF aj.2.1, iL l0.Sections aj.2.2.1, iL l0.Links aj.2.2.2, own b1 26 (bK l0 aj), own b3 71 (mg s0), aO 254 (⟨none, 0, (fun _ => ())⟩ : SR (ak.R Cell)   ) ([] : List Cell), own b4 238 [.slice (⟨none, 0, (fun _ => ())⟩ : SR (ak.R Cell)   ).a (([] : List Cell).length) (⟨none, 0, (fun _ => ())⟩ : SR (ak.R Cell)   ).cap, vI 0], aO 254 r7 y5.1, iL bV r16]) (R := fun g => iter (Dj bV l0 s0 y5) g.1 g.2.1 = some y) (μ := fun g => g.1) (FUEL, 0, ()) hM ⟨rfl, rfl, rfl, rfl, rfl, rfl, rfl, rfl, trivial⟩ rI ?_
 clear hM; intro g hM gy hL1; obtain ⟨bJ, yU, ⟨⟩⟩ := g; dsimp only at hM ⊢; obtain ⟨bJ, aQ, rfl, dz, hM⟩ := dL hM; dsimp only [Dj] at hM; refine sr ?_; refine oe bN ?_; refine on ?_; refine aD fun uq iU => ?_; refine cc rfl hM (fun hc19 hM => ?_) (fun hc19 hM => ?_)
 · have ah8 := of_decide_eq_true hc19; refine aM (iU _ _ ?_); clear iU; refine aD fun uM jr => ?_; refine bf ?_; refine sr ?_; obtain ⟨x20, DK, hM⟩ := bind_some hM; refine oe (bA (xs := bV) 2 (kG bV r16) (iS DK)) ?_; refine oe (dU (m := 2) (i := (yU : Int)) (xs := bV) (y := x20) (l := (kK x20)) 0 (kG bV r16) (fun _ => DK)) ?_; refine aF (bQ rfl (k := fun UH => ?_)); refine aF (bI (b := UH) (vs := (kK x20)) (k := ?_)); refine on ?_; refine aD fun wh jN => ?_; refine fA _ (List.Sublist.refl _) ?_; refine au 0 rfl (ay 2) ?_; refine au 1 rfl (aC (b := b1)) ?_; refine au 2 rfl (ay 0) ?_; refine au 3 rfl (aC (b := UH)) ?_; obtain ⟨x23, hx24, hM⟩ := bind_some hM; refine au 4 rfl (bA (xs := l0.Sections) 5 (kG l0.Sections aj.2.2.1) (iS hx24)) ?_; refine au 5 rfl (ay 1) ?_; refine au 6 rfl (cZ (i := x20.Section) (xs := l0.Sections) (y := x23) 1 (kG l0.Sections aj.2.2.1) (fun _ => hx24)) ?_; refine au 7 rfl (ay 1) ?_; refine au 8 rfl (aC (b := b3)) ?_; refine au 9 rfl Vq ?_; refine au 10 rfl bN ?_; refine dG (jN _ _ ?_); clear jN
   refine cc rfl hM (fun hc25 hM => ?_) (fun hc25 hM => ?_)
   · refine sr ?_; refine oe (jE [.slice none 0 0, vI 0]) ?_; refine aF (bI (b := b4) (vs := [.slice none 0 0, vI 0]) (k := ?_)); refine oa ?_; refine on ?_; refine fZ (fun w hm => hm.fF (α := Cell) 254 (fun _ => ())) ?_; obtain rfl := some_inj hM; refine aL (jQ (fun w hm => fO (⟨none, 0, (fun _ => ())⟩ : SR (ak.R Cell)        ) hm rfl))
   refine aM (jr _ _ ?_); clear jr; refine aR ?_; refine oe (dh (hr := fun _ => by unfold eB; omega)) ?_; refine om ?_; refine aU (hL1 (bJ, (yU + 1), ()) _ _ (eqc dz hM) (Nat.lt_succ_self _) ⟨rfl, rfl, rfl, rfl, rfl, rfl, rfl, rfl, trivial⟩ rI)
 refine dD (eZ _ _ ?_); clear eZ; dsimp only [U6] at hM; refine sr ?_; refine om ?_; refine om ?_; refine oe (jE [sL r7 y5.1, vI y5.2.1]) ?_; refine aF (bI (b := b4) (vs := [sL r7 y5.1, vI y5.2.1]) (k := ?_)); refine oa ?_; refine on ?_; obtain rfl := some_inj hM; refine aL (jQ (fun w hm => fO r7 hm rfl))
def H6 (l0 : Layout) (r0 : aV) (s0 : bL) : Option Int :=
  (Mc l0 r0 s0).bind fun y4 =>
  some y4.2
theorem aaC (S : bD) (w : World) (l0 : Layout) (aj : ak.R Layout) (r0 : aV) (bC : ak.R aV) (s0 : bL) (y : Int) (hM : H6 l0 r0 s0 = some y) (hS : sB S w) (dH : ak.ok S w aj l0) (kZ : ak.ok S w bC r0) :
    Calls Tryz.prog 139 #[.agg (iy l0 aj), .agg (qM r0 bC), .agg (Bb s0)] w (bW w (vI y)) := by
 refine bR (args := [_, _, _]) Tryz.func139 rfl ((pre_nil hS).start |>.jw dH|>.gQ (α := List Step) (r := bC) (x := r0.Steps) kZ) rfl ?_; unfold H6 at hM; refine sr ?_; refine aF (bU (l := (bK l0 aj)) (k := fun b1 => ?_)); refine aF (bU (l := (gJ r0 bC)) (k := fun b2 => ?_)); refine aF (bU (l := (mg s0)) (k := fun b3 => ?_)); refine oa ?_; refine on ?_; refine sr ?_; refine oe (bH (b := b1)) ?_; refine oe (bH (b := b2)) ?_; refine oe (bH (b := b3)) ?_; obtain ⟨y4, xU, hM⟩ := bind_some hM; refine aF (mK iQ.nil (fun S w hs hP => aaD _ w l0 aj r0 bC s0 y4 xU (aT hs) ⟨(kM hs), (kM hs), (kM hs), (kM hs)⟩ (kM hs)) pJ (fun r6 => ?_)); dsimp only [List.cons_append, List.nil_append]; refine om ?_
 refine oe (gF (vs := [.agg (OL y4.1 r6), vI y4.2])) ?_; refine oe (gF (vs := [.agg (OL y4.1 r6), vI y4.2])) ?_; refine aF (bQ rfl (k := fun b7 => ?_)); refine aF (bI (b := b7) (vs := (Xw y4.1 r6)) (k := ?_)); refine oa ?_; refine on ?_; refine sr ?_; refine om ?_; refine oa ?_; refine on ?_; obtain rfl := some_inj hM; refine aL (aZ (fun w hm => aW hm rfl))
end Go.Proofs.YtcalibhfgdncaaaGreatDoor
