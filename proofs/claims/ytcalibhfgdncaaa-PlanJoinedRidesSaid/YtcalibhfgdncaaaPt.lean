/- Models of functions, and that the code computes them. -/
import Derived.Test.YtcalibhfgdncaaaPs
import Derived.Test.YtcalibhfgdncaaaRc
set_option linter.all false
namespace Go.Proofs.Ytcalibhfgdncaaa
open Go.Dc Go.RowKit
set_option maxRecDepth 10000
def Iu  : Option Bool :=
  (Pv).bind fun y1 =>
  (EO y1 (Plan.mk 0 ([] : List av) ([] : List aI) ([] : List Line) ([] : List Change) ([] : List Turn) ([] : List Sync) ([] : List aX))).bind fun fF =>
  some (decide (fF = 4))
theorem UK (S : bU) (w : World)  (y : Bool) (hM : Iu  = some y) (hS : sB S w)  :
    Calls Try.prog 7 #[] w (dQ w (.bool y)) := by
 refine dH (args := []) Try.func7 rfl ((pre_nil hS).start) rfl ?_; unfold Iu at hM; refine sr ?_; refine oa ?_; refine on ?_; refine sr ?_; obtain ⟨y1, hy2, hM⟩ := bind_some hM; refine aM (fD jF.nil (fun S w hs hP => acv _ w  y1 hy2 (bB hs) ) fC (fun r3 => ?_)); dsimp only [List.cons_append, List.nil_append]; refine oe (fU [vI 0, .slice none 0 0, .slice none 0 0, .slice none 0 0, .slice none 0 0, .slice none 0 0, .slice none 0 0, .slice none 0 0]) ?_; refine mH (fun w hm => hm.dL (α := av) 56 (fun _ => ())) ?_; refine mH (fun w hm => hm.dL (α := aI) 74 (fun _ => (⟨none, 0, (fun _ => ())⟩ : SR (aj.R Step)))) ?_; refine mH (fun w hm => hm.dL (α := Line) 45 (fun _ => (⟨none, 0, (fun _ => ())⟩ : SR (aj.R aC)))) ?_; refine mH (fun w hm => hm.dL (α := Change) 64 (fun _ => ())) ?_; refine mH (fun w hm => hm.dL (α := Turn) 48 (fun _ => ())) ?_; refine mH (fun w hm => hm.dL (α := Sync) 68 (fun _ => ())) ?_; refine mH (fun w hm => hm.dL (α := aX) 70 (fun _ => ())) ?_; obtain ⟨fF, uw, hM⟩ := bind_some hM; refine aM (bJ (fun w hm => let ⟨S, hs⟩ := hm; Vl _ w y1 r3 (Plan.mk 0 ([] : List av) ([] : List aI) ([] : List Line) ([] : List Change) ([] : List Turn) ([] : List Sync) ([] : List aX)) ((⟨none, 0, (fun _ => ())⟩ : SR (aj.R av) ), (⟨none, 0, (fun _ => (⟨none, 0, (fun _ => ())⟩ : SR (aj.R Step)))⟩ : SR (aj.R aI)  ), (⟨none, 0, (fun _ => (⟨none, 0, (fun _ => ())⟩ : SR (aj.R aC)))⟩ : SR (aj.R Line)   ), (⟨none, 0, (fun _ => ())⟩ : SR (aj.R Change)    ), (⟨none, 0, (fun _ => ())⟩ : SR (aj.R Turn)     ), (⟨none, 0, (fun _ => ())⟩ : SR (aj.R Sync)      ), (⟨none, 0, (fun _ => ())⟩ : SR (aj.R aX)       )) fF uw (bB hs) ⟨(kT hs), (kT hs), (kT hs), (kT hs)⟩ ⟨(kT hs), (kT hs), (kT hs), (kT hs), (kT hs), (kT hs), (kT hs)⟩) ?_)
 refine oe eX ?_; refine oa ?_; refine on ?_; obtain rfl := some_inj hM; refine bn (bT (fun w hm => bQ hm rfl))
def LK (r0 : aI) : Option Int :=
  (idx r0.Steps 0).bind fun x2 =>
  some x2.Section
theorem adB (S : bU) (w : World) (r0 : aI) (dX : aj.R aI) (y : Int) (hM : LK r0 = some y) (hS : sB S w) (sj : aj.ok S w dX r0) :
    Calls Try.prog 28 #[.agg (sM r0 dX)] w (dQ w (vI y)) := by
 refine dH (args := [_]) Try.func28 rfl ((pre_nil hS).start |>.gU (α := List Step) (r := dX) (x := r0.Steps) sj) rfl ?_; unfold LK at hM; refine sr ?_; refine aM (dU (l := (mY r0 dX)) (k := fun b1 => ?_)); refine oa ?_; refine on ?_; refine sr ?_; refine oe (aH 0) ?_; refine oe (aN (b := b1)) ?_; obtain ⟨x2, hx3, hM⟩ := bind_some hM; refine oe (bK (xs := r0.Steps) 2 (kG r0.Steps dX) (iS hx3)) ?_; refine oe (aH 0) ?_; refine oe (dn (i := 0) (xs := r0.Steps) (y := x2) 0 (kG r0.Steps dX) (fun _ => hx3)) ?_; refine oa ?_; refine on ?_; obtain rfl := some_inj hM; refine bn (bT (fun w hm => bQ hm rfl))
def Fw (r0 : aI) : Option Int :=
  bq (bP ((r0.Steps.length : Int) - r0.Overlap)) <|
  bq (bP (((r0.Steps.length : Int) - r0.Overlap) - 1)) <|
  (idx r0.Steps (((r0.Steps.length : Int) - r0.Overlap) - 1)).bind fun x4 =>
  some x4.Section
theorem adC (S : bU) (w : World) (r0 : aI) (dX : aj.R aI) (y : Int) (hM : Fw r0 = some y) (hS : sB S w) (sj : aj.ok S w dX r0) :
    Calls Try.prog 29 #[.agg (sM r0 dX)] w (dQ w (vI y)) := by
 refine dH (args := [_]) Try.func29 rfl ((pre_nil hS).start |>.gU (α := List Step) (r := dX) (x := r0.Steps) sj) rfl ?_; unfold Fw at hM; refine sr ?_; refine aM (dU (l := (mY r0 dX)) (k := fun b1 => ?_)); refine oa ?_; refine on ?_; refine sr ?_; refine oe (aH 0) ?_; refine oe (aN (b := b1)) ?_; refine oe (aH 0) ?_; refine oe (aN (b := b1)) ?_; refine oe bR ?_; refine oe (aH 1) ?_; refine oe (aN (b := b1)) ?_; obtain ⟨hI2, hM⟩ := bC hM; refine oe (iy (hr := fun hg => bS hI2)) ?_; obtain ⟨NI, hM⟩ := bC hM; refine oe (iy (hr := fun hg => bS NI)) ?_; obtain ⟨x4, hx5, hM⟩ := bind_some hM; refine oe (bK (xs := r0.Steps) 2 (kG r0.Steps dX) (iS hx5)) ?_; refine oe (aH 0) ?_; refine oe (dn (i := (((r0.Steps.length : Int) - r0.Overlap) - 1)) (xs := r0.Steps) (y := x4) 0 (kG r0.Steps dX) (fun _ => hx5)) ?_; refine oa ?_; refine on ?_; obtain rfl := some_inj hM; refine bn (bT (fun w hm => bQ hm rfl))
def Es (p0 : Plan) (dP : Int) (j6 : Int) : Option (aI × Bool) :=
  (fP (!((decide (dP < 0) || decide ((p0.Lines.length : Int) ≤ dP)) || decide (j6 < 0))) default (idx p0.Lines dP)).bind fun x3 =>
  if (!((decide (dP < 0) || decide ((p0.Lines.length : Int) ≤ dP)) || decide (j6 < 0))) then
  (if (((decide (dP < 0) || decide ((p0.Lines.length : Int) ≤ dP)) || decide (j6 < 0)) || decide ((x3.ay.length : Int) ≤ j6)) then
    (some ((aI.mk ([] : List Step) 0), false))
  else
    ((idx p0.Lines dP).bind fun x9 =>
    (idx x9.ay j6).bind fun lU =>
    (fP (!(decide (lU.aI < 0) || decide ((p0.Routes.length : Int) ≤ lU.aI))) default (idx p0.Routes lU.aI)).bind fun pz =>
    (fP (!((decide (lU.aI < 0) || decide ((p0.Routes.length : Int) ≤ lU.aI)) || decide (pz.Overlap < 0))) default (idx p0.Routes lU.aI)).bind fun pE =>
    if (!((decide (lU.aI < 0) || decide ((p0.Routes.length : Int) ≤ lU.aI)) || decide (pz.Overlap < 0))) then
    ((idx p0.Routes lU.aI).bind fun zF =>
    if (((decide (lU.aI < 0) || decide ((p0.Routes.length : Int) ≤ lU.aI)) || decide (pz.Overlap < 0)) || decide ((pE.Steps.length : Int) ≤ zF.Overlap)) then
      (some ((aI.mk ([] : List Step) 0), false))
    else
      ((idx p0.Routes lU.aI).bind fun x23 =>
      some (x23, true)))
    else
    (some ((aI.mk ([] : List Step) 0), false))))
  else
  (some ((aI.mk ([] : List Step) 0), false))
theorem UL (S : bU) (w : World) (p0 : Plan) (au : aj.R Plan) (dP : Int) (j6 : Int) (y : aI × Bool) (hM : Es p0 dP j6 = some y) (hS : sB S w) (gN : aj.ok S w au p0) :
    Calls Try.prog 27 #[.agg (iK p0 au), vI dP, vI j6] w (Post (β := (aj.R aI)) S [] (fun g => .tuple #[.agg (sM y.1 g), .bool y.2]) (fun g => [iL y.1.Steps g]) w) := by
 refine dH (args := [_, _, _]) Try.func27 rfl ((pre_nil hS).start |>.oJ gN) rfl ?_; unfold Es at hM; refine sr ?_; refine aM (dU (l := (dB p0 au)) (k := fun b1 => ?_)); refine aM (cO rfl (k := fun b2 => ?_)); refine oa ?_; refine on ?_; refine aO fun K2 hK2 => ?_; refine sr ?_; refine om ?_; refine oe dJ ?_; refine om ?_; refine aF rfl aL ?_; refine aF rfl (aH 3) ?_; refine aF rfl (aN (b := b1)) ?_
 refine aF rfl bR ?_; refine aF rfl iM ?_; refine oe eu ?_; refine om ?_; refine aF rfl aL ?_; refine aF rfl dJ ?_; refine oe eu ?_; refine om ?_; refine aF rfl aL ?_; refine aF rfl (aH 3) ?_; refine aF rfl (aN (b := b1)) ?_; refine aF rfl aL ?_; obtain ⟨x3, hx4, hM⟩ := bind_some hM; refine aF rfl (bK (xs := p0.Lines) 4 (kG p0.Lines au.2.2.1) (fun hg => let h := kZ (eG hx4 hg); ⟨h.1, h.2.1⟩)) ?_; refine aF rfl (aH 3) ?_; refine Vi (!((decide (dP < 0) || decide ((p0.Lines.length : Int) ≤ dP)) || decide (j6 < 0))) (fun hg5 => ?_) (fun hg5 => ?_)
 · replace hM := iT hg5 hM; have hx6 := eG hx4 hg5; refine vF 23 hg5 rfl ?_; refine vF 24 hg5 rfl ?_; refine vF 25 hg5 rfl ?_; refine vF 26 hg5 rfl ?_; refine vF 27 hg5 rfl ?_; refine vF 28 hg5 rfl ?_; refine Cu rfl hg5 ?_; refine oe (dn (i := dP) (xs := p0.Lines) (y := x3) 3 (kG p0.Lines au.2.2.1) (fun _ => hx6)) ?_; refine Cu rfl hg5 ?_; refine oe bR ?_; refine Cu rfl hg5 ?_; refine oe iM ?_; refine oe eu ?_; refine on ?_; refine cc rfl hM (fun oq hM => ?_) (fun oq hM => ?_)
   · refine sr ?_; refine oe (fU [.slice none 0 0, vI 0]) ?_; refine aM (bY (b := b2) (vs := [.slice none 0 0, vI 0]) (k := ?_)); refine oa ?_; refine on ?_; refine cK (fun w hm => hm.dL (α := Step) 76 (fun _ => ())) ?_; refine cK (fun w hm => hm.freeze (r := (⟨none, 0, (fun _ => ())⟩ : SR (aj.R Step) )) uA) ?_; obtain rfl := some_inj hM; refine bn (lF (fun w hm => fK (⟨none, 0, (fun _ => ())⟩ : SR (aj.R Step) ) hm rfl))
   refine bA (hK2 _ _ ?_); clear hK2; refine sr ?_; refine oe (aH 3) ?_; refine oe (aN (b := b1)) ?_; refine om ?_; obtain ⟨x9, kY, hM⟩ := bind_some hM; refine oe (bK (xs := p0.Lines) 4 (kG p0.Lines au.2.2.1) (iS kY)) ?_; refine oe (aH 3) ?_; refine oe (dn (i := dP) (xs := p0.Lines) (y := x9) 3 (kG p0.Lines au.2.2.1) (fun _ => kY)) ?_; refine om ?_; obtain ⟨lU, DW, hM⟩ := bind_some hM; refine oe (bK (xs := x9.ay) 4 ((Sk.elem (Sk.eB (α := List Line) (r := au.2.2.1) (x := p0.Lines) hA) kY)).kn (iS DW)) ?_; refine oe (aH 0) ?_; refine oe (dn (i := j6) (xs := x9.ay) (y := lU) 0 ((Sk.elem (Sk.eB (α := List Line) (r := au.2.2.1) (x := p0.Lines) hA) kY)).kn (fun _ => DW)) ?_; refine oa ?_; refine on ?_; refine aO fun K6 dM => ?_; refine aO fun K7 eZ => ?_; refine jh _ (List.Sublist.refl _) ?_; refine aJ 0 rfl aL ?_; refine aJ 1 rfl dJ ?_; refine aJ 2 rfl aL ?_; refine dD 3 rfl rfl aL ?_; refine dD 4 rfl rfl (aH 2) ?_; refine dD 5 rfl rfl (aN (b := b1)) ?_; refine dD 6 rfl rfl bR ?_; refine dD 7 rfl rfl iM ?_; refine aJ 8 rfl eu ?_; refine aJ 9 rfl aL ?_; refine dD 10 rfl rfl (aH 2) ?_; refine dD 11 rfl rfl (aN (b := b1)) ?_
   refine dD 12 rfl rfl aL ?_; obtain ⟨pz, vB, hM⟩ := bind_some hM; refine dD 13 rfl rfl (bK (xs := p0.Routes) 2 (kG p0.Routes au.2.1) (fun hg => let h := kZ (eG vB hg); ⟨h.1, h.2.1⟩)) ?_; refine dD 14 rfl rfl (aH 1) ?_; refine dD 15 rfl rfl (dn (i := lU.aI) (xs := p0.Routes) (y := pz) 1 (kG p0.Routes au.2.1) (fun hg => eG vB hg)) ?_; refine dD 16 rfl rfl dJ ?_; refine aJ 17 rfl eu ?_; refine aJ 18 rfl aL ?_; refine dD 19 rfl rfl (aH 2) ?_; refine dD 20 rfl rfl (aN (b := b1)) ?_; refine dD 21 rfl rfl aL ?_; obtain ⟨pE, hx16, hM⟩ := bind_some hM; refine dD 22 rfl rfl (bK (xs := p0.Routes) 2 (kG p0.Routes au.2.1) (fun hg => let h := kZ (eG hx16 hg); ⟨h.1, h.2.1⟩)) ?_; refine dD 23 rfl rfl (aH 0) ?_; refine MX (!((decide (lU.aI < 0) || decide ((p0.Routes.length : Int) ≤ lU.aI)) || decide (pz.Overlap < 0))) (fun lW => ?_) (fun lW => ?_)
   · replace hM := iT lW hM; have su := eG hx16 lW; refine mX 63 lW rfl ?_; refine mX 64 lW rfl ?_; refine mX 65 lW rfl ?_; refine mX 66 lW rfl ?_; refine mX 67 lW rfl ?_; refine nE 24 rfl rfl lW (dn (i := lU.aI) (xs := p0.Routes) (y := pE) 0 (kG p0.Routes au.2.1) (fun _ => su)) ?_; refine nE 25 rfl rfl lW bR ?_; refine nE 26 rfl rfl lW (aH 2) ?_; refine nE 27 rfl rfl lW (aN (b := b1)) ?_; refine nE 28 rfl rfl lW aL ?_; obtain ⟨zF, HY, hM⟩ := bind_some hM; refine nE 29 rfl rfl lW (bK (xs := p0.Routes) 2 (kG p0.Routes au.2.1) (iS HY)) ?_; refine nE 30 rfl rfl lW (aH 1) ?_; refine nE 31 rfl rfl lW (dn (i := lU.aI) (xs := p0.Routes) (y := zF) 1 (kG p0.Routes au.2.1) (fun _ => HY)) ?_; refine nE 32 rfl rfl lW nG ?_; refine aJ 33 rfl eu ?_; refine eT (eZ _ _ ?_); clear eZ; refine cc rfl hM (fun hc21 hM => ?_) (fun hc21 hM => ?_)
     · refine sr ?_; refine oe (fU [.slice none 0 0, vI 0]) ?_; refine aM (bY (b := b2) (vs := [.slice none 0 0, vI 0]) (k := ?_)); refine oa ?_; refine on ?_; refine cK (fun w hm => hm.dL (α := Step) 76 (fun _ => ())) ?_; refine cK (fun w hm => hm.freeze (r := (⟨none, 0, (fun _ => ())⟩ : SR (aj.R Step)  )) uA) ?_; obtain rfl := some_inj hM; refine bn (lF (fun w hm => fK (⟨none, 0, (fun _ => ())⟩ : SR (aj.R Step)  ) hm rfl))
     refine bA (dM _ _ ?_); clear dM; refine sr ?_; refine oe (aH 2) ?_; refine oe (aN (b := b1)) ?_; refine om ?_; obtain ⟨x23, hx24, hM⟩ := bind_some hM; refine oe (bK (xs := p0.Routes) 2 (kG p0.Routes au.2.1) (iS hx24)) ?_; refine oe (jm (m := 2) (i := lU.aI) (xs := p0.Routes) (y := x23) (l := (mY x23 (au.2.1.es lU.aI.toNat))) 0 (kG p0.Routes au.2.1) (fun _ => hx24)) ?_; refine aM (bY (b := b2) (vs := (mY x23 (au.2.1.es lU.aI.toNat))) (k := ?_)); refine oa ?_; refine on ?_; refine cK (fun w hm => hm.wD (α := List Step) (r := (au.2.1.es lU.aI.toNat)) (x := x23.Steps) (fun S hs => (Sk.elem (Sk.eB (α := List aI) (r := au.2.1) (x := p0.Routes) hA) hx24) S w hs)) ?_; obtain rfl := some_inj hM; refine bn (lF (fun w hm => fK (au.2.1.es lU.aI.toNat) hm rfl))
   replace hM := iF lW hM; refine lH 24 rfl rfl lW ?_; refine lH 25 rfl rfl lW ?_; refine lH 26 rfl rfl lW ?_; refine lH 27 rfl rfl lW ?_; refine lH 28 rfl rfl lW ?_; refine lH 29 rfl rfl lW ?_; refine lH 30 rfl rfl lW ?_; refine lH 31 rfl rfl lW ?_; refine lH 32 rfl rfl lW ?_; refine aJ 33 rfl (Nl (M5 lW)) ?_; refine eT (eZ _ _ ?_); clear eZ; refine Na rfl rfl ?_; refine sr ?_; refine oe (fU [.slice none 0 0, vI 0]) ?_; refine aM (bY (b := b2) (vs := [.slice none 0 0, vI 0]) (k := ?_)); refine oa ?_; refine on ?_; refine cK (fun w hm => hm.dL (α := Step) 76 (fun _ => ())) ?_; refine cK (fun w hm => hm.freeze (r := (⟨none, 0, (fun _ => ())⟩ : SR (aj.R Step)   )) uA) ?_; obtain rfl := some_inj hM; refine bn (lF (fun w hm => fK (⟨none, 0, (fun _ => ())⟩ : SR (aj.R Step)   ) hm rfl))
 replace hM := iF hg5 hM; refine Ct rfl hg5 ?_; refine Ct rfl hg5 ?_; refine Ct rfl hg5 ?_; refine oe (Nl (M5 hg5)) ?_; refine on ?_; refine Na rfl rfl ?_; refine sr ?_; refine oe (fU [.slice none 0 0, vI 0]) ?_; refine aM (bY (b := b2) (vs := [.slice none 0 0, vI 0]) (k := ?_)); refine oa ?_; refine on ?_; refine cK (fun w hm => hm.dL (α := Step) 76 (fun _ => ())) ?_; refine cK (fun w hm => hm.freeze (r := (⟨none, 0, (fun _ => ())⟩ : SR (aj.R Step)    )) uA) ?_; obtain rfl := some_inj hM; refine bn (lF (fun w hm => fK (⟨none, 0, (fun _ => ())⟩ : SR (aj.R Step)    ) hm rfl))
def zf (p0 : Plan) (dP : Int) (j6 : Int) : Option Int :=
  (Es p0 dP j6).bind fun y2 =>
  if (!y2.2) then
    (some (-1))
  else
    ((LK y2.1).bind fun y7 =>
    some y7)
theorem Iw (S : bU) (w : World) (p0 : Plan) (au : aj.R Plan) (dP : Int) (j6 : Int) (y : Int) (hM : zf p0 dP j6 = some y) (hS : sB S w) (gN : aj.ok S w au p0) :
    Calls Try.prog 8 #[.agg (iK p0 au), vI dP, vI j6] w (dQ w (vI y)) := by
 refine dH (args := [_, _, _]) Try.func8 rfl ((pre_nil hS).start |>.oJ gN) rfl ?_; unfold zf at hM; refine sr ?_; refine aM (dU (l := (dB p0 au)) (k := fun b1 => ?_)); refine oa ?_; refine on ?_; refine sr ?_; refine oe (cu (b := b1)) ?_; refine om ?_; refine om ?_; obtain ⟨y2, hy3, hM⟩ := bind_some hM; refine aM (qB jF.nil (fun S w hs hP => UL _ w p0 au dP j6 y2 hy3 hs.lt ⟨(kI hs), (kI hs), (kI hs), (kI hs), (kI hs), (kI hs), (kI hs)⟩)  (fun r4 => ?_))
 dsimp only [List.cons_append, List.nil_append]; refine om ?_; refine oe (jA (vs := [.agg (sM y2.1 r4), .bool y2.2])) ?_; refine oe (jA (vs := [.agg (sM y2.1 r4), .bool y2.2])) ?_; refine aM (cO rfl (k := fun b5 => ?_)); refine aM (bY (b := b5) (vs := (mY y2.1 r4)) (k := ?_)); refine oa ?_; refine on ?_; refine aO fun K3 hK3 => ?_; refine sr ?_; refine om ?_; refine oe gB ?_; refine on ?_; refine cc rfl hM (fun hc6 hM => ?_) (fun hc6 hM => ?_)
 · refine sr ?_; refine oa ?_; refine on ?_; obtain rfl := some_inj hM; refine bn (bT (fun w hm => bQ hm rfl))
 refine bA (hK3 _ _ ?_); clear hK3; refine sr ?_; refine oe (cu (b := b5)) ?_; obtain ⟨y7, wu, hM⟩ := bind_some hM; refine aM (bJ (fun w hm => let ⟨S, hs⟩ := hm; adB _ w y2.1 r4 y7 wu (bB hs) (kM hs)) ?_); refine oa ?_; refine on ?_; obtain rfl := some_inj hM; refine bn (bT (fun w hm => bQ hm rfl))
def Et (p0 : Plan) (dP : Int) (j6 : Int) : Option Int :=
  (Es p0 dP j6).bind fun y2 =>
  if (!y2.2) then
    (some (-1))
  else
    ((Fw y2.1).bind fun y7 =>
    some y7)
theorem UM (S : bU) (w : World) (p0 : Plan) (au : aj.R Plan) (dP : Int) (j6 : Int) (y : Int) (hM : Et p0 dP j6 = some y) (hS : sB S w) (gN : aj.ok S w au p0) :
    Calls Try.prog 9 #[.agg (iK p0 au), vI dP, vI j6] w (dQ w (vI y)) := by
 refine dH (args := [_, _, _]) Try.func9 rfl ((pre_nil hS).start |>.oJ gN) rfl ?_; unfold Et at hM; refine sr ?_; refine aM (dU (l := (dB p0 au)) (k := fun b1 => ?_)); refine oa ?_; refine on ?_; refine sr ?_; refine oe (cu (b := b1)) ?_; refine om ?_; refine om ?_; obtain ⟨y2, hy3, hM⟩ := bind_some hM; refine aM (qB jF.nil (fun S w hs hP => UL _ w p0 au dP j6 y2 hy3 hs.lt ⟨(kI hs), (kI hs), (kI hs), (kI hs), (kI hs), (kI hs), (kI hs)⟩)  (fun r4 => ?_))
 dsimp only [List.cons_append, List.nil_append]; refine om ?_; refine oe (jA (vs := [.agg (sM y2.1 r4), .bool y2.2])) ?_; refine oe (jA (vs := [.agg (sM y2.1 r4), .bool y2.2])) ?_; refine aM (cO rfl (k := fun b5 => ?_)); refine aM (bY (b := b5) (vs := (mY y2.1 r4)) (k := ?_)); refine oa ?_; refine on ?_; refine aO fun K3 hK3 => ?_; refine sr ?_; refine om ?_; refine oe gB ?_; refine on ?_; refine cc rfl hM (fun hc6 hM => ?_) (fun hc6 hM => ?_)
 · refine sr ?_; refine oa ?_; refine on ?_; obtain rfl := some_inj hM; refine bn (bT (fun w hm => bQ hm rfl))
 refine bA (hK3 _ _ ?_); clear hK3; refine sr ?_; refine oe (cu (b := b5)) ?_; obtain ⟨y7, wu, hM⟩ := bind_some hM; refine aM (bJ (fun w hm => let ⟨S, hs⟩ := hm; adC _ w y2.1 r4 y7 wu (bB hs) (kM hs)) ?_); refine oa ?_; refine on ?_; obtain rfl := some_inj hM; refine bn (bT (fun w hm => bQ hm rfl))
end Go.Proofs.Ytcalibhfgdncaaa
