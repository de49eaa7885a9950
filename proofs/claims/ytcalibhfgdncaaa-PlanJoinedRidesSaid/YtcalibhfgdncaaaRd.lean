/- Models of functions, and that the code computes them. -/
import Derived.Test.YtcalibhfgdncaaaLm
set_option linter.all false
namespace Go.Proofs.Ytcalibhfgdncaaa
open Go.Dc Go.RowKit
set_option maxRecDepth 10000
def Iz (s0 : Step) : Option Step :=
  if decide (s0.Dir = 0) then
    (some (Step.mk s0.Section 1))
  else
    (some (Step.mk s0.Section 0))
theorem wG (S : bU) (w : World) (s0 : Step) (y : Step) (hM : Iz s0 = some y) (hS : sB S w)  :
    Calls Try.prog 84 #[.agg (Dp s0)] w (dQ w (.agg (Dp y))) := by
 refine dH (args := [_]) Try.func84 rfl ((pre_nil hS).start) rfl ?_; unfold Iz at hM; refine sr ?_; refine aM (dU (l := (qW s0)) (k := fun b1 => ?_)); refine aM (cO rfl (k := fun b2 => ?_)); refine on ?_; refine aO fun K2 hK2 => ?_; refine sr ?_; refine oe (aH 1) ?_; refine oe (aN (b := b1)) ?_; refine oe eX ?_; refine on ?_; refine cc rfl hM (fun hc3 hM => ?_) (fun hc3 hM => ?_)
 · refine sr ?_; refine oe (aH 0) ?_; refine oe (aN (b := b1)) ?_; refine oe (fU [vI s0.Section, vI 1]) ?_; refine aM (bY (b := b2) (vs := [vI s0.Section, vI 1]) (k := ?_)); refine on ?_; obtain rfl := some_inj hM; refine bn (bT (fun w hm => bQ hm rfl))
 refine bA (hK2 _ _ ?_); clear hK2; refine sr ?_; refine oe (aH 0) ?_; refine oe (aN (b := b1)) ?_; refine oe (fU [vI s0.Section, vI 0]) ?_; refine aM (bY (b := b2) (vs := [vI s0.Section, vI 0]) (k := ?_)); refine on ?_; obtain rfl := some_inj hM; refine bn (bT (fun w hm => bQ hm rfl))
def LQ (l0 : Layout) (s0 : Step) : Option Bool :=
  some ((decide (0 ≤ s0.Section) && decide (s0.Section < (l0.Sections.length : Int))) && (decide (s0.Dir = 0) || decide (s0.Dir = 1)))
theorem adH (S : bU) (w : World) (l0 : Layout) (aG : aj.R Layout) (s0 : Step) (y : Bool) (hM : LQ l0 s0 = some y) (hS : sB S w) (fJ : aj.ok S w aG l0) :
    Calls Try.prog 73 #[.agg (kX l0 aG), .agg (Dp s0)] w (dQ w (.bool y)) := by
 refine dH (args := [_, _]) Try.func73 rfl ((pre_nil hS).start |>.nX fJ) rfl ?_; unfold LQ at hM; refine sr ?_; refine aM (dU (l := (fq l0 aG)) (k := fun b1 => ?_)); refine aM (dU (l := (qW s0)) (k := fun b2 => ?_)); refine oa ?_; refine on ?_; refine sr ?_; refine oe (aH 0) ?_; refine oe (aN (b := b2)) ?_; refine oe iM ?_; refine om ?_; refine aF rfl (aH 0) ?_; refine aF rfl (aN (b := b2)) ?_; refine aF rfl (aH 2) ?_; refine aF rfl (aN (b := b1)) ?_; refine aF rfl bR ?_; refine aF rfl dJ ?_; refine oe dO ?_; refine om ?_; refine aF rfl (aH 1) ?_; refine aF rfl (aN (b := b2)) ?_; refine aF rfl eX ?_; refine aF rfl aL ?_; refine aF rfl (aH 1) ?_; refine aF rfl (aN (b := b2)) ?_; refine aF rfl eX ?_
 refine aF rfl eu ?_; refine oe dO ?_; refine oa ?_; refine on ?_; obtain rfl := some_inj hM; refine bn (bT (fun w hm => bQ hm rfl))
def FB (s0 : Step) : Option ku :=
  if decide (s0.Dir = 0) then
    (some (ku.mk s0.Section 1))
  else
    (some (ku.mk s0.Section 0))
theorem nK (S : bU) (w : World) (s0 : Step) (y : ku) (hM : FB s0 = some y) (hS : sB S w)  :
    Calls Try.prog 83 #[.agg (Dp s0)] w (dQ w (.agg (XW y))) := by
 refine dH (args := [_]) Try.func83 rfl ((pre_nil hS).start) rfl ?_; unfold FB at hM; refine sr ?_; refine aM (dU (l := (qW s0)) (k := fun b1 => ?_)); refine aM (cO rfl (k := fun b2 => ?_)); refine on ?_; refine aO fun K2 hK2 => ?_; refine sr ?_; refine oe (aH 1) ?_; refine oe (aN (b := b1)) ?_; refine oe eX ?_; refine on ?_; refine cc rfl hM (fun hc3 hM => ?_) (fun hc3 hM => ?_)
 · refine sr ?_; refine oe (aH 0) ?_; refine oe (aN (b := b1)) ?_; refine oe (fU [vI s0.Section, vI 1]) ?_; refine aM (bY (b := b2) (vs := [vI s0.Section, vI 1]) (k := ?_)); refine on ?_; obtain rfl := some_inj hM; refine bn (bT (fun w hm => bQ hm rfl))
 refine bA (hK2 _ _ ?_); clear hK2; refine sr ?_; refine oe (aH 0) ?_; refine oe (aN (b := b1)) ?_; refine oe (fU [vI s0.Section, vI 0]) ?_; refine aM (bY (b := b2) (vs := [vI s0.Section, vI 0]) (k := ?_)); refine on ?_; obtain rfl := some_inj hM; refine bn (bT (fun w hm => bQ hm rfl))
def QJ (x6 : Link) (rG : Int) (rH : Int) (rR : Int) (rT : Int) (bI : Nat → Option (Int × Bool)) (uT : Nat) : Unit → Option (Int × Bool) := fun _ =>
  if ((decide ((ku.mk x6.A x6.jR) = (ku.mk rG rH)) && decide ((ku.mk x6.B x6.jS) = (ku.mk rR rT))) || (decide ((ku.mk x6.A x6.jR) = (ku.mk rR rT)) && decide ((ku.mk x6.B x6.jS) = (ku.mk rG rH)))) then
    (some (x6.Point, true))
  else
    (bI (uT + 1))
def Wm : Unit → Option (Int × Bool) := fun _ =>
  some (0, false)
def FI (l0 : Layout) (rG : Int) (rH : Int) (rR : Int) (rT : Int) (bI : Nat → Option (Int × Bool)) : Nat → Option (Int × Bool) := fun uT =>
  if decide ((uT : Int) < (l0.Links.length : Int)) then
    ((idx l0.Links (uT : Int)).bind fun x6 =>
    QJ x6 rG rH rR rT bI uT ())
  else
    (Wm ())
def LW (l0 : Layout) : (Int × Int × Int × Int) → Option (Int × Bool) := fun (rG, rH, rR, rT) =>
  iter (FI l0 rG rH rR rT) FUEL 0
def Jh (l0 : Layout) (s0 : Step) (t0 : Step) : Option (Int × Bool) :=
  (FB s0).bind fun bZ =>
  (Iz t0).bind fun jY =>
  (FB jY).bind fun y22 =>
  LW l0 (bZ.fZ, bZ.side, y22.fZ, y22.side)
theorem adK (S : bU) (w : World) (l0 : Layout) (aG : aj.R Layout) (s0 : Step) (t0 : Step) (y : Int × Bool) (hM : Jh l0 s0 t0 = some y) (hS : sB S w) (fJ : aj.ok S w aG l0) :
    Calls Try.prog 74 #[.agg (kX l0 aG), .agg (Dp s0), .agg (Dp t0)] w (dQ w (.tuple #[vI y.1, .bool y.2])) := by
 refine dH (args := [_, _, _]) Try.func74 rfl ((pre_nil hS).start |>.nX fJ) rfl ?_; unfold Jh at hM; refine sr ?_; refine aM (dU (l := (fq l0 aG)) (k := fun b1 => ?_)); refine aM (dU (l := (qW s0)) (k := fun b2 => ?_)); refine aM (dU (l := (qW t0)) (k := fun b3 => ?_)); refine oa ?_; refine oa ?_; refine on ?_; refine kL (γ := (Int × Int × Int × Int) × (Nat × Nat)) (env := fun ((rG, rH, rR, rT), (xw, xA)) => [(3, eP b1), (8, eP xw), (9, eP xA)]) (mem := fun ((rG, rH, rR, rT), (xw, xA)) => [iL l0.aQ aG.1, iL l0.aR aG.2.1, iL l0.Sections aG.2.2.1, iL l0.Links aG.2.2.2, own b1 27 (fq l0 aG), own xw 158 [vI rG, vI rH], own xA 158 [vI rR, vI rT]]) (R := fun g => LW l0 g.1 = some y) ?_ ?_
 · intro vT eF; refine jh _ (List.Sublist.refl _) ?_; refine aJ 0 rfl (cu (b := b2)) ?_; refine aJ 2 rfl (cu (b := b3)) ?_; obtain ⟨bZ, pQ, hM⟩ := bind_some hM; refine xu 1 5 6 (⟨_, rfl, rfl, bJ (fun w hm => let ⟨S, hs⟩ := hm; nK _ w s0 bZ pQ (bB hs) ) ⟨rI, ?_⟩⟩) (⟨_, rfl, rfl, cO rfl (k := fun b16 => ⟨rI, ?_⟩)⟩) (⟨_, rfl, rfl, cO rfl (k := fun b17 => ⟨rI, ?_⟩)⟩)
   · obtain ⟨jY, uy, hM⟩ := bind_some hM; refine xu 3 5 6 (⟨_, rfl, rfl, bJ (fun w hm => let ⟨S, hs⟩ := hm; wG _ w t0 jY uy (bB hs) ) ⟨rI, ?_⟩⟩) (⟨_, rfl, rfl, cO rfl (k := fun b20 => ⟨rI, ?_⟩)⟩) (⟨_, rfl, rfl, cO rfl (k := fun Dt => ⟨rI, ?_⟩)⟩)
     · obtain ⟨y22, uz, hM⟩ := bind_some hM; refine xu 4 5 6 (⟨_, rfl, rfl, bJ (fun w hm => let ⟨S, hs⟩ := hm; nK _ w jY y22 uz (bB hs) ) ⟨rI, ?_⟩⟩) (⟨_, rfl, rfl, cO rfl (k := fun JZ => ⟨rI, ?_⟩)⟩) (⟨_, rfl, rfl, cO rfl (k := fun J2 => ⟨rI, ?_⟩)⟩)
       · refine kD 5 6 (⟨_, rfl, rfl, cO rfl (k := fun Sc => ⟨rI, ?_⟩)⟩) (⟨_, rfl, rfl, cO rfl (k := fun Du => ⟨rI, ?_⟩)⟩)
         · refine bO 6 rfl (cO rfl (k := fun Sd => ⟨rI, ?_⟩)); refine bO 7 rfl (bY (b := Sc) (vs := (jc bZ)) (k := ⟨rI, ?_⟩)); refine bO 8 rfl (bY (b := Sd) (vs := (jc y22)) (k := ⟨rI, ?_⟩)); refine eT (eF ((bZ.fZ, bZ.side, y22.fZ, y22.side), (Sc, Sd)) _ _ hM ⟨rfl, rfl, rfl, trivial⟩ rI)
         refine bO 5 rfl (cO rfl (k := fun Sg => ⟨rI, ?_⟩)); refine bO 7 rfl (bY (b := Sg) (vs := (jc bZ)) (k := ⟨rI, ?_⟩)); refine bO 8 rfl (bY (b := Du) (vs := (jc y22)) (k := ⟨rI, ?_⟩)); refine eT (eF ((bZ.fZ, bZ.side, y22.fZ, y22.side), (Sg, Du)) _ _ hM ⟨rfl, rfl, rfl, trivial⟩ rI)
       · refine kD 4 6 (⟨_, rfl, rfl, bJ (fun w hm => let ⟨S, hs⟩ := hm; nK _ w jY y22 uz (bB hs) ) ⟨rI, ?_⟩⟩) (⟨_, rfl, rfl, cO rfl (k := fun Si => ⟨rI, ?_⟩)⟩)
         · refine bO 6 rfl (cO rfl (k := fun Sj => ⟨rI, ?_⟩)); refine bO 7 rfl (bY (b := JZ) (vs := (jc bZ)) (k := ⟨rI, ?_⟩)); refine bO 8 rfl (bY (b := Sj) (vs := (jc y22)) (k := ⟨rI, ?_⟩)); refine eT (eF ((bZ.fZ, bZ.side, y22.fZ, y22.side), (JZ, Sj)) _ _ hM ⟨rfl, rfl, rfl, trivial⟩ rI)
         refine bO 4 rfl (bJ (fun w hm => let ⟨S, hs⟩ := hm; nK _ w jY y22 uz (bB hs) ) ⟨rI, ?_⟩); refine bO 7 rfl (bY (b := JZ) (vs := (jc bZ)) (k := ⟨rI, ?_⟩)); refine bO 8 rfl (bY (b := Si) (vs := (jc y22)) (k := ⟨rI, ?_⟩)); refine eT (eF ((bZ.fZ, bZ.side, y22.fZ, y22.side), (JZ, Si)) _ _ hM ⟨rfl, rfl, rfl, trivial⟩ rI)
       refine kD 4 5 (⟨_, rfl, rfl, bJ (fun w hm => let ⟨S, hs⟩ := hm; nK _ w jY y22 uz (bB hs) ) ⟨rI, ?_⟩⟩) (⟨_, rfl, rfl, cO rfl (k := fun b32 => ⟨rI, ?_⟩)⟩)
       · refine bO 5 rfl (cO rfl (k := fun Sm => ⟨rI, ?_⟩)); refine bO 7 rfl (bY (b := Sm) (vs := (jc bZ)) (k := ⟨rI, ?_⟩)); refine bO 8 rfl (bY (b := J2) (vs := (jc y22)) (k := ⟨rI, ?_⟩)); refine eT (eF ((bZ.fZ, bZ.side, y22.fZ, y22.side), (Sm, J2)) _ _ hM ⟨rfl, rfl, rfl, trivial⟩ rI)
       refine bO 4 rfl (bJ (fun w hm => let ⟨S, hs⟩ := hm; nK _ w jY y22 uz (bB hs) ) ⟨rI, ?_⟩); refine bO 7 rfl (bY (b := b32) (vs := (jc bZ)) (k := ⟨rI, ?_⟩)); refine bO 8 rfl (bY (b := J2) (vs := (jc y22)) (k := ⟨rI, ?_⟩)); refine eT (eF ((bZ.fZ, bZ.side, y22.fZ, y22.side), (b32, J2)) _ _ hM ⟨rfl, rfl, rfl, trivial⟩ rI)
     · refine kD 3 6 (⟨_, rfl, rfl, bJ (fun w hm => let ⟨S, hs⟩ := hm; wG _ w t0 jY uy (bB hs) ) ⟨rI, ?_⟩⟩) (⟨_, rfl, rfl, cO rfl (k := fun Sn => ⟨rI, ?_⟩)⟩)
       · obtain ⟨rC, D6, hM⟩ := bind_some hM; refine kD 4 6 (⟨_, rfl, rfl, bJ (fun w hm => let ⟨S, hs⟩ := hm; nK _ w jY rC D6 (bB hs) ) ⟨rI, ?_⟩⟩) (⟨_, rfl, rfl, cO rfl (k := fun Gf => ⟨rI, ?_⟩)⟩)
         · refine bO 6 rfl (cO rfl (k := fun zV => ⟨rI, ?_⟩)); refine bO 7 rfl (bY (b := b20) (vs := (jc bZ)) (k := ⟨rI, ?_⟩)); refine bO 8 rfl (bY (b := zV) (vs := (jc rC)) (k := ⟨rI, ?_⟩)); refine eT (eF ((bZ.fZ, bZ.side, rC.fZ, rC.side), (b20, zV)) _ _ hM ⟨rfl, rfl, rfl, trivial⟩ rI)
         refine bO 4 rfl (bJ (fun w hm => let ⟨S, hs⟩ := hm; nK _ w jY rC D6 (bB hs) ) ⟨rI, ?_⟩); refine bO 7 rfl (bY (b := b20) (vs := (jc bZ)) (k := ⟨rI, ?_⟩)); refine bO 8 rfl (bY (b := Gf) (vs := (jc rC)) (k := ⟨rI, ?_⟩)); refine eT (eF ((bZ.fZ, bZ.side, rC.fZ, rC.side), (b20, Gf)) _ _ hM ⟨rfl, rfl, rfl, trivial⟩ rI)
       refine bO 3 rfl (bJ (fun w hm => let ⟨S, hs⟩ := hm; wG _ w t0 jY uy (bB hs) ) ⟨rI, ?_⟩); obtain ⟨y39, abH, hM⟩ := bind_some hM; refine bO 4 rfl (bJ (fun w hm => let ⟨S, hs⟩ := hm; nK _ w jY y39 abH (bB hs) ) ⟨rI, ?_⟩); refine bO 7 rfl (bY (b := b20) (vs := (jc bZ)) (k := ⟨rI, ?_⟩)); refine bO 8 rfl (bY (b := Sn) (vs := (jc y39)) (k := ⟨rI, ?_⟩)); refine eT (eF ((bZ.fZ, bZ.side, y39.fZ, y39.side), (b20, Sn)) _ _ hM ⟨rfl, rfl, rfl, trivial⟩ rI)
     refine kD 3 5 (⟨_, rfl, rfl, bJ (fun w hm => let ⟨S, hs⟩ := hm; wG _ w t0 jY uy (bB hs) ) ⟨rI, ?_⟩⟩) (⟨_, rfl, rfl, cO rfl (k := fun Gi => ⟨rI, ?_⟩)⟩)
     · obtain ⟨gu, D7, hM⟩ := bind_some hM; refine kD 4 5 (⟨_, rfl, rfl, bJ (fun w hm => let ⟨S, hs⟩ := hm; nK _ w jY gu D7 (bB hs) ) ⟨rI, ?_⟩⟩) (⟨_, rfl, rfl, cO rfl (k := fun Sv => ⟨rI, ?_⟩)⟩)
       · refine bO 5 rfl (cO rfl (k := fun Sw => ⟨rI, ?_⟩)); refine bO 7 rfl (bY (b := Sw) (vs := (jc bZ)) (k := ⟨rI, ?_⟩)); refine bO 8 rfl (bY (b := Dt) (vs := (jc gu)) (k := ⟨rI, ?_⟩)); refine eT (eF ((bZ.fZ, bZ.side, gu.fZ, gu.side), (Sw, Dt)) _ _ hM ⟨rfl, rfl, rfl, trivial⟩ rI)
       refine bO 4 rfl (bJ (fun w hm => let ⟨S, hs⟩ := hm; nK _ w jY gu D7 (bB hs) ) ⟨rI, ?_⟩); refine bO 7 rfl (bY (b := Sv) (vs := (jc bZ)) (k := ⟨rI, ?_⟩)); refine bO 8 rfl (bY (b := Dt) (vs := (jc gu)) (k := ⟨rI, ?_⟩)); refine eT (eF ((bZ.fZ, bZ.side, gu.fZ, gu.side), (Sv, Dt)) _ _ hM ⟨rfl, rfl, rfl, trivial⟩ rI)
     refine bO 3 rfl (bJ (fun w hm => let ⟨S, hs⟩ := hm; wG _ w t0 jY uy (bB hs) ) ⟨rI, ?_⟩); obtain ⟨rU, hy47, hM⟩ := bind_some hM; refine bO 4 rfl (bJ (fun w hm => let ⟨S, hs⟩ := hm; nK _ w jY rU hy47 (bB hs) ) ⟨rI, ?_⟩); refine bO 7 rfl (bY (b := Gi) (vs := (jc bZ)) (k := ⟨rI, ?_⟩)); refine bO 8 rfl (bY (b := Dt) (vs := (jc rU)) (k := ⟨rI, ?_⟩)); refine eT (eF ((bZ.fZ, bZ.side, rU.fZ, rU.side), (Gi, Dt)) _ _ hM ⟨rfl, rfl, rfl, trivial⟩ rI)
   · refine kD 1 6 (⟨_, rfl, rfl, bJ (fun w hm => let ⟨S, hs⟩ := hm; nK _ w s0 bZ pQ (bB hs) ) ⟨rI, ?_⟩⟩) (⟨_, rfl, rfl, cO rfl (k := fun SB => ⟨rI, ?_⟩)⟩)
     · obtain ⟨lV, Ia, hM⟩ := bind_some hM; refine kD 3 6 (⟨_, rfl, rfl, bJ (fun w hm => let ⟨S, hs⟩ := hm; wG _ w t0 lV Ia (bB hs) ) ⟨rI, ?_⟩⟩) (⟨_, rfl, rfl, cO rfl (k := fun SC => ⟨rI, ?_⟩)⟩)
       · obtain ⟨Bz, Uy, hM⟩ := bind_some hM; refine kD 4 6 (⟨_, rfl, rfl, bJ (fun w hm => let ⟨S, hs⟩ := hm; nK _ w lV Bz Uy (bB hs) ) ⟨rI, ?_⟩⟩) (⟨_, rfl, rfl, cO rfl (k := fun SE => ⟨rI, ?_⟩)⟩)
         · refine bO 6 rfl (cO rfl (k := fun SF => ⟨rI, ?_⟩)); refine bO 7 rfl (bY (b := b16) (vs := (jc bZ)) (k := ⟨rI, ?_⟩)); refine bO 8 rfl (bY (b := SF) (vs := (jc Bz)) (k := ⟨rI, ?_⟩)); refine eT (eF ((bZ.fZ, bZ.side, Bz.fZ, Bz.side), (b16, SF)) _ _ hM ⟨rfl, rfl, rfl, trivial⟩ rI)
         refine bO 4 rfl (bJ (fun w hm => let ⟨S, hs⟩ := hm; nK _ w lV Bz Uy (bB hs) ) ⟨rI, ?_⟩); refine bO 7 rfl (bY (b := b16) (vs := (jc bZ)) (k := ⟨rI, ?_⟩)); refine bO 8 rfl (bY (b := SE) (vs := (jc Bz)) (k := ⟨rI, ?_⟩)); refine eT (eF ((bZ.fZ, bZ.side, Bz.fZ, Bz.side), (b16, SE)) _ _ hM ⟨rfl, rfl, rfl, trivial⟩ rI)
       refine bO 3 rfl (bJ (fun w hm => let ⟨S, hs⟩ := hm; wG _ w t0 lV Ia (bB hs) ) ⟨rI, ?_⟩); obtain ⟨Mw, abM, hM⟩ := bind_some hM; refine bO 4 rfl (bJ (fun w hm => let ⟨S, hs⟩ := hm; nK _ w lV Mw abM (bB hs) ) ⟨rI, ?_⟩); refine bO 7 rfl (bY (b := b16) (vs := (jc bZ)) (k := ⟨rI, ?_⟩)); refine bO 8 rfl (bY (b := SC) (vs := (jc Mw)) (k := ⟨rI, ?_⟩)); refine eT (eF ((bZ.fZ, bZ.side, Mw.fZ, Mw.side), (b16, SC)) _ _ hM ⟨rfl, rfl, rfl, trivial⟩ rI)
     refine bO 1 rfl (bJ (fun w hm => let ⟨S, hs⟩ := hm; nK _ w s0 bZ pQ (bB hs) ) ⟨rI, ?_⟩); obtain ⟨Xk, abO, hM⟩ := bind_some hM; refine bO 3 rfl (bJ (fun w hm => let ⟨S, hs⟩ := hm; wG _ w t0 Xk abO (bB hs) ) ⟨rI, ?_⟩); obtain ⟨uV, OV, hM⟩ := bind_some hM; refine bO 4 rfl (bJ (fun w hm => let ⟨S, hs⟩ := hm; nK _ w Xk uV OV (bB hs) ) ⟨rI, ?_⟩); refine bO 7 rfl (bY (b := b16) (vs := (jc bZ)) (k := ⟨rI, ?_⟩)); refine bO 8 rfl (bY (b := SB) (vs := (jc uV)) (k := ⟨rI, ?_⟩)); refine eT (eF ((bZ.fZ, bZ.side, uV.fZ, uV.side), (b16, SB)) _ _ hM ⟨rfl, rfl, rfl, trivial⟩ rI)
   refine kD 1 5 (⟨_, rfl, rfl, bJ (fun w hm => let ⟨S, hs⟩ := hm; nK _ w s0 bZ pQ (bB hs) ) ⟨rI, ?_⟩⟩) (⟨_, rfl, rfl, cO rfl (k := fun SG => ⟨rI, ?_⟩)⟩)
   · obtain ⟨oD, KE, hM⟩ := bind_some hM; refine kD 3 5 (⟨_, rfl, rfl, bJ (fun w hm => let ⟨S, hs⟩ := hm; wG _ w t0 oD KE (bB hs) ) ⟨rI, ?_⟩⟩) (⟨_, rfl, rfl, cO rfl (k := fun SH => ⟨rI, ?_⟩)⟩)
     · obtain ⟨nM, KF, hM⟩ := bind_some hM; refine kD 4 5 (⟨_, rfl, rfl, bJ (fun w hm => let ⟨S, hs⟩ := hm; nK _ w oD nM KF (bB hs) ) ⟨rI, ?_⟩⟩) (⟨_, rfl, rfl, cO rfl (k := fun M0 => ⟨rI, ?_⟩)⟩)
       · refine bO 5 rfl (cO rfl (k := fun SI => ⟨rI, ?_⟩)); refine bO 7 rfl (bY (b := SI) (vs := (jc bZ)) (k := ⟨rI, ?_⟩)); refine bO 8 rfl (bY (b := b17) (vs := (jc nM)) (k := ⟨rI, ?_⟩)); refine eT (eF ((bZ.fZ, bZ.side, nM.fZ, nM.side), (SI, b17)) _ _ hM ⟨rfl, rfl, rfl, trivial⟩ rI)
       refine bO 4 rfl (bJ (fun w hm => let ⟨S, hs⟩ := hm; nK _ w oD nM KF (bB hs) ) ⟨rI, ?_⟩); refine bO 7 rfl (bY (b := M0) (vs := (jc bZ)) (k := ⟨rI, ?_⟩)); refine bO 8 rfl (bY (b := b17) (vs := (jc nM)) (k := ⟨rI, ?_⟩)); refine eT (eF ((bZ.fZ, bZ.side, nM.fZ, nM.side), (M0, b17)) _ _ hM ⟨rfl, rfl, rfl, trivial⟩ rI)
     refine bO 3 rfl (bJ (fun w hm => let ⟨S, hs⟩ := hm; wG _ w t0 oD KE (bB hs) ) ⟨rI, ?_⟩); obtain ⟨Mx, abR, hM⟩ := bind_some hM; refine bO 4 rfl (bJ (fun w hm => let ⟨S, hs⟩ := hm; nK _ w oD Mx abR (bB hs) ) ⟨rI, ?_⟩); refine bO 7 rfl (bY (b := SH) (vs := (jc bZ)) (k := ⟨rI, ?_⟩)); refine bO 8 rfl (bY (b := b17) (vs := (jc Mx)) (k := ⟨rI, ?_⟩)); refine eT (eF ((bZ.fZ, bZ.side, Mx.fZ, Mx.side), (SH, b17)) _ _ hM ⟨rfl, rfl, rfl, trivial⟩ rI)
   refine bO 1 rfl (bJ (fun w hm => let ⟨S, hs⟩ := hm; nK _ w s0 bZ pQ (bB hs) ) ⟨rI, ?_⟩); obtain ⟨rV, OX, hM⟩ := bind_some hM; refine bO 3 rfl (bJ (fun w hm => let ⟨S, hs⟩ := hm; wG _ w t0 rV OX (bB hs) ) ⟨rI, ?_⟩); obtain ⟨zK, OY, hM⟩ := bind_some hM; refine bO 4 rfl (bJ (fun w hm => let ⟨S, hs⟩ := hm; nK _ w rV zK OY (bB hs) ) ⟨rI, ?_⟩); refine bO 7 rfl (bY (b := SG) (vs := (jc bZ)) (k := ⟨rI, ?_⟩)); refine bO 8 rfl (bY (b := b17) (vs := (jc zK)) (k := ⟨rI, ?_⟩)); refine eT (eF ((bZ.fZ, bZ.side, zK.fZ, zK.side), (SG, b17)) _ _ hM ⟨rfl, rfl, rfl, trivial⟩ rI)
 clear hM; intro g hM; obtain ⟨⟨rG, rH, rR, rT⟩, ⟨xw, xA⟩⟩ := g; dsimp only at hM ⊢; dsimp only [LW] at hM; refine aO fun K2 hK2 => ?_; refine sr ?_; refine oe (aH 3) ?_; refine oe (aN (b := b1)) ?_; refine mZ (fun w hm => Kn.len (kG l0.Links aG.2.2.2) hm) fun hl4 => ?_; refine oe bR ?_; refine om ?_; refine on ?_; refine bX ?_; refine fM (γ := Nat × Nat × Unit) (env := fun (_, uT, _) => [(8, eP xw), (9, eP xA), (20, eS aG.2.2.2 l0.Links), (21, eI (l0.Links.length : Int)), (22, eI (uT : Int))]) (mem := fun (_, uT, _) => [own xw 158 [vI rG, vI rH], own xA 158 [vI rR, vI rT], iL l0.Links aG.2.2.2]) (R := fun g => iter (FI l0 rG rH rR rT) g.1 g.2.1 = some y) (μ := fun g => g.1) (FUEL, 0, ()) hM ⟨rfl, rfl, rfl, rfl, rfl, trivial⟩ rI ?_; clear hM; intro g hM jw hL1; obtain ⟨dx, uT, ⟨⟩⟩ := g; dsimp only at hM ⊢; obtain ⟨dx, bI, rfl, eH, hM⟩ := gG hM; dsimp only [FI] at hM; refine sr ?_; refine oe dJ ?_; refine on ?_; refine aO fun K5 dW => ?_; refine cc rfl hM (fun mP hM => ?_) (fun mP hM => ?_)
 · have aeP := of_decide_eq_true mP; refine bA (dW _ _ ?_); clear dW; refine aO fun K6 dM => ?_; refine bX ?_; refine sr ?_; obtain ⟨x6, hx7, hM⟩ := bind_some hM; refine oe (bK (xs := l0.Links) 6 (kG l0.Links aG.2.2.2) (iS hx7)) ?_; refine oe (jm (m := 6) (i := (uT : Int)) (xs := l0.Links) (y := x6) (l := (rO x6)) 0 (kG l0.Links aG.2.2.2) (fun _ => hx7)) ?_; refine aM (cO rfl (k := fun b8 => ?_)); refine aM (bY (b := b8) (vs := (rO x6)) (k := ?_)); refine on ?_; refine kL (γ := Unit × (Nat × Nat)) (env := fun (_, (Dx, Dz)) => [(8, eP xw), (9, eP xA), (11, eP b8), (12, eP Dx), (13, eP Dz), (20, eS aG.2.2.2 l0.Links), (21, eI (l0.Links.length : Int)), (22, eI (uT : Int))]) (mem := fun (_, (Dx, Dz)) => [own xw 158 [vI rG, vI rH], own xA 158 [vI rR, vI rT], own b8 112 (rO x6), own Dx 158 [vI x6.A, vI x6.jR], own Dz 158 [vI x6.B, vI x6.jS], iL l0.Links aG.2.2.2]) (R := fun g => QJ x6 rG rH rR rT bI uT g.1 = some y) ?_ ?_
   · intro ME hJ3; refine jh _ (List.Sublist.refl _) ?_; refine aJ 0 rfl (aH 0) ?_; refine aJ 1 rfl (aN (b := b8)) ?_; refine aJ 2 rfl (aH 1) ?_; refine aJ 3 rfl (aN (b := b8)) ?_; refine aJ 4 rfl (fU [vI x6.A, vI x6.jR]) ?_; refine aJ 5 rfl (aH 2) ?_; refine aJ 6 rfl (aN (b := b8)) ?_; refine aJ 7 rfl (aH 3) ?_; refine aJ 8 rfl (aN (b := b8)) ?_; refine aJ 9 rfl (fU [vI x6.B, vI x6.jS]) ?_; refine kD 10 11 (⟨_, rfl, rfl, cO rfl (k := fun b10 => ⟨rI, ?_⟩)⟩) (⟨_, rfl, rfl, cO rfl (k := fun b11 => ⟨rI, ?_⟩)⟩)
     · refine bO 11 rfl (cO rfl (k := fun b12 => ⟨rI, ?_⟩)); refine bO 12 rfl (bY (b := b10) (vs := [vI x6.A, vI x6.jR]) (k := ⟨rI, ?_⟩)); refine bO 13 rfl (bY (b := b12) (vs := [vI x6.B, vI x6.jS]) (k := ⟨rI, ?_⟩)); refine eT (hJ3 ((), (b10, b12)) _ _ hM ⟨rfl, rfl, rfl, rfl, rfl, rfl, rfl, rfl, trivial⟩ rI)
     refine bO 10 rfl (cO rfl (k := fun b13 => ⟨rI, ?_⟩)); refine bO 12 rfl (bY (b := b13) (vs := [vI x6.A, vI x6.jR]) (k := ⟨rI, ?_⟩)); refine bO 13 rfl (bY (b := b11) (vs := [vI x6.B, vI x6.jS]) (k := ⟨rI, ?_⟩)); refine eT (hJ3 ((), (b13, b11)) _ _ hM ⟨rfl, rfl, rfl, rfl, rfl, rfl, rfl, rfl, trivial⟩ rI)
   clear hM; intro g hM; obtain ⟨⟨⟩, ⟨Dx, Dz⟩⟩ := g; dsimp only at hM ⊢; dsimp only [QJ] at hM; refine sr ?_; refine oe (cu (b := Dx)) ?_; refine oe (cu (b := xw)) ?_; refine oe (Gt [.int .i64, .int .i64] (decide ((ku.mk x6.A x6.jR) = (ku.mk rG rH))) (JU _ _)) ?_; refine om ?_; refine aF rfl (cu (b := Dz)) ?_; refine aF rfl (cu (b := xA)) ?_; refine aF rfl (Gt [.int .i64, .int .i64] (decide ((ku.mk x6.B x6.jS) = (ku.mk rR rT))) (JU _ _)) ?_; refine oe dO ?_; refine om ?_; refine aF rfl (cu (b := Dx)) ?_; refine aF rfl (cu (b := xA)) ?_; refine aF rfl (Gt [.int .i64, .int .i64] (decide ((ku.mk x6.A x6.jR) = (ku.mk rR rT))) (JU _ _)) ?_; refine aF rfl aL ?_; refine aF rfl (cu (b := Dz)) ?_; refine aF rfl (cu (b := xw)) ?_; refine aF rfl (Gt [.int .i64, .int .i64] (decide ((ku.mk x6.B x6.jS) = (ku.mk rG rH))) (JU _ _)) ?_; refine aF rfl dO ?_; refine oe eu ?_; refine on ?_; refine cc rfl hM (fun sU hM => ?_) (fun sU hM => ?_)
   · refine sr ?_; refine oe (aH 4) ?_; refine oe (aN (b := b8)) ?_; refine oa ?_; refine oa ?_; refine on ?_; obtain rfl := some_inj hM; refine bn (lF (fun w hm => bQ hm rfl))
   refine bA (dM _ _ ?_); clear dM; refine bE ?_; refine oe (dh (hr := fun _ => by unfold gy; omega)) ?_; refine om ?_; refine bF (hL1 (dx, (uT + 1), ()) _ _ (eqc eH hM) (Nat.lt_succ_self _) ⟨rfl, rfl, rfl, rfl, rfl, trivial⟩ rI)
 refine fI (hK2 _ _ ?_); clear hK2; dsimp only [Wm] at hM; refine sr ?_; refine oa ?_; refine oa ?_; refine on ?_; obtain rfl := some_inj hM; refine bn (lF (fun w hm => bQ hm rfl))
def QI (wH : List Int) : Unit → Option ((List Int) × Int) := fun _ =>
  some (wH, 0)
def FE (sZ : List Step) (r0 : aI) (l0 : Layout) (mD : ((List Int) × Nat) → Option ((List Int) × Int)) : ((List Int) × Nat) → Option ((List Int) × Int) := fun (wH, wW) =>
  if decide ((wW : Int) < (sZ.length : Int)) then
    ((idx sZ (wW : Int)).bind fun x41 =>
    (idx r0.Steps (wW : Int)).bind fun JL =>
    (Jh l0 JL x41).bind fun rU =>
    if (!rU.2) then
      (some (([] : List Int), 11))
    else
      (bq (decide ((wH.length + ([rU.1] : List Int).length) * 8 ≤ 140737488355328)) <|
      mD ((wH ++ ([rU.1] : List Int)), wW + 1)))
  else
    (QI wH ())
def LV (r0 : aI) (l0 : Layout) : Unit → Option ((List Int) × Int) := fun _ =>
  (sub r0.Steps 1 (r0.Steps.length : Int)).bind fun sZ =>
  iter (FE sZ r0 l0) FUEL (([] : List Int), 0)
def FD (r0 : aI) (l0 : Layout) (gZ : ((List Bool) × Nat) → Option ((List Int) × Int)) : ((List Bool) × Nat) → Option ((List Int) × Int) := fun (uK, zD) =>
  if decide ((zD : Int) < (r0.Steps.length : Int)) then
    ((idx r0.Steps (zD : Int)).bind fun x25 =>
    (idx uK x25.Section).bind fun x28 =>
    if x28 then
      (some (([] : List Int), 5))
    else
      ((idx uK x25.Section).bind fun x32 =>
      gZ ((uK.set x25.Section.toNat true), zD + 1)))
  else
    (LV r0 l0 ())
def LU (l0 : Layout) (r0 : aI) : Unit → Option ((List Int) × Int) := fun _ =>
  (mk (α := Bool) false (l0.Sections.length : Int)).bind fun m20 =>
  iter (FD r0 l0) FUEL (m20, 0)
def FC (r0 : aI) (l0 : Layout) (bI : Nat → Option ((List Int) × Int)) : Nat → Option ((List Int) × Int) := fun zA =>
  if decide ((zA : Int) < (r0.Steps.length : Int)) then
    ((idx r0.Steps (zA : Int)).bind fun pz =>
    (LQ l0 pz).bind fun Bp =>
    if (!Bp) then
      (some (([] : List Int), 4))
    else
      (bI (zA + 1)))
  else
    (LU l0 r0 ())
def Jf (r0 : aI) (l0 : Layout) : Bool → Option ((List Int) × Int) := fun JE =>
  if JE then
    (some (([] : List Int), 4))
  else
    (iter (FC r0 l0) FUEL 0)
def FH (r0 : aI) (l0 : Layout) : Bool → Option ((List Int) × Int) := fun JD =>
  if JD then
    (some (([] : List Int), 7))
  else
    (if decide (r0.Overlap < 0) then
      (Jf r0 l0 (decide (r0.Overlap < 0)))
    else
      (bq (bP ((r0.Steps.length : Int) - r0.Overlap)) <|
      Jf r0 l0 (decide (((r0.Steps.length : Int) - r0.Overlap) < 2))))
def Jg (l0 : Layout) (r0 : aI) : Option ((List Int) × Int) :=
  (Iy l0).bind fun y3 =>
  if decide (y3 ≠ 0) then
    (some (([] : List Int), 1))
  else
    (if decide (24 < (r0.Steps.length : Int)) then
      (FH r0 l0 (decide (24 < (r0.Steps.length : Int))))
    else
      (FH r0 l0 (decide (2 < r0.Overlap))))
theorem adJ (S : bU) (w : World) (l0 : Layout) (aG : aj.R Layout) (r0 : aI) (dX : aj.R aI) (y : (List Int) × Int) (hM : Jg l0 r0 = some y) (hS : sB S w) (fJ : aj.ok S w aG l0) (sj : aj.ok S w dX r0) :
    Calls Try.prog 61 #[.agg (kX l0 aG), .agg (sM r0 dX)] w (Post (β := (aj.R (List Int))) S [] (fun g => .tuple #[sL g y.1, vI y.2]) (fun g => [ah 3 g y.1]) w) := by
 refine dH (args := [_, _]) Try.func61 rfl ((pre_nil hS).start |>.nX fJ|>.gU (α := List Step) (r := dX) (x := r0.Steps) sj) rfl ?_; unfold Jg at hM; refine sr ?_; refine aM (dU (l := (fq l0 aG)) (k := fun b1 => ?_)); refine aM (dU (l := (mY r0 dX)) (k := fun b2 => ?_)); refine oa ?_; refine oa ?_; refine on ?_; refine aO fun K2 hK2 => ?_; refine bX ?_; refine sr ?_; refine oe (cu (b := b1)) ?_; obtain ⟨y3, hy4, hM⟩ := bind_some hM; refine aM (bJ (fun w hm => let ⟨S, hs⟩ := hm; UN _ w l0 aG y3 hy4 (bB hs) ⟨(kM hs), (kM hs), (kM hs), (kM hs)⟩) ?_); refine oe jo ?_; refine oa ?_; refine on ?_; refine cc rfl hM (fun mP hM => ?_) (fun mP hM => ?_)
 · refine sr ?_; refine oa ?_; refine oa ?_; refine on ?_; refine cK (fun w hm => hm.dL (α := Int) 3 (fun _ => ())) ?_; obtain rfl := some_inj hM; refine bn (lF (fun w hm => fK (⟨none, 0, (fun _ => ())⟩ : SR (aj.R Int) ) hm rfl))
 refine kL (γ := Bool × Unit) (env := fun (JD, _) => [(2, eP b1), (3, eP b2), (20, .v (.bool JD))]) (mem := fun (JD, _) => [iL l0.aQ aG.1, iL l0.aR aG.2.1, iL l0.Sections aG.2.2.1, iL l0.Links aG.2.2.2, own b1 27 (fq l0 aG), iL r0.Steps dX, own b2 74 (mY r0 dX)]) (R := fun g => FH r0 l0 g.1 = some y) ?_ ?_
 · intro vT eF; refine sr ?_; refine oe (aH 0) ?_; refine oe (aN (b := b2)) ?_; refine oe bR ?_; refine oe iH ?_; refine oa ?_; refine on ?_; refine cc rfl hM (fun aaF hM => ?_) (fun aaF hM => ?_)
   · refine bA (eF ((decide (24 < (r0.Steps.length : Int))), ()) _ _ hM ⟨rfl, rfl, rfl, trivial⟩ rI)
   refine bE ?_; refine oe (aH 1) ?_; refine oe (aN (b := b2)) ?_; refine oe iH ?_; refine oa ?_; refine bF (eF ((decide (2 < r0.Overlap)), ()) _ _ hM ⟨rfl, rfl, rfl, trivial⟩ rI)
 clear hM; intro g hM; obtain ⟨JD, ⟨⟩⟩ := g; dsimp only at hM ⊢; dsimp only [FH] at hM; refine cc rfl hM (fun oq hM => ?_) (fun oq hM => ?_)
 · refine sr ?_; refine oa ?_; refine oa ?_; refine on ?_; refine cK (fun w hm => hm.dL (α := Int) 3 (fun _ => ())) ?_; obtain rfl := some_inj hM; refine bn (lF (fun w hm => fK (⟨none, 0, (fun _ => ())⟩ : SR (aj.R Int)  ) hm rfl))
 refine kL (γ := Bool × Unit) (env := fun (JE, _) => [(2, eP b1), (3, eP b2), (28, .v (.bool JE))]) (mem := fun (JE, _) => [iL l0.aQ aG.1, iL l0.aR aG.2.1, iL l0.Sections aG.2.2.1, iL l0.Links aG.2.2.2, own b1 27 (fq l0 aG), iL r0.Steps dX, own b2 74 (mY r0 dX)]) (R := fun g => Jf r0 l0 g.1 = some y) ?_ ?_
 · intro zR hJ2; refine sr ?_; refine oe (aH 1) ?_; refine oe (aN (b := b2)) ?_; refine oe dJ ?_; refine oa ?_; refine on ?_; refine cc rfl hM (fun aaE hM => ?_) (fun aaE hM => ?_)
   · refine bA (hJ2 ((decide (r0.Overlap < 0)), ()) _ _ hM ⟨rfl, rfl, rfl, trivial⟩ rI)
   refine bE ?_; refine oe (aH 0) ?_; refine oe (aN (b := b2)) ?_; refine oe bR ?_; refine oe (aH 1) ?_; refine oe (aN (b := b2)) ?_; obtain ⟨Zv, hM⟩ := bC hM; refine oe (iy (hr := fun hg => bS Zv)) ?_; refine oe dJ ?_; refine oa ?_; refine bF (hJ2 ((decide (((r0.Steps.length : Int) - r0.Overlap) < 2)), ()) _ _ hM ⟨rfl, rfl, rfl, trivial⟩ rI)
 clear hM; intro g hM; obtain ⟨JE, ⟨⟩⟩ := g; dsimp only at hM ⊢; dsimp only [Jf] at hM; refine cc rfl hM (fun sU hM => ?_) (fun sU hM => ?_)
 · refine sr ?_; refine oa ?_; refine oa ?_; refine on ?_; refine cK (fun w hm => hm.dL (α := Int) 3 (fun _ => ())) ?_; obtain rfl := some_inj hM; refine bn (lF (fun w hm => fK (⟨none, 0, (fun _ => ())⟩ : SR (aj.R Int)   ) hm rfl))
 refine bA (hK2 _ _ ?_); clear hK2; refine aO fun K7 eZ => ?_; refine sr ?_; refine oe (aH 0) ?_; refine oe (aN (b := b2)) ?_; refine mZ (fun w hm => Kn.len (kG r0.Steps dX) hm) fun aa5 => ?_; refine oe bR ?_; refine om ?_; refine on ?_; refine bX ?_; refine fM (γ := Nat × Nat × Unit) (env := fun (_, zA, _) => [(2, eP b1), (3, eP b2), (40, eS dX r0.Steps), (41, eI (r0.Steps.length : Int)), (42, eI (zA : Int))]) (mem := fun (_, zA, _) => [iL l0.aQ aG.1, iL l0.aR aG.2.1, iL l0.Sections aG.2.2.1, iL l0.Links aG.2.2.2, own b1 27 (fq l0 aG), iL r0.Steps dX, own b2 74 (mY r0 dX)]) (R := fun g => iter (FC r0 l0) g.1 g.2.1 = some y) (μ := fun g => g.1) (FUEL, 0, ()) hM ⟨rfl, rfl, rfl, rfl, rfl, trivial⟩ rI ?_; clear hM; intro g hM jw hL1; obtain ⟨dx, zA, ⟨⟩⟩ := g; dsimp only at hM ⊢; obtain ⟨dx, bI, rfl, eH, hM⟩ := gG hM; dsimp only [FC] at hM
 refine sr ?_; refine oe dJ ?_; refine on ?_; refine aO fun rW iA => ?_; refine cc rfl hM (fun xK hM => ?_) (fun xK hM => ?_)
 · have aeG := of_decide_eq_true xK; refine bA (iA _ _ ?_); clear iA; refine aO fun rX ig => ?_; refine bX ?_; refine sr ?_; obtain ⟨pz, vB, hM⟩ := bind_some hM; refine oe (bK (xs := r0.Steps) 2 (kG r0.Steps dX) (iS vB)) ?_; refine oe (jm (m := 2) (i := (zA : Int)) (xs := r0.Steps) (y := pz) (l := (qW pz)) 0 (kG r0.Steps dX) (fun _ => vB)) ?_; refine aM (cO rfl (k := fun b15 => ?_)); refine aM (bY (b := b15) (vs := (qW pz)) (k := ?_)); refine on ?_; refine sr ?_; refine oe (cu (b := b1)) ?_; refine oe (cu (b := b15)) ?_; obtain ⟨Bp, OP, hM⟩ := bind_some hM; refine aM (bJ (fun w hm => let ⟨S, hs⟩ := hm; adH _ w l0 aG pz Bp OP (bB hs) ⟨(kM hs), (kM hs), (kM hs), (kM hs)⟩) ?_); refine oe gB ?_; refine on ?_; refine cc rfl hM (fun hc18 hM => ?_) (fun hc18 hM => ?_)
   · refine sr ?_; refine oa ?_; refine oa ?_; refine on ?_; refine cK (fun w hm => hm.dL (α := Int) 3 (fun _ => ())) ?_; obtain rfl := some_inj hM; refine bn (lF (fun w hm => fK (⟨none, 0, (fun _ => ())⟩ : SR (aj.R Int)                                                                                                                                                    ) hm rfl))
   refine bA (ig _ _ ?_); clear ig; refine bE ?_; refine oe (dh (hr := fun _ => by unfold gy; omega)) ?_; refine om ?_; refine bF (hL1 (dx, (zA + 1), ()) _ _ (eqc eH hM) (Nat.lt_succ_self _) ⟨rfl, rfl, rfl, rfl, rfl, trivial⟩ rI)
 refine fI (eZ _ _ ?_); clear eZ; dsimp only [LU] at hM; refine sr ?_; refine oe (aH 2) ?_; refine oe (aN (b := b1)) ?_; refine oe bR ?_; obtain ⟨m20, aa8, hM⟩ := bind_some hM; refine aM (WS (α := Bool) (e := 4) false () aa8 (fun _ _ => trivial) (fun AJ ae3 => ?_)); refine oa ?_; refine on ?_; refine aO fun zQ mO => ?_; refine sr ?_; refine oe (aH 0) ?_; refine oe (aN (b := b2)) ?_; refine mZ (fun w hm => Kn.len (kG r0.Steps dX) hm) fun aeY => ?_; refine oe bR ?_; refine om ?_; refine on ?_; refine bX ?_; refine fM (γ := Nat × ((List Bool) × Nat) × Unit) (env := fun (_, (uK, zD), _) => [(2, eP b1), (3, eP b2), (8, eS AJ uK), (56, eS dX r0.Steps), (57, eI (r0.Steps.length : Int)), (58, eI (zD : Int))]) (mem := fun (_, (uK, zD), _) => [iL l0.aQ aG.1, iL l0.aR aG.2.1, iL l0.Sections aG.2.2.1, iL l0.Links aG.2.2.2, own b1 27 (fq l0 aG), iL r0.Steps dX, own b2 74 (mY r0 dX), ah 4 AJ uK]) (R := fun g => iter (FD r0 l0) g.1 g.2.1 = some y) (μ := fun g => g.1) (FUEL, (m20, 0), ()) hM ⟨rfl, rfl, rfl, rfl, rfl, rfl, trivial⟩ rI ?_
 clear hM; intro g hM xk hL2; obtain ⟨lS, ⟨uK, zD⟩, ⟨⟩⟩ := g; dsimp only at hM ⊢; obtain ⟨lS, gZ, rfl, pO, hM⟩ := gG hM; dsimp only [FD] at hM; refine sr ?_; refine oe dJ ?_; refine on ?_; refine aO fun F5 qK => ?_; refine cc rfl hM (fun hc24 hM => ?_) (fun hc24 hM => ?_)
 · have aeM := of_decide_eq_true hc24; refine bA (qK _ _ ?_); clear qK; refine aO fun Dn oQ => ?_; refine bX ?_; refine sr ?_; obtain ⟨x25, Am, hM⟩ := bind_some hM; refine oe (bK (xs := r0.Steps) 2 (kG r0.Steps dX) (iS Am)) ?_; refine oe (jm (m := 2) (i := (zD : Int)) (xs := r0.Steps) (y := x25) (l := (qW x25)) 0 (kG r0.Steps dX) (fun _ => Am)) ?_; refine aM (cO rfl (k := fun Du => ?_)); refine aM (bY (b := Du) (vs := (qW x25)) (k := ?_)); refine on ?_; refine aO fun F6 qL => ?_; refine sr ?_; refine om ?_; refine oe (aH 0) ?_; refine oe (aN (b := Du)) ?_; obtain ⟨x28, hx29, hM⟩ := bind_some hM; refine oe (bK (xs := uK) 1 (Kn.ah (e := 4) (r := AJ) hA) (iS hx29)) ?_; refine oe (dn (i := x25.Section) (xs := uK) (y := x28) 0 (Kn.ah (e := 4) (r := AJ) hA) (fun _ => hx29)) ?_; refine on ?_; refine cc rfl hM (fun Hq hM => ?_) (fun Hq hM => ?_)
   · refine sr ?_; refine oa ?_; refine oa ?_; refine on ?_; refine cK (fun w hm => hm.dL (α := Int) 3 (fun _ => ())) ?_; obtain rfl := some_inj hM; refine bn (lF (fun w hm => fK (⟨none, 0, (fun _ => ())⟩ : SR (aj.R Int)                                                                                                                                                                                 ) hm rfl))
   refine bA (qL _ _ ?_); clear qL; refine bE ?_; refine om ?_; refine oe (aH 0) ?_; refine oe (aN (b := Du)) ?_; obtain ⟨x32, BN, hM⟩ := bind_some hM; refine oe (bK (xs := uK) 1 (Kn.ah (e := 4) (r := AJ) hA) (iS BN)) ?_; refine aM (wS (r := AJ) (i := x25.Section) (xs := uK) (u := x32) (vs := [.bool true]) 0 true BN rfl (fun _ _ h => h) uA ?_); have hx34 := jM (u := true) BN; refine bF (oQ _ _ ?_); clear oQ; refine bE ?_; refine oe (dh (hr := fun _ => by unfold gy; omega)) ?_; refine om ?_; refine bF (hL2 (lS, ((uK.set x25.Section.toNat true), zD + 1), ()) _ _ (eqc pO hM) (Nat.lt_succ_self _) ⟨rfl, rfl, (by simp only [List.length_set, eS, sL]; rfl), rfl, rfl, rfl, trivial⟩ rI)
 refine fI (mO _ _ ?_); clear mO; dsimp only [LV] at hM; refine sr ?_; refine oa ?_; refine on ?_; refine aO fun F7 pK => ?_; refine sr ?_; refine oe (aH 0) ?_; refine oe (aN (b := b2)) ?_; obtain ⟨sZ, aa7, hM⟩ := bind_some hM; refine aM (Dh (r := dX) (xs := r0.Steps) (ol := some (.i64, 1)) (oh := none) (Sk.eB (α := List Step) (r := dX) (x := r0.Steps) hA) aa7 (fun AO => ?_)); refine mZ (fun w hm => Kn.len (kG sZ AO) hm) fun ae0 => ?_; refine oe bR ?_; refine om ?_; refine on ?_; refine bX ?_; refine cK (fun w hm => hm.dL (α := Int) 3 (fun _ => ())) ?_; refine fM (γ := Nat × ((List Int) × Nat) × (SR (aj.R Int))) (env := fun (_, (wH, wW), Fx) => [(2, eP b1), (3, eP b2), (11, eS Fx wH), (74, eS AO sZ), (75, eI (sZ.length : Int)), (76, eI (wW : Int))]) (mem := fun (_, (wH, wW), Fx) => [iL l0.aQ aG.1, iL l0.aR aG.2.1, iL l0.Sections aG.2.2.1, iL l0.Links aG.2.2.2, own b1 27 (fq l0 aG), iL r0.Steps dX, own b2 74 (mY r0 dX), ah 3 Fx wH, iL sZ AO]) (R := fun g => iter (FE sZ r0 l0) g.1 g.2.1 = some y) (μ := fun g => g.1) (FUEL, (([] : List Int), 0), (⟨none, 0, (fun _ => ())⟩ : SR (aj.R Int)                                                                                                                                                                                  )) hM ⟨rfl, rfl, rfl, rfl, rfl, rfl, trivial⟩ rI ?_
 clear hM; intro g hM F8 hL3; obtain ⟨sG, ⟨wH, wW⟩, Fx⟩ := g; dsimp only at hM ⊢; obtain ⟨sG, mD, rfl, xM, hM⟩ := gG hM; dsimp only [FE] at hM; refine sr ?_; refine oe dJ ?_; refine on ?_; refine aO fun MC vZ => ?_; refine cc rfl hM (fun TV hM => ?_) (fun TV hM => ?_)
 · have aeO := of_decide_eq_true TV; refine bA (vZ _ _ ?_); clear vZ; refine aO fun Rs Af => ?_; refine bX ?_; refine sr ?_; refine om ?_; obtain ⟨x41, Um, hM⟩ := bind_some hM; refine oe (bK (xs := sZ) 2 (kG sZ AO) (iS Um)) ?_; refine oe (jm (m := 2) (i := (wW : Int)) (xs := sZ) (y := x41) (l := (qW x41)) 0 (kG sZ AO) (fun _ => Um)) ?_; refine aM (cO rfl (k := fun Sr => ?_)); refine oa ?_; refine aM (bY (b := Sr) (vs := (qW x41)) (k := ?_)); refine on ?_; refine aO fun Xt G5 => ?_; refine jh _ (List.Sublist.refl _) ?_; refine aJ 0 rfl (cu (b := b1)) ?_; refine aJ 1 rfl (aH 0) ?_; refine aJ 2 rfl (aN (b := b2)) ?_; refine aJ 3 rfl aL ?_; obtain ⟨JL, Un, hM⟩ := bind_some hM; refine aJ 4 rfl (bK (xs := r0.Steps) 2 (kG r0.Steps dX) (iS Un)) ?_; refine aJ 5 rfl (jm (m := 2) (i := (wW : Int)) (xs := r0.Steps) (y := JL) (l := (qW JL)) 0 (kG r0.Steps dX) (fun _ => Un)) ?_; refine aJ 6 rfl (cu (b := Sr)) ?_; obtain ⟨rU, hy47, hM⟩ := bind_some hM; refine bO 7 rfl (bJ (fun w hm => let ⟨S, hs⟩ := hm; adK _ w l0 aG JL x41 rU hy47 (bB hs) ⟨(kM hs), (kM hs), (kM hs), (kM hs)⟩) ⟨rI, ?_⟩)
   refine aJ 8 rfl aL ?_; refine aJ 9 rfl (jA (vs := [vI rU.1, .bool rU.2])) ?_; refine aJ 10 rfl (jA (vs := [vI rU.1, .bool rU.2])) ?_; refine aJ 11 rfl d9 ?_; refine aJ 12 rfl d9 ?_; refine eT (G5 _ _ ?_); clear G5; refine aO fun Rt Ag => ?_; refine sr ?_; refine om ?_; refine oe gB ?_; refine on ?_; refine cc rfl hM (fun Og hM => ?_) (fun Og hM => ?_)
   · refine sr ?_; refine oa ?_; refine oa ?_; refine on ?_; refine cK (fun w hm => hm.dL (α := Int) 3 (fun _ => ())) ?_; obtain rfl := some_inj hM; refine bn (lF (fun w hm => fK (⟨none, 0, (fun _ => ())⟩ : SR (aj.R Int)                                                                                                                                                                                       ) hm rfl))
   refine bA (Ag _ _ ?_); clear Ag; refine bE ?_; refine om ?_; refine om ?_; refine aM (gq (α := Int) 3 (fun _ => ()) ([rU.1] : List Int) oF (fun Fh => ?_)); obtain ⟨aaj, hM⟩ := bC hM; refine aM (iQ (r := Fx) (r2 := Fh) uR (Kn.ah (e := 3) (r := Fh) hA) oF (of_decide_eq_true aaj) (fun r51 => ?_)); refine oa ?_; refine bF (Af _ _ ?_); clear Af; refine bE ?_; refine oe (dh (hr := fun _ => by unfold gy; omega)) ?_; refine om ?_; refine bF (hL3 (sG, ((wH ++ ([rU.1] : List Int)), wW + 1), r51) _ _ (eqc xM hM) (Nat.lt_succ_self _) ⟨rfl, rfl, rfl, rfl, rfl, rfl, trivial⟩ rI)
 refine fI (pK _ _ ?_); clear pK; dsimp only [QI] at hM; refine sr ?_; refine om ?_; refine oa ?_; refine oa ?_; refine on ?_; obtain rfl := some_inj hM; refine bn (lF (fun w hm => fK Fx hm rfl))
def Fz (l0 : Layout) (r0 : aI) : Option Int :=
  (Jg l0 r0).bind fun y3 =>
  some y3.2
theorem Wj (S : bU) (w : World) (l0 : Layout) (aG : aj.R Layout) (r0 : aI) (dX : aj.R aI) (y : Int) (hM : Fz l0 r0 = some y) (hS : sB S w) (fJ : aj.ok S w aG l0) (sj : aj.ok S w dX r0) :
    Calls Try.prog 41 #[.agg (kX l0 aG), .agg (sM r0 dX)] w (dQ w (vI y)) := by
 refine dH (args := [_, _]) Try.func41 rfl ((pre_nil hS).start |>.nX fJ|>.gU (α := List Step) (r := dX) (x := r0.Steps) sj) rfl ?_; unfold Fz at hM; refine sr ?_; refine aM (dU (l := (fq l0 aG)) (k := fun b1 => ?_)); refine aM (dU (l := (mY r0 dX)) (k := fun b2 => ?_)); refine oa ?_; refine on ?_; refine sr ?_; refine oe (cu (b := b1)) ?_; refine oe (cu (b := b2)) ?_; obtain ⟨y3, hy4, hM⟩ := bind_some hM; refine aM (fD jF.nil (fun S w hs hP => adJ _ w l0 aG r0 dX y3 hy4 (bB hs) ⟨(kM hs), (kM hs), (kM hs), (kM hs)⟩ (kM hs)) fC (fun r5 => ?_)); dsimp only [List.cons_append, List.nil_append]; refine om ?_; refine oe (jA (vs := [sL r5 y3.1, vI y3.2])) ?_; refine oe (jA (vs := [sL r5 y3.1, vI y3.2])) ?_; refine oa ?_
 refine oa ?_; refine on ?_; refine sr ?_; refine om ?_; refine oa ?_; refine on ?_; obtain rfl := some_inj hM; refine bn (bT (fun w hm => bQ hm rfl))
end Go.Proofs.Ytcalibhfgdncaaa
