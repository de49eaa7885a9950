/- Models of functions, and that the code computes them. -/
import Derived.Test.YtcalibhfgdncaaaGreatDoorLm
set_option linter.all false
namespace Go.Proofs.YtcalibhfgdncaaaGreatDoor
open Go.Dc Go.RowKit
set_option maxRecDepth 10000
def Jy (s0 : Step) : Option Step :=
  if decide (s0.Dir = 0) then
    (some (Step.mk s0.Section 1))
  else
    (some (Step.mk s0.Section 0))
theorem vF (S : bD) (w : World) (s0 : Step) (y : Step) (hM : Jy s0 = some y) (hS : sB S w)  :
    Calls Tryz.prog 192 #[.agg (xw s0)] w (bW w (.agg (xw y))) := by
 refine bR (args := [_]) Tryz.func192 rfl ((pre_nil hS).start) rfl ?_; unfold Jy at hM; refine sr ?_; refine aF (bU (l := (kK s0)) (k := fun b1 => ?_)); refine aF (bQ rfl (k := fun b2 => ?_)); refine on ?_; refine aD fun K2 hK2 => ?_; refine sr ?_; refine oe (ay 1) ?_; refine oe (aC (b := b1)) ?_; refine oe dS ?_; refine on ?_; refine cc rfl hM (fun hc3 hM => ?_) (fun hc3 hM => ?_)
 · refine sr ?_; refine oe (ay 0) ?_; refine oe (aC (b := b1)) ?_; refine oe (jE [vI s0.Section, vI 1]) ?_; refine aF (bI (b := b2) (vs := [vI s0.Section, vI 1]) (k := ?_)); refine on ?_; obtain rfl := some_inj hM; refine aL (aZ (fun w hm => aW hm rfl))
 refine aM (hK2 _ _ ?_); clear hK2; refine sr ?_; refine oe (ay 0) ?_; refine oe (aC (b := b1)) ?_; refine oe (jE [vI s0.Section, vI 0]) ?_; refine aF (bI (b := b2) (vs := [vI s0.Section, vI 0]) (k := ?_)); refine on ?_; obtain rfl := some_inj hM; refine aL (aZ (fun w hm => aW hm rfl))
def Nz (l0 : Layout) (s0 : Step) : Option Bool :=
  some ((decide (0 ≤ s0.Section) && decide (s0.Section < (l0.Sections.length : Int))) && (decide (s0.Dir = 0) || decide (s0.Dir = 1)))
theorem agY (S : bD) (w : World) (l0 : Layout) (aj : ak.R Layout) (s0 : Step) (y : Bool) (hM : Nz l0 s0 = some y) (hS : sB S w) (dH : ak.ok S w aj l0) :
    Calls Tryz.prog 174 #[.agg (iy l0 aj), .agg (xw s0)] w (bW w (.bool y)) := by
 refine bR (args := [_, _]) Tryz.func174 rfl ((pre_nil hS).start |>.jw dH) rfl ?_; unfold Nz at hM; refine sr ?_; refine aF (bU (l := (bK l0 aj)) (k := fun b1 => ?_)); refine aF (bU (l := (kK s0)) (k := fun b2 => ?_)); refine oa ?_; refine on ?_; refine sr ?_; refine oe (ay 0) ?_; refine oe (aC (b := b2)) ?_; refine oe gW ?_; refine om ?_; refine av rfl (ay 0) ?_; refine av rfl (aC (b := b2)) ?_; refine av rfl (ay 2) ?_; refine av rfl (aC (b := b1)) ?_; refine av rfl bE ?_; refine av rfl bN ?_; refine oe cO ?_; refine om ?_; refine av rfl (ay 1) ?_; refine av rfl (aC (b := b2)) ?_; refine av rfl dS ?_; refine av rfl aG ?_; refine av rfl (ay 1) ?_; refine av rfl (aC (b := b2)) ?_; refine av rfl dS ?_
 refine av rfl dw ?_; refine oe cO ?_; refine oa ?_; refine on ?_; obtain rfl := some_inj hM; refine aL (aZ (fun w hm => aW hm rfl))
def Gf (s0 : Step) : Option jB :=
  if decide (s0.Dir = 0) then
    (some (jB.mk s0.Section 1))
  else
    (some (jB.mk s0.Section 0))
theorem lS (S : bD) (w : World) (s0 : Step) (y : jB) (hM : Gf s0 = some y) (hS : sB S w)  :
    Calls Tryz.prog 191 #[.agg (xw s0)] w (bW w (.agg (aas y))) := by
 refine bR (args := [_]) Tryz.func191 rfl ((pre_nil hS).start) rfl ?_; unfold Gf at hM; refine sr ?_; refine aF (bU (l := (kK s0)) (k := fun b1 => ?_)); refine aF (bQ rfl (k := fun b2 => ?_)); refine on ?_; refine aD fun K2 hK2 => ?_; refine sr ?_; refine oe (ay 1) ?_; refine oe (aC (b := b1)) ?_; refine oe dS ?_; refine on ?_; refine cc rfl hM (fun hc3 hM => ?_) (fun hc3 hM => ?_)
 · refine sr ?_; refine oe (ay 0) ?_; refine oe (aC (b := b1)) ?_; refine oe (jE [vI s0.Section, vI 1]) ?_; refine aF (bI (b := b2) (vs := [vI s0.Section, vI 1]) (k := ?_)); refine on ?_; obtain rfl := some_inj hM; refine aL (aZ (fun w hm => aW hm rfl))
 refine aM (hK2 _ _ ?_); clear hK2; refine sr ?_; refine oe (ay 0) ?_; refine oe (aC (b := b1)) ?_; refine oe (jE [vI s0.Section, vI 0]) ?_; refine aF (bI (b := b2) (vs := [vI s0.Section, vI 0]) (k := ?_)); refine on ?_; obtain rfl := some_inj hM; refine aL (aZ (fun w hm => aW hm rfl))
def SL (x6 : Link) (pO : Int) (pQ : Int) (qj : Int) (ql : Int) (aQ : Nat → Option (Int × Bool)) (uh : Nat) : Unit → Option (Int × Bool) := fun _ =>
  if ((decide ((jB.mk x6.A x6.bY) = (jB.mk pO pQ)) && decide ((jB.mk x6.B x6.dx) = (jB.mk qj ql))) || (decide ((jB.mk x6.A x6.bY) = (jB.mk qj ql)) && decide ((jB.mk x6.B x6.dx) = (jB.mk pO pQ)))) then
    (some (x6.Point, true))
  else
    (aQ (uh + 1))
def Zm : Unit → Option (Int × Bool) := fun _ =>
  some (0, false)
def Gl (l0 : Layout) (pO : Int) (pQ : Int) (qj : Int) (ql : Int) (aQ : Nat → Option (Int × Bool)) : Nat → Option (Int × Bool) := fun uh =>
  if decide ((uh : Int) < (l0.Links.length : Int)) then
    ((idx l0.Links (uh : Int)).bind fun x6 =>
    SL x6 pO pQ qj ql aQ uh ())
  else
    (Zm ())
def ND (l0 : Layout) : (Int × Int × Int × Int) → Option (Int × Bool) := fun (pO, pQ, qj, ql) =>
  iter (Gl l0 pO pQ qj ql) FUEL 0
def KH (l0 : Layout) (s0 : Step) (t0 : Step) : Option (Int × Bool) :=
  (Gf s0).bind fun bV =>
  (Jy t0).bind fun iw =>
  (Gf iw).bind fun y22 =>
  ND l0 (bV.eH, bV.side, y22.eH, y22.side)
theorem ag0 (S : bD) (w : World) (l0 : Layout) (aj : ak.R Layout) (s0 : Step) (t0 : Step) (y : Int × Bool) (hM : KH l0 s0 t0 = some y) (hS : sB S w) (dH : ak.ok S w aj l0) :
    Calls Tryz.prog 175 #[.agg (iy l0 aj), .agg (xw s0), .agg (xw t0)] w (bW w (.tuple #[vI y.1, .bool y.2])) := by
 refine bR (args := [_, _, _]) Tryz.func175 rfl ((pre_nil hS).start |>.jw dH) rfl ?_; unfold KH at hM; refine sr ?_; refine aF (bU (l := (bK l0 aj)) (k := fun b1 => ?_)); refine aF (bU (l := (kK s0)) (k := fun b2 => ?_)); refine aF (bU (l := (kK t0)) (k := fun b3 => ?_)); refine oa ?_; refine oa ?_; refine on ?_; refine iH (γ := (Int × Int × Int × Int) × (Nat × Nat)) (env := fun ((pO, pQ, qj, ql), (wz, wC)) => [(3, eP b1), (8, eP wz), (9, eP wC)]) (mem := fun ((pO, pQ, qj, ql), (wz, wC)) => [iL l0.aX aj.1, iL l0.bF aj.2.1, iL l0.Sections aj.2.2.1, iL l0.Links aj.2.2.2, own b1 26 (bK l0 aj), own wz 256 [vI pO, vI pQ], own wC 256 [vI qj, vI ql]]) (R := fun g => ND l0 g.1 = some y) ?_ ?_
 · intro wm eY; refine fA _ (List.Sublist.refl _) ?_; refine au 0 rfl (bH (b := b2)) ?_; refine au 2 rfl (bH (b := b3)) ?_; obtain ⟨bV, oO, hM⟩ := bind_some hM; refine LZ 1 5 6 (⟨_, rfl, rfl, bg (fun w hm => let ⟨S, hs⟩ := hm; lS _ w s0 bV oO (aT hs) ) ⟨rI, ?_⟩⟩) (⟨_, rfl, rfl, bQ rfl (k := fun b16 => ⟨rI, ?_⟩)⟩) (⟨_, rfl, rfl, bQ rfl (k := fun b17 => ⟨rI, ?_⟩)⟩)
   · obtain ⟨iw, qB, hM⟩ := bind_some hM; refine LZ 3 5 6 (⟨_, rfl, rfl, bg (fun w hm => let ⟨S, hs⟩ := hm; vF _ w t0 iw qB (aT hs) ) ⟨rI, ?_⟩⟩) (⟨_, rfl, rfl, bQ rfl (k := fun b20 => ⟨rI, ?_⟩)⟩) (⟨_, rfl, rfl, bQ rfl (k := fun C8 => ⟨rI, ?_⟩)⟩)
     · obtain ⟨y22, vC, hM⟩ := bind_some hM; refine LZ 4 5 6 (⟨_, rfl, rfl, bg (fun w hm => let ⟨S, hs⟩ := hm; lS _ w iw y22 vC (aT hs) ) ⟨rI, ?_⟩⟩) (⟨_, rfl, rfl, bQ rfl (k := fun qN => ⟨rI, ?_⟩)⟩) (⟨_, rfl, rfl, bQ rfl (k := fun Bc => ⟨rI, ?_⟩)⟩)
       · refine mO 5 6 (⟨_, rfl, rfl, bQ rfl (k := fun UJ => ⟨rI, ?_⟩)⟩) (⟨_, rfl, rfl, bQ rfl (k := fun C9 => ⟨rI, ?_⟩)⟩)
         · refine bB 6 rfl (bQ rfl (k := fun UK => ⟨rI, ?_⟩)); refine bB 7 rfl (bI (b := UJ) (vs := (iD bV)) (k := ⟨rI, ?_⟩)); refine bB 8 rfl (bI (b := UK) (vs := (iD y22)) (k := ⟨rI, ?_⟩)); refine dG (eY ((bV.eH, bV.side, y22.eH, y22.side), (UJ, UK)) _ _ hM ⟨rfl, rfl, rfl, trivial⟩ rI)
         refine bB 5 rfl (bQ rfl (k := fun UL => ⟨rI, ?_⟩)); refine bB 7 rfl (bI (b := UL) (vs := (iD bV)) (k := ⟨rI, ?_⟩)); refine bB 8 rfl (bI (b := C9) (vs := (iD y22)) (k := ⟨rI, ?_⟩)); refine dG (eY ((bV.eH, bV.side, y22.eH, y22.side), (UL, C9)) _ _ hM ⟨rfl, rfl, rfl, trivial⟩ rI)
       · refine mO 4 6 (⟨_, rfl, rfl, bg (fun w hm => let ⟨S, hs⟩ := hm; lS _ w iw y22 vC (aT hs) ) ⟨rI, ?_⟩⟩) (⟨_, rfl, rfl, bQ rfl (k := fun UM => ⟨rI, ?_⟩)⟩)
         · refine bB 6 rfl (bQ rfl (k := fun UN => ⟨rI, ?_⟩)); refine bB 7 rfl (bI (b := qN) (vs := (iD bV)) (k := ⟨rI, ?_⟩)); refine bB 8 rfl (bI (b := UN) (vs := (iD y22)) (k := ⟨rI, ?_⟩)); refine dG (eY ((bV.eH, bV.side, y22.eH, y22.side), (qN, UN)) _ _ hM ⟨rfl, rfl, rfl, trivial⟩ rI)
         refine bB 4 rfl (bg (fun w hm => let ⟨S, hs⟩ := hm; lS _ w iw y22 vC (aT hs) ) ⟨rI, ?_⟩); refine bB 7 rfl (bI (b := qN) (vs := (iD bV)) (k := ⟨rI, ?_⟩)); refine bB 8 rfl (bI (b := UM) (vs := (iD y22)) (k := ⟨rI, ?_⟩)); refine dG (eY ((bV.eH, bV.side, y22.eH, y22.side), (qN, UM)) _ _ hM ⟨rfl, rfl, rfl, trivial⟩ rI)
       refine mO 4 5 (⟨_, rfl, rfl, bg (fun w hm => let ⟨S, hs⟩ := hm; lS _ w iw y22 vC (aT hs) ) ⟨rI, ?_⟩⟩) (⟨_, rfl, rfl, bQ rfl (k := fun b32 => ⟨rI, ?_⟩)⟩)
       · refine bB 5 rfl (bQ rfl (k := fun xE => ⟨rI, ?_⟩)); refine bB 7 rfl (bI (b := xE) (vs := (iD bV)) (k := ⟨rI, ?_⟩)); refine bB 8 rfl (bI (b := Bc) (vs := (iD y22)) (k := ⟨rI, ?_⟩)); refine dG (eY ((bV.eH, bV.side, y22.eH, y22.side), (xE, Bc)) _ _ hM ⟨rfl, rfl, rfl, trivial⟩ rI)
       refine bB 4 rfl (bg (fun w hm => let ⟨S, hs⟩ := hm; lS _ w iw y22 vC (aT hs) ) ⟨rI, ?_⟩); refine bB 7 rfl (bI (b := b32) (vs := (iD bV)) (k := ⟨rI, ?_⟩)); refine bB 8 rfl (bI (b := Bc) (vs := (iD y22)) (k := ⟨rI, ?_⟩)); refine dG (eY ((bV.eH, bV.side, y22.eH, y22.side), (b32, Bc)) _ _ hM ⟨rfl, rfl, rfl, trivial⟩ rI)
     · refine mO 3 6 (⟨_, rfl, rfl, bg (fun w hm => let ⟨S, hs⟩ := hm; vF _ w t0 iw qB (aT hs) ) ⟨rI, ?_⟩⟩) (⟨_, rfl, rfl, bQ rfl (k := fun UO => ⟨rI, ?_⟩)⟩)
       · obtain ⟨pz, DN, hM⟩ := bind_some hM; refine mO 4 6 (⟨_, rfl, rfl, bg (fun w hm => let ⟨S, hs⟩ := hm; lS _ w iw pz DN (aT hs) ) ⟨rI, ?_⟩⟩) (⟨_, rfl, rfl, bQ rfl (k := fun zn => ⟨rI, ?_⟩)⟩)
         · refine bB 6 rfl (bQ rfl (k := fun uS => ⟨rI, ?_⟩)); refine bB 7 rfl (bI (b := b20) (vs := (iD bV)) (k := ⟨rI, ?_⟩)); refine bB 8 rfl (bI (b := uS) (vs := (iD pz)) (k := ⟨rI, ?_⟩)); refine dG (eY ((bV.eH, bV.side, pz.eH, pz.side), (b20, uS)) _ _ hM ⟨rfl, rfl, rfl, trivial⟩ rI)
         refine bB 4 rfl (bg (fun w hm => let ⟨S, hs⟩ := hm; lS _ w iw pz DN (aT hs) ) ⟨rI, ?_⟩); refine bB 7 rfl (bI (b := b20) (vs := (iD bV)) (k := ⟨rI, ?_⟩)); refine bB 8 rfl (bI (b := zn) (vs := (iD pz)) (k := ⟨rI, ?_⟩)); refine dG (eY ((bV.eH, bV.side, pz.eH, pz.side), (b20, zn)) _ _ hM ⟨rfl, rfl, rfl, trivial⟩ rI)
       refine bB 3 rfl (bg (fun w hm => let ⟨S, hs⟩ := hm; vF _ w t0 iw qB (aT hs) ) ⟨rI, ?_⟩); obtain ⟨y39, QJ, hM⟩ := bind_some hM; refine bB 4 rfl (bg (fun w hm => let ⟨S, hs⟩ := hm; lS _ w iw y39 QJ (aT hs) ) ⟨rI, ?_⟩); refine bB 7 rfl (bI (b := b20) (vs := (iD bV)) (k := ⟨rI, ?_⟩)); refine bB 8 rfl (bI (b := UO) (vs := (iD y39)) (k := ⟨rI, ?_⟩)); refine dG (eY ((bV.eH, bV.side, y39.eH, y39.side), (b20, UO)) _ _ hM ⟨rfl, rfl, rfl, trivial⟩ rI)
     refine mO 3 5 (⟨_, rfl, rfl, bg (fun w hm => let ⟨S, hs⟩ := hm; vF _ w t0 iw qB (aT hs) ) ⟨rI, ?_⟩⟩) (⟨_, rfl, rfl, bQ rfl (k := fun Bd => ⟨rI, ?_⟩)⟩)
     · obtain ⟨AU, WQ, hM⟩ := bind_some hM; refine mO 4 5 (⟨_, rfl, rfl, bg (fun w hm => let ⟨S, hs⟩ := hm; lS _ w iw AU WQ (aT hs) ) ⟨rI, ?_⟩⟩) (⟨_, rfl, rfl, bQ rfl (k := fun lU => ⟨rI, ?_⟩)⟩)
       · refine bB 5 rfl (bQ rfl (k := fun UU => ⟨rI, ?_⟩)); refine bB 7 rfl (bI (b := UU) (vs := (iD bV)) (k := ⟨rI, ?_⟩)); refine bB 8 rfl (bI (b := C8) (vs := (iD AU)) (k := ⟨rI, ?_⟩)); refine dG (eY ((bV.eH, bV.side, AU.eH, AU.side), (UU, C8)) _ _ hM ⟨rfl, rfl, rfl, trivial⟩ rI)
       refine bB 4 rfl (bg (fun w hm => let ⟨S, hs⟩ := hm; lS _ w iw AU WQ (aT hs) ) ⟨rI, ?_⟩); refine bB 7 rfl (bI (b := lU) (vs := (iD bV)) (k := ⟨rI, ?_⟩)); refine bB 8 rfl (bI (b := C8) (vs := (iD AU)) (k := ⟨rI, ?_⟩)); refine dG (eY ((bV.eH, bV.side, AU.eH, AU.side), (lU, C8)) _ _ hM ⟨rfl, rfl, rfl, trivial⟩ rI)
     refine bB 3 rfl (bg (fun w hm => let ⟨S, hs⟩ := hm; vF _ w t0 iw qB (aT hs) ) ⟨rI, ?_⟩); obtain ⟨mq, hy47, hM⟩ := bind_some hM; refine bB 4 rfl (bg (fun w hm => let ⟨S, hs⟩ := hm; lS _ w iw mq hy47 (aT hs) ) ⟨rI, ?_⟩); refine bB 7 rfl (bI (b := Bd) (vs := (iD bV)) (k := ⟨rI, ?_⟩)); refine bB 8 rfl (bI (b := C8) (vs := (iD mq)) (k := ⟨rI, ?_⟩)); refine dG (eY ((bV.eH, bV.side, mq.eH, mq.side), (Bd, C8)) _ _ hM ⟨rfl, rfl, rfl, trivial⟩ rI)
   · refine mO 1 6 (⟨_, rfl, rfl, bg (fun w hm => let ⟨S, hs⟩ := hm; lS _ w s0 bV oO (aT hs) ) ⟨rI, ?_⟩⟩) (⟨_, rfl, rfl, bQ rfl (k := fun UW => ⟨rI, ?_⟩)⟩)
     · obtain ⟨xq, MC, hM⟩ := bind_some hM; refine mO 3 6 (⟨_, rfl, rfl, bg (fun w hm => let ⟨S, hs⟩ := hm; vF _ w t0 xq MC (aT hs) ) ⟨rI, ?_⟩⟩) (⟨_, rfl, rfl, bQ rfl (k := fun UY => ⟨rI, ?_⟩)⟩)
       · obtain ⟨AV, WR, hM⟩ := bind_some hM; refine mO 4 6 (⟨_, rfl, rfl, bg (fun w hm => let ⟨S, hs⟩ := hm; lS _ w xq AV WR (aT hs) ) ⟨rI, ?_⟩⟩) (⟨_, rfl, rfl, bQ rfl (k := fun UZ => ⟨rI, ?_⟩)⟩)
         · refine bB 6 rfl (bQ rfl (k := fun U0 => ⟨rI, ?_⟩)); refine bB 7 rfl (bI (b := b16) (vs := (iD bV)) (k := ⟨rI, ?_⟩)); refine bB 8 rfl (bI (b := U0) (vs := (iD AV)) (k := ⟨rI, ?_⟩)); refine dG (eY ((bV.eH, bV.side, AV.eH, AV.side), (b16, U0)) _ _ hM ⟨rfl, rfl, rfl, trivial⟩ rI)
         refine bB 4 rfl (bg (fun w hm => let ⟨S, hs⟩ := hm; lS _ w xq AV WR (aT hs) ) ⟨rI, ?_⟩); refine bB 7 rfl (bI (b := b16) (vs := (iD bV)) (k := ⟨rI, ?_⟩)); refine bB 8 rfl (bI (b := UZ) (vs := (iD AV)) (k := ⟨rI, ?_⟩)); refine dG (eY ((bV.eH, bV.side, AV.eH, AV.side), (b16, UZ)) _ _ hM ⟨rfl, rfl, rfl, trivial⟩ rI)
       refine bB 3 rfl (bg (fun w hm => let ⟨S, hs⟩ := hm; vF _ w t0 xq MC (aT hs) ) ⟨rI, ?_⟩); obtain ⟨Ov, aez, hM⟩ := bind_some hM; refine bB 4 rfl (bg (fun w hm => let ⟨S, hs⟩ := hm; lS _ w xq Ov aez (aT hs) ) ⟨rI, ?_⟩); refine bB 7 rfl (bI (b := b16) (vs := (iD bV)) (k := ⟨rI, ?_⟩)); refine bB 8 rfl (bI (b := UY) (vs := (iD Ov)) (k := ⟨rI, ?_⟩)); refine dG (eY ((bV.eH, bV.side, Ov.eH, Ov.side), (b16, UY)) _ _ hM ⟨rfl, rfl, rfl, trivial⟩ rI)
     refine bB 1 rfl (bg (fun w hm => let ⟨S, hs⟩ := hm; lS _ w s0 bV oO (aT hs) ) ⟨rI, ?_⟩); obtain ⟨y58, aeA, hM⟩ := bind_some hM; refine bB 3 rfl (bg (fun w hm => let ⟨S, hs⟩ := hm; vF _ w t0 y58 aeA (aT hs) ) ⟨rI, ?_⟩); obtain ⟨Ow, aeC, hM⟩ := bind_some hM; refine bB 4 rfl (bg (fun w hm => let ⟨S, hs⟩ := hm; lS _ w y58 Ow aeC (aT hs) ) ⟨rI, ?_⟩); refine bB 7 rfl (bI (b := b16) (vs := (iD bV)) (k := ⟨rI, ?_⟩)); refine bB 8 rfl (bI (b := UW) (vs := (iD Ow)) (k := ⟨rI, ?_⟩)); refine dG (eY ((bV.eH, bV.side, Ow.eH, Ow.side), (b16, UW)) _ _ hM ⟨rfl, rfl, rfl, trivial⟩ rI)
   refine mO 1 5 (⟨_, rfl, rfl, bg (fun w hm => let ⟨S, hs⟩ := hm; lS _ w s0 bV oO (aT hs) ) ⟨rI, ?_⟩⟩) (⟨_, rfl, rfl, bQ rfl (k := fun U1 => ⟨rI, ?_⟩)⟩)
   · obtain ⟨LG, WS, hM⟩ := bind_some hM; refine mO 3 5 (⟨_, rfl, rfl, bg (fun w hm => let ⟨S, hs⟩ := hm; vF _ w t0 LG WS (aT hs) ) ⟨rI, ?_⟩⟩) (⟨_, rfl, rfl, bQ rfl (k := fun U2 => ⟨rI, ?_⟩)⟩)
     · obtain ⟨AY, WT, hM⟩ := bind_some hM; refine mO 4 5 (⟨_, rfl, rfl, bg (fun w hm => let ⟨S, hs⟩ := hm; lS _ w LG AY WT (aT hs) ) ⟨rI, ?_⟩⟩) (⟨_, rfl, rfl, bQ rfl (k := fun OP => ⟨rI, ?_⟩)⟩)
       · refine bB 5 rfl (bQ rfl (k := fun U3 => ⟨rI, ?_⟩)); refine bB 7 rfl (bI (b := U3) (vs := (iD bV)) (k := ⟨rI, ?_⟩)); refine bB 8 rfl (bI (b := b17) (vs := (iD AY)) (k := ⟨rI, ?_⟩)); refine dG (eY ((bV.eH, bV.side, AY.eH, AY.side), (U3, b17)) _ _ hM ⟨rfl, rfl, rfl, trivial⟩ rI)
       refine bB 4 rfl (bg (fun w hm => let ⟨S, hs⟩ := hm; lS _ w LG AY WT (aT hs) ) ⟨rI, ?_⟩); refine bB 7 rfl (bI (b := OP) (vs := (iD bV)) (k := ⟨rI, ?_⟩)); refine bB 8 rfl (bI (b := b17) (vs := (iD AY)) (k := ⟨rI, ?_⟩)); refine dG (eY ((bV.eH, bV.side, AY.eH, AY.side), (OP, b17)) _ _ hM ⟨rfl, rfl, rfl, trivial⟩ rI)
     refine bB 3 rfl (bg (fun w hm => let ⟨S, hs⟩ := hm; vF _ w t0 LG WS (aT hs) ) ⟨rI, ?_⟩); obtain ⟨Oz, aeI, hM⟩ := bind_some hM; refine bB 4 rfl (bg (fun w hm => let ⟨S, hs⟩ := hm; lS _ w LG Oz aeI (aT hs) ) ⟨rI, ?_⟩); refine bB 7 rfl (bI (b := U2) (vs := (iD bV)) (k := ⟨rI, ?_⟩)); refine bB 8 rfl (bI (b := b17) (vs := (iD Oz)) (k := ⟨rI, ?_⟩)); refine dG (eY ((bV.eH, bV.side, Oz.eH, Oz.side), (U2, b17)) _ _ hM ⟨rfl, rfl, rfl, trivial⟩ rI)
   refine bB 1 rfl (bg (fun w hm => let ⟨S, hs⟩ := hm; lS _ w s0 bV oO (aT hs) ) ⟨rI, ?_⟩); obtain ⟨y72, aeJ, hM⟩ := bind_some hM; refine bB 3 rfl (bg (fun w hm => let ⟨S, hs⟩ := hm; vF _ w t0 y72 aeJ (aT hs) ) ⟨rI, ?_⟩); obtain ⟨OA, aeK, hM⟩ := bind_some hM; refine bB 4 rfl (bg (fun w hm => let ⟨S, hs⟩ := hm; lS _ w y72 OA aeK (aT hs) ) ⟨rI, ?_⟩); refine bB 7 rfl (bI (b := U1) (vs := (iD bV)) (k := ⟨rI, ?_⟩)); refine bB 8 rfl (bI (b := b17) (vs := (iD OA)) (k := ⟨rI, ?_⟩)); refine dG (eY ((bV.eH, bV.side, OA.eH, OA.side), (U1, b17)) _ _ hM ⟨rfl, rfl, rfl, trivial⟩ rI)
 clear hM; intro g hM; obtain ⟨⟨pO, pQ, qj, ql⟩, ⟨wz, wC⟩⟩ := g; dsimp only at hM ⊢; dsimp only [ND] at hM; refine aD fun K2 hK2 => ?_; refine sr ?_; refine oe (ay 3) ?_; refine oe (aC (b := b1)) ?_; refine jS (fun w hm => Kn.len (kG l0.Links aj.2.2.2) hm) fun hl4 => ?_; refine oe bE ?_; refine om ?_; refine on ?_; refine bf ?_; refine dF (γ := Nat × Nat × Unit) (env := fun (_, uh, _) => [(8, eP wz), (9, eP wC), (20, eS aj.2.2.2 l0.Links), (21, eI (l0.Links.length : Int)), (22, eI (uh : Int))]) (mem := fun (_, uh, _) => [own wz 256 [vI pO, vI pQ], own wC 256 [vI qj, vI ql], iL l0.Links aj.2.2.2]) (R := fun g => iter (Gl l0 pO pQ qj ql) g.1 g.2.1 = some y) (μ := fun g => g.1) (FUEL, 0, ()) hM ⟨rfl, rfl, rfl, rfl, rfl, trivial⟩ rI ?_; clear hM; intro g hM gy hL1; obtain ⟨bJ, uh, ⟨⟩⟩ := g; dsimp only at hM ⊢; obtain ⟨bJ, aQ, rfl, dz, hM⟩ := dL hM; dsimp only [Gl] at hM; refine sr ?_; refine oe bN ?_; refine on ?_; refine aD fun K5 cu => ?_; refine cc rfl hM (fun gX hM => ?_) (fun gX hM => ?_)
 · have acF := of_decide_eq_true gX; refine aM (cu _ _ ?_); clear cu; refine aD fun K6 cK => ?_; refine bf ?_; refine sr ?_; obtain ⟨x6, hx7, hM⟩ := bind_some hM; refine oe (bA (xs := l0.Links) 6 (kG l0.Links aj.2.2.2) (iS hx7)) ?_; refine oe (dU (m := 6) (i := (uh : Int)) (xs := l0.Links) (y := x6) (l := (nC x6)) 0 (kG l0.Links aj.2.2.2) (fun _ => hx7)) ?_; refine aF (bQ rfl (k := fun b8 => ?_)); refine aF (bI (b := b8) (vs := (nC x6)) (k := ?_)); refine on ?_; refine iH (γ := Unit × (Nat × Nat)) (env := fun (_, (Dh, Di)) => [(8, eP wz), (9, eP wC), (11, eP b8), (12, eP Dh), (13, eP Di), (20, eS aj.2.2.2 l0.Links), (21, eI (l0.Links.length : Int)), (22, eI (uh : Int))]) (mem := fun (_, (Dh, Di)) => [own wz 256 [vI pO, vI pQ], own wC 256 [vI qj, vI ql], own b8 183 (nC x6), own Dh 256 [vI x6.A, vI x6.bY], own Di 256 [vI x6.B, vI x6.dx], iL l0.Links aj.2.2.2]) (R := fun g => SL x6 pO pQ qj ql aQ uh g.1 = some y) ?_ ?_
   · intro A9 hJ3; refine fA _ (List.Sublist.refl _) ?_; refine au 0 rfl (ay 0) ?_; refine au 1 rfl (aC (b := b8)) ?_; refine au 2 rfl (ay 1) ?_; refine au 3 rfl (aC (b := b8)) ?_; refine au 4 rfl (jE [vI x6.A, vI x6.bY]) ?_; refine au 5 rfl (ay 2) ?_; refine au 6 rfl (aC (b := b8)) ?_; refine au 7 rfl (ay 3) ?_; refine au 8 rfl (aC (b := b8)) ?_; refine au 9 rfl (jE [vI x6.B, vI x6.dx]) ?_; refine mO 10 11 (⟨_, rfl, rfl, bQ rfl (k := fun b10 => ⟨rI, ?_⟩)⟩) (⟨_, rfl, rfl, bQ rfl (k := fun b11 => ⟨rI, ?_⟩)⟩)
     · refine bB 11 rfl (bQ rfl (k := fun b12 => ⟨rI, ?_⟩)); refine bB 12 rfl (bI (b := b10) (vs := [vI x6.A, vI x6.bY]) (k := ⟨rI, ?_⟩)); refine bB 13 rfl (bI (b := b12) (vs := [vI x6.B, vI x6.dx]) (k := ⟨rI, ?_⟩)); refine dG (hJ3 ((), (b10, b12)) _ _ hM ⟨rfl, rfl, rfl, rfl, rfl, rfl, rfl, rfl, trivial⟩ rI)
     refine bB 10 rfl (bQ rfl (k := fun b13 => ⟨rI, ?_⟩)); refine bB 12 rfl (bI (b := b13) (vs := [vI x6.A, vI x6.bY]) (k := ⟨rI, ?_⟩)); refine bB 13 rfl (bI (b := b11) (vs := [vI x6.B, vI x6.dx]) (k := ⟨rI, ?_⟩)); refine dG (hJ3 ((), (b13, b11)) _ _ hM ⟨rfl, rfl, rfl, rfl, rfl, rfl, rfl, rfl, trivial⟩ rI)
   clear hM; intro g hM; obtain ⟨⟨⟩, ⟨Dh, Di⟩⟩ := g; dsimp only at hM ⊢; dsimp only [SL] at hM; refine sr ?_; refine oe (bH (b := Dh)) ?_; refine oe (bH (b := wz)) ?_; refine oe (Du [.int .i64, .int .i64] (decide ((jB.mk x6.A x6.bY) = (jB.mk pO pQ))) (LU _ _)) ?_; refine om ?_; refine av rfl (bH (b := Di)) ?_; refine av rfl (bH (b := wC)) ?_; refine av rfl (Du [.int .i64, .int .i64] (decide ((jB.mk x6.B x6.dx) = (jB.mk qj ql))) (LU _ _)) ?_; refine oe cO ?_; refine om ?_; refine av rfl (bH (b := Dh)) ?_; refine av rfl (bH (b := wC)) ?_; refine av rfl (Du [.int .i64, .int .i64] (decide ((jB.mk x6.A x6.bY) = (jB.mk qj ql))) (LU _ _)) ?_; refine av rfl aG ?_; refine av rfl (bH (b := Di)) ?_; refine av rfl (bH (b := wz)) ?_; refine av rfl (Du [.int .i64, .int .i64] (decide ((jB.mk x6.B x6.dx) = (jB.mk pO pQ))) (LU _ _)) ?_; refine av rfl cO ?_; refine oe dw ?_; refine on ?_; refine cc rfl hM (fun nA hM => ?_) (fun nA hM => ?_)
   · refine sr ?_; refine oe (ay 4) ?_; refine oe (aC (b := b8)) ?_; refine oa ?_; refine oa ?_; refine on ?_; obtain rfl := some_inj hM; refine aL (jQ (fun w hm => aW hm rfl))
   refine aM (cK _ _ ?_); clear cK; refine aR ?_; refine oe (dh (hr := fun _ => by unfold eB; omega)) ?_; refine om ?_; refine aU (hL1 (bJ, (uh + 1), ()) _ _ (eqc dz hM) (Nat.lt_succ_self _) ⟨rfl, rfl, rfl, rfl, rfl, trivial⟩ rI)
 refine dD (hK2 _ _ ?_); clear hK2; dsimp only [Zm] at hM; refine sr ?_; refine oa ?_; refine oa ?_; refine on ?_; obtain rfl := some_inj hM; refine aL (jQ (fun w hm => aW hm rfl))
def SK (vH : List Int) : Unit → Option ((List Int) × Int) := fun _ =>
  some (vH, 0)
def Gi (qZ : List Step) (r0 : aV) (l0 : Layout) (kH : ((List Int) × Nat) → Option ((List Int) × Int)) : ((List Int) × Nat) → Option ((List Int) × Int) := fun (vH, vW) =>
  if decide ((vW : Int) < (qZ.length : Int)) then
    ((idx qZ (vW : Int)).bind fun x41 =>
    (idx r0.Steps (vW : Int)).bind fun LA =>
    (KH l0 LA x41).bind fun mq =>
    if (!mq.2) then
      (some (([] : List Int), 11))
    else
      (bM (decide ((vH.length + ([mq.1] : List Int).length) * 8 ≤ 140737488355328)) <|
      kH ((vH ++ ([mq.1] : List Int)), vW + 1)))
  else
    (SK vH ())
def NC (r0 : aV) (l0 : Layout) : Unit → Option ((List Int) × Int) := fun _ =>
  (sub r0.Steps 1 (r0.Steps.length : Int)).bind fun qZ =>
  iter (Gi qZ r0 l0) FUEL (([] : List Int), 0)
def Gh (r0 : aV) (l0 : Layout) (iA : ((List Bool) × Nat) → Option ((List Int) × Int)) : ((List Bool) × Nat) → Option ((List Int) × Int) := fun (sQ, yZ) =>
  if decide ((yZ : Int) < (r0.Steps.length : Int)) then
    ((idx r0.Steps (yZ : Int)).bind fun x25 =>
    (idx sQ x25.Section).bind fun x28 =>
    if x28 then
      (some (([] : List Int), 5))
    else
      ((idx sQ x25.Section).bind fun x32 =>
      iA ((sQ.set x25.Section.toNat true), yZ + 1)))
  else
    (NC r0 l0 ())
def NA (l0 : Layout) (r0 : aV) : Unit → Option ((List Int) × Int) := fun _ =>
  (mk (α := Bool) false (l0.Sections.length : Int)).bind fun m20 =>
  iter (Gh r0 l0) FUEL (m20, 0)
def Gg (r0 : aV) (l0 : Layout) (aQ : Nat → Option ((List Int) × Int)) : Nat → Option ((List Int) × Int) := fun yX =>
  if decide ((yX : Int) < (r0.Steps.length : Int)) then
    ((idx r0.Steps (yX : Int)).bind fun jK =>
    (Nz l0 jK).bind fun mZ =>
    if (!mZ) then
      (some (([] : List Int), 4))
    else
      (aQ (yX + 1)))
  else
    (NA l0 r0 ())
def KF (r0 : aV) (l0 : Layout) : Bool → Option ((List Int) × Int) := fun Lg =>
  if Lg then
    (some (([] : List Int), 4))
  else
    (iter (Gg r0 l0) FUEL 0)
def Gj (r0 : aV) (l0 : Layout) : Bool → Option ((List Int) × Int) := fun Lf =>
  if Lf then
    (some (([] : List Int), 7))
  else
    (if decide (r0.Overlap < 0) then
      (KF r0 l0 (decide (r0.Overlap < 0)))
    else
      (bM (bP ((r0.Steps.length : Int) - r0.Overlap)) <|
      KF r0 l0 (decide (((r0.Steps.length : Int) - r0.Overlap) < 2))))
def KG (l0 : Layout) (r0 : aV) : Option ((List Int) × Int) :=
  (Jw l0).bind fun y3 =>
  if decide (y3 ≠ 0) then
    (some (([] : List Int), 1))
  else
    (if decide (24 < (r0.Steps.length : Int)) then
      (Gj r0 l0 (decide (24 < (r0.Steps.length : Int))))
    else
      (Gj r0 l0 (decide (2 < r0.Overlap))))
theorem agZ (S : bD) (w : World) (l0 : Layout) (aj : ak.R Layout) (r0 : aV) (bC : ak.R aV) (y : (List Int) × Int) (hM : KG l0 r0 = some y) (hS : sB S w) (dH : ak.ok S w aj l0) (kZ : ak.ok S w bC r0) :
    Calls Tryz.prog 137 #[.agg (iy l0 aj), .agg (qM r0 bC)] w (Post (β := (ak.R (List Int))) S [] (fun g => .tuple #[sL g y.1, vI y.2]) (fun g => [aO 3 g y.1]) w) := by
 refine bR (args := [_, _]) Tryz.func137 rfl ((pre_nil hS).start |>.jw dH|>.gQ (α := List Step) (r := bC) (x := r0.Steps) kZ) rfl ?_; unfold KG at hM; refine sr ?_; refine aF (bU (l := (bK l0 aj)) (k := fun b1 => ?_)); refine aF (bU (l := (gJ r0 bC)) (k := fun b2 => ?_)); refine oa ?_; refine oa ?_; refine on ?_; refine aD fun K2 hK2 => ?_; refine bf ?_; refine sr ?_; refine oe (bH (b := b1)) ?_; obtain ⟨y3, hy4, hM⟩ := bind_some hM; refine aF (bg (fun w hm => let ⟨S, hs⟩ := hm; Xf _ w l0 aj y3 hy4 (aT hs) ⟨(kM hs), (kM hs), (kM hs), (kM hs)⟩) ?_); refine oe fB ?_; refine oa ?_; refine on ?_; refine cc rfl hM (fun gX hM => ?_) (fun gX hM => ?_)
 · refine sr ?_; refine oa ?_; refine oa ?_; refine on ?_; refine fZ (fun w hm => hm.fF (α := Int) 3 (fun _ => ())) ?_; obtain rfl := some_inj hM; refine aL (jQ (fun w hm => fO (⟨none, 0, (fun _ => ())⟩ : SR (ak.R Int) ) hm rfl))
 refine iH (γ := Bool × Unit) (env := fun (Lf, _) => [(2, eP b1), (3, eP b2), (20, .v (.bool Lf))]) (mem := fun (Lf, _) => [iL l0.aX aj.1, iL l0.bF aj.2.1, iL l0.Sections aj.2.2.1, iL l0.Links aj.2.2.2, own b1 26 (bK l0 aj), iL r0.Steps bC, own b2 90 (gJ r0 bC)]) (R := fun g => Gj r0 l0 g.1 = some y) ?_ ?_
 · intro wm eY; refine sr ?_; refine oe (ay 0) ?_; refine oe (aC (b := b2)) ?_; refine oe bE ?_; refine oe fP ?_; refine oa ?_; refine on ?_; refine cc rfl hM (fun I6 hM => ?_) (fun I6 hM => ?_)
   · refine aM (eY ((decide (24 < (r0.Steps.length : Int))), ()) _ _ hM ⟨rfl, rfl, rfl, trivial⟩ rI)
   refine aR ?_; refine oe (ay 1) ?_; refine oe (aC (b := b2)) ?_; refine oe fP ?_; refine oa ?_; refine aU (eY ((decide (2 < r0.Overlap)), ()) _ _ hM ⟨rfl, rfl, rfl, trivial⟩ rI)
 clear hM; intro g hM; obtain ⟨Lf, ⟨⟩⟩ := g; dsimp only at hM ⊢; dsimp only [Gj] at hM; refine cc rfl hM (fun ku hM => ?_) (fun ku hM => ?_)
 · refine sr ?_; refine oa ?_; refine oa ?_; refine on ?_; refine fZ (fun w hm => hm.fF (α := Int) 3 (fun _ => ())) ?_; obtain rfl := some_inj hM; refine aL (jQ (fun w hm => fO (⟨none, 0, (fun _ => ())⟩ : SR (ak.R Int)  ) hm rfl))
 refine iH (γ := Bool × Unit) (env := fun (Lg, _) => [(2, eP b1), (3, eP b2), (28, .v (.bool Lg))]) (mem := fun (Lg, _) => [iL l0.aX aj.1, iL l0.bF aj.2.1, iL l0.Sections aj.2.2.1, iL l0.Links aj.2.2.2, own b1 26 (bK l0 aj), iL r0.Steps bC, own b2 90 (gJ r0 bC)]) (R := fun g => KF r0 l0 g.1 = some y) ?_ ?_
 · intro uO hJ2; refine sr ?_; refine oe (ay 1) ?_; refine oe (aC (b := b2)) ?_; refine oe bN ?_; refine oa ?_; refine on ?_; refine cc rfl hM (fun acD hM => ?_) (fun acD hM => ?_)
   · refine aM (hJ2 ((decide (r0.Overlap < 0)), ()) _ _ hM ⟨rfl, rfl, rfl, trivial⟩ rI)
   refine aR ?_; refine oe (ay 0) ?_; refine oe (aC (b := b2)) ?_; refine oe bE ?_; refine oe (ay 1) ?_; refine oe (aC (b := b2)) ?_; obtain ⟨PX, hM⟩ := bO hM; refine oe (jo (hr := fun hg => dn PX)) ?_; refine oe bN ?_; refine oa ?_; refine aU (hJ2 ((decide (((r0.Steps.length : Int) - r0.Overlap) < 2)), ()) _ _ hM ⟨rfl, rfl, rfl, trivial⟩ rI)
 clear hM; intro g hM; obtain ⟨Lg, ⟨⟩⟩ := g; dsimp only at hM ⊢; dsimp only [KF] at hM; refine cc rfl hM (fun nA hM => ?_) (fun nA hM => ?_)
 · refine sr ?_; refine oa ?_; refine oa ?_; refine on ?_; refine fZ (fun w hm => hm.fF (α := Int) 3 (fun _ => ())) ?_; obtain rfl := some_inj hM; refine aL (jQ (fun w hm => fO (⟨none, 0, (fun _ => ())⟩ : SR (ak.R Int)   ) hm rfl))
 refine aM (hK2 _ _ ?_); clear hK2; refine aD fun K7 dI => ?_; refine sr ?_; refine oe (ay 0) ?_; refine oe (aC (b := b2)) ?_; refine jS (fun w hm => Kn.len (kG r0.Steps bC) hm) fun acZ => ?_; refine oe bE ?_; refine om ?_; refine on ?_; refine bf ?_; refine dF (γ := Nat × Nat × Unit) (env := fun (_, yX, _) => [(2, eP b1), (3, eP b2), (40, eS bC r0.Steps), (41, eI (r0.Steps.length : Int)), (42, eI (yX : Int))]) (mem := fun (_, yX, _) => [iL l0.aX aj.1, iL l0.bF aj.2.1, iL l0.Sections aj.2.2.1, iL l0.Links aj.2.2.2, own b1 26 (bK l0 aj), iL r0.Steps bC, own b2 90 (gJ r0 bC)]) (R := fun g => iter (Gg r0 l0) g.1 g.2.1 = some y) (μ := fun g => g.1) (FUEL, 0, ()) hM ⟨rfl, rfl, rfl, rfl, rfl, trivial⟩ rI ?_; clear hM; intro g hM gy hL1; obtain ⟨bJ, yX, ⟨⟩⟩ := g; dsimp only at hM ⊢; obtain ⟨bJ, aQ, rfl, dz, hM⟩ := dL hM; dsimp only [Gg] at hM
 refine sr ?_; refine oe bN ?_; refine on ?_; refine aD fun pE gu => ?_; refine cc rfl hM (fun lK hM => ?_) (fun lK hM => ?_)
 · have ah7 := of_decide_eq_true lK; refine aM (gu _ _ ?_); clear gu; refine aD fun oG fM => ?_; refine bf ?_; refine sr ?_; obtain ⟨jK, qV, hM⟩ := bind_some hM; refine oe (bA (xs := r0.Steps) 2 (kG r0.Steps bC) (iS qV)) ?_; refine oe (dU (m := 2) (i := (yX : Int)) (xs := r0.Steps) (y := jK) (l := (kK jK)) 0 (kG r0.Steps bC) (fun _ => qV)) ?_; refine aF (bQ rfl (k := fun b15 => ?_)); refine aF (bI (b := b15) (vs := (kK jK)) (k := ?_)); refine on ?_; refine sr ?_; refine oe (bH (b := b1)) ?_; refine oe (bH (b := b15)) ?_; obtain ⟨mZ, BJ, hM⟩ := bind_some hM; refine aF (bg (fun w hm => let ⟨S, hs⟩ := hm; agY _ w l0 aj jK mZ BJ (aT hs) ⟨(kM hs), (kM hs), (kM hs), (kM hs)⟩) ?_); refine oe dN ?_; refine on ?_; refine cc rfl hM (fun hc18 hM => ?_) (fun hc18 hM => ?_)
   · refine sr ?_; refine oa ?_; refine oa ?_; refine on ?_; refine fZ (fun w hm => hm.fF (α := Int) 3 (fun _ => ())) ?_; obtain rfl := some_inj hM; refine aL (jQ (fun w hm => fO (⟨none, 0, (fun _ => ())⟩ : SR (ak.R Int)                                                                                                                                                    ) hm rfl))
   refine aM (fM _ _ ?_); clear fM; refine aR ?_; refine oe (dh (hr := fun _ => by unfold eB; omega)) ?_; refine om ?_; refine aU (hL1 (bJ, (yX + 1), ()) _ _ (eqc dz hM) (Nat.lt_succ_self _) ⟨rfl, rfl, rfl, rfl, rfl, trivial⟩ rI)
 refine dD (dI _ _ ?_); clear dI; dsimp only [NA] at hM; refine sr ?_; refine oe (ay 2) ?_; refine oe (aC (b := b1)) ?_; refine oe bE ?_; obtain ⟨m20, ac2, hM⟩ := bind_some hM; refine aF (ZU (α := Bool) (e := 4) false () ac2 (fun _ _ => trivial) (fun tN aiC => ?_)); refine oa ?_; refine on ?_; refine aD fun xu j5 => ?_; refine sr ?_; refine oe (ay 0) ?_; refine oe (aC (b := b2)) ?_; refine jS (fun w hm => Kn.len (kG r0.Steps bC) hm) fun ait => ?_; refine oe bE ?_; refine om ?_; refine on ?_; refine bf ?_; refine dF (γ := Nat × ((List Bool) × Nat) × Unit) (env := fun (_, (sQ, yZ), _) => [(2, eP b1), (3, eP b2), (8, eS tN sQ), (56, eS bC r0.Steps), (57, eI (r0.Steps.length : Int)), (58, eI (yZ : Int))]) (mem := fun (_, (sQ, yZ), _) => [iL l0.aX aj.1, iL l0.bF aj.2.1, iL l0.Sections aj.2.2.1, iL l0.Links aj.2.2.2, own b1 26 (bK l0 aj), iL r0.Steps bC, own b2 90 (gJ r0 bC), aO 4 tN sQ]) (R := fun g => iter (Gh r0 l0) g.1 g.2.1 = some y) (μ := fun g => g.1) (FUEL, (m20, 0), ()) hM ⟨rfl, rfl, rfl, rfl, rfl, rfl, trivial⟩ rI ?_
 clear hM; intro g hM uP hL2; obtain ⟨jI, ⟨sQ, yZ⟩, ⟨⟩⟩ := g; dsimp only at hM ⊢; obtain ⟨jI, iA, rfl, mH, hM⟩ := dL hM; dsimp only [Gh] at hM; refine sr ?_; refine oe bN ?_; refine on ?_; refine aD fun ze kQ => ?_; refine cc rfl hM (fun hc24 hM => ?_) (fun hc24 hM => ?_)
 · have aib := of_decide_eq_true hc24; refine aM (kQ _ _ ?_); clear kQ; refine aD fun LJ qP => ?_; refine bf ?_; refine sr ?_; obtain ⟨x25, sH, hM⟩ := bind_some hM; refine oe (bA (xs := r0.Steps) 2 (kG r0.Steps bC) (iS sH)) ?_; refine oe (dU (m := 2) (i := (yZ : Int)) (xs := r0.Steps) (y := x25) (l := (kK x25)) 0 (kG r0.Steps bC) (fun _ => sH)) ?_; refine aF (bQ rfl (k := fun C9 => ?_)); refine aF (bI (b := C9) (vs := (kK x25)) (k := ?_)); refine on ?_; refine aD fun He oK => ?_; refine sr ?_; refine om ?_; refine oe (ay 0) ?_; refine oe (aC (b := C9)) ?_; obtain ⟨x28, hx29, hM⟩ := bind_some hM; refine oe (bA (xs := sQ) 1 (Kn.aO (e := 4) (r := tN) hA) (iS hx29)) ?_; refine oe (cZ (i := x25.Section) (xs := sQ) (y := x28) 0 (Kn.aO (e := 4) (r := tN) hA) (fun _ => hx29)) ?_; refine on ?_; refine cc rfl hM (fun zM hM => ?_) (fun zM hM => ?_)
   · refine sr ?_; refine oa ?_; refine oa ?_; refine on ?_; refine fZ (fun w hm => hm.fF (α := Int) 3 (fun _ => ())) ?_; obtain rfl := some_inj hM; refine aL (jQ (fun w hm => fO (⟨none, 0, (fun _ => ())⟩ : SR (ak.R Int)                                                                                                                                                                                 ) hm rfl))
   refine aM (oK _ _ ?_); clear oK; refine aR ?_; refine om ?_; refine oe (ay 0) ?_; refine oe (aC (b := C9)) ?_; obtain ⟨x32, BH, hM⟩ := bind_some hM; refine oe (bA (xs := sQ) 1 (Kn.aO (e := 4) (r := tN) hA) (iS BH)) ?_; refine aF (ZW (r := tN) (i := x25.Section) (xs := sQ) (u := x32) (vs := [.bool true]) 0 true BH rfl (fun _ _ h => h) uA ?_); have hx34 := WU (u := true) BH; refine aU (qP _ _ ?_); clear qP; refine aR ?_; refine oe (dh (hr := fun _ => by unfold eB; omega)) ?_; refine om ?_; refine aU (hL2 (jI, ((sQ.set x25.Section.toNat true), yZ + 1), ()) _ _ (eqc mH hM) (Nat.lt_succ_self _) ⟨rfl, rfl, (by simp only [List.length_set, eS, sL]; rfl), rfl, rfl, rfl, trivial⟩ rI)
 refine dD (j5 _ _ ?_); clear j5; dsimp only [NC] at hM; refine sr ?_; refine oa ?_; refine on ?_; refine aD fun OE uY => ?_; refine sr ?_; refine oe (ay 0) ?_; refine oe (aC (b := b2)) ?_; obtain ⟨qZ, ac1, hM⟩ := bind_some hM; refine aF (Gs (r := bC) (xs := r0.Steps) (ol := some (.i64, 1)) (oh := none) (Sk.dJ (α := List Step) (r := bC) (x := r0.Steps) hA) ac1 (fun JX => ?_)); refine jS (fun w hm => Kn.len (kG qZ JX) hm) fun aiv => ?_; refine oe bE ?_; refine om ?_; refine on ?_; refine bf ?_; refine fZ (fun w hm => hm.fF (α := Int) 3 (fun _ => ())) ?_; refine dF (γ := Nat × ((List Int) × Nat) × (SR (ak.R Int))) (env := fun (_, (vH, vW), Gb) => [(2, eP b1), (3, eP b2), (11, eS Gb vH), (74, eS JX qZ), (75, eI (qZ.length : Int)), (76, eI (vW : Int))]) (mem := fun (_, (vH, vW), Gb) => [iL l0.aX aj.1, iL l0.bF aj.2.1, iL l0.Sections aj.2.2.1, iL l0.Links aj.2.2.2, own b1 26 (bK l0 aj), iL r0.Steps bC, own b2 90 (gJ r0 bC), aO 3 Gb vH, iL qZ JX]) (R := fun g => iter (Gi qZ r0 l0) g.1 g.2.1 = some y) (μ := fun g => g.1) (FUEL, (([] : List Int), 0), (⟨none, 0, (fun _ => ())⟩ : SR (ak.R Int)                                                                                                                                                                                  )) hM ⟨rfl, rfl, rfl, rfl, rfl, rfl, trivial⟩ rI ?_
 clear hM; intro g hM CX hL3; obtain ⟨oQ, ⟨vH, vW⟩, Gb⟩ := g; dsimp only at hM ⊢; obtain ⟨oQ, kH, rfl, vv, hM⟩ := dL hM; dsimp only [Gi] at hM; refine sr ?_; refine oe bN ?_; refine on ?_; refine aD fun Hg oL => ?_; refine cc rfl hM (fun VW hM => ?_) (fun VW hM => ?_)
 · have aif := of_decide_eq_true VW; refine aM (oL _ _ ?_); clear oL; refine aD fun LP qU => ?_; refine bf ?_; refine sr ?_; refine om ?_; obtain ⟨x41, WA, hM⟩ := bind_some hM; refine oe (bA (xs := qZ) 2 (kG qZ JX) (iS WA)) ?_; refine oe (dU (m := 2) (i := (vW : Int)) (xs := qZ) (y := x41) (l := (kK x41)) 0 (kG qZ JX) (fun _ => WA)) ?_; refine aF (bQ rfl (k := fun UR => ?_)); refine oa ?_; refine aF (bI (b := UR) (vs := (kK x41)) (k := ?_)); refine on ?_; refine aD fun Ui zI => ?_; refine fA _ (List.Sublist.refl _) ?_; refine au 0 rfl (bH (b := b1)) ?_; refine au 1 rfl (ay 0) ?_; refine au 2 rfl (aC (b := b2)) ?_; refine au 3 rfl aG ?_; obtain ⟨LA, Jj, hM⟩ := bind_some hM; refine au 4 rfl (bA (xs := r0.Steps) 2 (kG r0.Steps bC) (iS Jj)) ?_; refine au 5 rfl (dU (m := 2) (i := (vW : Int)) (xs := r0.Steps) (y := LA) (l := (kK LA)) 0 (kG r0.Steps bC) (fun _ => Jj)) ?_; refine au 6 rfl (bH (b := UR)) ?_; obtain ⟨mq, hy47, hM⟩ := bind_some hM; refine bB 7 rfl (bg (fun w hm => let ⟨S, hs⟩ := hm; ag0 _ w l0 aj LA x41 mq hy47 (aT hs) ⟨(kM hs), (kM hs), (kM hs), (kM hs)⟩) ⟨rI, ?_⟩)
   refine au 8 rfl aG ?_; refine au 9 rfl (gF (vs := [vI mq.1, .bool mq.2])) ?_; refine au 10 rfl (gF (vs := [vI mq.1, .bool mq.2])) ?_; refine au 11 rfl bX ?_; refine au 12 rfl bX ?_; refine dG (zI _ _ ?_); clear zI; refine aD fun OH sj => ?_; refine sr ?_; refine om ?_; refine oe dN ?_; refine on ?_; refine cc rfl hM (fun acB hM => ?_) (fun acB hM => ?_)
   · refine sr ?_; refine oa ?_; refine oa ?_; refine on ?_; refine fZ (fun w hm => hm.fF (α := Int) 3 (fun _ => ())) ?_; obtain rfl := some_inj hM; refine aL (jQ (fun w hm => fO (⟨none, 0, (fun _ => ())⟩ : SR (ak.R Int)                                                                                                                                                                                       ) hm rfl))
   refine aM (sj _ _ ?_); clear sj; refine aR ?_; refine om ?_; refine om ?_; refine aF (kE (α := Int) 3 (fun _ => ()) ([mq.1] : List Int) oF (fun YO => ?_)); obtain ⟨acp, hM⟩ := bO hM; refine aF (ow (r := Gb) (r2 := YO) uR (Kn.aO (e := 3) (r := YO) hA) oF (of_decide_eq_true acp) (fun RI => ?_)); refine oa ?_; refine aU (qU _ _ ?_); clear qU; refine aR ?_; refine oe (dh (hr := fun _ => by unfold eB; omega)) ?_; refine om ?_; refine aU (hL3 (oQ, ((vH ++ ([mq.1] : List Int)), vW + 1), RI) _ _ (eqc vv hM) (Nat.lt_succ_self _) ⟨rfl, rfl, rfl, rfl, rfl, rfl, trivial⟩ rI)
 refine dD (uY _ _ ?_); clear uY; dsimp only [SK] at hM; refine sr ?_; refine om ?_; refine oa ?_; refine oa ?_; refine on ?_; obtain rfl := some_inj hM; refine aL (jQ (fun w hm => fO Gb hm rfl))
def Gd (l0 : Layout) (r0 : aV) : Option Int :=
  (KG l0 r0).bind fun y3 =>
  some y3.2
theorem Zl (S : bD) (w : World) (l0 : Layout) (aj : ak.R Layout) (r0 : aV) (bC : ak.R aV) (y : Int) (hM : Gd l0 r0 = some y) (hS : sB S w) (dH : ak.ok S w aj l0) (kZ : ak.ok S w bC r0) :
    Calls Tryz.prog 82 #[.agg (iy l0 aj), .agg (qM r0 bC)] w (bW w (vI y)) := by
 refine bR (args := [_, _]) Tryz.func82 rfl ((pre_nil hS).start |>.jw dH|>.gQ (α := List Step) (r := bC) (x := r0.Steps) kZ) rfl ?_; unfold Gd at hM; refine sr ?_; refine aF (bU (l := (bK l0 aj)) (k := fun b1 => ?_)); refine aF (bU (l := (gJ r0 bC)) (k := fun b2 => ?_)); refine oa ?_; refine on ?_; refine sr ?_; refine oe (bH (b := b1)) ?_; refine oe (bH (b := b2)) ?_; obtain ⟨y3, hy4, hM⟩ := bind_some hM; refine aF (mK iQ.nil (fun S w hs hP => agZ _ w l0 aj r0 bC y3 hy4 (aT hs) ⟨(kM hs), (kM hs), (kM hs), (kM hs)⟩ (kM hs)) pJ (fun r5 => ?_)); dsimp only [List.cons_append, List.nil_append]; refine om ?_; refine oe (gF (vs := [sL r5 y3.1, vI y3.2])) ?_; refine oe (gF (vs := [sL r5 y3.1, vI y3.2])) ?_; refine oa ?_
 refine oa ?_; refine on ?_; refine sr ?_; refine om ?_; refine oa ?_; refine on ?_; obtain rfl := some_inj hM; refine aL (aZ (fun w hm => aW hm rfl))
end Go.Proofs.YtcalibhfgdncaaaGreatDoor
