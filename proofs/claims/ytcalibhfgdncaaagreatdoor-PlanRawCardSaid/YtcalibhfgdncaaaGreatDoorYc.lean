/- Models of functions, and that the code computes them. -/
import Derived.Test.YtcalibhfgdncaaaGreatDoorRb
set_option linter.all false
namespace Go.Proofs.YtcalibhfgdncaaaGreatDoor
open Go.Dc Go.RowKit
set_option maxRecDepth 10000
def Zi : Unit → Option Bool := fun _ =>
  some false
def FZ (p0 : Plan) (aQ : Nat → Option Bool) : Nat → Option Bool := fun aK =>
  if decide ((aK : Int) < (p0.Lines.length : Int)) then
    ((idx p0.Lines (aK : Int)).bind fun x4 =>
    if decide (12 < (x4.bq.length : Int)) then
      (some true)
    else
      (bM (bP ((aK : Int) + 1)) <|
      aQ (aK + 1)))
  else
    (Zi ())
def Kr (p0 : Plan) : Option Bool :=
  if ((((((decide (8 < (p0.aY.length : Int)) || decide (48 < (p0.Routes.length : Int))) || decide (16 < (p0.Lines.length : Int))) || decide (32 < (p0.Changes.length : Int))) || decide (32 < (p0.Turns.length : Int))) || decide (32 < (p0.bT.length : Int))) || decide (32 < (p0.bS.length : Int))) then
    (some true)
  else
    (iter (FZ p0) FUEL 0)
theorem agC (S : bD) (w : World) (p0 : Plan) (ah : ak.R Plan) (y : Bool) (hM : Kr p0 = some y) (hS : sB S w) (eu : ak.ok S w ah p0) :
    Calls Tryz.prog 62 #[.agg (jT p0 ah)] w (bW w (.bool y)) := by
 refine bR (args := [_]) Tryz.func62 rfl ((pre_nil hS).start |>.kD eu) rfl ?_; unfold Kr at hM; refine sr ?_; refine aF (bU (l := (dO p0 ah)) (k := fun b1 => ?_)); refine oa ?_; refine on ?_; refine aD fun K2 hK2 => ?_; refine sr ?_; refine oe (ay 1) ?_; refine oe (aC (b := b1)) ?_; refine oe bE ?_; refine oe fP ?_; refine om ?_; refine av rfl (ay 2) ?_; refine av rfl (aC (b := b1)) ?_; refine av rfl bE ?_
 refine av rfl fP ?_; refine oe dw ?_; refine om ?_; refine av rfl (ay 3) ?_; refine av rfl (aC (b := b1)) ?_; refine av rfl bE ?_; refine av rfl fP ?_; refine oe dw ?_; refine om ?_; refine av rfl (ay 4) ?_; refine av rfl (aC (b := b1)) ?_; refine av rfl bE ?_; refine av rfl fP ?_; refine oe dw ?_; refine om ?_; refine av rfl (ay 5) ?_; refine av rfl (aC (b := b1)) ?_; refine av rfl bE ?_; refine av rfl fP ?_; refine oe dw ?_; refine om ?_; refine av rfl (ay 6) ?_; refine av rfl (aC (b := b1)) ?_; refine av rfl bE ?_; refine av rfl fP ?_; refine oe dw ?_; refine om ?_; refine av rfl (ay 7) ?_; refine av rfl (aC (b := b1)) ?_; refine av rfl bE ?_; refine av rfl fP ?_; refine oe dw ?_; refine on ?_; refine cc rfl hM (fun hc2 hM => ?_) (fun hc2 hM => ?_)
 · refine sr ?_; refine oa ?_; refine on ?_; obtain rfl := some_inj hM; refine aL (aZ (fun w hm => aW hm rfl))
 refine aM (hK2 _ _ ?_); clear hK2; refine aD fun K5 cu => ?_; refine sr ?_; refine oa ?_; refine on ?_; refine bf ?_; refine dF (γ := Nat × Nat × Unit) (env := fun (_, aK, _) => [(1, eP b1), (3, eI (aK : Int))]) (mem := fun (_, aK, _) => [iL p0.aY ah.1, iL p0.Routes ah.2.1, iL p0.Lines ah.2.2.1, iL p0.Changes ah.2.2.2.1, iL p0.Turns ah.2.2.2.2.1, iL p0.bT ah.2.2.2.2.2.1, iL p0.bS ah.2.2.2.2.2.2, own b1 35 (dO p0 ah)]) (R := fun g => iter (FZ p0) g.1 g.2.1 = some y) (μ := fun g => g.1) (FUEL, 0, ()) hM ⟨rfl, rfl, trivial⟩ rI ?_; clear hM; intro g hM gy hL1; obtain ⟨bJ, aK, ⟨⟩⟩ := g; dsimp only at hM ⊢; obtain ⟨bJ, aQ, rfl, dz, hM⟩ := dL hM; dsimp only [FZ] at hM; refine aD fun K7 dI => ?_; refine sr ?_; refine om ?_
 refine oe (ay 3) ?_; refine oe (aC (b := b1)) ?_; refine oe bE ?_; refine oe bN ?_; refine on ?_; refine cc rfl hM (fun hc3 hM => ?_) (fun hc3 hM => ?_)
 · refine aM (dI _ _ ?_); clear dI; refine aD fun K9 eZ => ?_; refine bf ?_; refine sr ?_; refine oe (ay 3) ?_; refine oe (aC (b := b1)) ?_; refine om ?_; obtain ⟨x4, hx5, hM⟩ := bind_some hM; refine oe (bA (xs := p0.Lines) 4 (kG p0.Lines ah.2.2.1) (iS hx5)) ?_; refine oe (ay 3) ?_; refine oe (cZ (i := (aK : Int)) (xs := p0.Lines) (y := x4) 3 (kG p0.Lines ah.2.2.1) (fun _ => hx5)) ?_; refine oe bE ?_; refine oe fP ?_; refine on ?_; refine cc rfl hM (fun hc6 hM => ?_) (fun hc6 hM => ?_)
   · refine sr ?_; refine oa ?_; refine on ?_; obtain rfl := some_inj hM; refine aL (aZ (fun w hm => aW hm rfl))
   refine aM (eZ _ _ ?_); clear eZ; refine aR ?_; refine om ?_; obtain ⟨Bw, hM⟩ := bO hM; refine oe (dh (hr := fun hg => dn Bw)) ?_; refine oa ?_; refine aU (hL1 (bJ, (aK + 1), ()) _ _ (eqc dz hM) (Nat.lt_succ_self _) ⟨rfl, rfl, trivial⟩ rI)
 refine dD (cu _ _ ?_); clear cu; dsimp only [Zi] at hM; refine sr ?_; refine oa ?_; refine on ?_; obtain rfl := some_inj hM; refine aL (aZ (fun w hm => aW hm rfl))
def mJ (n0 : Int) (gZ : Int) (hi0 : Int) : Option Bool :=
  some (decide (gZ ≤ n0) && decide (n0 ≤ hi0))
theorem rD (S : bD) (w : World) (n0 : Int) (gZ : Int) (hi0 : Int) (y : Bool) (hM : mJ n0 gZ hi0 = some y) (hS : sB S w)  :
    Calls Tryz.prog 63 #[vI n0, vI gZ, vI hi0] w (bW w (.bool y)) := by
 refine bR (args := [_, _, _]) Tryz.func63 rfl ((pre_nil hS).start) rfl ?_; unfold mJ at hM; refine sr ?_; refine oa ?_; refine on ?_; refine sr ?_; refine om ?_; refine om ?_; refine oe gW ?_; refine om ?_; refine av rfl aG ?_; refine av rfl aG ?_; refine av rfl kr ?_; refine oe cO ?_; refine oa ?_; refine on ?_; obtain rfl := some_inj hM; refine aL (aZ (fun w hm => aW hm rfl))
def wV (n0 : Int) (gZ : Int) (hi0 : Int) : Option Bool :=
  some (decide (gZ ≤ n0) && decide (n0 ≤ hi0))
theorem FE (S : bD) (w : World) (n0 : Int) (gZ : Int) (hi0 : Int) (y : Bool) (hM : wV n0 gZ hi0 = some y) (hS : sB S w)  :
    Calls Tryz.prog 123 #[vI n0, vI gZ, vI hi0] w (bW w (.bool y)) := by
 refine bR (args := [_, _, _]) Tryz.func123 rfl ((pre_nil hS).start) rfl ?_; unfold wV at hM; refine sr ?_; refine oa ?_; refine on ?_; refine sr ?_; refine om ?_; refine om ?_; refine oe gW ?_; refine om ?_; refine av rfl aG ?_; refine av rfl aG ?_; refine av rfl kr ?_; refine oe cO ?_; refine oa ?_; refine on ?_; obtain rfl := some_inj hM; refine aL (aZ (fun w hm => aW hm rfl))
def FD (s0 : bL) : Option Bool :=
  (wV s0.Length 1 40).bind fun y2 =>
  (dV y2 default (wV s0.lI 1000 100000)).bind fun y4 =>
  (dV (y2 && y4) default (wV s0.lF 100 2000)).bind fun y6 =>
  (dV ((y2 && y4) && y6) default (wV s0.lG 100 2000)).bind fun y8 =>
  some (((y2 && y4) && y6) && y8)
theorem Zc (S : bD) (w : World) (s0 : bL) (y : Bool) (hM : FD s0 = some y) (hS : sB S w)  :
    Calls Tryz.prog 122 #[.agg (Bb s0)] w (bW w (.bool y)) := by
 refine bR (args := [_]) Tryz.func122 rfl ((pre_nil hS).start) rfl ?_; unfold FD at hM; refine sr ?_; refine aF (bU (l := (mg s0)) (k := fun b1 => ?_)); refine oa ?_; refine on ?_; refine sr ?_; refine oe (ay 1) ?_; refine oe (aC (b := b1)) ?_; obtain ⟨y2, hy3, hM⟩ := bind_some hM; refine aF (bg (fun w hm => let ⟨S, hs⟩ := hm; FE _ w s0.Length 1 40 y2 hy3 (aT hs) ) ?_); refine om ?_; refine av rfl (ay 2) ?_; refine av rfl (aC (b := b1)) ?_; obtain ⟨y4, xU, hM⟩ := bind_some hM; refine iX rfl (fun hg w hm => let ⟨S, hs⟩ := hm; FE _ w s0.lI 1000 100000 y4 (dM xU hg) (aT hs) ) ?_; refine oe cO ?_; refine om ?_; refine av rfl (ay 3) ?_; refine av rfl (aC (b := b1)) ?_; obtain ⟨y6, qC, hM⟩ := bind_some hM; refine iX rfl (fun hg w hm => let ⟨S, hs⟩ := hm; FE _ w s0.lF 100 2000 y6 (dM qC hg) (aT hs) ) ?_; refine oe cO ?_; refine om ?_; refine av rfl (ay 4) ?_; refine av rfl (aC (b := b1)) ?_; obtain ⟨y8, nM, hM⟩ := bind_some hM; refine iX rfl (fun hg w hm => let ⟨S, hs⟩ := hm; FE _ w s0.lG 100 2000 y8 (dM nM hg) (aT hs) ) ?_; refine oe cO ?_
 refine oa ?_; refine on ?_; obtain rfl := some_inj hM; refine aL (aZ (fun w hm => aW hm rfl))
def SB (p0 : Plan) (i0 : Int) : Unit → Option Int := fun _ =>
  (idx p0.aY i0).bind fun iY =>
  (FD iY).bind fun mZ =>
  if (!mZ) then
    (some 4)
  else
    (some 0)
def Kv (i0 : Int) (p0 : Plan) (aQ : Nat → Option Int) : Nat → Option Int := fun gN =>
  if decide ((gN : Int) < i0) then
    ((idx p0.aY (gN : Int)).bind fun x8 =>
    (idx p0.aY i0).bind fun x10 =>
    if decide (x8.Name = x10.Name) then
      (some 5)
    else
      (bM (bP ((gN : Int) + 1)) <|
      aQ (gN + 1)))
  else
    (SB p0 i0 ())
def F8 (p0 : Plan) (i0 : Int) : Option Int :=
  (idx p0.aY i0).bind fun x2 =>
  (Cq x2.Name).bind fun y4 =>
  if (!y4) then
    (some 3)
  else
    (iter (Kv i0 p0) FUEL 0)
theorem agF (S : bD) (w : World) (p0 : Plan) (ah : ak.R Plan) (i0 : Int) (y : Int) (hM : F8 p0 i0 = some y) (hS : sB S w) (eu : ak.ok S w ah p0) :
    Calls Tryz.prog 64 #[.agg (jT p0 ah), vI i0] w (bW w (vI y)) := by
 refine bR (args := [_, _]) Tryz.func64 rfl ((pre_nil hS).start |>.kD eu) rfl ?_; unfold F8 at hM; refine sr ?_; refine aF (bU (l := (dO p0 ah)) (k := fun b1 => ?_)); refine oa ?_; refine on ?_; refine aD fun K2 hK2 => ?_; refine sr ?_; refine oe (ay 1) ?_; refine oe (aC (b := b1)) ?_; refine om ?_; obtain ⟨x2, hx3, hM⟩ := bind_some hM; refine oe (bA (xs := p0.aY) 5 (kG p0.aY ah.1) (iS hx3)) ?_
 refine oe (ay 0) ?_; refine oe (cZ (i := i0) (xs := p0.aY) (y := x2) 0 (kG p0.aY ah.1) (fun _ => hx3)) ?_; obtain ⟨y4, xU, hM⟩ := bind_some hM; refine aF (bg (fun w hm => let ⟨S, hs⟩ := hm; RS _ w x2.Name y4 xU (aT hs) ) ?_); refine oe dN ?_; refine on ?_; refine cc rfl hM (fun hc6 hM => ?_) (fun hc6 hM => ?_)
 · refine sr ?_; refine oa ?_; refine on ?_; obtain rfl := some_inj hM; refine aL (aZ (fun w hm => aW hm rfl))
 refine aM (hK2 _ _ ?_); clear hK2; refine aD fun K5 cu => ?_; refine sr ?_; refine oa ?_; refine on ?_; refine bf ?_; refine dF (γ := Nat × Nat × Unit) (env := fun (_, gN, _) => [(1, eI i0), (2, eP b1), (5, eI (gN : Int))]) (mem := fun (_, gN, _) => [iL p0.aY ah.1, iL p0.Routes ah.2.1, iL p0.Lines ah.2.2.1, iL p0.Changes ah.2.2.2.1, iL p0.Turns ah.2.2.2.2.1, iL p0.bT ah.2.2.2.2.2.1, iL p0.bS ah.2.2.2.2.2.2, own b1 35 (dO p0 ah)]) (R := fun g => iter (Kv i0 p0) g.1 g.2.1 = some y) (μ := fun g => g.1) (FUEL, 0, ()) hM ⟨rfl, rfl, rfl, trivial⟩ rI ?_; clear hM; intro g hM gy hL1; obtain ⟨bJ, gN, ⟨⟩⟩ := g; dsimp only at hM ⊢; obtain ⟨bJ, aQ, rfl, dz, hM⟩ := dL hM; dsimp only [Kv] at hM; refine aD fun K7 dI => ?_; refine aD fun K8 fE => ?_
 refine aR ?_; refine om ?_; refine om ?_; refine oe bN ?_; refine aU (fE _ _ ?_); clear fE; refine cc rfl hM (fun ku hM => ?_) (fun ku hM => ?_)
 · refine aM (dI _ _ ?_); clear dI; refine aD fun K9 eZ => ?_; refine bf ?_; refine aD fun pE gu => ?_; refine fA _ (List.Sublist.refl _) ?_; refine au 0 rfl (ay 1) ?_; refine au 1 rfl (aC (b := b1)) ?_; refine au 2 rfl aG ?_; obtain ⟨x8, DL, hM⟩ := bind_some hM; refine au 3 rfl (bA (xs := p0.aY) 5 (kG p0.aY ah.1) (iS DL)) ?_; refine au 4 rfl (ay 0) ?_; refine au 5 rfl (cZ (i := (gN : Int)) (xs := p0.aY) (y := x8) 0 (kG p0.aY ah.1) (fun _ => DL)) ?_; refine au 6 rfl (ay 1) ?_; refine au 7 rfl (aC (b := b1)) ?_; refine au 8 rfl aG ?_; obtain ⟨x10, oN, hM⟩ := bind_some hM; refine au 9 rfl (bA (xs := p0.aY) 5 (kG p0.aY ah.1) (iS oN)) ?_; refine au 10 rfl (ay 0) ?_; refine au 11 rfl (cZ (i := i0) (xs := p0.aY) (y := x10) 0 (kG p0.aY ah.1) (fun _ => oN)) ?_; refine au 12 rfl qo ?_; refine dG (gu _ _ ?_); clear gu; refine cc rfl hM (fun lK hM => ?_) (fun lK hM => ?_)
   · refine sr ?_; refine oa ?_; refine on ?_; obtain rfl := some_inj hM; refine aL (aZ (fun w hm => aW hm rfl))
   refine aM (eZ _ _ ?_); clear eZ; refine aR ?_; refine om ?_; obtain ⟨xP, hM⟩ := bO hM; refine oe (dh (hr := fun hg => dn xP)) ?_; refine oa ?_; refine aU (hL1 (bJ, (gN + 1), ()) _ _ (eqc dz hM) (Nat.lt_succ_self _) ⟨rfl, rfl, rfl, trivial⟩ rI)
 refine dD (cu _ _ ?_); clear cu; dsimp only [SB] at hM; refine aD fun uq iU => ?_; refine sr ?_; refine oe (ay 1) ?_; refine oe (aC (b := b1)) ?_; refine om ?_; obtain ⟨iY, zS, hM⟩ := bind_some hM; refine oe (bA (xs := p0.aY) 5 (kG p0.aY ah.1) (iS zS)) ?_; refine oe (dU (m := 5) (i := i0) (xs := p0.aY) (y := iY) (l := (mg iY)) 0 (kG p0.aY ah.1) (fun _ => zS)) ?_; obtain ⟨mZ, BJ, hM⟩ := bind_some hM; refine aF (bg (fun w hm => let ⟨S, hs⟩ := hm; Zc _ w iY mZ BJ (aT hs) ) ?_); refine oe dN ?_; refine on ?_; refine cc rfl hM (fun hc18 hM => ?_) (fun hc18 hM => ?_)
 · refine sr ?_; refine oa ?_; refine on ?_; obtain rfl := some_inj hM; refine aL (aZ (fun w hm => aW hm rfl))
 refine aM (iU _ _ ?_); clear iU; refine sr ?_; refine oa ?_; refine on ?_; obtain rfl := some_inj hM; refine aL (aZ (fun w hm => aW hm rfl))
def Co (aK : Nat) (aQ : ((List Hop) × Nat) → Option (List Hop)) : (List Hop) → Option (List Hop) := fun BQ =>
  bM (bP ((aK : Int) + 1)) <|
  aQ (BQ, aK + 1)
def E9 (kS : List Hop) (qm : Int) (x7 : Link) (aK : Nat) (aQ : ((List Hop) × Nat) → Option (List Hop)) : Int → Option (List Hop) := fun wG =>
  bM (decide ((kS.length + ([(Hop.mk (Step.mk qm wG) x7.Point x7.Pos)] : List Hop).length) * 32 ≤ 140737488355328)) <|
  Co aK aQ (kS ++ ([(Hop.mk (Step.mk qm wG) x7.Point x7.Pos)] : List Hop))
def wT (kS : List Hop) (x7 : Link) (aK : Nat) (aQ : ((List Hop) × Nat) → Option (List Hop)) : (Int × Int) → Option (List Hop) := fun (qm, Gw) =>
  if decide (0 ≤ qm) then
    (if decide (Gw = 1) then
      (E9 kS qm x7 aK aQ 1)
    else
      (E9 kS qm x7 aK aQ 0))
  else
    (Co aK aQ kS)
def RN (kS : List Hop) : Unit → Option (List Hop) := fun _ =>
  some kS
def E5 (l0 : Layout) (s0 : Step) (tF : Int) (aQ : ((List Hop) × Nat) → Option (List Hop)) : ((List Hop) × Nat) → Option (List Hop) := fun (kS, aK) =>
  if decide ((aK : Int) < (l0.Links.length : Int)) then
    ((idx l0.Links (aK : Int)).bind fun x7 =>
    if (decide (x7.A = s0.Section) && decide (x7.bY = tF)) then
      (wT kS x7 aK aQ (x7.B, x7.dx))
    else
      (if (decide (x7.B = s0.Section) && decide (x7.dx = tF)) then
        (wT kS x7 aK aQ (x7.A, x7.bY))
      else
        (wT kS x7 aK aQ ((-1), 0))))
  else
    (RN kS ())
def E8 (l0 : Layout) (s0 : Step) : Int → Option (List Hop) := fun tF =>
  iter (E5 l0 s0 tF) FUEL (([] : List Hop), 0)
def J3 (l0 : Layout) (s0 : Step) : Option (List Hop) :=
  if decide (s0.Dir = 1) then
    (E8 l0 s0 0)
  else
    (E8 l0 s0 1)
theorem agq (S : bD) (w : World) (l0 : Layout) (aj : ak.R Layout) (s0 : Step) (y : (List Hop)) (hM : J3 l0 s0 = some y) (hS : sB S w) (dH : ak.ok S w aj l0) :
    Calls Tryz.prog 168 #[.agg (iy l0 aj), .agg (xw s0)] w (Post (β := (ak.R (List Hop))) S [] (fun g => sL g y) (fun g => [aO 191 g y]) w) := by
 refine bR (args := [_, _]) Tryz.func168 rfl ((pre_nil hS).start |>.jw dH) rfl ?_; unfold J3 at hM; refine sr ?_; refine aF (bU (l := (bK l0 aj)) (k := fun b1 => ?_)); refine aF (bU (l := (kK s0)) (k := fun b2 => ?_)); refine oa ?_; refine on ?_; refine sr ?_; refine oe (ay 0) ?_; refine oe (aC (b := b2)) ?_; refine oe (jE [vI s0.Section, vI 1]) ?_; refine aF (bQ rfl (k := fun b3 => ?_)); refine aF (bI (b := b3) (vs := [vI s0.Section, vI 1]) (k := ?_)); refine on ?_; refine iH (γ := Int × Unit) (env := fun (tF, _) => [(2, eP b1), (5, eP b3)]) (mem := fun (tF, _) => [iL l0.aX aj.1, iL l0.bF aj.2.1, iL l0.Sections aj.2.2.1, iL l0.Links aj.2.2.2, own b1 26 (bK l0 aj), own b3 185 [vI s0.Section, vI tF]]) (R := fun g => E8 l0 s0 g.1 = some y) ?_ ?_
 · intro wm eY; refine sr ?_; refine oe (ay 1) ?_; refine oe (aC (b := b2)) ?_; refine oe dS ?_; refine on ?_; refine cc rfl hM (fun hc18 hM => ?_) (fun hc18 hM => ?_)
   · refine aR ?_; refine oe (ay 1) ?_; refine aF (qh (b := b3) (l' := [vI s0.Section, vI 0]) (k := ?_)); refine aU (eY (0, ()) _ _ hM ⟨rfl, rfl, trivial⟩ rI)
   refine aM (eY (1, ()) _ _ hM ⟨rfl, rfl, trivial⟩ rI)
 clear hM; intro g hM; obtain ⟨tF, ⟨⟩⟩ := g; dsimp only at hM ⊢; dsimp only [E8] at hM; refine sr ?_; refine oa ?_; refine on ?_; refine aD fun K4 hK4 => ?_; refine sr ?_; refine oa ?_; refine on ?_; refine bf ?_; refine fZ (fun w hm => hm.fF (α := Hop) 191 (fun _ => ())) ?_; refine dF (γ := Nat × ((List Hop) × Nat) × (SR (ak.R Hop))) (env := fun (_, (kS, aK), vR) => [(2, eP b1), (5, eP b3), (6, eS vR kS), (7, eI (aK : Int))]) (mem := fun (_, (kS, aK), vR) => [iL l0.aX aj.1, iL l0.bF aj.2.1, iL l0.Sections aj.2.2.1, iL l0.Links aj.2.2.2, own b1 26 (bK l0 aj), own b3 185 [vI s0.Section, vI tF], aO 191 vR kS]) (R := fun g => iter (E5 l0 s0 tF) g.1 g.2.1 = some y) (μ := fun g => g.1) (FUEL, (([] : List Hop), 0), (⟨none, 0, (fun _ => ())⟩ : SR (ak.R Hop) )) hM ⟨rfl, rfl, rfl, rfl, trivial⟩ rI ?_; clear hM; intro g hM gy hL1; obtain ⟨bJ, ⟨kS, aK⟩, vR⟩ := g; dsimp only at hM ⊢; obtain ⟨bJ, aQ, rfl, dz, hM⟩ := dL hM
 dsimp only [E5] at hM; refine aD fun K6 cK => ?_; refine sr ?_; refine om ?_; refine oe (ay 3) ?_; refine oe (aC (b := b1)) ?_; refine oe bE ?_; refine oe bN ?_; refine on ?_; refine cc rfl hM (fun gX hM => ?_) (fun gX hM => ?_)
 · refine aM (cK _ _ ?_); clear cK; refine iH (γ := (List Hop) × (SR (ak.R Hop))) (env := fun (BQ, Ky) => [(2, eP b1), (5, eP b3), (6, eS Ky BQ), (7, eI (aK : Int))]) (mem := fun (BQ, Ky) => [iL l0.aX aj.1, iL l0.bF aj.2.1, iL l0.Sections aj.2.2.1, iL l0.Links aj.2.2.2, own b1 26 (bK l0 aj), own b3 185 [vI s0.Section, vI tF], aO 191 Ky BQ]) (R := fun g => Co aK aQ g.1 = some y) ?_ ?_
   · intro A9 hJ3; refine bf ?_; refine sr ?_; refine oe (ay 3) ?_; refine oe (aC (b := b1)) ?_; refine om ?_; obtain ⟨x7, qW, hM⟩ := bind_some hM; refine oe (bA (xs := l0.Links) 6 (kG l0.Links aj.2.2.2) (iS qW)) ?_; refine oe (dU (m := 6) (i := (aK : Int)) (xs := l0.Links) (y := x7) (l := (nC x7)) 0 (kG l0.Links aj.2.2.2) (fun _ => qW)) ?_; refine aF (bQ rfl (k := fun b9 => ?_)); refine aF (bI (b := b9) (vs := (nC x7)) (k := ?_)); refine on ?_; refine sr ?_; refine oe (jE [vI (-1), vI 0]) ?_; refine aF (bQ rfl (k := fun b10 => ?_)); refine aF (bI (b := b10) (vs := [vI (-1), vI 0]) (k := ?_)); refine on ?_; refine iH (γ := (Int × Int) × Unit) (env := fun ((qm, Gw), _) => [(2, eP b1), (5, eP b3), (6, eS vR kS), (7, eI (aK : Int)), (8, eP b9), (9, eP b10)]) (mem := fun ((qm, Gw), _) => [iL l0.aX aj.1, iL l0.bF aj.2.1, iL l0.Sections aj.2.2.1, iL l0.Links aj.2.2.2, own b1 26 (bK l0 aj), own b3 185 [vI s0.Section, vI tF], aO 191 vR kS, own b9 183 (nC x7), own b10 185 [vI qm, vI Gw]]) (R := fun g => wT kS x7 aK aQ g.1 = some y) ?_ ?_
     · intro Um xQ; refine bf ?_; refine sr ?_; refine oe (ay 0) ?_; refine oe (aC (b := b9)) ?_; refine oe (ay 0) ?_; refine oe (aC (b := b3)) ?_; refine oe dS ?_; refine om ?_; refine av rfl (ay 1) ?_; refine av rfl (aC (b := b9)) ?_; refine av rfl (ay 1) ?_; refine av rfl (aC (b := b3)) ?_; refine av rfl dS ?_; refine oe cO ?_; refine oa ?_; refine on ?_; refine cc rfl hM (fun hc16 hM => ?_) (fun hc16 hM => ?_)
       · refine aR ?_; refine oe (ay 2) ?_; refine oe (aC (b := b9)) ?_; refine oe (ay 3) ?_; refine oe (aC (b := b9)) ?_; refine oe (jE [vI x7.B, vI x7.dx]) ?_; refine aF (bI (b := b10) (vs := [vI x7.B, vI x7.dx]) (k := ?_)); refine aU (xQ ((x7.B, x7.dx), ()) _ _ hM ⟨rfl, rfl, rfl, rfl, rfl, rfl, trivial⟩ rI)
       refine sr ?_; refine oe (ay 2) ?_; refine oe (aC (b := b9)) ?_; refine oe (ay 0) ?_; refine oe (aC (b := b3)) ?_; refine oe dS ?_; refine om ?_; refine av rfl (ay 3) ?_; refine av rfl (aC (b := b9)) ?_; refine av rfl (ay 1) ?_; refine av rfl (aC (b := b3)) ?_; refine av rfl dS ?_; refine oe cO ?_; refine oa ?_; refine on ?_; refine cc rfl hM (fun hc17 hM => ?_) (fun hc17 hM => ?_)
       · refine aR ?_; refine oe (ay 0) ?_; refine oe (aC (b := b9)) ?_; refine oe (ay 1) ?_; refine oe (aC (b := b9)) ?_; refine oe (jE [vI x7.A, vI x7.bY]) ?_; refine aF (bI (b := b10) (vs := [vI x7.A, vI x7.bY]) (k := ?_)); refine aU (xQ ((x7.A, x7.bY), ()) _ _ hM ⟨rfl, rfl, rfl, rfl, rfl, rfl, trivial⟩ rI)
       refine aM (xQ (((-1), 0), ()) _ _ hM ⟨rfl, rfl, rfl, rfl, rfl, rfl, trivial⟩ rI)
     clear hM; intro g hM; obtain ⟨⟨qm, Gw⟩, ⟨⟩⟩ := g; dsimp only at hM ⊢; dsimp only [wT] at hM; refine sr ?_; refine oe (ay 0) ?_; refine oe (aC (b := b10)) ?_; refine oe gW ?_; refine on ?_; refine cc rfl hM (fun su hM => ?_) (fun su hM => ?_)
     · refine sr ?_; refine oa ?_; refine on ?_; refine iH (γ := Int × Unit) (env := fun (wG, _) => [(2, eP b1), (5, eP b3), (6, eS vR kS), (7, eI (aK : Int)), (8, eP b9), (9, eP b10), (10, eI wG)]) (mem := fun (wG, _) => [iL l0.aX aj.1, iL l0.bF aj.2.1, iL l0.Sections aj.2.2.1, iL l0.Links aj.2.2.2, own b1 26 (bK l0 aj), own b3 185 [vI s0.Section, vI tF], aO 191 vR kS, own b9 183 (nC x7), own b10 185 [vI qm, vI Gw]]) (R := fun g => E9 kS qm x7 aK aQ g.1 = some y) ?_ ?_
       · intro OJ uW; refine sr ?_; refine oe (ay 1) ?_; refine oe (aC (b := b10)) ?_; refine oe dS ?_; refine on ?_; refine cc rfl hM (fun qy hM => ?_) (fun qy hM => ?_)
         · refine aR ?_; refine oa ?_; refine aU (uW (1, ()) _ _ hM ⟨rfl, rfl, rfl, rfl, rfl, rfl, rfl, trivial⟩ rI)
         refine aM (uW (0, ()) _ _ hM ⟨rfl, rfl, rfl, rfl, rfl, rfl, rfl, trivial⟩ rI)
       clear hM; intro g hM; obtain ⟨wG, ⟨⟩⟩ := g; dsimp only at hM ⊢; dsimp only [E9] at hM; refine aR ?_; refine om ?_; refine oe (ay 0) ?_; refine oe (aC (b := b10)) ?_; refine om ?_; refine oe (jE [vI qm, vI wG]) ?_; refine oe (ay 4) ?_; refine oe (aC (b := b9)) ?_; refine oe (ay 5) ?_; refine oe (aC (b := b9)) ?_; refine oe (jE [vI qm, vI wG, vI x7.Point, vI x7.Pos]) ?_; refine aF (kE (α := Hop) 191 (fun _ => ()) ([(Hop.mk (Step.mk qm wG) x7.Point x7.Pos)] : List Hop) oF (fun MW => ?_)); obtain ⟨acf, hM⟩ := bO hM; refine aF (ow (r := vR) (r2 := MW) uR (Kn.aO (e := 191) (r := MW) hA) oF (of_decide_eq_true acf) (fun tL => ?_)); refine oa ?_; refine aU (hJ3 ((kS ++ ([(Hop.mk (Step.mk qm wG) x7.Point x7.Pos)] : List Hop)), tL) _ _ hM ⟨rfl, rfl, rfl, rfl, trivial⟩ rI)
     refine aM (hJ3 (kS, vR) _ _ hM ⟨rfl, rfl, rfl, rfl, trivial⟩ rI)
   clear hM; intro g hM; obtain ⟨BQ, Ky⟩ := g; dsimp only at hM ⊢; dsimp only [Co] at hM; refine aR ?_; refine om ?_; obtain ⟨PY, hM⟩ := bO hM; refine oe (dh (hr := fun hg => dn PY)) ?_; refine oa ?_; refine aU (hL1 (bJ, (BQ, aK + 1), Ky) _ _ (eqc dz hM) (Nat.lt_succ_self _) ⟨rfl, rfl, rfl, rfl, trivial⟩ rI)
 refine dD (hK4 _ _ ?_); clear hK4; dsimp only [RN] at hM; refine sr ?_; refine om ?_; refine oa ?_; refine on ?_; obtain rfl := some_inj hM; refine aL (aZ (fun w hm => fO vR hm rfl))
def Ze : Unit → Option (Hop × Bool) := fun _ =>
  some ((Hop.mk (Step.mk 0 0) 0 0), false)
def FH (y5 : (List Hop)) (b0 : Step) (aQ : Nat → Option (Hop × Bool)) : Nat → Option (Hop × Bool) := fun aK =>
  if decide ((aK : Int) < (y5.length : Int)) then
    ((idx y5 (aK : Int)).bind fun x9 =>
    if decide (x9.To = b0) then
      ((idx y5 (aK : Int)).bind fun jf =>
      some (jf, true))
    else
      (bM (bP ((aK : Int) + 1)) <|
      aQ (aK + 1)))
  else
    (Ze ())
def Kg (l0 : Layout) (a0 : Step) (b0 : Step) : Option (Hop × Bool) :=
  (J3 l0 a0).bind fun y5 =>
  iter (FH y5 b0) FUEL 0
theorem Zf (S : bD) (w : World) (l0 : Layout) (aj : ak.R Layout) (a0 : Step) (b0 : Step) (y : Hop × Bool) (hM : Kg l0 a0 b0 = some y) (hS : sB S w) (dH : ak.ok S w aj l0) :
    Calls Tryz.prog 124 #[.agg (iy l0 aj), .agg (xw a0), .agg (xw b0)] w (bW w (.tuple #[.agg (Hl y.1), .bool y.2])) := by
 refine bR (args := [_, _, _]) Tryz.func124 rfl ((pre_nil hS).start |>.jw dH) rfl ?_; unfold Kg at hM; refine sr ?_; refine aF (bU (l := (bK l0 aj)) (k := fun b1 => ?_)); refine aF (bU (l := (kK a0)) (k := fun b2 => ?_)); refine aF (bU (l := (kK b0)) (k := fun b3 => ?_)); refine aF (bQ rfl (k := fun b4 => ?_)); refine oa ?_; refine on ?_; refine sr ?_; refine oe (bH (b := b1)) ?_; refine oe (bH (b := b2)) ?_; obtain ⟨y5, mQ, hM⟩ := bind_some hM; refine aF (mK iQ.nil (fun S w hs hP => agq _ w l0 aj a0 y5 mQ (aT hs) ⟨(kM hs), (kM hs), (kM hs), (kM hs)⟩) pJ (fun r7 => ?_)); dsimp only [List.cons_append, List.nil_append]; refine oa ?_; refine on ?_; refine aD fun K3 hK3 => ?_; refine sr ?_; refine oa ?_
 refine on ?_; refine bf ?_; refine dF (γ := Nat × Nat × Unit) (env := fun (_, aK, _) => [(5, eP b3), (6, eP b4), (8, eS r7 y5), (9, eI (aK : Int))]) (mem := fun (_, aK, _) => [own b3 92 (kK b0), own b4 191 [vI 0, vI 0, vI 0, vI 0], aO 191 r7 y5]) (R := fun g => iter (FH y5 b0) g.1 g.2.1 = some y) (μ := fun g => g.1) (FUEL, 0, ()) hM ⟨rfl, rfl, rfl, rfl, trivial⟩ rI ?_; clear hM; intro g hM gy hL1; obtain ⟨bJ, aK, ⟨⟩⟩ := g; dsimp only at hM ⊢; obtain ⟨bJ, aQ, rfl, dz, hM⟩ := dL hM; dsimp only [FH] at hM; refine aD fun K5 cu => ?_; refine sr ?_; refine om ?_; refine om ?_; refine oe bE ?_; refine oe bN ?_; refine on ?_; refine cc rfl hM (fun hc8 hM => ?_) (fun hc8 hM => ?_)
 · refine aM (cu _ _ ?_); clear cu; refine aD fun K7 dI => ?_; refine bf ?_; refine aD fun K8 fE => ?_; refine fA _ (List.Sublist.refl _) ?_; refine au 0 rfl aG ?_; refine au 1 rfl aG ?_; obtain ⟨x9, kR, hM⟩ := bind_some hM; refine au 2 rfl (bA (xs := y5) 4 (Kn.aO (e := 191) (r := r7) hA) (iS kR)) ?_; refine au 3 rfl (ay 0) ?_; refine au 4 rfl (dU (m := 2) (i := (aK : Int)) (xs := y5) (y := x9) (l := (kK x9.To)) 0 (Kn.aO (e := 191) (r := r7) hA) (fun _ => kR)) ?_; refine au 5 rfl (bH (b := b3)) ?_; refine au 6 rfl (Du [.int .i64, .int .i64] (decide (x9.To = b0)) (aap _ _)) ?_; refine dG (fE _ _ ?_); clear fE; refine cc rfl hM (fun su hM => ?_) (fun su hM => ?_)
   · refine sr ?_; refine om ?_; refine om ?_; obtain ⟨jf, zR, hM⟩ := bind_some hM; refine oe (bA (xs := y5) 4 (Kn.aO (e := 191) (r := r7) hA) (iS zR)) ?_; refine oe (dU (m := 4) (i := (aK : Int)) (xs := y5) (y := jf) (l := (JC jf)) 0 (Kn.aO (e := 191) (r := r7) hA) (fun _ => zR)) ?_; refine aF (bI (b := b4) (vs := (JC jf)) (k := ?_)); refine oa ?_; refine on ?_; obtain rfl := some_inj hM; refine aL (jQ (fun w hm => aW hm rfl))
   refine aM (dI _ _ ?_); clear dI; refine aR ?_; refine om ?_; obtain ⟨Bu, hM⟩ := bO hM; refine oe (dh (hr := fun hg => dn Bu)) ?_; refine oa ?_; refine aU (hL1 (bJ, (aK + 1), ()) _ _ (eqc dz hM) (Nat.lt_succ_self _) ⟨rfl, rfl, rfl, rfl, trivial⟩ rI)
 refine dD (hK3 _ _ ?_); clear hK3; dsimp only [Ze] at hM; refine sr ?_; refine oe (jE [vI 0, vI 0, vI 0, vI 0]) ?_; refine aF (bI (b := b4) (vs := [vI 0, vI 0, vI 0, vI 0]) (k := ?_)); refine oa ?_; refine on ?_; obtain rfl := some_inj hM; refine aL (jQ (fun w hm => aW hm rfl))
def Sm (fI : Nat) (iA : Nat → Option Int) : Unit → Option Int := fun _ =>
  bM (bP ((fI : Int) + 1)) <|
  iA (fI + 1)
def Cr (fI : Nat) (r0 : aV) (iA : Nat → Option Int) (kH : Nat → Option Int) : Nat → Option Int := fun wL =>
  if decide ((wL : Int) < (fI : Int)) then
    ((idx r0.Steps (wL : Int)).bind fun x23 =>
    (idx r0.Steps (fI : Int)).bind fun x25 =>
    if decide (x23.Section = x25.Section) then
      (some 5)
    else
      (bM (bP ((wL : Int) + 1)) <|
      kH (wL + 1)))
  else
    (Sm fI iA ())
def Nk (iO : Nat) (kY : Nat → Option Int) : Bool → Option Int := fun JE =>
  if (!JE) then
    (some 11)
  else
    (bM (bP ((iO : Int) + 1)) <|
    kY (iO + 1))
def Za : Unit → Option Int := fun _ =>
  some 0
def FC (r0 : aV) (l0 : Layout) (kY : Nat → Option Int) : Nat → Option Int := fun iO =>
  if decide ((iO : Int) < (r0.Steps.length : Int)) then
    (bM (bP ((iO : Int) - 1)) <|
    (idx r0.Steps ((iO : Int) - 1)).bind fun x34 =>
    (idx r0.Steps (iO : Int)).bind fun GR =>
    (Kg l0 x34 GR).bind fun y38 =>
    Nk iO kY y38.2)
  else
    (Za ())
def Nj (r0 : aV) (l0 : Layout) : Unit → Option Int := fun _ =>
  iter (FC r0 l0) FUEL 1
def FB (r0 : aV) (l0 : Layout) (iA : Nat → Option Int) : Nat → Option Int := fun fI =>
  if decide ((fI : Int) < (r0.Steps.length : Int)) then
    (iter (Cr fI r0 iA) FUEL 0)
  else
    (Nj r0 l0 ())
def Ni (r0 : aV) (l0 : Layout) : Unit → Option Int := fun _ =>
  iter (FB r0 l0) FUEL 0
def Fz (r0 : aV) (l0 : Layout) (aQ : Nat → Option Int) : Nat → Option Int := fun aK =>
  if decide ((aK : Int) < (r0.Steps.length : Int)) then
    ((idx r0.Steps (aK : Int)).bind fun x10 =>
    bM (bP ((l0.Sections.length : Int) - 1)) <|
    (wV x10.Section 0 ((l0.Sections.length : Int) - 1)).bind fun y13 =>
    (dV (!(!y13)) default (idx r0.Steps (aK : Int))).bind fun jZ =>
    (dV (!(!y13)) default (wV jZ.Dir 0 1)).bind fun vY =>
    if ((!y13) || (!vY)) then
      (some 4)
    else
      (bM (bP ((aK : Int) + 1)) <|
      aQ (aK + 1)))
  else
    (Ni r0 l0 ())
def Ct (l0 : Layout) (r0 : aV) : Option Int :=
  (Cm l0).bind fun y3 =>
  if decide (y3 ≠ 0) then
    (some 1)
  else
    (if (decide (24 < (r0.Steps.length : Int)) || decide (2 < r0.Overlap)) then
      (some 7)
    else
      (bM (!(!(decide (r0.Overlap < 0))) || bP ((r0.Steps.length : Int) - r0.Overlap)) <|
      if (decide (r0.Overlap < 0) || decide (((r0.Steps.length : Int) - r0.Overlap) < 2)) then
        (some 4)
      else
        (iter (Fz r0 l0) FUEL 0)))
theorem Zb (S : bD) (w : World) (l0 : Layout) (aj : ak.R Layout) (r0 : aV) (bC : ak.R aV) (y : Int) (hM : Ct l0 r0 = some y) (hS : sB S w) (dH : ak.ok S w aj l0) (kZ : ak.ok S w bC r0) :
    Calls Tryz.prog 65 #[.agg (iy l0 aj), .agg (qM r0 bC)] w (bW w (vI y)) := by
 refine bR (args := [_, _]) Tryz.func65 rfl ((pre_nil hS).start |>.jw dH|>.gQ (α := List Step) (r := bC) (x := r0.Steps) kZ) rfl ?_; unfold Ct at hM; refine sr ?_; refine aF (bU (l := (bK l0 aj)) (k := fun b1 => ?_)); refine aF (bU (l := (gJ r0 bC)) (k := fun b2 => ?_)); refine oa ?_; refine on ?_; refine aD fun K2 hK2 => ?_; refine sr ?_; refine oe (bH (b := b1)) ?_; obtain ⟨y3, hy4, hM⟩ := bind_some hM; refine aF (bg (fun w hm => let ⟨S, hs⟩ := hm; RL _ w l0 aj y3 hy4 (aT hs) ⟨(kM hs), (kM hs), (kM hs), (kM hs)⟩) ?_); refine oe fB ?_; refine on ?_; refine cc rfl hM (fun gX hM => ?_) (fun gX hM => ?_)
 · refine sr ?_; refine oa ?_; refine on ?_; obtain rfl := some_inj hM; refine aL (aZ (fun w hm => aW hm rfl))
 refine aM (hK2 _ _ ?_); clear hK2; refine aD fun K5 cu => ?_; refine sr ?_; refine oe (ay 0) ?_; refine oe (aC (b := b2)) ?_; refine oe bE ?_; refine oe fP ?_; refine om ?_; refine av rfl (ay 1) ?_; refine av rfl (aC (b := b2)) ?_; refine av rfl fP ?_; refine oe dw ?_; refine on ?_; refine cc rfl hM (fun hc6 hM => ?_) (fun hc6 hM => ?_)
 · refine sr ?_; refine oa ?_; refine on ?_; obtain rfl := some_inj hM; refine aL (aZ (fun w hm => aW hm rfl))
 refine aM (cu _ _ ?_); clear cu; refine aD fun K8 fE => ?_; refine sr ?_; refine oe (ay 1) ?_; refine oe (aC (b := b2)) ?_; refine oe bN ?_; refine om ?_; refine av rfl (ay 0) ?_; refine av rfl (aC (b := b2)) ?_; refine av rfl bE ?_; refine av rfl (ay 1) ?_; refine av rfl (aC (b := b2)) ?_; obtain ⟨Bw, hM⟩ := bO hM; refine av rfl (jo (hr := fun hg => dn (uV Bw hg))) ?_; refine av rfl bN ?_; refine oe dw ?_; refine on ?_; refine cc rfl hM (fun hc8 hM => ?_) (fun hc8 hM => ?_)
 · refine sr ?_; refine oa ?_; refine on ?_; obtain rfl := some_inj hM; refine aL (aZ (fun w hm => aW hm rfl))
 refine aM (fE _ _ ?_); clear fE; refine aD fun oG fM => ?_; refine sr ?_; refine oa ?_; refine on ?_; refine bf ?_; refine dF (γ := Nat × Nat × Unit) (env := fun (_, aK, _) => [(2, eP b1), (3, eP b2), (5, eI (aK : Int))]) (mem := fun (_, aK, _) => [iL l0.aX aj.1, iL l0.bF aj.2.1, iL l0.Sections aj.2.2.1, iL l0.Links aj.2.2.2, own b1 26 (bK l0 aj), iL r0.Steps bC, own b2 90 (gJ r0 bC)]) (R := fun g => iter (Fz r0 l0) g.1 g.2.1 = some y) (μ := fun g => g.1) (FUEL, 0, ()) hM ⟨rfl, rfl, rfl, trivial⟩ rI ?_; clear hM; intro g hM gy hL1; obtain ⟨bJ, aK, ⟨⟩⟩ := g; dsimp only at hM ⊢; obtain ⟨bJ, aQ, rfl, dz, hM⟩ := dL hM; dsimp only [Fz] at hM; refine aD fun uM jr => ?_; refine sr ?_; refine om ?_; refine oe (ay 0) ?_; refine oe (aC (b := b2)) ?_; refine oe bE ?_; refine oe bN ?_; refine on ?_; refine cc rfl hM (fun nA hM => ?_) (fun nA hM => ?_)
 · refine aM (jr _ _ ?_); clear jr; refine aD fun wh jN => ?_; refine bf ?_; refine aD fun xu j5 => ?_; refine fA _ (List.Sublist.refl _) ?_; refine au 0 rfl (ay 0) ?_; refine au 1 rfl (aC (b := b2)) ?_; refine au 2 rfl aG ?_; obtain ⟨x10, oN, hM⟩ := bind_some hM; refine au 3 rfl (bA (xs := r0.Steps) 2 (kG r0.Steps bC) (iS oN)) ?_; refine au 4 rfl (ay 0) ?_; refine au 5 rfl (cZ (i := (aK : Int)) (xs := r0.Steps) (y := x10) 0 (kG r0.Steps bC) (fun _ => oN)) ?_; refine au 6 rfl (ay 2) ?_; refine au 7 rfl (aC (b := b1)) ?_; refine au 8 rfl bE ?_; obtain ⟨PE, hM⟩ := bO hM; refine au 9 rfl (jo (hr := fun hg => dn PE)) ?_; obtain ⟨y13, sI, hM⟩ := bind_some hM; refine bB 10 rfl (bg (fun w hm => let ⟨S, hs⟩ := hm; FE _ w x10.Section 0 ((l0.Sections.length : Int) - 1) y13 sI (aT hs) ) ⟨rI, ?_⟩); refine au 11 rfl dN ?_; refine au 12 rfl aG ?_; refine dQ 13 rfl rfl (ay 0) ?_; refine dQ 14 rfl rfl (aC (b := b2)) ?_; refine dQ 15 rfl rfl aG ?_; obtain ⟨jZ, hx16, hM⟩ := bind_some hM; refine dQ 16 rfl rfl (bA (xs := r0.Steps) 2 (kG r0.Steps bC) (fun hg => let h := lg (dM hx16 hg); ⟨h.1, h.2.1⟩)) ?_; refine dQ 17 rfl rfl (ay 1) ?_; refine dQ 18 rfl rfl (cZ (i := (aK : Int)) (xs := r0.Steps) (y := jZ) 1 (kG r0.Steps bC) (fun hg => dM hx16 hg)) ?_
   obtain ⟨vY, Jo, hM⟩ := bind_some hM; refine Hu 19 rfl rfl (fun hg w hm => let ⟨S, hs⟩ := hm; FE _ w jZ.Dir 0 1 vY (dM Jo hg) (aT hs) ) ?_; refine dQ 20 rfl rfl dN ?_; refine au 21 rfl dw ?_; refine dG (j5 _ _ ?_); clear j5; refine cc rfl hM (fun hc19 hM => ?_) (fun hc19 hM => ?_)
   · refine sr ?_; refine oa ?_; refine on ?_; obtain rfl := some_inj hM; refine aL (aZ (fun w hm => aW hm rfl))
   refine aM (jN _ _ ?_); clear jN; refine aR ?_; refine om ?_; obtain ⟨IE, hM⟩ := bO hM; refine oe (dh (hr := fun hg => dn IE)) ?_; refine oa ?_; refine aU (hL1 (bJ, (aK + 1), ()) _ _ (eqc dz hM) (Nat.lt_succ_self _) ⟨rfl, rfl, rfl, trivial⟩ rI)
 refine dD (fM _ _ ?_); clear fM; dsimp only [Ni] at hM; refine aD fun G9 oJ => ?_; refine sr ?_; refine oa ?_; refine on ?_; refine bf ?_; refine dF (γ := Nat × Nat × Unit) (env := fun (_, fI, _) => [(2, eP b1), (3, eP b2), (6, eI (fI : Int))]) (mem := fun (_, fI, _) => [iL l0.aX aj.1, iL l0.bF aj.2.1, iL l0.Sections aj.2.2.1, iL l0.Links aj.2.2.2, own b1 26 (bK l0 aj), iL r0.Steps bC, own b2 90 (gJ r0 bC)]) (R := fun g => iter (FB r0 l0) g.1 g.2.1 = some y) (μ := fun g => g.1) (FUEL, 0, ()) hM ⟨rfl, rfl, rfl, trivial⟩ rI ?_; clear hM; intro g hM uP hL2; obtain ⟨jI, fI, ⟨⟩⟩ := g; dsimp only at hM ⊢; obtain ⟨jI, iA, rfl, mH, hM⟩ := dL hM; dsimp only [FB] at hM; refine aD fun LJ qP => ?_; refine sr ?_; refine om ?_; refine oe (ay 0) ?_; refine oe (aC (b := b2)) ?_; refine oe bE ?_; refine oe bN ?_; refine on ?_
 refine cc rfl hM (fun hc21 hM => ?_) (fun hc21 hM => ?_)
 · refine aM (qP _ _ ?_); clear qP; refine aD fun He oK => ?_; refine bf ?_; refine sr ?_; refine oa ?_; refine on ?_; refine bf ?_; refine dF (γ := Nat × Nat × Unit) (env := fun (_, wL, _) => [(2, eP b1), (3, eP b2), (6, eI (fI : Int)), (7, eI (wL : Int))]) (mem := fun (_, wL, _) => [iL l0.aX aj.1, iL l0.bF aj.2.1, iL l0.Sections aj.2.2.1, iL l0.Links aj.2.2.2, own b1 26 (bK l0 aj), iL r0.Steps bC, own b2 90 (gJ r0 bC)]) (R := fun g => iter (Cr fI r0 iA) g.1 g.2.1 = some y) (μ := fun g => g.1) (FUEL, 0, ()) hM ⟨rfl, rfl, rfl, rfl, trivial⟩ rI ?_; clear hM; intro g hM CX hL3; obtain ⟨oQ, wL, ⟨⟩⟩ := g; dsimp only at hM ⊢; obtain ⟨oQ, kH, rfl, vv, hM⟩ := dL hM; dsimp only [Cr] at hM; refine aD fun Ug zG => ?_; refine sr ?_; refine om ?_; refine om ?_; refine oe bN ?_; refine on ?_; refine cc rfl hM (fun hc22 hM => ?_) (fun hc22 hM => ?_)
   · refine aM (zG _ _ ?_); clear zG; refine aD fun OE uY => ?_; refine bf ?_; refine aD fun LM qR => ?_; refine fA _ (List.Sublist.refl _) ?_; refine au 0 rfl (ay 0) ?_; refine au 1 rfl (aC (b := b2)) ?_; refine au 2 rfl aG ?_; obtain ⟨x23, hx24, hM⟩ := bind_some hM; refine au 3 rfl (bA (xs := r0.Steps) 2 (kG r0.Steps bC) (iS hx24)) ?_; refine au 4 rfl (ay 0) ?_; refine au 5 rfl (cZ (i := (wL : Int)) (xs := r0.Steps) (y := x23) 0 (kG r0.Steps bC) (fun _ => hx24)) ?_; refine au 6 rfl (ay 0) ?_; refine au 7 rfl (aC (b := b2)) ?_; refine au 8 rfl aG ?_; obtain ⟨x25, sH, hM⟩ := bind_some hM; refine au 9 rfl (bA (xs := r0.Steps) 2 (kG r0.Steps bC) (iS sH)) ?_; refine au 10 rfl (ay 0) ?_; refine au 11 rfl (cZ (i := (fI : Int)) (xs := r0.Steps) (y := x25) 0 (kG r0.Steps bC) (fun _ => sH)) ?_; refine au 12 rfl dS ?_; refine dG (qR _ _ ?_); clear qR; refine cc rfl hM (fun hc27 hM => ?_) (fun hc27 hM => ?_)
     · refine sr ?_; refine oa ?_; refine on ?_; obtain rfl := some_inj hM; refine aL (aZ (fun w hm => aW hm rfl))
     refine aM (uY _ _ ?_); clear uY; refine aR ?_; refine om ?_; obtain ⟨IG, hM⟩ := bO hM; refine oe (dh (hr := fun hg => dn IG)) ?_; refine oa ?_; refine aU (hL3 (oQ, (wL + 1), ()) _ _ (eqc vv hM) (Nat.lt_succ_self _) ⟨rfl, rfl, rfl, rfl, trivial⟩ rI)
   refine dD (oK _ _ ?_); clear oK; dsimp only [Sm] at hM; refine aR ?_; refine om ?_; obtain ⟨PS, hM⟩ := bO hM; refine oe (dh (hr := fun hg => dn PS)) ?_; refine oa ?_; refine aU (hL2 (jI, (fI + 1), ()) _ _ (eqc mH hM) (Nat.lt_succ_self _) ⟨rfl, rfl, rfl, trivial⟩ rI)
 refine dD (oJ _ _ ?_); clear oJ; dsimp only [Nj] at hM; refine aD fun Hg oL => ?_; refine sr ?_; refine oa ?_; refine on ?_; refine bf ?_; refine dF (γ := Nat × Nat × Unit) (env := fun (_, iO, _) => [(2, eP b1), (3, eP b2), (8, eI (iO : Int))]) (mem := fun (_, iO, _) => [iL l0.aX aj.1, iL l0.bF aj.2.1, iL l0.Sections aj.2.2.1, iL l0.Links aj.2.2.2, own b1 26 (bK l0 aj), iL r0.Steps bC, own b2 90 (gJ r0 bC)]) (R := fun g => iter (FC r0 l0) g.1 g.2.1 = some y) (μ := fun g => g.1) (FUEL, 1, ()) hM ⟨rfl, rfl, rfl, trivial⟩ rI ?_; clear hM; intro g hM LQ hL4; obtain ⟨rA, iO, ⟨⟩⟩ := g; dsimp only at hM ⊢; obtain ⟨rA, kY, rfl, xS, hM⟩ := dL hM; dsimp only [FC] at hM; refine aD fun OG uZ => ?_; refine sr ?_; refine om ?_; refine oe (ay 0) ?_; refine oe (aC (b := b2)) ?_; refine oe bE ?_; refine oe bN ?_; refine on ?_
 refine cc rfl hM (fun zM hM => ?_) (fun zM hM => ?_)
 · refine aM (uZ _ _ ?_); clear uZ; refine aD fun OH sj => ?_; refine bf ?_; refine iH (γ := Bool × Unit) (env := fun (JE, _) => [(2, eP b1), (3, eP b2), (8, eI (iO : Int)), (10, .v (.bool JE))]) (mem := fun (JE, _) => [iL l0.aX aj.1, iL l0.bF aj.2.1, iL l0.Sections aj.2.2.1, iL l0.Links aj.2.2.2, own b1 26 (bK l0 aj), iL r0.Steps bC, own b2 90 (gJ r0 bC)]) (R := fun g => Nk iO kY g.1 = some y) ?_ ?_
   · intro OJ uW; refine fA _ (List.Sublist.refl _) ?_; refine au 0 rfl (bH (b := b1)) ?_; refine au 1 rfl (ay 0) ?_; refine au 2 rfl (aC (b := b2)) ?_; refine au 3 rfl aG ?_; obtain ⟨abU, hM⟩ := bO hM; refine au 4 rfl (jo (hr := fun hg => dn abU)) ?_; obtain ⟨x34, Ji, hM⟩ := bind_some hM; refine au 5 rfl (bA (xs := r0.Steps) 2 (kG r0.Steps bC) (iS Ji)) ?_; refine au 6 rfl (dU (m := 2) (i := ((iO : Int) - 1)) (xs := r0.Steps) (y := x34) (l := (kK x34)) 0 (kG r0.Steps bC) (fun _ => Ji)) ?_; refine au 7 rfl (ay 0) ?_; refine au 8 rfl (aC (b := b2)) ?_; refine au 9 rfl aG ?_; obtain ⟨GR, Wz, hM⟩ := bind_some hM; refine au 10 rfl (bA (xs := r0.Steps) 2 (kG r0.Steps bC) (iS Wz)) ?_; refine au 11 rfl (dU (m := 2) (i := (iO : Int)) (xs := r0.Steps) (y := GR) (l := (kK GR)) 0 (kG r0.Steps bC) (fun _ => Wz)) ?_; obtain ⟨y38, hy39, hM⟩ := bind_some hM; refine mO 12 16 (⟨_, rfl, rfl, bg (fun w hm => let ⟨S, hs⟩ := hm; Zf _ w l0 aj x34 GR y38 hy39 (aT hs) ⟨(kM hs), (kM hs), (kM hs), (kM hs)⟩) ⟨rI, ?_⟩⟩) (⟨_, rfl, rfl, bQ rfl (k := fun wu => ⟨rI, ?_⟩)⟩)
     · refine au 13 rfl aG ?_; refine au 14 rfl (gF (vs := [.agg (Hl y38.1), .bool y38.2])) ?_; refine au 15 rfl (gF (vs := [.agg (Hl y38.1), .bool y38.2])) ?_; refine bB 16 rfl (bQ rfl (k := fun Bd => ⟨rI, ?_⟩)); refine bB 17 rfl (bI (b := Bd) (vs := (JC y38.1)) (k := ⟨rI, ?_⟩)); refine au 18 rfl bX ?_; refine dG (uW (y38.2, ()) _ _ hM ⟨rfl, rfl, rfl, rfl, trivial⟩ rI)
     refine bB 12 rfl (bg (fun w hm => let ⟨S, hs⟩ := hm; Zf _ w l0 aj x34 GR y38 hy39 (aT hs) ⟨(kM hs), (kM hs), (kM hs), (kM hs)⟩) ⟨rI, ?_⟩); refine au 13 rfl aG ?_; refine au 14 rfl (gF (vs := [.agg (Hl y38.1), .bool y38.2])) ?_; refine au 15 rfl (gF (vs := [.agg (Hl y38.1), .bool y38.2])) ?_; refine bB 17 rfl (bI (b := wu) (vs := (JC y38.1)) (k := ⟨rI, ?_⟩)); refine au 18 rfl bX ?_; refine dG (uW (y38.2, ()) _ _ hM ⟨rfl, rfl, rfl, rfl, trivial⟩ rI)
   clear hM; intro g hM; obtain ⟨JE, ⟨⟩⟩ := g; dsimp only at hM ⊢; dsimp only [Nk] at hM; refine sr ?_; refine om ?_; refine oe dN ?_; refine on ?_; refine cc rfl hM (fun hc31 hM => ?_) (fun hc31 hM => ?_)
   · refine sr ?_; refine oa ?_; refine on ?_; obtain rfl := some_inj hM; refine aL (aZ (fun w hm => aW hm rfl))
   refine aM (sj _ _ ?_); clear sj; refine aR ?_; refine om ?_; obtain ⟨PV, hM⟩ := bO hM; refine oe (dh (hr := fun hg => dn PV)) ?_; refine oa ?_; refine aU (hL4 (rA, (iO + 1), ()) _ _ (eqc xS hM) (Nat.lt_succ_self _) ⟨rfl, rfl, rfl, trivial⟩ rI)
 refine dD (oL _ _ ?_); clear oL; dsimp only [Za] at hM; refine sr ?_; refine oa ?_; refine on ?_; obtain rfl := some_inj hM; refine aL (aZ (fun w hm => aW hm rfl))
def Cy (p0 : Plan) (gZ : Int) (hi0 : Int) : Option Bool :=
  some (((decide (0 ≤ gZ) && decide (gZ ≤ hi0)) && decide (hi0 < (IntKind.i64.wrap (gZ + p0.dW)))) && decide (hi0 ≤ 7200))
theorem Sw (S : bD) (w : World) (p0 : Plan) (ah : ak.R Plan) (gZ : Int) (hi0 : Int) (y : Bool) (hM : Cy p0 gZ hi0 = some y) (hS : sB S w) (eu : ak.ok S w ah p0) :
    Calls Tryz.prog 125 #[.agg (jT p0 ah), vI gZ, vI hi0] w (bW w (.bool y)) := by
 refine bR (args := [_, _, _]) Tryz.func125 rfl ((pre_nil hS).start |>.kD eu) rfl ?_; unfold Cy at hM; refine sr ?_; refine aF (bU (l := (dO p0 ah)) (k := fun b1 => ?_)); refine oa ?_; refine on ?_; refine sr ?_; refine om ?_; refine oe gW ?_; refine om ?_; refine av rfl aG ?_; refine av rfl aG ?_; refine av rfl kr ?_; refine oe cO ?_; refine om ?_; refine av rfl aG ?_; refine av rfl aG ?_
 refine av rfl (ay 0) ?_; refine av rfl (aC (b := b1)) ?_; refine av rfl Dt ?_; refine av rfl bN ?_; refine oe cO ?_; refine om ?_; refine av rfl aG ?_; refine av rfl kr ?_; refine oe cO ?_; refine oa ?_; refine on ?_; obtain rfl := some_inj hM; refine aL (aZ (fun w hm => aW hm rfl))
def Sj (aK : Nat) (aQ : ((List Cell) × Nat) → Option ((List Cell) × Int × Int)) (uD : List Cell) : Unit → Option ((List Cell) × Int × Int) := fun _ =>
  bM (bP ((aK : Int) + 1)) <|
  aQ (uD, aK + 1)
def Fy (jf : Section) (rZ : Int) (aK : Nat) (aQ : ((List Cell) × Nat) → Option ((List Cell) × Int × Int)) (iA : ((List Cell) × Nat) → Option ((List Cell) × Int × Int)) : ((List Cell) × Nat) → Option ((List Cell) × Int × Int) := fun (uD, jW) =>
  if decide ((jW : Int) < jf.Length) then
    (bM (decide ((uD.length + ([(Cell.mk jf.Limit rZ)] : List Cell).length) * 16 ≤ 140737488355328)) <|
    bM (bP ((jW : Int) + 1)) <|
    iA ((uD ++ ([(Cell.mk jf.Limit rZ)] : List Cell)), jW + 1))
  else
    (Sj aK aQ uD ())
def Ak (jf : Section) (aK : Nat) (aQ : ((List Cell) × Nat) → Option ((List Cell) × Int × Int)) (oP : List Cell) : Int → Option ((List Cell) × Int × Int) := fun rZ =>
  iter (Fy jf rZ aK aQ) FUEL (oP, 0)
def Si (oP : List Cell) (r0 : aV) (l0 : Layout) : Unit → Option ((List Cell) × Int × Int) := fun _ =>
  if decide (4000 < (oP.length : Int)) then
    (some (([] : List Cell), 0, 7))
  else
    ((idx r0.Steps 0).bind fun x27 =>
    (idx l0.Sections x27.Section).bind fun x29 =>
    some (oP, x29.Length, 0))
def Fx (r0 : aV) (l0 : Layout) (aQ : ((List Cell) × Nat) → Option ((List Cell) × Int × Int)) : ((List Cell) × Nat) → Option ((List Cell) × Int × Int) := fun (oP, aK) =>
  bM (bP ((r0.Steps.length : Int) - r0.Overlap)) <|
  if decide ((aK : Int) < ((r0.Steps.length : Int) - r0.Overlap)) then
    ((idx r0.Steps (aK : Int)).bind fun x10 =>
    (idx l0.Sections x10.Section).bind fun jf =>
    (idx r0.Steps (aK : Int)).bind fun x21 =>
    if decide (x21.Dir = 1) then
      (bM (bP (-jf.iE)) <|
      Ak jf aK aQ oP (-jf.iE))
    else
      (Ak jf aK aQ oP jf.iE))
  else
    (Si oP r0 l0 ())
def Ka (l0 : Layout) (r0 : aV) : Option ((List Cell) × Int × Int) :=
  (Ct l0 r0).bind fun y3 =>
  if decide (y3 ≠ 0) then
    (some (([] : List Cell), 0, y3))
  else
    (iter (Fx r0 l0) FUEL (([] : List Cell), 0))
theorem agy (S : bD) (w : World) (l0 : Layout) (aj : ak.R Layout) (r0 : aV) (bC : ak.R aV) (y : (List Cell) × Int × Int) (hM : Ka l0 r0 = some y) (hS : sB S w) (dH : ak.ok S w aj l0) (kZ : ak.ok S w bC r0) :
    Calls Tryz.prog 169 #[.agg (iy l0 aj), .agg (qM r0 bC)] w (Post (β := (ak.R (List Cell))) S [] (fun g => .tuple #[sL g y.1, vI y.2.1, vI y.2.2]) (fun g => [aO 254 g y.1]) w) := by
 refine bR (args := [_, _]) Tryz.func169 rfl ((pre_nil hS).start |>.jw dH|>.gQ (α := List Step) (r := bC) (x := r0.Steps) kZ) rfl ?_; unfold Ka at hM; refine sr ?_; refine aF (bU (l := (bK l0 aj)) (k := fun b1 => ?_)); refine aF (bU (l := (gJ r0 bC)) (k := fun b2 => ?_)); refine oa ?_; refine oa ?_; refine oa ?_; refine on ?_; refine aD fun K2 hK2 => ?_; refine sr ?_; refine oe (bH (b := b1)) ?_; refine oe (bH (b := b2)) ?_; obtain ⟨y3, hy4, hM⟩ := bind_some hM; refine aF (bg (fun w hm => let ⟨S, hs⟩ := hm; Zb _ w l0 aj r0 bC y3 hy4 (aT hs) ⟨(kM hs), (kM hs), (kM hs), (kM hs)⟩ (kM hs)) ?_); refine oa ?_; refine on ?_; refine sr ?_; refine om ?_; refine oe fB ?_; refine on ?_
 refine cc rfl hM (fun gX hM => ?_) (fun gX hM => ?_)
 · refine sr ?_; refine om ?_; refine oa ?_; refine oa ?_; refine oa ?_; refine on ?_; refine fZ (fun w hm => hm.fF (α := Cell) 254 (fun _ => ())) ?_; obtain rfl := some_inj hM; refine aL (qY (fun w hm => fO (⟨none, 0, (fun _ => ())⟩ : SR (ak.R Cell) ) hm rfl))
 refine aM (hK2 _ _ ?_); clear hK2; refine sr ?_; refine oa ?_; refine on ?_; refine aD fun K7 dI => ?_; refine sr ?_; refine oa ?_; refine on ?_; refine bf ?_; refine fZ (fun w hm => hm.fF (α := Cell) 254 (fun _ => ())) ?_; refine dF (γ := Nat × ((List Cell) × Nat) × (SR (ak.R Cell))) (env := fun (_, (oP, aK), Ah) => [(2, eP b1), (3, eP b2), (8, eS Ah oP), (9, eI (aK : Int))]) (mem := fun (_, (oP, aK), Ah) => [iL l0.aX aj.1, iL l0.bF aj.2.1, iL l0.Sections aj.2.2.1, iL l0.Links aj.2.2.2, own b1 26 (bK l0 aj), iL r0.Steps bC, own b2 90 (gJ r0 bC), aO 254 Ah oP]) (R := fun g => iter (Fx r0 l0) g.1 g.2.1 = some y) (μ := fun g => g.1) (FUEL, (([] : List Cell), 0), (⟨none, 0, (fun _ => ())⟩ : SR (ak.R Cell)  )) hM ⟨rfl, rfl, rfl, rfl, trivial⟩ rI ?_; clear hM; intro g hM gy hL1; obtain ⟨bJ, ⟨oP, aK⟩, Ah⟩ := g; dsimp only at hM ⊢; obtain ⟨bJ, aQ, rfl, dz, hM⟩ := dL hM
 dsimp only [Fx] at hM; refine aD fun K9 eZ => ?_; refine sr ?_; refine om ?_; refine oe (ay 0) ?_; refine oe (aC (b := b2)) ?_; refine oe bE ?_; refine oe (ay 1) ?_; refine oe (aC (b := b2)) ?_; obtain ⟨r9, hM⟩ := bO hM; refine oe (jo (hr := fun hg => dn r9)) ?_; refine oe bN ?_; refine on ?_; refine cc rfl hM (fun nA hM => ?_) (fun nA hM => ?_)
 · refine aM (eZ _ _ ?_); clear eZ; refine aD fun oG fM => ?_; refine bf ?_; refine aD fun uq iU => ?_; refine fA _ (List.Sublist.refl _) ?_; refine au 0 rfl (ay 2) ?_; refine au 1 rfl (aC (b := b1)) ?_; refine au 2 rfl (ay 0) ?_; refine au 3 rfl (aC (b := b2)) ?_; refine au 4 rfl aG ?_; obtain ⟨x10, oN, hM⟩ := bind_some hM; refine au 5 rfl (bA (xs := r0.Steps) 2 (kG r0.Steps bC) (iS oN)) ?_; refine au 6 rfl (ay 0) ?_; refine au 7 rfl (cZ (i := (aK : Int)) (xs := r0.Steps) (y := x10) 0 (kG r0.Steps bC) (fun _ => oN)) ?_; obtain ⟨jf, zR, hM⟩ := bind_some hM; refine au 8 rfl (bA (xs := l0.Sections) 5 (kG l0.Sections aj.2.2.1) (iS zR)) ?_; refine au 9 rfl (dU (m := 5) (i := x10.Section) (xs := l0.Sections) (y := jf) (l := (yg jf)) 0 (kG l0.Sections aj.2.2.1) (fun _ => zR)) ?_; refine bB 10 rfl (bQ rfl (k := fun b14 => ⟨rI, ?_⟩)); refine bB 11 rfl (bI (b := b14) (vs := (yg jf)) (k := ⟨rI, ?_⟩)); refine dG (iU _ _ ?_); clear iU; refine sr ?_
   refine oe (ay 3) ?_; refine oe (aC (b := b14)) ?_; refine oa ?_; refine on ?_; refine iH (γ := Int × Unit) (env := fun (rZ, _) => [(2, eP b1), (3, eP b2), (8, eS Ah oP), (9, eI (aK : Int)), (10, eP b14), (11, eI rZ)]) (mem := fun (rZ, _) => [iL l0.aX aj.1, iL l0.bF aj.2.1, iL l0.Sections aj.2.2.1, iL l0.Links aj.2.2.2, own b1 26 (bK l0 aj), iL r0.Steps bC, own b2 90 (gJ r0 bC), aO 254 Ah oP, own b14 81 (yg jf)]) (R := fun g => Ak jf aK aQ oP g.1 = some y) ?_ ?_
   · intro A9 hJ3; refine sr ?_; refine oe (ay 0) ?_; refine oe (aC (b := b2)) ?_; refine om ?_; obtain ⟨x21, Jh, hM⟩ := bind_some hM; refine oe (bA (xs := r0.Steps) 2 (kG r0.Steps bC) (iS Jh)) ?_; refine oe (ay 1) ?_; refine oe (cZ (i := (aK : Int)) (xs := r0.Steps) (y := x21) 1 (kG r0.Steps bC) (fun _ => Jh)) ?_; refine oe dS ?_; refine on ?_; refine cc rfl hM (fun I5 hM => ?_) (fun I5 hM => ?_)
     · refine aR ?_; refine om ?_; obtain ⟨abR, hM⟩ := bO hM; refine oe (Mq (hr := fun hg => dn abR)) ?_; refine oa ?_; refine aU (hJ3 ((-jf.iE), ()) _ _ hM ⟨rfl, rfl, rfl, rfl, rfl, rfl, trivial⟩ rI)
     refine aM (hJ3 (jf.iE, ()) _ _ hM ⟨rfl, rfl, rfl, rfl, rfl, rfl, trivial⟩ rI)
   clear hM; intro g hM; obtain ⟨rZ, ⟨⟩⟩ := g; dsimp only at hM ⊢; dsimp only [Ak] at hM; refine sr ?_; refine oa ?_; refine on ?_; refine bf ?_; refine dF (γ := Nat × ((List Cell) × Nat) × (SR (ak.R Cell))) (env := fun (_, (uD, jW), EW) => [(2, eP b1), (3, eP b2), (8, eS EW uD), (9, eI (aK : Int)), (10, eP b14), (11, eI rZ), (12, eI (jW : Int))]) (mem := fun (_, (uD, jW), EW) => [iL l0.aX aj.1, iL l0.bF aj.2.1, iL l0.Sections aj.2.2.1, iL l0.Links aj.2.2.2, own b1 26 (bK l0 aj), iL r0.Steps bC, own b2 90 (gJ r0 bC), aO 254 EW uD, own b14 81 (yg jf)]) (R := fun g => iter (Fy jf rZ aK aQ) g.1 g.2.1 = some y) (μ := fun g => g.1) (FUEL, (oP, 0), Ah) hM ⟨rfl, rfl, rfl, rfl, rfl, rfl, rfl, trivial⟩ rI ?_; clear hM; intro g hM uP hL2; obtain ⟨jI, ⟨uD, jW⟩, EW⟩ := g
   dsimp only at hM ⊢; obtain ⟨jI, iA, rfl, mH, hM⟩ := dL hM; dsimp only [Fy] at hM; refine aD fun wh jN => ?_; refine sr ?_; refine om ?_; refine oe (ay 1) ?_; refine oe (aC (b := b14)) ?_; refine oe bN ?_; refine on ?_; refine cc rfl hM (fun qy hM => ?_) (fun qy hM => ?_)
   · refine aM (jN _ _ ?_); clear jN; refine aD fun CV ny => ?_; refine bf ?_; refine aR ?_; refine om ?_; refine oe (ay 2) ?_; refine oe (aC (b := b14)) ?_; refine om ?_; refine oe (jE [vI jf.Limit, vI rZ]) ?_; refine aF (kE (α := Cell) 254 (fun _ => ()) ([(Cell.mk jf.Limit rZ)] : List Cell) oF (fun r16 => ?_)); obtain ⟨Qd, hM⟩ := bO hM; refine aF (ow (r := EW) (r2 := r16) uR (Kn.aO (e := 254) (r := r16) hA) oF (of_decide_eq_true Qd) (fun ES => ?_)); refine oa ?_; refine aU (ny _ _ ?_); clear ny; refine aR ?_; refine om ?_; obtain ⟨abP, hM⟩ := bO hM; refine oe (dh (hr := fun hg => dn abP)) ?_; refine oa ?_; refine aU (hL2 (jI, ((uD ++ ([(Cell.mk jf.Limit rZ)] : List Cell)), jW + 1), ES) _ _ (eqc mH hM) (Nat.lt_succ_self _) ⟨rfl, rfl, rfl, rfl, rfl, rfl, rfl, trivial⟩ rI)
   refine dD (fM _ _ ?_); clear fM; dsimp only [Sj] at hM; refine aR ?_; refine om ?_; obtain ⟨IE, hM⟩ := bO hM; refine oe (dh (hr := fun hg => dn IE)) ?_; refine oa ?_; refine aU (hL1 (bJ, (uD, aK + 1), EW) _ _ (eqc dz hM) (Nat.lt_succ_self _) ⟨rfl, rfl, rfl, rfl, trivial⟩ rI)
 refine dD (dI _ _ ?_); clear dI; dsimp only [Si] at hM; refine aD fun ze kQ => ?_; refine sr ?_; refine om ?_; refine oe bE ?_; refine oe fP ?_; refine on ?_; refine cc rfl hM (fun hc25 hM => ?_) (fun hc25 hM => ?_)
 · refine sr ?_; refine oa ?_; refine oa ?_; refine oa ?_; refine on ?_; refine fZ (fun w hm => hm.fF (α := Cell) 254 (fun _ => ())) ?_; obtain rfl := some_inj hM; refine aL (qY (fun w hm => fO (⟨none, 0, (fun _ => ())⟩ : SR (ak.R Cell)       ) hm rfl))
 refine aM (kQ _ _ ?_); clear kQ; refine aD fun He oK => ?_; refine fA _ (List.Sublist.refl _) ?_; refine au 0 rfl aG ?_; refine au 1 rfl (ay 2) ?_; refine au 2 rfl (aC (b := b1)) ?_; refine au 3 rfl (ay 0) ?_; refine au 4 rfl (aC (b := b2)) ?_; obtain ⟨x27, hx28, hM⟩ := bind_some hM; refine au 5 rfl (bA (xs := r0.Steps) 2 (kG r0.Steps bC) (iS hx28)) ?_; refine au 6 rfl (ay 0) ?_; refine au 7 rfl (cZ (i := 0) (xs := r0.Steps) (y := x27) 0 (kG r0.Steps bC) (fun _ => hx28)) ?_; obtain ⟨x29, Wy, hM⟩ := bind_some hM; refine au 8 rfl (bA (xs := l0.Sections) 5 (kG l0.Sections aj.2.2.1) (iS Wy)) ?_; refine au 9 rfl (ay 1) ?_; refine au 10 rfl (cZ (i := x27.Section) (xs := l0.Sections) (y := x29) 1 (kG l0.Sections aj.2.2.1) (fun _ => Wy)) ?_; refine au 11 rfl bX ?_; refine au 12 rfl bX ?_; refine au 13 rfl bX ?_; refine dG (oK _ _ ?_); clear oK; obtain rfl := some_inj hM; refine aL (qY (fun w hm => fO Ah hm rfl))
def Zd : Unit → Option Int := fun _ =>
  some 0
def Kc (r0 : aV) (l0 : Layout) (s0 : bL) (aQ : Nat → Option Int) : Nat → Option Int := fun aK =>
  bM (bP ((r0.Steps.length : Int) - r0.Overlap)) <|
  if decide ((aK : Int) < ((r0.Steps.length : Int) - r0.Overlap)) then
    ((idx r0.Steps (aK : Int)).bind fun jK =>
    (idx l0.Sections jK.Section).bind fun jZ =>
    if decide (jZ.Length < (if s0.Length > 2 then s0.Length else 2)) then
      (some 12)
    else
      (bM (bP ((aK : Int) + 1)) <|
      aQ (aK + 1)))
  else
    (Zd ())
def Ke (l0 : Layout) (r0 : aV) (s0 : bL) : Option Int :=
  (Ka l0 r0).bind fun y4 =>
  if decide (y4.2.2 ≠ 0) then
    (some y4.2.2)
  else
    ((FD s0).bind fun y8 =>
    if (!y8) then
      (some 1)
    else
      (iter (Kc r0 l0 s0) FUEL 0))
theorem agz (S : bD) (w : World) (l0 : Layout) (aj : ak.R Layout) (r0 : aV) (bC : ak.R aV) (s0 : bL) (y : Int) (hM : Ke l0 r0 s0 = some y) (hS : sB S w) (dH : ak.ok S w aj l0) (kZ : ak.ok S w bC r0) :
    Calls Tryz.prog 126 #[.agg (iy l0 aj), .agg (qM r0 bC), .agg (Bb s0)] w (bW w (vI y)) := by
 refine bR (args := [_, _, _]) Tryz.func126 rfl ((pre_nil hS).start |>.jw dH|>.gQ (α := List Step) (r := bC) (x := r0.Steps) kZ) rfl ?_; unfold Ke at hM; refine sr ?_; refine aF (bU (l := (bK l0 aj)) (k := fun b1 => ?_)); refine aF (bU (l := (gJ r0 bC)) (k := fun b2 => ?_)); refine aF (bU (l := (mg s0)) (k := fun b3 => ?_)); refine oa ?_; refine on ?_; refine aD fun K2 hK2 => ?_; refine sr ?_; refine oe (bH (b := b1)) ?_; refine oe (bH (b := b2)) ?_; obtain ⟨y4, xU, hM⟩ := bind_some hM; refine aF (mK iQ.nil (fun S w hs hP => agy _ w l0 aj r0 bC y4 xU (aT hs) ⟨(kM hs), (kM hs), (kM hs), (kM hs)⟩ (kM hs)) pJ (fun r6 => ?_)); dsimp only [List.cons_append, List.nil_append]; refine om ?_; refine oe (gF (vs := [sL r6 y4.1, vI y4.2.1, vI y4.2.2])) ?_
 refine oe (gF (vs := [sL r6 y4.1, vI y4.2.1, vI y4.2.2])) ?_; refine oe (gF (vs := [sL r6 y4.1, vI y4.2.1, vI y4.2.2])) ?_; refine oa ?_; refine oa ?_; refine oa ?_; refine on ?_; refine sr ?_; refine om ?_; refine oe fB ?_; refine on ?_; refine cc rfl hM (fun ku hM => ?_) (fun ku hM => ?_)
 · refine sr ?_; refine om ?_; refine oa ?_; refine on ?_; obtain rfl := some_inj hM; refine aL (aZ (fun w hm => aW hm rfl))
 refine aM (hK2 _ _ ?_); clear hK2; refine aD fun K6 cK => ?_; refine sr ?_; refine oe (bH (b := b3)) ?_; obtain ⟨y8, nM, hM⟩ := bind_some hM; refine aF (bg (fun w hm => let ⟨S, hs⟩ := hm; Zc _ w s0 y8 nM (aT hs) ) ?_); refine oe dN ?_; refine on ?_; refine cc rfl hM (fun pV hM => ?_) (fun pV hM => ?_)
 · refine sr ?_; refine oa ?_; refine on ?_; obtain rfl := some_inj hM; refine aL (aZ (fun w hm => aW hm rfl))
 refine aM (cK _ _ ?_); clear cK; refine aD fun K9 eZ => ?_; refine sr ?_; refine oa ?_; refine on ?_; refine bf ?_; refine dF (γ := Nat × Nat × Unit) (env := fun (_, aK, _) => [(3, eP b1), (4, eP b2), (5, eP b3), (10, eI (aK : Int))]) (mem := fun (_, aK, _) => [iL l0.aX aj.1, iL l0.bF aj.2.1, iL l0.Sections aj.2.2.1, iL l0.Links aj.2.2.2, own b1 26 (bK l0 aj), iL r0.Steps bC, own b2 90 (gJ r0 bC), own b3 71 (mg s0)]) (R := fun g => iter (Kc r0 l0 s0) g.1 g.2.1 = some y) (μ := fun g => g.1) (FUEL, 0, ()) hM ⟨rfl, rfl, rfl, rfl, trivial⟩ rI ?_; clear hM; intro g hM gy hL1; obtain ⟨bJ, aK, ⟨⟩⟩ := g; dsimp only at hM ⊢; obtain ⟨bJ, aQ, rfl, dz, hM⟩ := dL hM; dsimp only [Kc] at hM; refine aD fun oG fM => ?_; refine sr ?_; refine om ?_; refine oe (ay 0) ?_
 refine oe (aC (b := b2)) ?_; refine oe bE ?_; refine oe (ay 1) ?_; refine oe (aC (b := b2)) ?_; obtain ⟨PD, hM⟩ := bO hM; refine oe (jo (hr := fun hg => dn PD)) ?_; refine oe bN ?_; refine on ?_; refine cc rfl hM (fun lK hM => ?_) (fun lK hM => ?_)
 · refine aM (fM _ _ ?_); clear fM; refine aD fun uM jr => ?_; refine bf ?_; refine aD fun uN jv => ?_; refine fA _ (List.Sublist.refl _) ?_; refine au 0 rfl (ay 2) ?_; refine au 1 rfl (aC (b := b1)) ?_; refine au 2 rfl (ay 0) ?_; refine au 3 rfl (aC (b := b2)) ?_; refine au 4 rfl aG ?_; obtain ⟨jK, qV, hM⟩ := bind_some hM; refine au 5 rfl (bA (xs := r0.Steps) 2 (kG r0.Steps bC) (iS qV)) ?_; refine au 6 rfl (ay 0) ?_; refine au 7 rfl (cZ (i := (aK : Int)) (xs := r0.Steps) (y := jK) 0 (kG r0.Steps bC) (fun _ => qV)) ?_; obtain ⟨jZ, hx16, hM⟩ := bind_some hM; refine au 8 rfl (bA (xs := l0.Sections) 5 (kG l0.Sections aj.2.2.1) (iS hx16)) ?_; refine au 9 rfl (ay 1) ?_; refine au 10 rfl (cZ (i := jK.Section) (xs := l0.Sections) (y := jZ) 1 (kG l0.Sections aj.2.2.1) (fun _ => hx16)) ?_; refine au 11 rfl (ay 1) ?_; refine au 12 rfl (aC (b := b3)) ?_; refine au 13 rfl Vq ?_; refine au 14 rfl bN ?_; refine dG (jv _ _ ?_); clear jv; refine cc rfl hM (fun hc17 hM => ?_) (fun hc17 hM => ?_)
   · refine sr ?_; refine oa ?_; refine on ?_; obtain rfl := some_inj hM; refine aL (aZ (fun w hm => aW hm rfl))
   refine aM (jr _ _ ?_); clear jr; refine aR ?_; refine om ?_; obtain ⟨PI, hM⟩ := bO hM; refine oe (dh (hr := fun hg => dn PI)) ?_; refine oa ?_; refine aU (hL1 (bJ, (aK + 1), ()) _ _ (eqc dz hM) (Nat.lt_succ_self _) ⟨rfl, rfl, rfl, rfl, trivial⟩ rI)
 refine dD (eZ _ _ ?_); clear eZ; dsimp only [Zd] at hM; refine sr ?_; refine oa ?_; refine on ?_; obtain rfl := some_inj hM; refine aL (aZ (fun w hm => aW hm rfl))
def Cw (r0 : aV) : Option Int :=
  (idx r0.Steps 0).bind fun x2 =>
  some x2.Section
theorem Sr (S : bD) (w : World) (r0 : aV) (bC : ak.R aV) (y : Int) (hM : Cw r0 = some y) (hS : sB S w) (kZ : ak.ok S w bC r0) :
    Calls Tryz.prog 127 #[.agg (qM r0 bC)] w (bW w (vI y)) := by
 refine bR (args := [_]) Tryz.func127 rfl ((pre_nil hS).start |>.gQ (α := List Step) (r := bC) (x := r0.Steps) kZ) rfl ?_; unfold Cw at hM; refine sr ?_; refine aF (bU (l := (gJ r0 bC)) (k := fun b1 => ?_)); refine oa ?_; refine on ?_; refine sr ?_; refine oe (ay 0) ?_; refine oe (aC (b := b1)) ?_; obtain ⟨x2, hx3, hM⟩ := bind_some hM; refine oe (bA (xs := r0.Steps) 2 (kG r0.Steps bC) (iS hx3)) ?_; refine oe (ay 0) ?_; refine oe (cZ (i := 0) (xs := r0.Steps) (y := x2) 0 (kG r0.Steps bC) (fun _ => hx3)) ?_; refine oa ?_; refine on ?_; obtain rfl := some_inj hM; refine aL (aZ (fun w hm => aW hm rfl))
def Cx (r0 : aV) : Option Int :=
  bM (bP ((r0.Steps.length : Int) - r0.Overlap)) <|
  bM (bP (((r0.Steps.length : Int) - r0.Overlap) - 1)) <|
  (idx r0.Steps (((r0.Steps.length : Int) - r0.Overlap) - 1)).bind fun x4 =>
  some x4.Section
theorem Sv (S : bD) (w : World) (r0 : aV) (bC : ak.R aV) (y : Int) (hM : Cx r0 = some y) (hS : sB S w) (kZ : ak.ok S w bC r0) :
    Calls Tryz.prog 128 #[.agg (qM r0 bC)] w (bW w (vI y)) := by
 refine bR (args := [_]) Tryz.func128 rfl ((pre_nil hS).start |>.gQ (α := List Step) (r := bC) (x := r0.Steps) kZ) rfl ?_; unfold Cx at hM; refine sr ?_; refine aF (bU (l := (gJ r0 bC)) (k := fun b1 => ?_)); refine oa ?_; refine on ?_; refine sr ?_; refine oe (ay 0) ?_; refine oe (aC (b := b1)) ?_; refine oe (ay 0) ?_; refine oe (aC (b := b1)) ?_; refine oe bE ?_; refine oe (ay 1) ?_; refine oe (aC (b := b1)) ?_; obtain ⟨hI2, hM⟩ := bO hM; refine oe (jo (hr := fun hg => dn hI2)) ?_; obtain ⟨hI3, hM⟩ := bO hM; refine oe (jo (hr := fun hg => dn hI3)) ?_; obtain ⟨x4, hx5, hM⟩ := bind_some hM; refine oe (bA (xs := r0.Steps) 2 (kG r0.Steps bC) (iS hx5)) ?_; refine oe (ay 0) ?_; refine oe (cZ (i := (((r0.Steps.length : Int) - r0.Overlap) - 1)) (xs := r0.Steps) (y := x4) 0 (kG r0.Steps bC) (fun _ => hx5)) ?_; refine oa ?_; refine on ?_; obtain rfl := some_inj hM; refine aL (aZ (fun w hm => aW hm rfl))
def Zj : Unit → Option Int := fun _ =>
  some 0
def F3 (x3 : Line) (p0 : Plan) (l0 : Layout) (iA : Nat → Option Int) : Nat → Option Int := fun jW =>
  if decide ((jW : Int) < (x3.bq.length : Int)) then
    ((idx x3.bq (jW : Int)).bind fun jL =>
    bM (bP ((x3.bq.length : Int) - 1)) <|
    bM (bP ((p0.Routes.length : Int) - 1)) <|
    (mJ jL.aV 0 ((p0.Routes.length : Int) - 1)).bind fun y27 =>
    bM (!(!(!y27)) || bP (p0.dW - 1)) <|
    (dV (!(!y27)) default (mJ jL.Extra 0 (p0.dW - 1))).bind fun AQ =>
    (dV (!((!y27) || (!AQ))) default (Cy p0 jL.Min jL.Max)).bind fun y32 =>
    if ((((!y27) || (!AQ)) || (!y32)) || (decide ((jW : Int) = ((x3.bq.length : Int) - 1)) && (decide (jL.Min ≠ 0) || decide (jL.Max ≠ 0)))) then
      (some 4)
    else
      ((idx p0.Routes jL.aV).bind fun lC =>
      (idx p0.aY x3.bL).bind fun Lx =>
      (Ke l0 lC Lx).bind fun y39 =>
      if decide (y39 ≠ 0) then
        (some y39)
      else
        ((dV (decide (0 < (jW : Int))) default (idx p0.Routes jL.aV)).bind fun fu =>
        if decide (0 < (jW : Int)) then
        (bM (bP ((jW : Int) - 1)) <|
        (idx x3.bq ((jW : Int) - 1)).bind fun GU =>
        (idx p0.Routes GU.aV).bind fun LC =>
        (Cw fu).bind fun T9 =>
        (Cx LC).bind fun AX =>
        if (decide (0 < (jW : Int)) && decide (T9 ≠ AX)) then
          (some 11)
        else
          (bM (bP ((jW : Int) + 1)) <|
          iA (jW + 1)))
        else
        (bM (bP ((jW : Int) + 1)) <|
        iA (jW + 1)))))
  else
    (Zj ())
def Nu (p0 : Plan) (x3 : Line) (l0 : Layout) : Unit → Option Int := fun _ =>
  bM (bP ((p0.aY.length : Int) - 1)) <|
  (mJ x3.bL 0 ((p0.aY.length : Int) - 1)).bind fun mo =>
  (dV (!(!mo)) default (mJ x3.Weight 0 1048576)).bind fun vY =>
  if ((!mo) || (!vY)) then
    (some 4)
  else
    (if decide ((x3.bq.length : Int) = 0) then
      (some 1)
    else
      (iter (F3 x3 p0 l0) FUEL 0))
def Kt (i0 : Int) (p0 : Plan) (x3 : Line) (l0 : Layout) (aQ : Nat → Option Int) : Nat → Option Int := fun gN =>
  if decide ((gN : Int) < i0) then
    ((idx p0.Lines (gN : Int)).bind fun x10 =>
    if decide (x10.Name = x3.Name) then
      (some 5)
    else
      (bM (bP ((gN : Int) + 1)) <|
      aQ (gN + 1)))
  else
    (Nu p0 x3 l0 ())
def F4 (l0 : Layout) (p0 : Plan) (i0 : Int) : Option Int :=
  (idx p0.Lines i0).bind fun x3 =>
  (Cq x3.Name).bind fun y6 =>
  if (!y6) then
    (some 3)
  else
    (iter (Kt i0 p0 x3 l0) FUEL 0)
theorem agD (S : bD) (w : World) (l0 : Layout) (aj : ak.R Layout) (p0 : Plan) (ah : ak.R Plan) (i0 : Int) (y : Int) (hM : F4 l0 p0 i0 = some y) (hS : sB S w) (dH : ak.ok S w aj l0) (eu : ak.ok S w ah p0) :
    Calls Tryz.prog 66 #[.agg (iy l0 aj), .agg (jT p0 ah), vI i0] w (bW w (vI y)) := by
 refine bR (args := [_, _, _]) Tryz.func66 rfl ((pre_nil hS).start |>.jw dH|>.kD eu) rfl ?_; unfold F4 at hM; refine sr ?_; refine aF (bU (l := (bK l0 aj)) (k := fun b1 => ?_)); refine aF (bU (l := (dO p0 ah)) (k := fun b2 => ?_))
 refine oa ?_; refine on ?_; refine sr ?_; refine oe (ay 3) ?_; refine oe (aC (b := b2)) ?_; refine om ?_; obtain ⟨x3, hx4, hM⟩ := bind_some hM; refine oe (bA (xs := p0.Lines) 4 (kG p0.Lines ah.2.2.1) (iS hx4)) ?_; refine oe (dU (m := 4) (i := i0) (xs := p0.Lines) (y := x3) (l := (iW x3 (ah.2.2.1.es i0.toNat))) 0 (kG p0.Lines ah.2.2.1) (fun _ => hx4)) ?_; refine aF (bQ rfl (k := fun b5 => ?_)); refine aF (bI (b := b5) (vs := (iW x3 (ah.2.2.1.es i0.toNat))) (k := ?_)); refine on ?_; refine aD fun K3 hK3 => ?_; refine sr ?_; refine oe (ay 0) ?_; refine oe (aC (b := b5)) ?_; obtain ⟨y6, qC, hM⟩ := bind_some hM; refine aF (bg (fun w hm => let ⟨S, hs⟩ := hm; RS _ w x3.Name y6 qC (aT hs) ) ?_); refine oe dN ?_; refine on ?_; refine cc rfl hM (fun hc8 hM => ?_) (fun hc8 hM => ?_)
 · refine sr ?_; refine oa ?_; refine on ?_; obtain rfl := some_inj hM; refine aL (aZ (fun w hm => aW hm rfl))
 refine aM (hK3 _ _ ?_); clear hK3; refine aD fun K6 cK => ?_; refine sr ?_; refine oa ?_; refine on ?_; refine bf ?_; refine dF (γ := Nat × Nat × Unit) (env := fun (_, gN, _) => [(2, eI i0), (3, eP b1), (4, eP b2), (7, eP b5), (8, eI (gN : Int))]) (mem := fun (_, gN, _) => [iL l0.aX aj.1, iL l0.bF aj.2.1, iL l0.Sections aj.2.2.1, iL l0.Links aj.2.2.2, own b1 26 (bK l0 aj), iL p0.aY ah.1, iL p0.Routes ah.2.1, iL p0.Lines ah.2.2.1, iL p0.Changes ah.2.2.2.1, iL p0.Turns ah.2.2.2.2.1, iL p0.bT ah.2.2.2.2.2.1, iL p0.bS ah.2.2.2.2.2.2, own b2 35 (dO p0 ah), own b5 56 (iW x3 (ah.2.2.1.es i0.toNat))]) (R := fun g => iter (Kt i0 p0 x3 l0) g.1 g.2.1 = some y) (μ := fun g => g.1) (FUEL, 0, ()) hM ⟨rfl, rfl, rfl, rfl, rfl, trivial⟩ rI ?_
 clear hM; intro g hM gy hL1; obtain ⟨bJ, gN, ⟨⟩⟩ := g; dsimp only at hM ⊢; obtain ⟨bJ, aQ, rfl, dz, hM⟩ := dL hM; dsimp only [Kt] at hM; refine aD fun K8 fE => ?_; refine sr ?_; refine om ?_; refine om ?_; refine oe bN ?_; refine on ?_; refine cc rfl hM (fun nA hM => ?_) (fun nA hM => ?_)
 · refine aM (fE _ _ ?_); clear fE; refine aD fun pE gu => ?_; refine bf ?_; refine aD fun oG fM => ?_; refine fA _ (List.Sublist.refl _) ?_; refine au 0 rfl (ay 3) ?_; refine au 1 rfl (aC (b := b2)) ?_; refine au 2 rfl aG ?_; obtain ⟨x10, oN, hM⟩ := bind_some hM; refine au 3 rfl (bA (xs := p0.Lines) 4 (kG p0.Lines ah.2.2.1) (iS oN)) ?_; refine au 4 rfl (ay 0) ?_; refine au 5 rfl (cZ (i := (gN : Int)) (xs := p0.Lines) (y := x10) 0 (kG p0.Lines ah.2.2.1) (fun _ => oN)) ?_; refine au 6 rfl (ay 0) ?_; refine au 7 rfl (aC (b := b5)) ?_; refine au 8 rfl qo ?_; refine dG (fM _ _ ?_); clear fM; refine cc rfl hM (fun lK hM => ?_) (fun lK hM => ?_)
   · refine sr ?_; refine oa ?_; refine on ?_; obtain rfl := some_inj hM; refine aL (aZ (fun w hm => aW hm rfl))
   refine aM (gu _ _ ?_); clear gu; refine aR ?_; refine om ?_; obtain ⟨xP, hM⟩ := bO hM; refine oe (dh (hr := fun hg => dn xP)) ?_; refine oa ?_; refine aU (hL1 (bJ, (gN + 1), ()) _ _ (eqc dz hM) (Nat.lt_succ_self _) ⟨rfl, rfl, rfl, rfl, rfl, trivial⟩ rI)
 refine dD (cK _ _ ?_); clear cK; dsimp only [Nu] at hM; refine aD fun uM jr => ?_; refine sr ?_; refine oe (ay 1) ?_; refine oe (aC (b := b5)) ?_; refine oe (ay 1) ?_; refine oe (aC (b := b2)) ?_; refine oe bE ?_; obtain ⟨Bu, hM⟩ := bO hM; refine oe (jo (hr := fun hg => dn Bu)) ?_; obtain ⟨mo, QG, hM⟩ := bind_some hM; refine aF (bg (fun w hm => let ⟨S, hs⟩ := hm; rD _ w x3.bL 0 ((p0.aY.length : Int) - 1) mo QG (aT hs) ) ?_); refine oe dN ?_; refine om ?_; refine av rfl (ay 2) ?_; refine av rfl (aC (b := b5)) ?_; obtain ⟨vY, Jo, hM⟩ := bind_some hM; refine iX rfl (fun hg w hm => let ⟨S, hs⟩ := hm; rD _ w x3.Weight 0 1048576 vY (dM Jo hg) (aT hs) ) ?_; refine av rfl dN ?_; refine oe dw ?_; refine on ?_; refine cc rfl hM (fun hc19 hM => ?_) (fun hc19 hM => ?_)
 · refine sr ?_; refine oa ?_; refine on ?_; obtain rfl := some_inj hM; refine aL (aZ (fun w hm => aW hm rfl))
 refine aM (jr _ _ ?_); clear jr; refine aD fun xu j5 => ?_; refine sr ?_; refine oe (ay 3) ?_; refine oe (aC (b := b5)) ?_; refine oe bE ?_; refine oe dS ?_; refine on ?_; refine cc rfl hM (fun wH hM => ?_) (fun wH hM => ?_)
 · refine sr ?_; refine oa ?_; refine on ?_; obtain rfl := some_inj hM; refine aL (aZ (fun w hm => aW hm rfl))
 refine aM (j5 _ _ ?_); clear j5; refine aD fun ze kQ => ?_; refine sr ?_; refine oa ?_; refine on ?_; refine bf ?_; refine dF (γ := Nat × Nat × Unit) (env := fun (_, jW, _) => [(3, eP b1), (4, eP b2), (7, eP b5), (9, eI (jW : Int))]) (mem := fun (_, jW, _) => [iL l0.aX aj.1, iL l0.bF aj.2.1, iL l0.Sections aj.2.2.1, iL l0.Links aj.2.2.2, own b1 26 (bK l0 aj), iL p0.aY ah.1, iL p0.Routes ah.2.1, iL p0.Lines ah.2.2.1, iL p0.Changes ah.2.2.2.1, iL p0.Turns ah.2.2.2.2.1, iL p0.bT ah.2.2.2.2.2.1, iL p0.bS ah.2.2.2.2.2.2, own b2 35 (dO p0 ah), own b5 56 (iW x3 (ah.2.2.1.es i0.toNat))]) (R := fun g => iter (F3 x3 p0 l0) g.1 g.2.1 = some y) (μ := fun g => g.1) (FUEL, 0, ()) hM ⟨rfl, rfl, rfl, rfl, trivial⟩ rI ?_
 clear hM; intro g hM uP hL2; obtain ⟨jI, jW, ⟨⟩⟩ := g; dsimp only at hM ⊢; obtain ⟨jI, iA, rfl, mH, hM⟩ := dL hM; dsimp only [F3] at hM; refine aD fun LK qQ => ?_; refine sr ?_; refine om ?_; refine oe (ay 3) ?_; refine oe (aC (b := b5)) ?_; refine oe bE ?_; refine oe bN ?_; refine on ?_; refine cc rfl hM (fun hc21 hM => ?_) (fun hc21 hM => ?_)
 · refine aM (qQ _ _ ?_); clear qQ; refine aD fun Hf nK => ?_; refine bf ?_; refine sr ?_; refine oe (ay 3) ?_; refine oe (aC (b := b5)) ?_; refine om ?_; obtain ⟨jL, zT, hM⟩ := bind_some hM; refine oe (bA (xs := x3.bq) 4 ((Sk.elem (Sk.dJ (α := List Line) (r := ah.2.2.1) (x := p0.Lines) hA) hx4)).kn (iS zT)) ?_; refine oe (dU (m := 4) (i := (jW : Int)) (xs := x3.bq) (y := jL) (l := (p8 jL)) 0 ((Sk.elem (Sk.dJ (α := List Line) (r := ah.2.2.1) (x := p0.Lines) hA) hx4)).kn (fun _ => zT)) ?_; refine aF (bQ rfl (k := fun qN => ?_)); refine aF (bI (b := qN) (vs := (p8 jL)) (k := ?_)); refine on ?_; refine sr ?_; refine om ?_; refine oe (ay 3) ?_; refine oe (aC (b := b5)) ?_; refine oe bE ?_; obtain ⟨abT, hM⟩ := bO hM; refine oe (jo (hr := fun hg => dn abT)) ?_; refine oe dS ?_; refine oa ?_; refine on ?_; refine aD fun OE uY => ?_; refine sr ?_; refine oe (ay 0) ?_; refine oe (aC (b := qN)) ?_; refine oe (ay 2) ?_; refine oe (aC (b := b2)) ?_; refine oe bE ?_; obtain ⟨PO, hM⟩ := bO hM
   refine oe (jo (hr := fun hg => dn PO)) ?_; obtain ⟨y27, hy28, hM⟩ := bind_some hM; refine aF (bg (fun w hm => let ⟨S, hs⟩ := hm; rD _ w jL.aV 0 ((p0.Routes.length : Int) - 1) y27 hy28 (aT hs) ) ?_); refine oe dN ?_; refine om ?_; refine av rfl (ay 1) ?_; refine av rfl (aC (b := qN)) ?_; refine av rfl (ay 0) ?_; refine av rfl (aC (b := b2)) ?_; obtain ⟨PS, hM⟩ := bO hM; refine av rfl (jo (hr := fun hg => dn (uV PS hg))) ?_; obtain ⟨AQ, hy31, hM⟩ := bind_some hM; refine iX rfl (fun hg w hm => let ⟨S, hs⟩ := hm; rD _ w jL.Extra 0 (p0.dW - 1) AQ (dM hy31 hg) (aT hs) ) ?_; refine av rfl dN ?_; refine oe dw ?_; refine om ?_; refine av rfl (bH (b := b2)) ?_; refine av rfl (ay 2) ?_; refine av rfl (aC (b := qN)) ?_; refine av rfl (ay 3) ?_; refine av rfl (aC (b := qN)) ?_; obtain ⟨y32, Jp, hM⟩ := bind_some hM; refine iX rfl (fun hg w hm => let ⟨S, hs⟩ := hm; Sw _ w p0 ah jL.Min jL.Max y32 (dM Jp hg) (aT hs) ⟨(kM hs), (kM hs), (kM hs), (kM hs), (kM hs), (kM hs), (kM hs)⟩) ?_; refine av rfl dN ?_; refine oe dw ?_; refine om ?_; refine av rfl aG ?_; refine av rfl aG ?_; refine av rfl (ay 2) ?_; refine av rfl (aC (b := qN)) ?_; refine av rfl fB ?_; refine av rfl aG ?_
   refine av rfl (ay 3) ?_; refine av rfl (aC (b := qN)) ?_; refine av rfl fB ?_; refine av rfl dw ?_; refine av rfl cO ?_; refine oe dw ?_; refine on ?_; refine cc rfl hM (fun hc34 hM => ?_) (fun hc34 hM => ?_)
   · refine sr ?_; refine oa ?_; refine on ?_; obtain rfl := some_inj hM; refine aL (aZ (fun w hm => aW hm rfl))
   refine aM (uY _ _ ?_); clear uY; refine aD fun Hg oL => ?_; refine aD fun LP qU => ?_; refine fA _ (List.Sublist.refl _) ?_; refine au 0 rfl (bH (b := b1)) ?_; refine au 1 rfl (ay 2) ?_; refine au 2 rfl (aC (b := b2)) ?_; refine au 3 rfl (ay 0) ?_; refine au 4 rfl (aC (b := qN)) ?_; obtain ⟨lC, zU, hM⟩ := bind_some hM; refine au 5 rfl (bA (xs := p0.Routes) 2 (kG p0.Routes ah.2.1) (iS zU)) ?_; refine au 6 rfl (dU (m := 2) (i := jL.aV) (xs := p0.Routes) (y := lC) (l := (gJ lC (ah.2.1.es jL.aV.toNat))) 0 (kG p0.Routes ah.2.1) (fun _ => zU)) ?_; refine au 7 rfl (ay 1) ?_; refine au 8 rfl (aC (b := b2)) ?_; refine au 9 rfl (ay 1) ?_; refine au 10 rfl (aC (b := b5)) ?_; obtain ⟨Lx, hx38, hM⟩ := bind_some hM; refine au 11 rfl (bA (xs := p0.aY) 5 (kG p0.aY ah.1) (iS hx38)) ?_; refine au 12 rfl (dU (m := 5) (i := x3.bL) (xs := p0.aY) (y := Lx) (l := (mg Lx)) 0 (kG p0.aY ah.1) (fun _ => hx38)) ?_; obtain ⟨y39, QJ, hM⟩ := bind_some hM; refine bB 13 rfl (bg (fun w hm => let ⟨S, hs⟩ := hm; agz _ w l0 aj lC (ah.2.1.es jL.aV.toNat) Lx y39 QJ (aT hs) ⟨(kM hs), (kM hs), (kM hs), (kM hs)⟩ (Kn.lend ((Sk.elem (Sk.dJ (α := List aV) (r := ah.2.1) (x := p0.Routes) hA) zU)).kn hs)) ⟨rI, ?_⟩)
   refine au 14 rfl bX ?_; refine dG (qU _ _ ?_); clear qU; refine sr ?_; refine om ?_; refine oe fB ?_; refine on ?_; refine cc rfl hM (fun zN hM => ?_) (fun zN hM => ?_)
   · refine sr ?_; refine om ?_; refine oa ?_; refine on ?_; obtain rfl := some_inj hM; refine aL (aZ (fun w hm => aW hm rfl))
   refine aM (oL _ _ ?_); clear oL; refine aD fun OH sj => ?_; refine fA _ (List.Sublist.refl _) ?_; refine au 0 rfl aG ?_; refine au 1 rfl fP ?_; refine au 2 rfl aG ?_; refine dQ 3 rfl rfl (ay 2) ?_; refine dQ 4 rfl rfl (aC (b := b2)) ?_; refine dQ 5 rfl rfl (ay 0) ?_; refine dQ 6 rfl rfl (aC (b := qN)) ?_; obtain ⟨fu, zV, hM⟩ := bind_some hM; refine dQ 7 rfl rfl (bA (xs := p0.Routes) 2 (kG p0.Routes ah.2.1) (fun hg => let h := lg (dM zV hg); ⟨h.1, h.2.1⟩)) ?_; refine UG (decide (0 < (jW : Int))) (fun iI => ?_) (fun iI => ?_)
   · replace hM := iT iI hM; have Jj := dM zV iI; refine CY 131 iI rfl ?_; refine CY 132 iI rfl ?_; refine CY 133 iI rfl ?_; refine CY 134 iI rfl ?_; refine CY 135 iI rfl ?_; refine rT 8 rfl rfl iI (dU (m := 2) (i := jL.aV) (xs := p0.Routes) (y := fu) (l := (gJ fu (ah.2.1.es jL.aV.toNat))) 0 (kG p0.Routes ah.2.1) (fun _ => Jj)) ?_; refine rT 10 rfl rfl iI (ay 2) ?_; refine rT 11 rfl rfl iI (aC (b := b2)) ?_; refine rT 12 rfl rfl iI (ay 3) ?_; refine rT 13 rfl rfl iI (aC (b := b5)) ?_; refine rT 14 rfl rfl iI aG ?_; obtain ⟨PW, hM⟩ := bO hM; refine rT 15 rfl rfl iI (jo (hr := fun hg => dn PW)) ?_; obtain ⟨GU, WB, hM⟩ := bind_some hM; refine rT 16 rfl rfl iI (bA (xs := x3.bq) 4 ((Sk.elem (Sk.dJ (α := List Line) (r := ah.2.2.1) (x := p0.Lines) hA) hx4)).kn (iS WB)) ?_; refine rT 17 rfl rfl iI (ay 0) ?_; refine rT 18 rfl rfl iI (cZ (i := ((jW : Int) - 1)) (xs := x3.bq) (y := GU) 0 ((Sk.elem (Sk.dJ (α := List Line) (r := ah.2.2.1) (x := p0.Lines) hA) hx4)).kn (fun _ => WB)) ?_; obtain ⟨LC, QF, hM⟩ := bind_some hM; refine rT 19 rfl rfl iI (bA (xs := p0.Routes) 2 (kG p0.Routes ah.2.1) (iS QF)) ?_; refine rT 20 rfl rfl iI (dU (m := 2) (i := GU.aV) (xs := p0.Routes) (y := LC) (l := (gJ LC (ah.2.1.es GU.aV.toNat))) 0 (kG p0.Routes ah.2.1) (fun _ => QF)) ?_
     obtain ⟨T9, aey, hM⟩ := bind_some hM; refine LX 9 rfl rfl iI (bg (fun w hm => let ⟨S, hs⟩ := hm; Sr _ w fu (ah.2.1.es jL.aV.toNat) T9 aey (aT hs) (Kn.lend ((Sk.elem (Sk.dJ (α := List aV) (r := ah.2.1) (x := p0.Routes) hA) Jj)).kn hs)) ⟨rI, ?_⟩); obtain ⟨AX, QL, hM⟩ := bind_some hM; refine LX 21 rfl rfl iI (bg (fun w hm => let ⟨S, hs⟩ := hm; Sv _ w LC (ah.2.1.es GU.aV.toNat) AX QL (aT hs) (Kn.lend ((Sk.elem (Sk.dJ (α := List aV) (r := ah.2.1) (x := p0.Routes) hA) QF)).kn hs)) ⟨rI, ?_⟩); refine rT 22 rfl rfl iI fB ?_; refine au 23 rfl cO ?_; refine dG (sj _ _ ?_); clear sj; refine cc rfl hM (fun I6 hM => ?_) (fun I6 hM => ?_)
     · refine sr ?_; refine oa ?_; refine on ?_; obtain rfl := some_inj hM; refine aL (aZ (fun w hm => aW hm rfl))
     refine aM (nK _ _ ?_); clear nK; refine aR ?_; refine om ?_; obtain ⟨ab1, hM⟩ := bO hM; refine oe (dh (hr := fun hg => dn ab1)) ?_; refine oa ?_; refine aU (hL2 (jI, (jW + 1), ()) _ _ (eqc mH hM) (Nat.lt_succ_self _) ⟨rfl, rfl, rfl, rfl, trivial⟩ rI)
   replace hM := iF iI hM; refine nU 8 rfl rfl iI ?_; refine nU 9 rfl rfl iI ?_; refine nU 10 rfl rfl iI ?_; refine nU 11 rfl rfl iI ?_; refine nU 12 rfl rfl iI ?_; refine nU 13 rfl rfl iI ?_; refine nU 14 rfl rfl iI ?_; refine nU 15 rfl rfl iI ?_; refine nU 16 rfl rfl iI ?_; refine nU 17 rfl rfl iI ?_; refine nU 18 rfl rfl iI ?_; refine nU 19 rfl rfl iI ?_; refine nU 20 rfl rfl iI ?_; refine nU 21 rfl rfl iI ?_; refine nU 22 rfl rfl iI ?_; refine au 23 rfl (Mj iI) ?_; refine dG (sj _ _ ?_); clear sj; refine O7 rfl rfl ?_; refine aM (nK _ _ ?_); clear nK; refine aR ?_; refine om ?_; obtain ⟨ab2, hM⟩ := bO hM; refine oe (dh (hr := fun hg => dn ab2)) ?_; refine oa ?_; refine aU (hL2 (jI, (jW + 1), ()) _ _ (eqc mH hM) (Nat.lt_succ_self _) ⟨rfl, rfl, rfl, rfl, trivial⟩ rI)
 refine dD (kQ _ _ ?_); clear kQ; dsimp only [Zj] at hM; refine sr ?_; refine oa ?_; refine on ?_; obtain rfl := some_inj hM; refine aL (aZ (fun w hm => aW hm rfl))
def Am (p0 : Plan) (fq : Int) (k0 : Int) : Option Bool :=
  bM (bP ((p0.Lines.length : Int) - 1)) <|
  (mJ fq 0 ((p0.Lines.length : Int) - 1)).bind fun y3 =>
  (dV y3 default (idx p0.Lines fq)).bind fun x5 =>
  if y3 then
  (bM (bP ((x5.bq.length : Int) - 1)) <|
  (mJ k0 0 ((x5.bq.length : Int) - 1)).bind fun iZ =>
  some (y3 && iZ))
  else
  (some false)
theorem Nv (S : bD) (w : World) (p0 : Plan) (ah : ak.R Plan) (fq : Int) (k0 : Int) (y : Bool) (hM : Am p0 fq k0 = some y) (hS : sB S w) (eu : ak.ok S w ah p0) :
    Calls Tryz.prog 69 #[.agg (jT p0 ah), vI fq, vI k0] w (bW w (.bool y)) := by
 refine bR (args := [_, _, _]) Tryz.func69 rfl ((pre_nil hS).start |>.kD eu) rfl ?_; unfold Am at hM; refine sr ?_; refine aF (bU (l := (dO p0 ah)) (k := fun b1 => ?_)); refine oa ?_; refine on ?_; refine sr ?_; refine om ?_; refine oe (ay 3) ?_; refine oe (aC (b := b1)) ?_; refine oe bE ?_; obtain ⟨hI2, hM⟩ := bO hM; refine oe (jo (hr := fun hg => dn hI2)) ?_; obtain ⟨y3, hy4, hM⟩ := bind_some hM; refine aF (bg (fun w hm => let ⟨S, hs⟩ := hm; rD _ w fq 0 ((p0.Lines.length : Int) - 1) y3 hy4 (aT hs) ) ?_)
 refine om ?_; refine av rfl aG ?_; refine av rfl (ay 3) ?_; refine av rfl (aC (b := b1)) ?_; refine av rfl aG ?_; obtain ⟨x5, hx6, hM⟩ := bind_some hM; refine av rfl (bA (xs := p0.Lines) 4 (kG p0.Lines ah.2.2.1) (fun hg => let h := lg (dM hx6 hg); ⟨h.1, h.2.1⟩)) ?_; refine av rfl (ay 3) ?_; refine Xz y3 (fun j6 => ?_) (fun j6 => ?_)
 · replace hM := iT j6 hM; have qW := dM hx6 j6; refine uG 14 j6 rfl ?_; refine uG 15 j6 rfl ?_; refine uG 16 j6 rfl ?_; refine uG 17 j6 rfl ?_; refine uG 18 j6 rfl ?_; refine uG 19 j6 rfl ?_; refine Ad rfl j6 ?_; refine oe (cZ (i := fq) (xs := p0.Lines) (y := x5) 3 (kG p0.Lines ah.2.2.1) (fun _ => qW)) ?_; refine Ad rfl j6 ?_; refine oe bE ?_; refine Ad rfl j6 ?_; obtain ⟨PZ, hM⟩ := bO hM; refine oe (jo (hr := fun hg => dn PZ)) ?_; refine Ad rfl j6 ?_; obtain ⟨iZ, qz, hM⟩ := bind_some hM; refine aF (bg (fun w hm => let ⟨S, hs⟩ := hm; rD _ w k0 0 ((x5.bq.length : Int) - 1) iZ qz (aT hs) ) ?_); refine oe cO ?_; refine oa ?_; refine on ?_; obtain rfl := some_inj hM; refine aL (aZ (fun w hm => aW hm rfl))
 replace hM := iF j6 hM; refine Ac rfl j6 ?_; refine Ac rfl j6 ?_; refine Ac rfl j6 ?_; refine Ac rfl j6 ?_; refine oe (Mj j6) ?_; refine oa ?_; refine on ?_; obtain rfl := some_inj hM; refine aL (aZ (fun w hm => aW hm rfl))
def Al (p0 : Plan) (fq : Int) (k0 : Int) : Option aV :=
  (idx p0.Lines fq).bind fun x3 =>
  (idx x3.bq k0).bind fun x5 =>
  (idx p0.Routes x5.aV).bind fun x7 =>
  some x7
theorem Nt (S : bD) (w : World) (p0 : Plan) (ah : ak.R Plan) (fq : Int) (k0 : Int) (y : aV) (hM : Al p0 fq k0 = some y) (hS : sB S w) (eu : ak.ok S w ah p0) :
    Calls Tryz.prog 129 #[.agg (jT p0 ah), vI fq, vI k0] w (Post (β := (ak.R aV)) S [] (fun g => .agg (qM y g)) (fun g => [iL y.Steps g]) w) := by
 refine bR (args := [_, _, _]) Tryz.func129 rfl ((pre_nil hS).start |>.kD eu) rfl ?_; unfold Al at hM; refine sr ?_; refine aF (bU (l := (dO p0 ah)) (k := fun b1 => ?_)); refine aF (bQ rfl (k := fun b2 => ?_)); refine on ?_; refine aD fun K2 hK2 => ?_; refine nY [own b2 90 [.slice none 0 0, vI 0], own b1 35 (dO p0 ah), iL p0.bS ah.2.2.2.2.2.2, iL p0.bT ah.2.2.2.2.2.1, iL p0.Turns ah.2.2.2.2.1, iL p0.Changes ah.2.2.2.1, iL p0.Lines ah.2.2.1, iL p0.Routes ah.2.1, iL p0.aY ah.1] 14 ?_
 refine aP 0 rfl (ay 2) ?_; refine aP 1 rfl (aC (b := b1)) ?_; refine aP 2 rfl (ay 3) ?_; refine aP 3 rfl (aC (b := b1)) ?_; refine aP 4 rfl aG ?_; obtain ⟨x3, hx4, hM⟩ := bind_some hM; refine aP 5 rfl (bA (xs := p0.Lines) 4 (kG p0.Lines ah.2.2.1) (iS hx4)) ?_; refine aP 6 rfl (ay 3) ?_; refine aP 7 rfl (cZ (i := fq) (xs := p0.Lines) (y := x3) 3 (kG p0.Lines ah.2.2.1) (fun _ => hx4)) ?_; refine aP 8 rfl aG ?_; obtain ⟨x5, hx6, hM⟩ := bind_some hM; refine aP 9 rfl (bA (xs := x3.bq) 4 ((Sk.elem (Sk.dJ (α := List Line) (r := ah.2.2.1) (x := p0.Lines) hA) hx4)).kn (iS hx6)) ?_; refine aP 10 rfl (ay 0) ?_; refine aP 11 rfl (cZ (i := k0) (xs := x3.bq) (y := x5) 0 ((Sk.elem (Sk.dJ (α := List Line) (r := ah.2.2.1) (x := p0.Lines) hA) hx4)).kn (fun _ => hx6)) ?_; obtain ⟨x7, qW, hM⟩ := bind_some hM; refine aP 12 rfl (bA (xs := p0.Routes) 2 (kG p0.Routes ah.2.1) (iS qW)) ?_; refine aP 13 rfl (dU (m := 2) (i := x5.aV) (xs := p0.Routes) (y := x7) (l := (gJ x7 (ah.2.1.es x5.aV.toNat))) 0 (kG p0.Routes ah.2.1) (fun _ => qW)) ?_; refine nW rfl (bI (b := b2) (vs := (gJ x7 (ah.2.1.es x5.aV.toNat))) (k := ?_))
 refine nV (hK2 _ _ ?_); clear hK2; refine fZ (fun w hm => hm.vD (α := List Step) (r := (ah.2.1.es x5.aV.toNat)) (x := x7.Steps) (fun S hs => (Sk.elem (Sk.dJ (α := List aV) (r := ah.2.1) (x := p0.Routes) hA) qW) S w hs)) ?_; obtain rfl := some_inj hM; refine aL (aZ (fun w hm => fO (ah.2.1.es x5.aV.toNat) hm rfl))
def FY (l0 : Layout) (p0 : Plan) (c0 : Change) : Option Int :=
  (Am p0 c0.dX c0.fG).bind fun y4 =>
  (dV (!(!y4)) default (Am p0 c0.fK c0.iN)).bind fun y6 =>
  (dV (!(((!y4) || (!y6)) || decide (c0.dX = c0.fK))) default (Cy p0 c0.Min c0.Max)).bind fun y8 =>
  (dV (!((((!y4) || (!y6)) || decide (c0.dX = c0.fK)) || (!y8))) default (mJ c0.Weight 0 1048576)).bind fun iZ =>
  if (((((!y4) || (!y6)) || decide (c0.dX = c0.fK)) || (!y8)) || (!iZ)) then
    (some 4)
  else
    ((Al p0 c0.dX c0.fG).bind fun y13 =>
    (Cx y13).bind fun mZ =>
    (idx l0.Sections mZ).bind fun x18 =>
    (Al p0 c0.fK c0.iN).bind fun y20 =>
    (Cw y20).bind fun y23 =>
    (idx l0.Sections y23).bind fun x25 =>
    if (decide (x18.mE < 0) || decide (x18.mE ≠ x25.mE)) then
      (some 11)
    else
      (some 0))
theorem agB (S : bD) (w : World) (l0 : Layout) (aj : ak.R Layout) (p0 : Plan) (ah : ak.R Plan) (c0 : Change) (y : Int) (hM : FY l0 p0 c0 = some y) (hS : sB S w) (dH : ak.ok S w aj l0) (eu : ak.ok S w ah p0) :
    Calls Tryz.prog 67 #[.agg (iy l0 aj), .agg (jT p0 ah), .agg (aaq c0)] w (bW w (vI y)) := by
 refine bR (args := [_, _, _]) Tryz.func67 rfl ((pre_nil hS).start |>.jw dH|>.kD eu) rfl ?_; unfold FY at hM; refine sr ?_; refine aF (bU (l := (bK l0 aj)) (k := fun b1 => ?_)); refine aF (bU (l := (dO p0 ah)) (k := fun b2 => ?_))
 refine aF (bU (l := (wO c0)) (k := fun b3 => ?_)); refine oa ?_; refine on ?_; refine aD fun K2 hK2 => ?_; refine sr ?_; refine oe (bH (b := b2)) ?_; refine oe (ay 0) ?_; refine oe (aC (b := b3)) ?_; refine oe (ay 1) ?_; refine oe (aC (b := b3)) ?_; obtain ⟨y4, xU, hM⟩ := bind_some hM; refine aF (bg (fun w hm => let ⟨S, hs⟩ := hm; Nv _ w p0 ah c0.dX c0.fG y4 xU (aT hs) ⟨(kM hs), (kM hs), (kM hs), (kM hs), (kM hs), (kM hs), (kM hs)⟩) ?_); refine oe dN ?_; refine om ?_; refine av rfl (bH (b := b2)) ?_; refine av rfl (ay 2) ?_; refine av rfl (aC (b := b3)) ?_; refine av rfl (ay 3) ?_; refine av rfl (aC (b := b3)) ?_; obtain ⟨y6, qC, hM⟩ := bind_some hM; refine iX rfl (fun hg w hm => let ⟨S, hs⟩ := hm; Nv _ w p0 ah c0.fK c0.iN y6 (dM qC hg) (aT hs) ⟨(kM hs), (kM hs), (kM hs), (kM hs), (kM hs), (kM hs), (kM hs)⟩) ?_; refine av rfl dN ?_; refine oe dw ?_; refine om ?_; refine av rfl (ay 0) ?_; refine av rfl (aC (b := b3)) ?_; refine av rfl (ay 2) ?_; refine av rfl (aC (b := b3)) ?_; refine av rfl dS ?_
 refine oe dw ?_; refine om ?_; refine av rfl (bH (b := b2)) ?_; refine av rfl (ay 4) ?_; refine av rfl (aC (b := b3)) ?_; refine av rfl (ay 5) ?_; refine av rfl (aC (b := b3)) ?_; obtain ⟨y8, nM, hM⟩ := bind_some hM; refine iX rfl (fun hg w hm => let ⟨S, hs⟩ := hm; Sw _ w p0 ah c0.Min c0.Max y8 (dM nM hg) (aT hs) ⟨(kM hs), (kM hs), (kM hs), (kM hs), (kM hs), (kM hs), (kM hs)⟩) ?_; refine av rfl dN ?_; refine oe dw ?_; refine om ?_; refine av rfl (ay 6) ?_; refine av rfl (aC (b := b3)) ?_; obtain ⟨iZ, qz, hM⟩ := bind_some hM; refine iX rfl (fun hg w hm => let ⟨S, hs⟩ := hm; rD _ w c0.Weight 0 1048576 iZ (dM qz hg) (aT hs) ) ?_; refine av rfl dN ?_; refine oe dw ?_; refine on ?_; refine cc rfl hM (fun lK hM => ?_) (fun lK hM => ?_)
 · refine sr ?_; refine oa ?_; refine on ?_; obtain rfl := some_inj hM; refine aL (aZ (fun w hm => aW hm rfl))
 refine aM (hK2 _ _ ?_); clear hK2; refine aD fun K5 cu => ?_; refine fA _ (List.Sublist.refl _) ?_; refine au 0 rfl (ay 2) ?_; refine au 1 rfl (aC (b := b1)) ?_; refine au 2 rfl (bH (b := b2)) ?_; refine au 3 rfl (ay 0) ?_; refine au 4 rfl (aC (b := b3)) ?_; refine au 5 rfl (ay 1) ?_; refine au 6 rfl (aC (b := b3)) ?_; obtain ⟨y13, sI, hM⟩ := bind_some hM; refine bB 7 rfl (qg iQ.nil (fun S w hs hP => Nt _ w p0 ah c0.dX c0.fG y13 sI hs.lt ⟨(kI hs), (kI hs), (kI hs), (kI hs), (kI hs), (kI hs), (kI hs)⟩)  (fun yx => ⟨rI, ?_⟩)); dsimp only [List.cons_append, List.nil_append]; obtain ⟨mZ, BJ, hM⟩ := bind_some hM; refine bB 8 rfl (bg (fun w hm => let ⟨S, hs⟩ := hm; Sv _ w y13 yx mZ BJ (aT hs) (kM hs)) ⟨rI, ?_⟩); obtain ⟨x18, DJ, hM⟩ := bind_some hM; refine au 9 rfl (bA (xs := l0.Sections) 5 (kG l0.Sections aj.2.2.1) (iS DJ)) ?_; refine au 10 rfl (ay 4) ?_; refine au 11 rfl (cZ (i := mZ) (xs := l0.Sections) (y := x18) 4 (kG l0.Sections aj.2.2.1) (fun _ => DJ)) ?_; refine au 12 rfl bX ?_; refine dG (cu _ _ ?_); clear cu; refine aD fun K6 cK => ?_; refine fA _ (List.Sublist.refl _) ?_; refine au 0 rfl (ay 2) ?_; refine au 1 rfl (aC (b := b1)) ?_; refine au 2 rfl (bH (b := b2)) ?_
 refine au 3 rfl (ay 2) ?_; refine au 4 rfl (aC (b := b3)) ?_; refine au 5 rfl (ay 3) ?_; refine au 6 rfl (aC (b := b3)) ?_; obtain ⟨y20, vB, hM⟩ := bind_some hM; refine bB 7 rfl (qg iQ.nil (fun S w hs hP => Nt _ w p0 ah c0.fK c0.iN y20 vB hs.lt ⟨(kI hs), (kI hs), (kI hs), (kI hs), (kI hs), (kI hs), (kI hs)⟩)  (fun tN => ⟨rI, ?_⟩)); dsimp only [List.cons_append, List.nil_append]; obtain ⟨y23, hy24, hM⟩ := bind_some hM; refine bB 8 rfl (bg (fun w hm => let ⟨S, hs⟩ := hm; Sr _ w y20 tN y23 hy24 (aT hs) (kM hs)) ⟨rI, ?_⟩); obtain ⟨x25, sH, hM⟩ := bind_some hM; refine au 9 rfl (bA (xs := l0.Sections) 5 (kG l0.Sections aj.2.2.1) (iS sH)) ?_; refine au 10 rfl (ay 4) ?_; refine au 11 rfl (cZ (i := y23) (xs := l0.Sections) (y := x25) 4 (kG l0.Sections aj.2.2.1) (fun _ => sH)) ?_; refine au 12 rfl bX ?_; refine dG (cK _ _ ?_); clear cK; refine aD fun K7 dI => ?_; refine sr ?_; refine om ?_; refine oe bN ?_; refine om ?_; refine av rfl aG ?_; refine av rfl aG ?_; refine av rfl fB ?_; refine oe dw ?_; refine on ?_; refine cc rfl hM (fun hc27 hM => ?_) (fun hc27 hM => ?_)
 · refine sr ?_; refine oa ?_; refine on ?_; obtain rfl := some_inj hM; refine aL (aZ (fun w hm => aW hm rfl))
 refine aM (dI _ _ ?_); clear dI; refine sr ?_; refine oa ?_; refine on ?_; obtain rfl := some_inj hM; refine aL (aZ (fun w hm => aW hm rfl))
def Nw (p0 : Plan) (x2 : Turn) : (Str × Int × Int × (List fV) × Str × Int × Int × (List fV)) → Option Int := fun (LV, Ho, LW, zX, L8, HY, L9, Jz) =>
  bM (bP ((zX.length : Int) - 1)) <|
  (Al p0 x2.From ((zX.length : Int) - 1)).bind fun y22 =>
  (Cx y22).bind fun y25 =>
  (Al p0 x2.To 0).bind fun y27 =>
  (Cw y27).bind fun AQ =>
  if (decide (y25 ≠ AQ) || decide (Ho ≠ HY)) then
    (some 11)
  else
    (some 0)
def SC (p0 : Plan) (x2 : Turn) : Unit → Option Int := fun _ =>
  (idx p0.Lines x2.From).bind fun iq =>
  (idx p0.Lines x2.To).bind fun lC =>
  Nw p0 x2 (iq.Name, iq.bL, iq.Weight, iq.bq, lC.Name, lC.bL, lC.Weight, lC.bq)
def Kw (i0 : Int) (p0 : Plan) (x2 : Turn) (aQ : Nat → Option Int) : Nat → Option Int := fun gN =>
  if decide ((gN : Int) < i0) then
    ((idx p0.Turns (gN : Int)).bind fun jZ =>
    (dV (!(decide (jZ.From = x2.From))) default (idx p0.Turns (gN : Int))).bind fun iM =>
    if (decide (jZ.From = x2.From) || decide (iM.To = x2.To)) then
      (some 5)
    else
      (bM (bP ((gN : Int) + 1)) <|
      aQ (gN + 1)))
  else
    (SC p0 x2 ())
def F9 (p0 : Plan) (i0 : Int) : Option Int :=
  (idx p0.Turns i0).bind fun x2 =>
  bM (bP ((p0.Lines.length : Int) - 1)) <|
  (mJ x2.From 0 ((p0.Lines.length : Int) - 1)).bind fun y6 =>
  bM (!(!(!y6)) || bP ((p0.Lines.length : Int) - 1)) <|
  (dV (!(!y6)) default (mJ x2.To 0 ((p0.Lines.length : Int) - 1))).bind fun y9 =>
  (dV (!((!y6) || (!y9))) default (Cy p0 x2.Min x2.Max)).bind fun dP =>
  if (((!y6) || (!y9)) || (!dP)) then
    (some 4)
  else
    (iter (Kw i0 p0 x2) FUEL 0)
theorem agG (S : bD) (w : World) (p0 : Plan) (ah : ak.R Plan) (i0 : Int) (y : Int) (hM : F9 p0 i0 = some y) (hS : sB S w) (eu : ak.ok S w ah p0) :
    Calls Tryz.prog 68 #[.agg (jT p0 ah), vI i0] w (bW w (vI y)) := by
 refine bR (args := [_, _]) Tryz.func68 rfl ((pre_nil hS).start |>.kD eu) rfl ?_; unfold F9 at hM; refine sr ?_; refine aF (bU (l := (dO p0 ah)) (k := fun b1 => ?_)); refine oa ?_; refine on ?_; refine sr ?_; refine oe (ay 5) ?_; refine oe (aC (b := b1)) ?_; refine om ?_; obtain ⟨x2, hx3, hM⟩ := bind_some hM; refine oe (bA (xs := p0.Turns) 4 (kG p0.Turns ah.2.2.2.2.1) (iS hx3)) ?_
 refine oe (dU (m := 4) (i := i0) (xs := p0.Turns) (y := x2) (l := (oo x2)) 0 (kG p0.Turns ah.2.2.2.2.1) (fun _ => hx3)) ?_; refine aF (bQ rfl (k := fun b4 => ?_)); refine aF (bI (b := b4) (vs := (oo x2)) (k := ?_)); refine on ?_; refine aD fun K3 hK3 => ?_; refine sr ?_; refine oe (ay 0) ?_; refine oe (aC (b := b4)) ?_; refine oe (ay 3) ?_; refine oe (aC (b := b1)) ?_; refine oe bE ?_; obtain ⟨Bv, hM⟩ := bO hM; refine oe (jo (hr := fun hg => dn Bv)) ?_; obtain ⟨y6, qC, hM⟩ := bind_some hM; refine aF (bg (fun w hm => let ⟨S, hs⟩ := hm; rD _ w x2.From 0 ((p0.Lines.length : Int) - 1) y6 qC (aT hs) ) ?_); refine oe dN ?_; refine om ?_; refine av rfl (ay 1) ?_; refine av rfl (aC (b := b4)) ?_; refine av rfl (ay 3) ?_; refine av rfl (aC (b := b1)) ?_; refine av rfl bE ?_; obtain ⟨r9, hM⟩ := bO hM; refine av rfl (jo (hr := fun hg => dn (uV r9 hg))) ?_; obtain ⟨y9, vw, hM⟩ := bind_some hM; refine iX rfl (fun hg w hm => let ⟨S, hs⟩ := hm; rD _ w x2.To 0 ((p0.Lines.length : Int) - 1) y9 (dM vw hg) (aT hs) ) ?_; refine av rfl dN ?_
 refine oe dw ?_; refine om ?_; refine av rfl (bH (b := b1)) ?_; refine av rfl (ay 2) ?_; refine av rfl (aC (b := b4)) ?_; refine av rfl (ay 3) ?_; refine av rfl (aC (b := b4)) ?_; obtain ⟨dP, qA, hM⟩ := bind_some hM; refine iX rfl (fun hg w hm => let ⟨S, hs⟩ := hm; Sw _ w p0 ah x2.Min x2.Max dP (dM qA hg) (aT hs) ⟨(kM hs), (kM hs), (kM hs), (kM hs), (kM hs), (kM hs), (kM hs)⟩) ?_; refine av rfl dN ?_; refine oe dw ?_; refine on ?_; refine cc rfl hM (fun vo hM => ?_) (fun vo hM => ?_)
 · refine sr ?_; refine oa ?_; refine on ?_; obtain rfl := some_inj hM; refine aL (aZ (fun w hm => aW hm rfl))
 refine aM (hK3 _ _ ?_); clear hK3; refine aD fun K6 cK => ?_; refine sr ?_; refine oa ?_; refine on ?_; refine bf ?_; refine dF (γ := Nat × Nat × Unit) (env := fun (_, gN, _) => [(1, eI i0), (2, eP b1), (5, eP b4), (6, eI (gN : Int))]) (mem := fun (_, gN, _) => [iL p0.aY ah.1, iL p0.Routes ah.2.1, iL p0.Lines ah.2.2.1, iL p0.Changes ah.2.2.2.1, iL p0.Turns ah.2.2.2.2.1, iL p0.bT ah.2.2.2.2.2.1, iL p0.bS ah.2.2.2.2.2.2, own b1 35 (dO p0 ah), own b4 94 (oo x2)]) (R := fun g => iter (Kw i0 p0 x2) g.1 g.2.1 = some y) (μ := fun g => g.1) (FUEL, 0, ()) hM ⟨rfl, rfl, rfl, rfl, trivial⟩ rI ?_; clear hM; intro g hM gy hL1; obtain ⟨bJ, gN, ⟨⟩⟩ := g; dsimp only at hM ⊢; obtain ⟨bJ, aQ, rfl, dz, hM⟩ := dL hM
 dsimp only [Kw] at hM; refine aD fun K8 fE => ?_; refine sr ?_; refine om ?_; refine om ?_; refine oe bN ?_; refine on ?_; refine cc rfl hM (fun qx hM => ?_) (fun qx hM => ?_)
 · refine aM (fE _ _ ?_); clear fE; refine aD fun pE gu => ?_; refine bf ?_; refine aD fun oG fM => ?_; refine fA _ (List.Sublist.refl _) ?_; refine au 0 rfl (ay 5) ?_; refine au 1 rfl (aC (b := b1)) ?_; refine au 2 rfl aG ?_; obtain ⟨jZ, hx16, hM⟩ := bind_some hM; refine au 3 rfl (bA (xs := p0.Turns) 4 (kG p0.Turns ah.2.2.2.2.1) (iS hx16)) ?_; refine au 4 rfl (ay 0) ?_; refine au 5 rfl (cZ (i := (gN : Int)) (xs := p0.Turns) (y := jZ) 0 (kG p0.Turns ah.2.2.2.2.1) (fun _ => hx16)) ?_; refine au 6 rfl (ay 0) ?_; refine au 7 rfl (aC (b := b4)) ?_; refine au 8 rfl dS ?_; refine au 9 rfl aG ?_; refine dQ 10 rfl rfl (ay 5) ?_; refine dQ 11 rfl rfl (aC (b := b1)) ?_; refine dQ 12 rfl rfl aG ?_; obtain ⟨iM, sG, hM⟩ := bind_some hM; refine dQ 13 rfl rfl (bA (xs := p0.Turns) 4 (kG p0.Turns ah.2.2.2.2.1) (fun hg => let h := lg (dM sG hg); ⟨h.1, h.2.1⟩)) ?_; refine dQ 14 rfl rfl (ay 1) ?_; refine dQ 15 rfl rfl (cZ (i := (gN : Int)) (xs := p0.Turns) (y := iM) 1 (kG p0.Turns ah.2.2.2.2.1) (fun hg => dM sG hg)) ?_; refine dQ 16 rfl rfl (ay 1) ?_; refine dQ 17 rfl rfl (aC (b := b4)) ?_; refine dQ 18 rfl rfl dS ?_; refine au 19 rfl dw ?_
   refine dG (fM _ _ ?_); clear fM; refine cc rfl hM (fun hc19 hM => ?_) (fun hc19 hM => ?_)
   · refine sr ?_; refine oa ?_; refine on ?_; obtain rfl := some_inj hM; refine aL (aZ (fun w hm => aW hm rfl))
   refine aM (gu _ _ ?_); clear gu; refine aR ?_; refine om ?_; obtain ⟨IE, hM⟩ := bO hM; refine oe (dh (hr := fun hg => dn IE)) ?_; refine oa ?_; refine aU (hL1 (bJ, (gN + 1), ()) _ _ (eqc dz hM) (Nat.lt_succ_self _) ⟨rfl, rfl, rfl, rfl, trivial⟩ rI)
 refine dD (cK _ _ ?_); clear cK; dsimp only [SC] at hM; refine iH (γ := (Str × Int × Int × (List fV) × Str × Int × Int × (List fV)) × (Nat × Nat)) (env := fun ((LV, Ho, LW, zX, L8, HY, L9, Jz), (Df, HZ)) => [(2, eP b1), (5, eP b4), (7, eP Df), (8, eP HZ)]) (mem := fun ((LV, Ho, LW, zX, L8, HY, L9, Jz), (Df, HZ)) => [iL p0.aY ah.1, iL p0.Routes ah.2.1, iL p0.Lines ah.2.2.1, iL p0.Changes ah.2.2.2.1, iL p0.Turns ah.2.2.2.2.1, iL p0.bT ah.2.2.2.2.2.1, iL p0.bS ah.2.2.2.2.2.2, own b1 35 (dO p0 ah), own b4 94 (oo x2), iL zX (ah.2.2.1.es x2.From.toNat), own Df 56 [.string LV.ba, vI Ho, vI LW, sL (ah.2.2.1.es x2.From.toNat) zX], iL Jz (ah.2.2.1.es x2.To.toNat), own HZ 56 [.string L8.ba, vI HY, vI L9, sL (ah.2.2.1.es x2.To.toNat) Jz]]) (R := fun g => Nw p0 x2 g.1 = some y) ?_ ?_
 · intro uO hJ2; refine fA _ (List.Sublist.refl _) ?_; refine au 0 rfl (ay 3) ?_; refine au 1 rfl (aC (b := b1)) ?_; refine au 2 rfl (ay 0) ?_; refine au 3 rfl (aC (b := b4)) ?_; obtain ⟨iq, hx34, hM⟩ := bind_some hM; refine au 4 rfl (bA (xs := p0.Lines) 4 (kG p0.Lines ah.2.2.1) (iS hx34)) ?_; refine au 5 rfl (dU (m := 4) (i := x2.From) (xs := p0.Lines) (y := iq) (l := (iW iq (ah.2.2.1.es x2.From.toNat))) 0 (kG p0.Lines ah.2.2.1) (fun _ => hx34)) ?_; refine au 6 rfl (ay 3) ?_; refine au 7 rfl (aC (b := b1)) ?_; refine au 8 rfl (ay 1) ?_; refine au 9 rfl (aC (b := b4)) ?_; obtain ⟨lC, zU, hM⟩ := bind_some hM; refine au 10 rfl (bA (xs := p0.Lines) 4 (kG p0.Lines ah.2.2.1) (iS zU)) ?_; refine au 11 rfl (dU (m := 4) (i := x2.To) (xs := p0.Lines) (y := lC) (l := (iW lC (ah.2.2.1.es x2.To.toNat))) 0 (kG p0.Lines ah.2.2.1) (fun _ => zU)) ?_; refine mO 12 13 (⟨_, rfl, rfl, bQ rfl (k := fun zn => ⟨rI, ?_⟩)⟩) (⟨_, rfl, rfl, bQ rfl (k := fun uS => ⟨rI, ?_⟩)⟩)
   · refine bB 13 rfl (bQ rfl (k := fun zo => ⟨rI, ?_⟩)); refine bB 14 rfl (bI (b := zn) (vs := (iW iq (ah.2.2.1.es x2.From.toNat))) (k := ⟨rI, ?_⟩)); refine bB 15 rfl (bI (b := zo) (vs := (iW lC (ah.2.2.1.es x2.To.toNat))) (k := ⟨rI, ?_⟩)); refine xD (fun w hm => hm.vD (α := List fV) (r := (ah.2.2.1.es x2.From.toNat)) (x := iq.bq) (fun S hs => (Sk.elem (Sk.dJ (α := List Line) (r := ah.2.2.1) (x := p0.Lines) hA) hx34) S w hs)) ?_; refine xD (fun w hm => hm.vD (α := List fV) (r := (ah.2.2.1.es x2.To.toNat)) (x := lC.bq) (fun S hs => (Sk.elem (Sk.dJ (α := List Line) (r := ah.2.2.1) (x := p0.Lines) hA) zU) S w hs)) ?_; refine dG (hJ2 ((iq.Name, iq.bL, iq.Weight, iq.bq, lC.Name, lC.bL, lC.Weight, lC.bq), (zn, zo)) _ _ hM ⟨rfl, rfl, rfl, rfl, trivial⟩ rI)
   refine bB 12 rfl (bQ rfl (k := fun wu => ⟨rI, ?_⟩)); refine bB 14 rfl (bI (b := wu) (vs := (iW iq (ah.2.2.1.es x2.From.toNat))) (k := ⟨rI, ?_⟩)); refine bB 15 rfl (bI (b := uS) (vs := (iW lC (ah.2.2.1.es x2.To.toNat))) (k := ⟨rI, ?_⟩)); refine xD (fun w hm => hm.vD (α := List fV) (r := (ah.2.2.1.es x2.From.toNat)) (x := iq.bq) (fun S hs => (Sk.elem (Sk.dJ (α := List Line) (r := ah.2.2.1) (x := p0.Lines) hA) hx34) S w hs)) ?_; refine xD (fun w hm => hm.vD (α := List fV) (r := (ah.2.2.1.es x2.To.toNat)) (x := lC.bq) (fun S hs => (Sk.elem (Sk.dJ (α := List Line) (r := ah.2.2.1) (x := p0.Lines) hA) zU) S w hs)) ?_; refine dG (hJ2 ((iq.Name, iq.bL, iq.Weight, iq.bq, lC.Name, lC.bL, lC.Weight, lC.bq), (wu, uS)) _ _ hM ⟨rfl, rfl, rfl, rfl, trivial⟩ rI)
 clear hM; intro g hM; obtain ⟨⟨LV, Ho, LW, zX, L8, HY, L9, Jz⟩, ⟨Df, HZ⟩⟩ := g; dsimp only at hM ⊢; dsimp only [Nw] at hM; refine aD fun uM jr => ?_; refine aD fun uN jv => ?_; refine fA _ (List.Sublist.refl _) ?_; refine au 0 rfl (bH (b := b1)) ?_; refine au 1 rfl (ay 0) ?_; refine au 2 rfl (aC (b := b4)) ?_; refine au 3 rfl (ay 3) ?_; refine au 4 rfl (aC (b := Df)) ?_; refine au 5 rfl bE ?_; obtain ⟨PL, hM⟩ := bO hM; refine au 6 rfl (jo (hr := fun hg => dn PL)) ?_; refine au 9 rfl (bH (b := b1)) ?_; refine au 10 rfl (ay 1) ?_; refine au 11 rfl (aC (b := b4)) ?_; obtain ⟨y22, vC, hM⟩ := bind_some hM; refine bB 7 rfl (qg iQ.nil (fun S w hs hP => Nt _ w p0 ah x2.From ((zX.length : Int) - 1) y22 vC hs.lt ⟨(kI hs), (kI hs), (kI hs), (kI hs), (kI hs), (kI hs), (kI hs)⟩)  (fun oV => ⟨rI, ?_⟩)); dsimp only [List.cons_append, List.nil_append]; obtain ⟨y25, BK, hM⟩ := bind_some hM; refine bB 8 rfl (bg (fun w hm => let ⟨S, hs⟩ := hm; Sv _ w y22 oV y25 BK (aT hs) (kM hs)) ⟨rI, ?_⟩); obtain ⟨y27, hy28, hM⟩ := bind_some hM; refine bB 12 rfl (qg iQ.nil (fun S w hs hP => Nt _ w p0 ah x2.To 0 y27 hy28 hs.lt ⟨(kI hs), (kI hs), (kI hs), (kI hs), (kI hs), (kI hs), (kI hs)⟩)  (fun r29 => ⟨rI, ?_⟩)); dsimp only [List.cons_append, List.nil_append]
 obtain ⟨AQ, hy31, hM⟩ := bind_some hM; refine bB 13 rfl (bg (fun w hm => let ⟨S, hs⟩ := hm; Sr _ w y27 r29 AQ hy31 (aT hs) (kM hs)) ⟨rI, ?_⟩); refine au 14 rfl fB ?_; refine au 15 rfl aG ?_; refine dQ 16 rfl rfl (ay 1) ?_; refine dQ 17 rfl rfl (aC (b := Df)) ?_; refine dQ 18 rfl rfl (ay 1) ?_; refine dQ 19 rfl rfl (aC (b := HZ)) ?_; refine dQ 20 rfl rfl fB ?_; refine au 21 rfl dw ?_; refine dG (jv _ _ ?_); clear jv; refine cc rfl hM (fun hc32 hM => ?_) (fun hc32 hM => ?_)
 · refine sr ?_; refine oa ?_; refine on ?_; obtain rfl := some_inj hM; refine aL (aZ (fun w hm => aW hm rfl))
 refine aM (jr _ _ ?_); clear jr; refine sr ?_; refine oa ?_; refine on ?_; obtain rfl := some_inj hM; refine aL (aZ (fun w hm => aW hm rfl))
def Sn : Unit → Option Int := fun _ =>
  some 0
def Ko (p0 : Plan) (l0 : Layout) (zw : Nat → Option Int) : Nat → Option Int := fun mV =>
  if decide ((mV : Int) < (p0.bS.length : Int)) then
    ((idx p0.bS (mV : Int)).bind fun x55 =>
    bM (bP ((l0.aX.length : Int) - 1)) <|
    (mJ x55.From 0 ((l0.aX.length : Int) - 1)).bind fun G5 =>
    bM (!(!(!G5)) || bP ((l0.aX.length : Int) - 1)) <|
    (dV (!(!G5)) default (mJ x55.To 0 ((l0.aX.length : Int) - 1))).bind fun Ox =>
    (dV (!(((!G5) || (!Ox)) || decide (x55.From = x55.To))) default (mJ x55.Weight 1 1048576)).bind fun Ua =>
    if ((((!G5) || (!Ox)) || decide (x55.From = x55.To)) || (!Ua)) then
      (some 4)
    else
      (bM (bP ((mV : Int) + 1)) <|
      zw (mV + 1)))
  else
    (Sn ())
def Ns (p0 : Plan) (l0 : Layout) : Unit → Option Int := fun _ =>
  iter (Ko p0 l0) FUEL 0
def Km (p0 : Plan) (l0 : Layout) (zu : Nat → Option Int) : Nat → Option Int := fun mU =>
  if decide ((mU : Int) < (p0.bT.length : Int)) then
    ((idx p0.bT (mU : Int)).bind fun fu =>
    (Am p0 fu.jA fu.jc).bind fun GZ =>
    (dV (!(!GZ)) default (Am p0 fu.jF fu.jh)).bind fun LD =>
    bM (!(!(((!GZ) || (!LD)) || (decide (fu.jA = fu.jF) && decide (fu.jc = fu.jh)))) || bP (p0.dW - 1)) <|
    (dV (!(((!GZ) || (!LD)) || (decide (fu.jA = fu.jF) && decide (fu.jc = fu.jh)))) default (mJ fu.Offset 0 (p0.dW - 1))).bind fun CU =>
    if ((((!GZ) || (!LD)) || (decide (fu.jA = fu.jF) && decide (fu.jc = fu.jh))) || (!CU)) then
      (some 4)
    else
      (bM (bP ((mU : Int) + 1)) <|
      zu (mU + 1)))
  else
    (Ns p0 l0 ())
def Nr (p0 : Plan) (l0 : Layout) : Unit → Option Int := fun _ =>
  iter (Km p0 l0) FUEL 0
def Kl (p0 : Plan) (l0 : Layout) (zq : Nat → Option Int) : Nat → Option Int := fun mR =>
  if decide ((mR : Int) < (p0.Turns.length : Int)) then
    ((F9 p0 (mR : Int)).bind fun nD =>
    if decide (nD ≠ 0) then
      (some nD)
    else
      (bM (bP ((mR : Int) + 1)) <|
      zq (mR + 1)))
  else
    (Nr p0 l0 ())
def Nq (p0 : Plan) (l0 : Layout) : Unit → Option Int := fun _ =>
  iter (Kl p0 l0) FUEL 0
def Kk (p0 : Plan) (l0 : Layout) (kY : Nat → Option Int) : Nat → Option Int := fun iO =>
  if decide ((iO : Int) < (p0.Changes.length : Int)) then
    ((idx p0.Changes (iO : Int)).bind fun x30 =>
    (FY l0 p0 x30).bind fun y32 =>
    if decide (y32 ≠ 0) then
      (some y32)
    else
      (bM (bP ((iO : Int) + 1)) <|
      kY (iO + 1)))
  else
    (Nq p0 l0 ())
def Np (p0 : Plan) (l0 : Layout) : Unit → Option Int := fun _ =>
  iter (Kk p0 l0) FUEL 0
def Kj (p0 : Plan) (l0 : Layout) (kH : Nat → Option Int) : Nat → Option Int := fun gL =>
  if decide ((gL : Int) < (p0.Lines.length : Int)) then
    ((F4 l0 p0 (gL : Int)).bind fun y25 =>
    if decide (y25 ≠ 0) then
      (some y25)
    else
      (bM (bP ((gL : Int) + 1)) <|
      kH (gL + 1)))
  else
    (Np p0 l0 ())
def Nn (p0 : Plan) (l0 : Layout) : Unit → Option Int := fun _ =>
  iter (Kj p0 l0) FUEL 0
def Ki (p0 : Plan) (l0 : Layout) (iA : Nat → Option Int) : Nat → Option Int := fun fI =>
  if decide ((fI : Int) < (p0.Routes.length : Int)) then
    ((idx p0.Routes (fI : Int)).bind fun x18 =>
    (Ct l0 x18).bind fun y20 =>
    if decide (y20 ≠ 0) then
      (some y20)
    else
      (bM (bP ((fI : Int) + 1)) <|
      iA (fI + 1)))
  else
    (Nn p0 l0 ())
def Nl (p0 : Plan) (l0 : Layout) : Unit → Option Int := fun _ =>
  iter (Ki p0 l0) FUEL 0
def Kh (p0 : Plan) (l0 : Layout) (aQ : Nat → Option Int) : Nat → Option Int := fun aK =>
  if decide ((aK : Int) < (p0.aY.length : Int)) then
    ((F8 p0 (aK : Int)).bind fun y13 =>
    if decide (y13 ≠ 0) then
      (some y13)
    else
      (bM (bP ((aK : Int) + 1)) <|
      aQ (aK + 1)))
  else
    (Nl p0 l0 ())
def FI (l0 : Layout) (p0 : Plan) : Option Int :=
  (Cm l0).bind fun y3 =>
  if decide (y3 ≠ 0) then
    (some 1)
  else
    ((Kr p0).bind fun y6 =>
    if y6 then
      (some 7)
    else
      ((mJ p0.dW 2 7200).bind fun y9 =>
      if (!y9) then
        (some 4)
      else
        (iter (Kh p0 l0) FUEL 0)))
theorem Zg (S : bD) (w : World) (l0 : Layout) (aj : ak.R Layout) (p0 : Plan) (ah : ak.R Plan) (y : Int) (hM : FI l0 p0 = some y) (hS : sB S w) (dH : ak.ok S w aj l0) (eu : ak.ok S w ah p0) :
    Calls Tryz.prog 23 #[.agg (iy l0 aj), .agg (jT p0 ah)] w (bW w (vI y)) := by
 refine bR (args := [_, _]) Tryz.func23 rfl ((pre_nil hS).start |>.jw dH|>.kD eu) rfl ?_; unfold FI at hM; refine sr ?_; refine aF (bU (l := (bK l0 aj)) (k := fun b1 => ?_)); refine aF (bU (l := (dO p0 ah)) (k := fun b2 => ?_))
 refine oa ?_; refine on ?_; refine aD fun K2 hK2 => ?_; refine sr ?_; refine oe (bH (b := b1)) ?_; obtain ⟨y3, hy4, hM⟩ := bind_some hM; refine aF (bg (fun w hm => let ⟨S, hs⟩ := hm; RL _ w l0 aj y3 hy4 (aT hs) ⟨(kM hs), (kM hs), (kM hs), (kM hs)⟩) ?_); refine oe fB ?_; refine on ?_; refine cc rfl hM (fun gX hM => ?_) (fun gX hM => ?_)
 · refine sr ?_; refine oa ?_; refine on ?_; obtain rfl := some_inj hM; refine aL (aZ (fun w hm => aW hm rfl))
 refine aM (hK2 _ _ ?_); clear hK2; refine aD fun K5 cu => ?_; refine sr ?_; refine oe (bH (b := b2)) ?_; obtain ⟨y6, qC, hM⟩ := bind_some hM; refine aF (bg (fun w hm => let ⟨S, hs⟩ := hm; agC _ w p0 ah y6 qC (aT hs) ⟨(kM hs), (kM hs), (kM hs), (kM hs), (kM hs), (kM hs), (kM hs)⟩) ?_); refine on ?_; refine cc rfl hM (fun hc8 hM => ?_) (fun hc8 hM => ?_)
 · refine sr ?_; refine oa ?_; refine on ?_; obtain rfl := some_inj hM; refine aL (aZ (fun w hm => aW hm rfl))
 refine aM (cu _ _ ?_); clear cu; refine aD fun K8 fE => ?_; refine sr ?_; refine oe (ay 0) ?_; refine oe (aC (b := b2)) ?_; obtain ⟨y9, vw, hM⟩ := bind_some hM; refine aF (bg (fun w hm => let ⟨S, hs⟩ := hm; rD _ w p0.dW 2 7200 y9 vw (aT hs) ) ?_); refine oe dN ?_; refine on ?_; refine cc rfl hM (fun su hM => ?_) (fun su hM => ?_)
 · refine sr ?_; refine oa ?_; refine on ?_; obtain rfl := some_inj hM; refine aL (aZ (fun w hm => aW hm rfl))
 refine aM (fE _ _ ?_); clear fE; refine aD fun oG fM => ?_; refine sr ?_; refine oa ?_; refine on ?_; refine bf ?_; refine dF (γ := Nat × Nat × Unit) (env := fun (_, aK, _) => [(2, eP b1), (3, eP b2), (5, eI (aK : Int))]) (mem := fun (_, aK, _) => [iL l0.aX aj.1, iL l0.bF aj.2.1, iL l0.Sections aj.2.2.1, iL l0.Links aj.2.2.2, own b1 26 (bK l0 aj), iL p0.aY ah.1, iL p0.Routes ah.2.1, iL p0.Lines ah.2.2.1, iL p0.Changes ah.2.2.2.1, iL p0.Turns ah.2.2.2.2.1, iL p0.bT ah.2.2.2.2.2.1, iL p0.bS ah.2.2.2.2.2.2, own b2 35 (dO p0 ah)]) (R := fun g => iter (Kh p0 l0) g.1 g.2.1 = some y) (μ := fun g => g.1) (FUEL, 0, ()) hM ⟨rfl, rfl, rfl, trivial⟩ rI ?_
 clear hM; intro g hM gy hL1; obtain ⟨bJ, aK, ⟨⟩⟩ := g; dsimp only at hM ⊢; obtain ⟨bJ, aQ, rfl, dz, hM⟩ := dL hM; dsimp only [Kh] at hM; refine aD fun uM jr => ?_; refine sr ?_; refine om ?_; refine oe (ay 1) ?_; refine oe (aC (b := b2)) ?_; refine oe bE ?_; refine oe bN ?_; refine on ?_; refine cc rfl hM (fun lK hM => ?_) (fun lK hM => ?_)
 · refine aM (jr _ _ ?_); clear jr; refine aD fun wh jN => ?_; refine bf ?_; refine sr ?_; refine oe (bH (b := b2)) ?_; refine om ?_; obtain ⟨y13, sI, hM⟩ := bind_some hM; refine aF (bg (fun w hm => let ⟨S, hs⟩ := hm; agF _ w p0 ah (aK : Int) y13 sI (aT hs) ⟨(kM hs), (kM hs), (kM hs), (kM hs), (kM hs), (kM hs), (kM hs)⟩) ?_); refine oa ?_; refine on ?_; refine sr ?_; refine om ?_; refine oe fB ?_; refine on ?_; refine cc rfl hM (fun qy hM => ?_) (fun qy hM => ?_)
   · refine sr ?_; refine om ?_; refine oa ?_; refine on ?_; obtain rfl := some_inj hM; refine aL (aZ (fun w hm => aW hm rfl))
   refine aM (jN _ _ ?_); clear jN; refine aR ?_; refine om ?_; obtain ⟨IB, hM⟩ := bO hM; refine oe (dh (hr := fun hg => dn IB)) ?_; refine oa ?_; refine aU (hL1 (bJ, (aK + 1), ()) _ _ (eqc dz hM) (Nat.lt_succ_self _) ⟨rfl, rfl, rfl, trivial⟩ rI)
 refine dD (fM _ _ ?_); clear fM; dsimp only [Nl] at hM; refine aD fun ze kQ => ?_; refine sr ?_; refine oa ?_; refine on ?_; refine bf ?_; refine dF (γ := Nat × Nat × Unit) (env := fun (_, fI, _) => [(2, eP b1), (3, eP b2), (7, eI (fI : Int))]) (mem := fun (_, fI, _) => [iL l0.aX aj.1, iL l0.bF aj.2.1, iL l0.Sections aj.2.2.1, iL l0.Links aj.2.2.2, own b1 26 (bK l0 aj), iL p0.aY ah.1, iL p0.Routes ah.2.1, iL p0.Lines ah.2.2.1, iL p0.Changes ah.2.2.2.1, iL p0.Turns ah.2.2.2.2.1, iL p0.bT ah.2.2.2.2.2.1, iL p0.bS ah.2.2.2.2.2.2, own b2 35 (dO p0 ah)]) (R := fun g => iter (Ki p0 l0) g.1 g.2.1 = some y) (μ := fun g => g.1) (FUEL, 0, ()) hM ⟨rfl, rfl, rfl, trivial⟩ rI ?_
 clear hM; intro g hM uP hL2; obtain ⟨jI, fI, ⟨⟩⟩ := g; dsimp only at hM ⊢; obtain ⟨jI, iA, rfl, mH, hM⟩ := dL hM; dsimp only [Ki] at hM; refine aD fun LK qQ => ?_; refine sr ?_; refine om ?_; refine oe (ay 2) ?_; refine oe (aC (b := b2)) ?_; refine oe bE ?_; refine oe bN ?_; refine on ?_; refine cc rfl hM (fun hc17 hM => ?_) (fun hc17 hM => ?_)
 · refine aM (qQ _ _ ?_); clear qQ; refine aD fun Hf nK => ?_; refine bf ?_; refine aD fun Ug zG => ?_; refine fA _ (List.Sublist.refl _) ?_; refine au 0 rfl (bH (b := b1)) ?_; refine au 1 rfl (ay 2) ?_; refine au 2 rfl (aC (b := b2)) ?_; refine au 3 rfl aG ?_; obtain ⟨x18, DJ, hM⟩ := bind_some hM; refine au 4 rfl (bA (xs := p0.Routes) 2 (kG p0.Routes ah.2.1) (iS DJ)) ?_; refine au 5 rfl (dU (m := 2) (i := (fI : Int)) (xs := p0.Routes) (y := x18) (l := (gJ x18 (ah.2.1.es (fI : Int).toNat))) 0 (kG p0.Routes ah.2.1) (fun _ => DJ)) ?_; obtain ⟨y20, vB, hM⟩ := bind_some hM; refine bB 6 rfl (bg (fun w hm => let ⟨S, hs⟩ := hm; Zb _ w l0 aj x18 (ah.2.1.es (fI : Int).toNat) y20 vB (aT hs) ⟨(kM hs), (kM hs), (kM hs), (kM hs)⟩ (Kn.lend ((Sk.elem (Sk.dJ (α := List aV) (r := ah.2.1) (x := p0.Routes) hA) DJ)).kn hs)) ⟨rI, ?_⟩); refine au 7 rfl bX ?_; refine dG (zG _ _ ?_); clear zG; refine sr ?_; refine om ?_; refine oe fB ?_; refine on ?_; refine cc rfl hM (fun hc22 hM => ?_) (fun hc22 hM => ?_)
   · refine sr ?_; refine om ?_; refine oa ?_; refine on ?_; obtain rfl := some_inj hM; refine aL (aZ (fun w hm => aW hm rfl))
   refine aM (nK _ _ ?_); clear nK; refine aR ?_; refine om ?_; obtain ⟨PN, hM⟩ := bO hM; refine oe (dh (hr := fun hg => dn PN)) ?_; refine oa ?_; refine aU (hL2 (jI, (fI + 1), ()) _ _ (eqc mH hM) (Nat.lt_succ_self _) ⟨rfl, rfl, rfl, trivial⟩ rI)
 refine dD (kQ _ _ ?_); clear kQ; dsimp only [Nn] at hM; refine aD fun LM qR => ?_; refine sr ?_; refine oa ?_; refine on ?_; refine bf ?_; refine dF (γ := Nat × Nat × Unit) (env := fun (_, gL, _) => [(2, eP b1), (3, eP b2), (9, eI (gL : Int))]) (mem := fun (_, gL, _) => [iL l0.aX aj.1, iL l0.bF aj.2.1, iL l0.Sections aj.2.2.1, iL l0.Links aj.2.2.2, own b1 26 (bK l0 aj), iL p0.aY ah.1, iL p0.Routes ah.2.1, iL p0.Lines ah.2.2.1, iL p0.Changes ah.2.2.2.1, iL p0.Turns ah.2.2.2.2.1, iL p0.bT ah.2.2.2.2.2.1, iL p0.bS ah.2.2.2.2.2.2, own b2 35 (dO p0 ah)]) (R := fun g => iter (Kj p0 l0) g.1 g.2.1 = some y) (μ := fun g => g.1) (FUEL, 0, ()) hM ⟨rfl, rfl, rfl, trivial⟩ rI ?_
 clear hM; intro g hM CX hL3; obtain ⟨oQ, gL, ⟨⟩⟩ := g; dsimp only at hM ⊢; obtain ⟨oQ, kH, rfl, vv, hM⟩ := dL hM; dsimp only [Kj] at hM; refine aD fun Hg oL => ?_; refine sr ?_; refine om ?_; refine oe (ay 3) ?_; refine oe (aC (b := b2)) ?_; refine oe bE ?_; refine oe bN ?_; refine on ?_; refine cc rfl hM (fun hc24 hM => ?_) (fun hc24 hM => ?_)
 · refine aM (oL _ _ ?_); clear oL; refine aD fun OG uZ => ?_; refine bf ?_; refine sr ?_; refine oe (bH (b := b1)) ?_; refine oe (bH (b := b2)) ?_; refine om ?_; obtain ⟨y25, BK, hM⟩ := bind_some hM; refine aF (bg (fun w hm => let ⟨S, hs⟩ := hm; agD _ w l0 aj p0 ah (gL : Int) y25 BK (aT hs) ⟨(kM hs), (kM hs), (kM hs), (kM hs)⟩ ⟨(kM hs), (kM hs), (kM hs), (kM hs), (kM hs), (kM hs), (kM hs)⟩) ?_); refine oa ?_; refine on ?_; refine sr ?_; refine om ?_; refine oe fB ?_; refine on ?_; refine cc rfl hM (fun hc27 hM => ?_) (fun hc27 hM => ?_)
   · refine sr ?_; refine om ?_; refine oa ?_; refine on ?_; obtain rfl := some_inj hM; refine aL (aZ (fun w hm => aW hm rfl))
   refine aM (uZ _ _ ?_); clear uZ; refine aR ?_; refine om ?_; obtain ⟨IG, hM⟩ := bO hM; refine oe (dh (hr := fun hg => dn IG)) ?_; refine oa ?_; refine aU (hL3 (oQ, (gL + 1), ()) _ _ (eqc vv hM) (Nat.lt_succ_self _) ⟨rfl, rfl, rfl, trivial⟩ rI)
 refine dD (qR _ _ ?_); clear qR; dsimp only [Np] at hM; refine aD fun Uk zK => ?_; refine sr ?_; refine oa ?_; refine on ?_; refine bf ?_; refine dF (γ := Nat × Nat × Unit) (env := fun (_, iO, _) => [(2, eP b1), (3, eP b2), (11, eI (iO : Int))]) (mem := fun (_, iO, _) => [iL l0.aX aj.1, iL l0.bF aj.2.1, iL l0.Sections aj.2.2.1, iL l0.Links aj.2.2.2, own b1 26 (bK l0 aj), iL p0.aY ah.1, iL p0.Routes ah.2.1, iL p0.Lines ah.2.2.1, iL p0.Changes ah.2.2.2.1, iL p0.Turns ah.2.2.2.2.1, iL p0.bT ah.2.2.2.2.2.1, iL p0.bS ah.2.2.2.2.2.2, own b2 35 (dO p0 ah)]) (R := fun g => iter (Kk p0 l0) g.1 g.2.1 = some y) (μ := fun g => g.1) (FUEL, 0, ()) hM ⟨rfl, rfl, rfl, trivial⟩ rI ?_
 clear hM; intro g hM LQ hL4; obtain ⟨rA, iO, ⟨⟩⟩ := g; dsimp only at hM ⊢; obtain ⟨rA, kY, rfl, xS, hM⟩ := dL hM; dsimp only [Kk] at hM; refine aD fun OI u6 => ?_; refine sr ?_; refine om ?_; refine oe (ay 4) ?_; refine oe (aC (b := b2)) ?_; refine oe bE ?_; refine oe bN ?_; refine on ?_; refine cc rfl hM (fun hc29 hM => ?_) (fun hc29 hM => ?_)
 · refine aM (u6 _ _ ?_); clear u6; refine aD fun K39 IL => ?_; refine bf ?_; refine aD fun Ul zL => ?_; refine fA _ (List.Sublist.refl _) ?_; refine au 0 rfl (bH (b := b1)) ?_; refine au 1 rfl (bH (b := b2)) ?_; refine au 2 rfl (ay 4) ?_; refine au 3 rfl (aC (b := b2)) ?_; refine au 4 rfl aG ?_; obtain ⟨x30, hx31, hM⟩ := bind_some hM; refine au 5 rfl (bA (xs := p0.Changes) 7 (kG p0.Changes ah.2.2.2.1) (iS hx31)) ?_; refine au 6 rfl (dU (m := 7) (i := (iO : Int)) (xs := p0.Changes) (y := x30) (l := (wO x30)) 0 (kG p0.Changes ah.2.2.2.1) (fun _ => hx31)) ?_; obtain ⟨y32, Jp, hM⟩ := bind_some hM; refine bB 7 rfl (bg (fun w hm => let ⟨S, hs⟩ := hm; agB _ w l0 aj p0 ah x30 y32 Jp (aT hs) ⟨(kM hs), (kM hs), (kM hs), (kM hs)⟩ ⟨(kM hs), (kM hs), (kM hs), (kM hs), (kM hs), (kM hs), (kM hs)⟩) ⟨rI, ?_⟩); refine au 8 rfl bX ?_; refine dG (zL _ _ ?_); clear zL; refine sr ?_; refine om ?_; refine oe fB ?_; refine on ?_; refine cc rfl hM (fun hc34 hM => ?_) (fun hc34 hM => ?_)
   · refine sr ?_; refine om ?_; refine oa ?_; refine on ?_; obtain rfl := some_inj hM; refine aL (aZ (fun w hm => aW hm rfl))
   refine aM (IL _ _ ?_); clear IL; refine aR ?_; refine om ?_; obtain ⟨abV, hM⟩ := bO hM; refine oe (dh (hr := fun hg => dn abV)) ?_; refine oa ?_; refine aU (hL4 (rA, (iO + 1), ()) _ _ (eqc xS hM) (Nat.lt_succ_self _) ⟨rfl, rfl, rfl, trivial⟩ rI)
 refine dD (zK _ _ ?_); clear zK; dsimp only [Nq] at hM; refine aD fun K43 IU => ?_; refine sr ?_; refine oa ?_; refine on ?_; refine bf ?_; refine dF (γ := Nat × Nat × Unit) (env := fun (_, mR, _) => [(2, eP b1), (3, eP b2), (13, eI (mR : Int))]) (mem := fun (_, mR, _) => [iL l0.aX aj.1, iL l0.bF aj.2.1, iL l0.Sections aj.2.2.1, iL l0.Links aj.2.2.2, own b1 26 (bK l0 aj), iL p0.aY ah.1, iL p0.Routes ah.2.1, iL p0.Lines ah.2.2.1, iL p0.Changes ah.2.2.2.1, iL p0.Turns ah.2.2.2.2.1, iL p0.bT ah.2.2.2.2.2.1, iL p0.bS ah.2.2.2.2.2.2, own b2 35 (dO p0 ah)]) (R := fun g => iter (Kl p0 l0) g.1 g.2.1 = some y) (μ := fun g => g.1) (FUEL, 0, ()) hM ⟨rfl, rfl, rfl, trivial⟩ rI ?_
 clear hM; intro g hM Un hL5; obtain ⟨zY, mR, ⟨⟩⟩ := g; dsimp only at hM ⊢; obtain ⟨zY, zq, rfl, I9, hM⟩ := dL hM; dsimp only [Kl] at hM; refine aD fun K45 VF => ?_; refine sr ?_; refine om ?_; refine oe (ay 5) ?_; refine oe (aC (b := b2)) ?_; refine oe bE ?_; refine oe bN ?_; refine on ?_; refine cc rfl hM (fun acz hM => ?_) (fun acz hM => ?_)
 · refine aM (VF _ _ ?_); clear VF; refine aD fun K47 IW => ?_; refine bf ?_; refine sr ?_; refine oe (bH (b := b2)) ?_; refine om ?_; obtain ⟨nD, hy38, hM⟩ := bind_some hM; refine aF (bg (fun w hm => let ⟨S, hs⟩ := hm; agG _ w p0 ah (mR : Int) nD hy38 (aT hs) ⟨(kM hs), (kM hs), (kM hs), (kM hs), (kM hs), (kM hs), (kM hs)⟩) ?_); refine oa ?_; refine on ?_; refine sr ?_; refine om ?_; refine oe fB ?_; refine on ?_; refine cc rfl hM (fun hc39 hM => ?_) (fun hc39 hM => ?_)
   · refine sr ?_; refine om ?_; refine oa ?_; refine on ?_; obtain rfl := some_inj hM; refine aL (aZ (fun w hm => aW hm rfl))
   refine aM (IW _ _ ?_); clear IW; refine aR ?_; refine om ?_; obtain ⟨abY, hM⟩ := bO hM; refine oe (dh (hr := fun hg => dn abY)) ?_; refine oa ?_; refine aU (hL5 (zY, (mR + 1), ()) _ _ (eqc I9 hM) (Nat.lt_succ_self _) ⟨rfl, rfl, rfl, trivial⟩ rI)
 refine dD (IU _ _ ?_); clear IU; dsimp only [Nr] at hM; refine aD fun K51 VJ => ?_; refine sr ?_; refine oa ?_; refine on ?_; refine bf ?_; refine dF (γ := Nat × Nat × Unit) (env := fun (_, mU, _) => [(2, eP b1), (3, eP b2), (15, eI (mU : Int))]) (mem := fun (_, mU, _) => [iL l0.aX aj.1, iL l0.bF aj.2.1, iL l0.Sections aj.2.2.1, iL l0.Links aj.2.2.2, own b1 26 (bK l0 aj), iL p0.aY ah.1, iL p0.Routes ah.2.1, iL p0.Lines ah.2.2.1, iL p0.Changes ah.2.2.2.1, iL p0.Turns ah.2.2.2.2.1, iL p0.bT ah.2.2.2.2.2.1, iL p0.bS ah.2.2.2.2.2.2, own b2 35 (dO p0 ah)]) (R := fun g => iter (Km p0 l0) g.1 g.2.1 = some y) (μ := fun g => g.1) (FUEL, 0, ()) hM ⟨rfl, rfl, rfl, trivial⟩ rI ?_
 clear hM; intro g hM Uo hL6; obtain ⟨zZ, mU, ⟨⟩⟩ := g; dsimp only at hM ⊢; obtain ⟨zZ, zu, rfl, Ja, hM⟩ := dL hM; dsimp only [Km] at hM; refine aD fun K53 IY => ?_; refine sr ?_; refine om ?_; refine oe (ay 6) ?_; refine oe (aC (b := b2)) ?_; refine oe bE ?_; refine oe bN ?_; refine on ?_; refine cc rfl hM (fun zN hM => ?_) (fun zN hM => ?_)
 · refine aM (IY _ _ ?_); clear IY; refine aD fun K55 VK => ?_; refine bf ?_; refine sr ?_; refine oe (ay 6) ?_; refine oe (aC (b := b2)) ?_; refine om ?_; obtain ⟨fu, zV, hM⟩ := bind_some hM; refine oe (bA (xs := p0.bT) 5 (kG p0.bT ah.2.2.2.2.2.1) (iS zV)) ?_; refine oe (dU (m := 5) (i := (mU : Int)) (xs := p0.bT) (y := fu) (l := (yh fu)) 0 (kG p0.bT ah.2.2.2.2.2.1) (fun _ => zV)) ?_; refine aF (bQ rfl (k := fun lU => ?_)); refine aF (bI (b := lU) (vs := (yh fu)) (k := ?_)); refine on ?_; refine sr ?_; refine oe (bH (b := b2)) ?_; refine oe (ay 0) ?_; refine oe (aC (b := lU)) ?_; refine oe (ay 1) ?_; refine oe (aC (b := lU)) ?_; obtain ⟨GZ, aew, hM⟩ := bind_some hM; refine aF (bg (fun w hm => let ⟨S, hs⟩ := hm; Nv _ w p0 ah fu.jA fu.jc GZ aew (aT hs) ⟨(kM hs), (kM hs), (kM hs), (kM hs), (kM hs), (kM hs), (kM hs)⟩) ?_); refine oe dN ?_; refine om ?_; refine av rfl (bH (b := b2)) ?_; refine av rfl (ay 2) ?_
   refine av rfl (aC (b := lU)) ?_; refine av rfl (ay 3) ?_; refine av rfl (aC (b := lU)) ?_; obtain ⟨LD, aex, hM⟩ := bind_some hM; refine iX rfl (fun hg w hm => let ⟨S, hs⟩ := hm; Nv _ w p0 ah fu.jF fu.jh LD (dM aex hg) (aT hs) ⟨(kM hs), (kM hs), (kM hs), (kM hs), (kM hs), (kM hs), (kM hs)⟩) ?_; refine av rfl dN ?_; refine oe dw ?_; refine om ?_; refine av rfl (ay 0) ?_; refine av rfl (aC (b := lU)) ?_; refine av rfl (ay 2) ?_; refine av rfl (aC (b := lU)) ?_; refine av rfl dS ?_; refine av rfl aG ?_; refine av rfl (ay 1) ?_; refine av rfl (aC (b := lU)) ?_; refine av rfl (ay 3) ?_; refine av rfl (aC (b := lU)) ?_; refine av rfl dS ?_; refine av rfl cO ?_; refine oe dw ?_; refine om ?_; refine av rfl (ay 4) ?_; refine av rfl (aC (b := lU)) ?_; refine av rfl (ay 0) ?_; refine av rfl (aC (b := b2)) ?_; obtain ⟨abZ, hM⟩ := bO hM; refine av rfl (jo (hr := fun hg => dn (uV abZ hg))) ?_; obtain ⟨CU, QK, hM⟩ := bind_some hM; refine iX rfl (fun hg w hm => let ⟨S, hs⟩ := hm; rD _ w fu.Offset 0 (p0.dW - 1) CU (dM QK hg) (aT hs) ) ?_; refine av rfl dN ?_; refine oe dw ?_; refine on ?_; refine cc rfl hM (fun acC hM => ?_) (fun acC hM => ?_)
   · refine sr ?_; refine oa ?_; refine on ?_; obtain rfl := some_inj hM; refine aL (aZ (fun w hm => aW hm rfl))
   refine aM (VK _ _ ?_); clear VK; refine aR ?_; refine om ?_; obtain ⟨ab0, hM⟩ := bO hM; refine oe (dh (hr := fun hg => dn ab0)) ?_; refine oa ?_; refine aU (hL6 (zZ, (mU + 1), ()) _ _ (eqc Ja hM) (Nat.lt_succ_self _) ⟨rfl, rfl, rfl, trivial⟩ rI)
 refine dD (VJ _ _ ?_); clear VJ; dsimp only [Ns] at hM; refine aD fun K59 VL => ?_; refine sr ?_; refine oa ?_; refine on ?_; refine bf ?_; refine dF (γ := Nat × Nat × Unit) (env := fun (_, mV, _) => [(2, eP b1), (3, eP b2), (17, eI (mV : Int))]) (mem := fun (_, mV, _) => [iL l0.aX aj.1, iL l0.bF aj.2.1, iL l0.Sections aj.2.2.1, iL l0.Links aj.2.2.2, own b1 26 (bK l0 aj), iL p0.aY ah.1, iL p0.Routes ah.2.1, iL p0.Lines ah.2.2.1, iL p0.Changes ah.2.2.2.1, iL p0.Turns ah.2.2.2.2.1, iL p0.bT ah.2.2.2.2.2.1, iL p0.bS ah.2.2.2.2.2.2, own b2 35 (dO p0 ah)]) (R := fun g => iter (Ko p0 l0) g.1 g.2.1 = some y) (μ := fun g => g.1) (FUEL, 0, ()) hM ⟨rfl, rfl, rfl, trivial⟩ rI ?_
 clear hM; intro g hM Uq hL7; obtain ⟨z8, mV, ⟨⟩⟩ := g; dsimp only at hM ⊢; obtain ⟨z8, zw, rfl, Jb, hM⟩ := dL hM; dsimp only [Ko] at hM; refine aD fun K61 VN => ?_; refine sr ?_; refine om ?_; refine oe (ay 7) ?_; refine oe (aC (b := b2)) ?_; refine oe bE ?_; refine oe bN ?_; refine on ?_; refine cc rfl hM (fun acE hM => ?_) (fun acE hM => ?_)
 · refine aM (VN _ _ ?_); clear VN; refine aD fun K63 VO => ?_; refine bf ?_; refine sr ?_; refine oe (ay 7) ?_; refine oe (aC (b := b2)) ?_; refine om ?_; obtain ⟨x55, WC, hM⟩ := bind_some hM; refine oe (bA (xs := p0.bS) 3 (kG p0.bS ah.2.2.2.2.2.2) (iS WC)) ?_; refine oe (dU (m := 3) (i := (mV : Int)) (xs := p0.bS) (y := x55) (l := (yc x55)) 0 (kG p0.bS ah.2.2.2.2.2.2) (fun _ => WC)) ?_; refine aF (bQ rfl (k := fun Da => ?_)); refine aF (bI (b := Da) (vs := (yc x55)) (k := ?_)); refine on ?_; refine sr ?_; refine oe (ay 0) ?_; refine oe (aC (b := Da)) ?_; refine oe (ay 0) ?_; refine oe (aC (b := b1)) ?_; refine oe bE ?_; obtain ⟨ab3, hM⟩ := bO hM; refine oe (jo (hr := fun hg => dn ab3)) ?_; obtain ⟨G5, aeB, hM⟩ := bind_some hM; refine aF (bg (fun w hm => let ⟨S, hs⟩ := hm; rD _ w x55.From 0 ((l0.aX.length : Int) - 1) G5 aeB (aT hs) ) ?_); refine oe dN ?_; refine om ?_; refine av rfl (ay 1) ?_; refine av rfl (aC (b := Da)) ?_; refine av rfl (ay 0) ?_
   refine av rfl (aC (b := b1)) ?_; refine av rfl bE ?_; obtain ⟨ab4, hM⟩ := bO hM; refine av rfl (jo (hr := fun hg => dn (uV ab4 hg))) ?_; obtain ⟨Ox, aeD, hM⟩ := bind_some hM; refine iX rfl (fun hg w hm => let ⟨S, hs⟩ := hm; rD _ w x55.To 0 ((l0.aX.length : Int) - 1) Ox (dM aeD hg) (aT hs) ) ?_; refine av rfl dN ?_; refine oe dw ?_; refine om ?_; refine av rfl (ay 0) ?_; refine av rfl (aC (b := Da)) ?_; refine av rfl (ay 1) ?_; refine av rfl (aC (b := Da)) ?_; refine av rfl dS ?_; refine oe dw ?_; refine om ?_; refine av rfl (ay 2) ?_; refine av rfl (aC (b := Da)) ?_; obtain ⟨Ua, aeE, hM⟩ := bind_some hM; refine iX rfl (fun hg w hm => let ⟨S, hs⟩ := hm; rD _ w x55.Weight 1 1048576 Ua (dM aeE hg) (aT hs) ) ?_; refine av rfl dN ?_; refine oe dw ?_; refine on ?_; refine cc rfl hM (fun acG hM => ?_) (fun acG hM => ?_)
   · refine sr ?_; refine oa ?_; refine on ?_; obtain rfl := some_inj hM; refine aL (aZ (fun w hm => aW hm rfl))
   refine aM (VO _ _ ?_); clear VO; refine aR ?_; refine om ?_; obtain ⟨ab5, hM⟩ := bO hM; refine oe (dh (hr := fun hg => dn ab5)) ?_; refine oa ?_; refine aU (hL7 (z8, (mV + 1), ()) _ _ (eqc Jb hM) (Nat.lt_succ_self _) ⟨rfl, rfl, rfl, trivial⟩ rI)
 refine dD (VL _ _ ?_); clear VL; dsimp only [Sn] at hM; refine sr ?_; refine oa ?_; refine on ?_; obtain rfl := some_inj hM; refine aL (aZ (fun w hm => aW hm rfl))
end Go.Proofs.YtcalibhfgdncaaaGreatDoor
