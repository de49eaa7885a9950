/- Models of functions, and that the code computes them. -/
import Derived.Test.YtcalibhfgdncaaaGreatDoorPq
import Derived.Test.YtcalibhfgdncaaaGreatDoorPr
import Derived.Test.YtcalibhfgdncaaaGreatDoorWa
set_option linter.all false
namespace Go.Proofs.YtcalibhfgdncaaaGreatDoor
open Go.Dc Go.RowKit
set_option maxRecDepth 10000
def Ri (p0 : Plan) : Unit → Option Int := fun _ =>
  if (decide (p0.dW < 2) || decide (7200 < p0.dW)) then
    (some 4)
  else
    (some 0)
def EB (p0 : Plan) (aQ : Nat → Option Int) : Nat → Option Int := fun vV =>
  if decide ((vV : Int) < (p0.Lines.length : Int)) then
    ((idx p0.Lines (vV : Int)).bind fun x9 =>
    if decide (12 < (x9.bq.length : Int)) then
      (some 7)
    else
      (aQ (vV + 1)))
  else
    (Ri p0 ())
def vO (p0 : Plan) : Bool → Option Int := fun Ld =>
  if Ld then
    (some 7)
  else
    (iter (EB p0) FUEL 0)
def EC (l0 : Layout) (p0 : Plan) : Option Int :=
  (Jw l0).bind fun y3 =>
  if decide (y3 ≠ 0) then
    (some 1)
  else
    (if decide (8 < (p0.aY.length : Int)) then
      (vO p0 (decide (8 < (p0.aY.length : Int))))
    else
      (if decide (48 < (p0.Routes.length : Int)) then
        (vO p0 (decide (48 < (p0.Routes.length : Int))))
      else
        (if decide (16 < (p0.Lines.length : Int)) then
          (vO p0 (decide (16 < (p0.Lines.length : Int))))
        else
          (if decide (32 < (p0.Changes.length : Int)) then
            (vO p0 (decide (32 < (p0.Changes.length : Int))))
          else
            (if decide (32 < (p0.Turns.length : Int)) then
              (vO p0 (decide (32 < (p0.Turns.length : Int))))
            else
              (if decide (32 < (p0.bT.length : Int)) then
                (vO p0 (decide (32 < (p0.bT.length : Int))))
              else
                (vO p0 (decide (32 < (p0.bS.length : Int))))))))))
theorem af9 (S : bD) (w : World) (l0 : Layout) (aj : ak.R Layout) (p0 : Plan) (ah : ak.R Plan) (y : Int) (hM : EC l0 p0 = some y) (hS : sB S w) (dH : ak.ok S w aj l0) (eu : ak.ok S w ah p0) :
    Calls Tryz.prog 32 #[.agg (iy l0 aj), .agg (jT p0 ah)] w (bW w (vI y)) := by
 refine bR (args := [_, _]) Tryz.func32 rfl ((pre_nil hS).start |>.jw dH|>.kD eu) rfl ?_; unfold EC at hM; refine sr ?_; refine aF (bU (l := (bK l0 aj)) (k := fun b1 => ?_)); refine aF (bU (l := (dO p0 ah)) (k := fun b2 => ?_))
 refine oa ?_; refine on ?_; refine aD fun K2 hK2 => ?_; refine bf ?_; refine sr ?_; refine oe (bH (b := b1)) ?_; obtain ⟨y3, hy4, hM⟩ := bind_some hM; refine aF (bg (fun w hm => let ⟨S, hs⟩ := hm; Xf _ w l0 aj y3 hy4 (aT hs) ⟨(kM hs), (kM hs), (kM hs), (kM hs)⟩) ?_); refine oe fB ?_; refine oa ?_; refine on ?_; refine cc rfl hM (fun gX hM => ?_) (fun gX hM => ?_)
 · refine sr ?_; refine oa ?_; refine on ?_; obtain rfl := some_inj hM; refine aL (aZ (fun w hm => aW hm rfl))
 refine iH (γ := Bool × Unit) (env := fun (Ld, _) => [(3, eP b2), (11, .v (.bool Ld))]) (mem := fun (Ld, _) => [iL p0.aY ah.1, iL p0.Routes ah.2.1, iL p0.Lines ah.2.2.1, iL p0.Changes ah.2.2.2.1, iL p0.Turns ah.2.2.2.2.1, iL p0.bT ah.2.2.2.2.2.1, iL p0.bS ah.2.2.2.2.2.2, own b2 35 (dO p0 ah)]) (R := fun g => vO p0 g.1 = some y) ?_ ?_
 · intro wm eY; refine sr ?_; refine oe (ay 1) ?_; refine oe (aC (b := b2)) ?_; refine oe bE ?_; refine oe fP ?_; refine oa ?_; refine on ?_; refine cc rfl hM (fun qx hM => ?_) (fun qx hM => ?_)
   · refine aM (eY ((decide (8 < (p0.aY.length : Int))), ()) _ _ hM ⟨rfl, rfl, trivial⟩ rI)
   refine sr ?_; refine oe (ay 2) ?_; refine oe (aC (b := b2)) ?_; refine oe bE ?_; refine oe fP ?_; refine oa ?_; refine on ?_; refine cc rfl hM (fun qy hM => ?_) (fun qy hM => ?_)
   · refine aM (eY ((decide (48 < (p0.Routes.length : Int))), ()) _ _ hM ⟨rfl, rfl, trivial⟩ rI)
   refine sr ?_; refine oe (ay 3) ?_; refine oe (aC (b := b2)) ?_; refine oe bE ?_; refine oe fP ?_; refine oa ?_; refine on ?_; refine cc rfl hM (fun hc16 hM => ?_) (fun hc16 hM => ?_)
   · refine aM (eY ((decide (16 < (p0.Lines.length : Int))), ()) _ _ hM ⟨rfl, rfl, trivial⟩ rI)
   refine sr ?_; refine oe (ay 4) ?_; refine oe (aC (b := b2)) ?_; refine oe bE ?_; refine oe fP ?_; refine oa ?_; refine on ?_; refine cc rfl hM (fun hc17 hM => ?_) (fun hc17 hM => ?_)
   · refine aM (eY ((decide (32 < (p0.Changes.length : Int))), ()) _ _ hM ⟨rfl, rfl, trivial⟩ rI)
   refine sr ?_; refine oe (ay 5) ?_; refine oe (aC (b := b2)) ?_; refine oe bE ?_; refine oe fP ?_; refine oa ?_; refine on ?_; refine cc rfl hM (fun hc18 hM => ?_) (fun hc18 hM => ?_)
   · refine aM (eY ((decide (32 < (p0.Turns.length : Int))), ()) _ _ hM ⟨rfl, rfl, trivial⟩ rI)
   refine sr ?_; refine oe (ay 6) ?_; refine oe (aC (b := b2)) ?_; refine oe bE ?_; refine oe fP ?_; refine oa ?_; refine on ?_; refine cc rfl hM (fun hc19 hM => ?_) (fun hc19 hM => ?_)
   · refine aM (eY ((decide (32 < (p0.bT.length : Int))), ()) _ _ hM ⟨rfl, rfl, trivial⟩ rI)
   refine aR ?_; refine oe (ay 7) ?_; refine oe (aC (b := b2)) ?_; refine oe bE ?_; refine oe fP ?_; refine oa ?_; refine aU (eY ((decide (32 < (p0.bS.length : Int))), ()) _ _ hM ⟨rfl, rfl, trivial⟩ rI)
 clear hM; intro g hM; obtain ⟨Ld, ⟨⟩⟩ := g; dsimp only at hM ⊢; dsimp only [vO] at hM; refine cc rfl hM (fun hc6 hM => ?_) (fun hc6 hM => ?_)
 · refine sr ?_; refine oa ?_; refine on ?_; obtain rfl := some_inj hM; refine aL (aZ (fun w hm => aW hm rfl))
 refine aM (hK2 _ _ ?_); clear hK2; refine aD fun K6 cK => ?_; refine sr ?_; refine oe (ay 3) ?_; refine oe (aC (b := b2)) ?_; refine jS (fun w hm => Kn.len (kG p0.Lines ah.2.2.1) hm) fun hl7 => ?_; refine oe bE ?_; refine om ?_; refine on ?_; refine bf ?_; refine dF (γ := Nat × Nat × Unit) (env := fun (_, vV, _) => [(3, eP b2), (41, eS ah.2.2.1 p0.Lines), (42, eI (p0.Lines.length : Int)), (43, eI (vV : Int))]) (mem := fun (_, vV, _) => [iL p0.aY ah.1, iL p0.Routes ah.2.1, iL p0.Lines ah.2.2.1, iL p0.Changes ah.2.2.2.1, iL p0.Turns ah.2.2.2.2.1, iL p0.bT ah.2.2.2.2.2.1, iL p0.bS ah.2.2.2.2.2.2, own b2 35 (dO p0 ah)]) (R := fun g => iter (EB p0) g.1 g.2.1 = some y) (μ := fun g => g.1) (FUEL, 0, ()) hM ⟨rfl, rfl, rfl, rfl, trivial⟩ rI ?_
 clear hM; intro g hM gy hL1; obtain ⟨bJ, vV, ⟨⟩⟩ := g; dsimp only at hM ⊢; obtain ⟨bJ, aQ, rfl, dz, hM⟩ := dL hM; dsimp only [EB] at hM; refine sr ?_; refine oe bN ?_; refine on ?_; refine aD fun K9 eZ => ?_; refine cc rfl hM (fun hc8 hM => ?_) (fun hc8 hM => ?_)
 · have aio := of_decide_eq_true hc8; refine aM (eZ _ _ ?_); clear eZ; refine aD fun pE gu => ?_; refine bf ?_; refine sr ?_; obtain ⟨x9, kR, hM⟩ := bind_some hM; refine oe (bA (xs := p0.Lines) 4 (kG p0.Lines ah.2.2.1) (iS kR)) ?_; refine oe (dU (m := 4) (i := (vV : Int)) (xs := p0.Lines) (y := x9) (l := (iW x9 (ah.2.2.1.es (vV : Int).toNat))) 0 (kG p0.Lines ah.2.2.1) (fun _ => kR)) ?_; refine aF (bQ rfl (k := fun b11 => ?_)); refine aF (bI (b := b11) (vs := (iW x9 (ah.2.2.1.es (vV : Int).toNat))) (k := ?_)); refine on ?_; refine sr ?_; refine oe (ay 3) ?_; refine oe (aC (b := b11)) ?_; refine oe bE ?_; refine oe fP ?_; refine on ?_; refine cc rfl hM (fun lK hM => ?_) (fun lK hM => ?_)
   · refine sr ?_; refine oa ?_; refine on ?_; obtain rfl := some_inj hM; refine aL (aZ (fun w hm => aW hm rfl))
   refine aM (gu _ _ ?_); clear gu; refine aR ?_; refine oe (dh (hr := fun _ => by unfold eB; omega)) ?_; refine om ?_; refine aU (hL1 (bJ, (vV + 1), ()) _ _ (eqc dz hM) (Nat.lt_succ_self _) ⟨rfl, rfl, rfl, rfl, trivial⟩ rI)
 refine dD (cK _ _ ?_); clear cK; dsimp only [Ri] at hM; refine aD fun uN jv => ?_; refine sr ?_; refine oe (ay 0) ?_; refine oe (aC (b := b2)) ?_; refine oe bN ?_; refine om ?_; refine av rfl (ay 0) ?_; refine av rfl (aC (b := b2)) ?_; refine av rfl fP ?_; refine oe dw ?_; refine on ?_; refine cc rfl hM (fun vo hM => ?_) (fun vo hM => ?_)
 · refine sr ?_; refine oa ?_; refine on ?_; obtain rfl := some_inj hM; refine aL (aZ (fun w hm => aW hm rfl))
 refine aM (jv _ _ ?_); clear jv; refine sr ?_; refine oa ?_; refine on ?_; obtain rfl := some_inj hM; refine aL (aZ (fun w hm => aW hm rfl))
def XK : Unit → Option Int := fun _ =>
  some 0
def JO (p0 : Plan) (aQ : Nat → Option Int) : Nat → Option Int := fun dZ =>
  if decide ((dZ : Int) < (p0.aY.length : Int)) then
    ((idx p0.aY (dZ : Int)).bind fun x5 =>
    (GK x5.Name).bind fun y8 =>
    if (!y8) then
      (some 3)
    else
      ((sub p0.aY 0 (dZ : Int)).bind fun BP =>
      (KT BP x5).bind fun bV =>
      if bV then
        (some 5)
      else
        ((Ie x5).bind fun vY =>
        if (!vY) then
          (some 4)
        else
          (aQ (dZ + 1)))))
  else
    (XK ())
def ED (l0 : Layout) (p0 : Plan) : Option Int :=
  iter (JO p0) FUEL 0
theorem agb (S : bD) (w : World) (l0 : Layout) (aj : ak.R Layout) (p0 : Plan) (ah : ak.R Plan) (y : Int) (hM : ED l0 p0 = some y) (hS : sB S w) (dH : ak.ok S w aj l0) (eu : ak.ok S w ah p0) :
    Calls Tryz.prog 33 #[.agg (iy l0 aj), .agg (jT p0 ah)] w (bW w (vI y)) := by
 refine bR (args := [_, _]) Tryz.func33 rfl ((pre_nil hS).start |>.jw dH|>.kD eu) rfl ?_; unfold ED at hM; refine sr ?_; refine aF (bU (l := (bK l0 aj)) (k := fun b1 => ?_)); refine aF (bU (l := (dO p0 ah)) (k := fun b2 => ?_))
 refine oa ?_; refine on ?_; refine aD fun K2 hK2 => ?_; refine sr ?_; refine oe (ay 1) ?_; refine oe (aC (b := b2)) ?_; refine jS (fun w hm => Kn.len (kG p0.aY ah.1) hm) fun hl3 => ?_; refine oe bE ?_; refine om ?_; refine on ?_; refine bf ?_; refine dF (γ := Nat × Nat × Unit) (env := fun (_, dZ, _) => [(3, eP b2), (8, eS ah.1 p0.aY), (9, eI (p0.aY.length : Int)), (10, eI (dZ : Int))]) (mem := fun (_, dZ, _) => [iL p0.aY ah.1, iL p0.Routes ah.2.1, iL p0.Lines ah.2.2.1, iL p0.Changes ah.2.2.2.1, iL p0.Turns ah.2.2.2.2.1, iL p0.bT ah.2.2.2.2.2.1, iL p0.bS ah.2.2.2.2.2.2, own b2 35 (dO p0 ah)]) (R := fun g => iter (JO p0) g.1 g.2.1 = some y) (μ := fun g => g.1) (FUEL, 0, ()) hM ⟨rfl, rfl, rfl, rfl, trivial⟩ rI ?_
 clear hM; intro g hM gy hL1; obtain ⟨bJ, dZ, ⟨⟩⟩ := g; dsimp only at hM ⊢; obtain ⟨bJ, aQ, rfl, dz, hM⟩ := dL hM; dsimp only [JO] at hM; refine sr ?_; refine oe bN ?_; refine on ?_; refine aD fun K5 cu => ?_; refine cc rfl hM (fun hc4 hM => ?_) (fun hc4 hM => ?_)
 · have zO := of_decide_eq_true hc4; refine aM (cu _ _ ?_); clear cu; refine aD fun K6 cK => ?_; refine bf ?_; refine sr ?_; refine om ?_; obtain ⟨x5, hx6, hM⟩ := bind_some hM; refine oe (bA (xs := p0.aY) 5 (kG p0.aY ah.1) (iS hx6)) ?_; refine oe (dU (m := 5) (i := (dZ : Int)) (xs := p0.aY) (y := x5) (l := (mg x5)) 0 (kG p0.aY ah.1) (fun _ => hx6)) ?_; refine aF (bQ rfl (k := fun b7 => ?_)); refine oa ?_; refine aF (bI (b := b7) (vs := (mg x5)) (k := ?_)); refine on ?_; refine bf ?_; refine sr ?_; refine oe (ay 0) ?_; refine oe (aC (b := b7)) ?_; obtain ⟨y8, nM, hM⟩ := bind_some hM; refine aF (bg (fun w hm => let ⟨S, hs⟩ := hm; aai _ w x5.Name y8 nM (aT hs) ) ?_); refine oe dN ?_; refine oa ?_; refine on ?_; refine cc rfl hM (fun pV hM => ?_) (fun pV hM => ?_)
   · refine sr ?_; refine oa ?_; refine on ?_; obtain rfl := some_inj hM; refine aL (aZ (fun w hm => aW hm rfl))
   refine sr ?_; refine oe (ay 1) ?_; refine oe (aC (b := b2)) ?_; refine om ?_; obtain ⟨BP, hl12, hM⟩ := bind_some hM; refine aF (Gs (r := ah.1) (xs := p0.aY) (ol := none) (oh := some (.i64, (dZ : Int))) (Sk.dJ (α := List bL) (r := ah.1) (x := p0.aY) hA) hl12 (fun tL => ?_)); refine oe Pp ?_; obtain ⟨bV, oO, hM⟩ := bind_some hM; refine aF (bg (fun w hm => let ⟨S, hs⟩ := hm; ahn _ w BP tL b7 x5 bV oO (aT hs) (kM hs) (Rb hA hs)) ?_); refine oa ?_; refine on ?_; refine cc rfl hM (fun hc16 hM => ?_) (fun hc16 hM => ?_)
   · refine sr ?_; refine oa ?_; refine on ?_; obtain rfl := some_inj hM; refine aL (aZ (fun w hm => aW hm rfl))
   refine sr ?_; refine oe (bH (b := b7)) ?_; obtain ⟨vY, Jo, hM⟩ := bind_some hM; refine aF (bg (fun w hm => let ⟨S, hs⟩ := hm; Vm _ w x5 vY Jo (aT hs) ) ?_); refine oe dN ?_; refine oa ?_; refine on ?_; refine cc rfl hM (fun hc19 hM => ?_) (fun hc19 hM => ?_)
   · refine sr ?_; refine oa ?_; refine on ?_; obtain rfl := some_inj hM; refine aL (aZ (fun w hm => aW hm rfl))
   refine aM (cK _ _ ?_); clear cK; refine aR ?_; refine oe (dh (hr := fun _ => by unfold eB; omega)) ?_; refine om ?_; refine aU (hL1 (bJ, (dZ + 1), ()) _ _ (eqc dz hM) (Nat.lt_succ_self _) ⟨rfl, rfl, rfl, rfl, trivial⟩ rI)
 refine dD (hK2 _ _ ?_); clear hK2; dsimp only [XK] at hM; refine sr ?_; refine oa ?_; refine on ?_; obtain rfl := some_inj hM; refine aL (aZ (fun w hm => aW hm rfl))
def XJ : Unit → Option Int := fun _ =>
  some 0
def JN (p0 : Plan) (l0 : Layout) (aQ : Nat → Option Int) : Nat → Option Int := fun mX =>
  if decide ((mX : Int) < (p0.Routes.length : Int)) then
    ((idx p0.Routes (mX : Int)).bind fun x5 =>
    (Gd l0 x5).bind fun y8 =>
    if decide (y8 ≠ 0) then
      (some y8)
    else
      (aQ (mX + 1)))
  else
    (XJ ())
def EA (l0 : Layout) (p0 : Plan) : Option Int :=
  iter (JN p0 l0) FUEL 0
theorem af8 (S : bD) (w : World) (l0 : Layout) (aj : ak.R Layout) (p0 : Plan) (ah : ak.R Plan) (y : Int) (hM : EA l0 p0 = some y) (hS : sB S w) (dH : ak.ok S w aj l0) (eu : ak.ok S w ah p0) :
    Calls Tryz.prog 34 #[.agg (iy l0 aj), .agg (jT p0 ah)] w (bW w (vI y)) := by
 refine bR (args := [_, _]) Tryz.func34 rfl ((pre_nil hS).start |>.jw dH|>.kD eu) rfl ?_; unfold EA at hM; refine sr ?_; refine aF (bU (l := (bK l0 aj)) (k := fun b1 => ?_)); refine aF (bU (l := (dO p0 ah)) (k := fun b2 => ?_))
 refine oa ?_; refine on ?_; refine aD fun K2 hK2 => ?_; refine sr ?_; refine oe (ay 2) ?_; refine oe (aC (b := b2)) ?_; refine jS (fun w hm => Kn.len (kG p0.Routes ah.2.1) hm) fun hl3 => ?_; refine oe bE ?_; refine om ?_; refine on ?_; refine bf ?_; refine dF (γ := Nat × Nat × Unit) (env := fun (_, mX, _) => [(2, eP b1), (9, eS ah.2.1 p0.Routes), (10, eI (p0.Routes.length : Int)), (11, eI (mX : Int))]) (mem := fun (_, mX, _) => [iL l0.aX aj.1, iL l0.bF aj.2.1, iL l0.Sections aj.2.2.1, iL l0.Links aj.2.2.2, own b1 26 (bK l0 aj), iL p0.Routes ah.2.1]) (R := fun g => iter (JN p0 l0) g.1 g.2.1 = some y) (μ := fun g => g.1) (FUEL, 0, ()) hM ⟨rfl, rfl, rfl, rfl, trivial⟩ rI ?_; clear hM; intro g hM gy hL1; obtain ⟨bJ, mX, ⟨⟩⟩ := g; dsimp only at hM ⊢; obtain ⟨bJ, aQ, rfl, dz, hM⟩ := dL hM; dsimp only [JN] at hM; refine sr ?_
 refine oe bN ?_; refine on ?_; refine aD fun K5 cu => ?_; refine cc rfl hM (fun hc4 hM => ?_) (fun hc4 hM => ?_)
 · have zO := of_decide_eq_true hc4; refine aM (cu _ _ ?_); clear cu; refine aD fun K6 cK => ?_; refine bf ?_; refine sr ?_; obtain ⟨x5, hx6, hM⟩ := bind_some hM; refine oe (bA (xs := p0.Routes) 2 (kG p0.Routes ah.2.1) (iS hx6)) ?_; refine oe (dU (m := 2) (i := (mX : Int)) (xs := p0.Routes) (y := x5) (l := (gJ x5 (ah.2.1.es (mX : Int).toNat))) 0 (kG p0.Routes ah.2.1) (fun _ => hx6)) ?_; refine aF (bQ rfl (k := fun b7 => ?_)); refine aF (bI (b := b7) (vs := (gJ x5 (ah.2.1.es (mX : Int).toNat))) (k := ?_)); refine on ?_; refine sr ?_; refine oe (bH (b := b1)) ?_; refine oe (bH (b := b7)) ?_; obtain ⟨y8, nM, hM⟩ := bind_some hM; refine aF (bg (fun w hm => let ⟨S, hs⟩ := hm; Zl _ w l0 aj x5 (ah.2.1.es (mX : Int).toNat) y8 nM (aT hs) ⟨(kM hs), (kM hs), (kM hs), (kM hs)⟩ (Kn.lend ((Sk.elem (Sk.dJ (α := List aV) (r := ah.2.1) (x := p0.Routes) hA) hx6)).kn hs)) ?_); refine oa ?_; refine on ?_; refine sr ?_; refine om ?_; refine oe fB ?_; refine on ?_
   refine cc rfl hM (fun pV hM => ?_) (fun pV hM => ?_)
   · refine sr ?_; refine om ?_; refine oa ?_; refine on ?_; obtain rfl := some_inj hM; refine aL (aZ (fun w hm => aW hm rfl))
   refine aM (cK _ _ ?_); clear cK; refine aR ?_; refine oe (dh (hr := fun _ => by unfold eB; omega)) ?_; refine om ?_; refine aU (hL1 (bJ, (mX + 1), ()) _ _ (eqc dz hM) (Nat.lt_succ_self _) ⟨rfl, rfl, rfl, rfl, trivial⟩ rI)
 refine dD (hK2 _ _ ?_); clear hK2; dsimp only [XJ] at hM; refine sr ?_; refine oa ?_; refine on ?_; obtain rfl := some_inj hM; refine aL (aZ (fun w hm => aW hm rfl))
def vN (p0 : Plan) (x4 : fV) (fq : Line) (l0 : Layout) (k0 : Int) : Bool → Option Int := fun Le =>
  if Le then
    (some 4)
  else
    ((idx p0.Routes x4.aV).bind fun x8 =>
    (idx p0.aY fq.bL).bind fun x10 =>
    (H6 l0 x8 x10).bind fun pq =>
    if decide (pq ≠ 0) then
      (some pq)
    else
      (bM (!(decide (0 < k0)) || bP (k0 - 1)) <|
      (dV (decide (0 < k0)) default (idx fq.bq (k0 - 1))).bind fun mM =>
      (dV (decide (0 < k0)) default (Ci p0 x4)).bind fun iw =>
      (dV (decide (0 < k0)) default (Cj p0 mM)).bind fun y20 =>
      if (decide (0 < k0) && decide (iw ≠ y20)) then
        (some 11)
      else
        (some 0)))
def Ez (l0 : Layout) (p0 : Plan) (fq : Line) (k0 : Int) : Option Int :=
  (idx fq.bq k0).bind fun x4 =>
  if decide (x4.aV < 0) then
    (vN p0 x4 fq l0 k0 (decide (x4.aV < 0)))
  else
    (if decide ((p0.Routes.length : Int) ≤ x4.aV) then
      (vN p0 x4 fq l0 k0 (decide ((p0.Routes.length : Int) ≤ x4.aV)))
    else
      (if decide (x4.Extra < 0) then
        (vN p0 x4 fq l0 k0 (decide (x4.Extra < 0)))
      else
        (if decide (p0.dW ≤ x4.Extra) then
          (vN p0 x4 fq l0 k0 (decide (p0.dW ≤ x4.Extra)))
        else
          ((Cc p0 x4.Min x4.Max).bind fun y27 =>
          if (!y27) then
            (vN p0 x4 fq l0 k0 (!y27))
          else
            (bM (bP ((fq.bq.length : Int) - 1)) <|
            vN p0 x4 fq l0 k0 (decide (k0 = ((fq.bq.length : Int) - 1)) && (decide (x4.Min ≠ 0) || decide (x4.Max ≠ 0))))))))
theorem af7 (S : bD) (w : World) (l0 : Layout) (aj : ak.R Layout) (p0 : Plan) (ah : ak.R Plan) (fq : Line) (wS : ak.R Line) (k0 : Int) (y : Int) (hM : Ez l0 p0 fq k0 = some y) (hS : sB S w) (dH : ak.ok S w aj l0) (eu : ak.ok S w ah p0) (ab8 : ak.ok S w wS fq) :
    Calls Tryz.prog 86 #[.agg (iy l0 aj), .agg (jT p0 ah), .agg (OM fq wS), vI k0] w (bW w (vI y)) := by
 refine bR (args := [_, _, _, _]) Tryz.func86 rfl ((pre_nil hS).start |>.jw dH|>.kD eu|>.gQ (α := List fV) (r := wS) (x := fq.bq) ab8) rfl ?_; unfold Ez at hM; refine sr ?_; refine aF (bU (l := (bK l0 aj)) (k := fun b1 => ?_)); refine aF (bU (l := (dO p0 ah)) (k := fun b2 => ?_))
 refine aF (bU (l := (iW fq wS)) (k := fun b3 => ?_)); refine oa ?_; refine on ?_; refine sr ?_; refine oe (ay 3) ?_; refine oe (aC (b := b3)) ?_; refine om ?_; obtain ⟨x4, hx5, hM⟩ := bind_some hM; refine oe (bA (xs := fq.bq) 4 (kG fq.bq wS) (iS hx5)) ?_; refine oe (dU (m := 4) (i := k0) (xs := fq.bq) (y := x4) (l := (p8 x4)) 0 (kG fq.bq wS) (fun _ => hx5)) ?_; refine aF (bQ rfl (k := fun b6 => ?_)); refine aF (bI (b := b6) (vs := (p8 x4)) (k := ?_)); refine on ?_; refine aD fun K3 hK3 => ?_; refine bf ?_; refine iH (γ := Bool × Unit) (env := fun (Le, _) => [(3, eI k0), (4, eP b1), (5, eP b2), (6, eP b3), (9, eP b6), (16, .v (.bool Le))]) (mem := fun (Le, _) => [iL l0.aX aj.1, iL l0.bF aj.2.1, iL l0.Sections aj.2.2.1, iL l0.Links aj.2.2.2, own b1 26 (bK l0 aj), iL p0.aY ah.1, iL p0.Routes ah.2.1, iL p0.Lines ah.2.2.1, iL p0.Changes ah.2.2.2.1, iL p0.Turns ah.2.2.2.2.1, iL p0.bT ah.2.2.2.2.2.1, iL p0.bS ah.2.2.2.2.2.2, own b2 35 (dO p0 ah), iL fq.bq wS, own b3 56 (iW fq wS), own b6 58 (p8 x4)]) (R := fun g => vN p0 x4 fq l0 k0 g.1 = some y) ?_ ?_
 · intro wm eY; refine sr ?_; refine oe (ay 0) ?_; refine oe (aC (b := b6)) ?_; refine oe bN ?_; refine oa ?_; refine on ?_; refine cc rfl hM (fun I5 hM => ?_) (fun I5 hM => ?_)
   · refine aM (eY ((decide (x4.aV < 0)), ()) _ _ hM ⟨rfl, rfl, rfl, rfl, rfl, rfl, trivial⟩ rI)
   refine sr ?_; refine oe (ay 0) ?_; refine oe (aC (b := b6)) ?_; refine oe (ay 2) ?_; refine oe (aC (b := b2)) ?_; refine oe bE ?_; refine oe gW ?_; refine oa ?_; refine on ?_; refine cc rfl hM (fun hc24 hM => ?_) (fun hc24 hM => ?_)
   · refine aM (eY ((decide ((p0.Routes.length : Int) ≤ x4.aV)), ()) _ _ hM ⟨rfl, rfl, rfl, rfl, rfl, rfl, trivial⟩ rI)
   refine sr ?_; refine oe (ay 1) ?_; refine oe (aC (b := b6)) ?_; refine oe bN ?_; refine oa ?_; refine on ?_; refine cc rfl hM (fun hc25 hM => ?_) (fun hc25 hM => ?_)
   · refine aM (eY ((decide (x4.Extra < 0)), ()) _ _ hM ⟨rfl, rfl, rfl, rfl, rfl, rfl, trivial⟩ rI)
   refine sr ?_; refine oe (ay 1) ?_; refine oe (aC (b := b6)) ?_; refine oe (ay 0) ?_; refine oe (aC (b := b2)) ?_; refine oe gW ?_; refine oa ?_; refine on ?_; refine cc rfl hM (fun Qh hM => ?_) (fun Qh hM => ?_)
   · refine aM (eY ((decide (p0.dW ≤ x4.Extra)), ()) _ _ hM ⟨rfl, rfl, rfl, rfl, rfl, rfl, trivial⟩ rI)
   refine sr ?_; refine oe (bH (b := b2)) ?_; refine oe (ay 2) ?_; refine oe (aC (b := b6)) ?_; refine oe (ay 3) ?_; refine oe (aC (b := b6)) ?_; obtain ⟨y27, hy28, hM⟩ := bind_some hM; refine aF (bg (fun w hm => let ⟨S, hs⟩ := hm; Rf _ w p0 ah x4.Min x4.Max y27 hy28 (aT hs) ⟨(kM hs), (kM hs), (kM hs), (kM hs), (kM hs), (kM hs), (kM hs)⟩) ?_); refine oe dN ?_; refine oa ?_; refine on ?_; refine cc rfl hM (fun hc29 hM => ?_) (fun hc29 hM => ?_)
   · refine aM (eY ((!y27), ()) _ _ hM ⟨rfl, rfl, rfl, rfl, rfl, rfl, trivial⟩ rI)
   refine aR ?_; refine om ?_; refine oe (ay 3) ?_; refine oe (aC (b := b3)) ?_; refine oe bE ?_; obtain ⟨PU, hM⟩ := bO hM; refine oe (jo (hr := fun hg => dn PU)) ?_; refine oe dS ?_; refine om ?_; refine av rfl (ay 2) ?_; refine av rfl (aC (b := b6)) ?_; refine av rfl fB ?_; refine av rfl aG ?_; refine av rfl (ay 3) ?_; refine av rfl (aC (b := b6)) ?_; refine av rfl fB ?_; refine av rfl dw ?_; refine oe cO ?_; refine oa ?_; refine aU (eY ((decide (k0 = ((fq.bq.length : Int) - 1)) && (decide (x4.Min ≠ 0) || decide (x4.Max ≠ 0))), ()) _ _ hM ⟨rfl, rfl, rfl, rfl, rfl, rfl, trivial⟩ rI)
 clear hM; intro g hM; obtain ⟨Le, ⟨⟩⟩ := g; dsimp only at hM ⊢; dsimp only [vN] at hM; refine cc rfl hM (fun ku hM => ?_) (fun ku hM => ?_)
 · refine sr ?_; refine oa ?_; refine on ?_; obtain rfl := some_inj hM; refine aL (aZ (fun w hm => aW hm rfl))
 refine aM (hK3 _ _ ?_); clear hK3; refine aD fun K5 cu => ?_; refine aD fun K6 cK => ?_; refine fA _ (List.Sublist.refl _) ?_; refine au 0 rfl (bH (b := b1)) ?_; refine au 1 rfl (ay 2) ?_; refine au 2 rfl (aC (b := b2)) ?_; refine au 3 rfl (ay 0) ?_; refine au 4 rfl (aC (b := b6)) ?_; obtain ⟨x8, DL, hM⟩ := bind_some hM; refine au 5 rfl (bA (xs := p0.Routes) 2 (kG p0.Routes ah.2.1) (iS DL)) ?_; refine au 6 rfl (dU (m := 2) (i := x4.aV) (xs := p0.Routes) (y := x8) (l := (gJ x8 (ah.2.1.es x4.aV.toNat))) 0 (kG p0.Routes ah.2.1) (fun _ => DL)) ?_; refine au 7 rfl (ay 1) ?_; refine au 8 rfl (aC (b := b2)) ?_; refine au 9 rfl (ay 1) ?_; refine au 10 rfl (aC (b := b3)) ?_; obtain ⟨x10, oN, hM⟩ := bind_some hM; refine au 11 rfl (bA (xs := p0.aY) 5 (kG p0.aY ah.1) (iS oN)) ?_; refine au 12 rfl (dU (m := 5) (i := fq.bL) (xs := p0.aY) (y := x10) (l := (mg x10)) 0 (kG p0.aY ah.1) (fun _ => oN)) ?_; obtain ⟨pq, BI, hM⟩ := bind_some hM; refine bB 13 rfl (bg (fun w hm => let ⟨S, hs⟩ := hm; aaC _ w l0 aj x8 (ah.2.1.es x4.aV.toNat) x10 pq BI (aT hs) ⟨(kM hs), (kM hs), (kM hs), (kM hs)⟩ (Kn.lend ((Sk.elem (Sk.dJ (α := List aV) (r := ah.2.1) (x := p0.Routes) hA) DL)).kn hs)) ⟨rI, ?_⟩)
 refine au 14 rfl bX ?_; refine dG (cK _ _ ?_); clear cK; refine sr ?_; refine om ?_; refine oe fB ?_; refine on ?_; refine cc rfl hM (fun qx hM => ?_) (fun qx hM => ?_)
 · refine sr ?_; refine om ?_; refine oa ?_; refine on ?_; obtain rfl := some_inj hM; refine aL (aZ (fun w hm => aW hm rfl))
 refine aM (cu _ _ ?_); clear cu; refine aD fun K9 eZ => ?_; refine aD fun pE gu => ?_; refine fA _ (List.Sublist.refl _) ?_; refine au 0 rfl aG ?_; refine au 1 rfl fP ?_; refine au 2 rfl aG ?_; refine dQ 3 rfl rfl (bH (b := b2)) ?_; refine dQ 4 rfl rfl (bH (b := b6)) ?_; refine dQ 6 rfl rfl (bH (b := b2)) ?_; refine dQ 7 rfl rfl (ay 3) ?_; refine dQ 8 rfl rfl (aC (b := b3)) ?_; refine dQ 9 rfl rfl aG ?_; obtain ⟨PG, hM⟩ := bO hM; refine dQ 10 rfl rfl (jo (hr := fun hg => dn (uV PG hg))) ?_; obtain ⟨mM, Jg, hM⟩ := bind_some hM; refine dQ 11 rfl rfl (bA (xs := fq.bq) 4 (kG fq.bq wS) (fun hg => let h := lg (dM Jg hg); ⟨h.1, h.2.1⟩)) ?_; refine dQ 12 rfl rfl (dU (m := 4) (i := (k0 - 1)) (xs := fq.bq) (y := mM) (l := (p8 mM)) 0 (kG fq.bq wS) (fun hg => dM Jg hg)) ?_; obtain ⟨iw, qB, hM⟩ := bind_some hM; refine Hu 5 rfl rfl (fun hg w hm => let ⟨S, hs⟩ := hm; Rn _ w p0 ah x4 iw (dM qB hg) (aT hs) ⟨(kM hs), (kM hs), (kM hs), (kM hs), (kM hs), (kM hs), (kM hs)⟩) ?_; obtain ⟨y20, vB, hM⟩ := bind_some hM; refine Hu 13 rfl rfl (fun hg w hm => let ⟨S, hs⟩ := hm; Ro _ w p0 ah mM y20 (dM vB hg) (aT hs) ⟨(kM hs), (kM hs), (kM hs), (kM hs), (kM hs), (kM hs), (kM hs)⟩) ?_
 refine dQ 14 rfl rfl fB ?_; refine au 15 rfl cO ?_; refine dG (gu _ _ ?_); clear gu; refine cc rfl hM (fun hc22 hM => ?_) (fun hc22 hM => ?_)
 · refine sr ?_; refine oa ?_; refine on ?_; obtain rfl := some_inj hM; refine aL (aZ (fun w hm => aW hm rfl))
 refine aM (eZ _ _ ?_); clear eZ; refine sr ?_; refine oa ?_; refine on ?_; obtain rfl := some_inj hM; refine aL (aZ (fun w hm => aW hm rfl))
def XI (aQ : Nat → Option Int) (fH : Nat) : Unit → Option Int := fun _ =>
  aQ (fH + 1)
def Ew (x5 : Line) (l0 : Layout) (p0 : Plan) (aQ : Nat → Option Int) (fH : Nat) (iA : Nat → Option Int) : Nat → Option Int := fun yY =>
  if decide ((yY : Int) < (x5.bq.length : Int)) then
    ((Ez l0 p0 x5 (yY : Int)).bind fun y21 =>
    if decide (y21 ≠ 0) then
      (some y21)
    else
      (iA (yY + 1)))
  else
    (XI aQ fH ())
def Ce (x5 : Line) (l0 : Layout) (p0 : Plan) (aQ : Nat → Option Int) (fH : Nat) : Bool → Option Int := fun Lh =>
  if Lh then
    (some 4)
  else
    (if decide ((x5.bq.length : Int) = 0) then
      (some 1)
    else
      (iter (Ew x5 l0 p0 aQ fH) FUEL 0))
def XH : Unit → Option Int := fun _ =>
  some 0
def JM (p0 : Plan) (l0 : Layout) (aQ : Nat → Option Int) : Nat → Option Int := fun fH =>
  if decide ((fH : Int) < (p0.Lines.length : Int)) then
    ((idx p0.Lines (fH : Int)).bind fun x5 =>
    (GK x5.Name).bind fun y8 =>
    if (!y8) then
      (some 3)
    else
      ((sub p0.Lines 0 (fH : Int)).bind fun BP =>
      (KS BP x5).bind fun bV =>
      if bV then
        (some 5)
      else
        (if decide (x5.bL < 0) then
          (Ce x5 l0 p0 aQ fH (decide (x5.bL < 0)))
        else
          (if decide ((p0.aY.length : Int) ≤ x5.bL) then
            (Ce x5 l0 p0 aQ fH (decide ((p0.aY.length : Int) ≤ x5.bL)))
          else
            ((JU x5.Weight).bind fun ko =>
            Ce x5 l0 p0 aQ fH (!ko))))))
  else
    (XH ())
def Ey (l0 : Layout) (p0 : Plan) : Option Int :=
  iter (JM p0 l0) FUEL 0
theorem af6 (S : bD) (w : World) (l0 : Layout) (aj : ak.R Layout) (p0 : Plan) (ah : ak.R Plan) (y : Int) (hM : Ey l0 p0 = some y) (hS : sB S w) (dH : ak.ok S w aj l0) (eu : ak.ok S w ah p0) :
    Calls Tryz.prog 35 #[.agg (iy l0 aj), .agg (jT p0 ah)] w (bW w (vI y)) := by
 refine bR (args := [_, _]) Tryz.func35 rfl ((pre_nil hS).start |>.jw dH|>.kD eu) rfl ?_; unfold Ey at hM; refine sr ?_; refine aF (bU (l := (bK l0 aj)) (k := fun b1 => ?_)); refine aF (bU (l := (dO p0 ah)) (k := fun b2 => ?_))
 refine oa ?_; refine on ?_; refine aD fun K2 hK2 => ?_; refine sr ?_; refine oe (ay 3) ?_; refine oe (aC (b := b2)) ?_; refine jS (fun w hm => Kn.len (kG p0.Lines ah.2.2.1) hm) fun hl3 => ?_; refine oe bE ?_; refine om ?_; refine on ?_; refine bf ?_; refine dF (γ := Nat × Nat × Unit) (env := fun (_, fH, _) => [(2, eP b1), (3, eP b2), (10, eS ah.2.2.1 p0.Lines), (11, eI (p0.Lines.length : Int)), (12, eI (fH : Int))]) (mem := fun (_, fH, _) => [iL l0.aX aj.1, iL l0.bF aj.2.1, iL l0.Sections aj.2.2.1, iL l0.Links aj.2.2.2, own b1 26 (bK l0 aj), iL p0.aY ah.1, iL p0.Routes ah.2.1, iL p0.Lines ah.2.2.1, iL p0.Changes ah.2.2.2.1, iL p0.Turns ah.2.2.2.2.1, iL p0.bT ah.2.2.2.2.2.1, iL p0.bS ah.2.2.2.2.2.2, own b2 35 (dO p0 ah)]) (R := fun g => iter (JM p0 l0) g.1 g.2.1 = some y) (μ := fun g => g.1) (FUEL, 0, ()) hM ⟨rfl, rfl, rfl, rfl, rfl, trivial⟩ rI ?_
 clear hM; intro g hM gy hL1; obtain ⟨bJ, fH, ⟨⟩⟩ := g; dsimp only at hM ⊢; obtain ⟨bJ, aQ, rfl, dz, hM⟩ := dL hM; dsimp only [JM] at hM; refine sr ?_; refine oe bN ?_; refine on ?_; refine aD fun K5 cu => ?_; refine cc rfl hM (fun hc4 hM => ?_) (fun hc4 hM => ?_)
 · have zO := of_decide_eq_true hc4; refine aM (cu _ _ ?_); clear cu; refine aD fun K6 cK => ?_; refine bf ?_; refine sr ?_; refine om ?_; obtain ⟨x5, hx6, hM⟩ := bind_some hM; refine oe (bA (xs := p0.Lines) 4 (kG p0.Lines ah.2.2.1) (iS hx6)) ?_; refine oe (dU (m := 4) (i := (fH : Int)) (xs := p0.Lines) (y := x5) (l := (iW x5 (ah.2.2.1.es (fH : Int).toNat))) 0 (kG p0.Lines ah.2.2.1) (fun _ => hx6)) ?_; refine aF (bQ rfl (k := fun b7 => ?_)); refine oa ?_; refine aF (bI (b := b7) (vs := (iW x5 (ah.2.2.1.es (fH : Int).toNat))) (k := ?_)); refine on ?_; refine aD fun K8 fE => ?_; refine bf ?_; refine sr ?_; refine oe (ay 0) ?_; refine oe (aC (b := b7)) ?_; obtain ⟨y8, nM, hM⟩ := bind_some hM; refine aF (bg (fun w hm => let ⟨S, hs⟩ := hm; aai _ w x5.Name y8 nM (aT hs) ) ?_); refine oe dN ?_; refine oa ?_; refine on ?_; refine cc rfl hM (fun pV hM => ?_) (fun pV hM => ?_)
   · refine sr ?_; refine oa ?_; refine on ?_; obtain rfl := some_inj hM; refine aL (aZ (fun w hm => aW hm rfl))
   refine sr ?_; refine oe (ay 3) ?_; refine oe (aC (b := b2)) ?_; refine om ?_; obtain ⟨BP, hl12, hM⟩ := bind_some hM; refine aF (Gs (r := ah.2.2.1) (xs := p0.Lines) (ol := none) (oh := some (.i64, (fH : Int))) (Sk.dJ (α := List Line) (r := ah.2.2.1) (x := p0.Lines) hA) hl12 (fun tL => ?_)); refine oe Pp ?_; obtain ⟨bV, oO, hM⟩ := bind_some hM; refine aF (bg (fun w hm => let ⟨S, hs⟩ := hm; ahm _ w BP tL b7 x5 (ah.2.2.1.es (fH : Int).toNat) bV oO (aT hs) (kM hs) (Rb hA hs) (Kn.lend ((Sk.elem (Sk.dJ (α := List Line) (r := ah.2.2.1) (x := p0.Lines) hA) hx6)).kn hs)) ?_); refine oa ?_; refine on ?_; refine cc rfl hM (fun hc16 hM => ?_) (fun hc16 hM => ?_)
   · refine sr ?_; refine oa ?_; refine on ?_; obtain rfl := some_inj hM; refine aL (aZ (fun w hm => aW hm rfl))
   refine iH (γ := Bool × Unit) (env := fun (Lh, _) => [(2, eP b1), (3, eP b2), (6, eP b7), (10, eS ah.2.2.1 p0.Lines), (11, eI (p0.Lines.length : Int)), (12, eI (fH : Int)), (29, .v (.bool Lh))]) (mem := fun (Lh, _) => [iL l0.aX aj.1, iL l0.bF aj.2.1, iL l0.Sections aj.2.2.1, iL l0.Links aj.2.2.2, own b1 26 (bK l0 aj), iL p0.aY ah.1, iL p0.Routes ah.2.1, iL p0.Lines ah.2.2.1, iL p0.Changes ah.2.2.2.1, iL p0.Turns ah.2.2.2.2.1, iL p0.bT ah.2.2.2.2.2.1, iL p0.bS ah.2.2.2.2.2.2, own b2 35 (dO p0 ah), own b7 56 (iW x5 (ah.2.2.1.es (fH : Int).toNat))]) (R := fun g => Ce x5 l0 p0 aQ fH g.1 = some y) ?_ ?_
   · intro A9 hJ3; refine sr ?_; refine oe (ay 1) ?_; refine oe (aC (b := b7)) ?_; refine oe bN ?_; refine oa ?_; refine on ?_; refine cc rfl hM (fun hc24 hM => ?_) (fun hc24 hM => ?_)
     · refine aM (hJ3 ((decide (x5.bL < 0)), ()) _ _ hM ⟨rfl, rfl, rfl, rfl, rfl, rfl, rfl, trivial⟩ rI)
     refine sr ?_; refine oe (ay 1) ?_; refine oe (aC (b := b7)) ?_; refine oe (ay 1) ?_; refine oe (aC (b := b2)) ?_; refine oe bE ?_; refine oe gW ?_; refine oa ?_; refine on ?_; refine cc rfl hM (fun hc25 hM => ?_) (fun hc25 hM => ?_)
     · refine aM (hJ3 ((decide ((p0.aY.length : Int) ≤ x5.bL)), ()) _ _ hM ⟨rfl, rfl, rfl, rfl, rfl, rfl, rfl, trivial⟩ rI)
     refine aR ?_; refine oe (ay 2) ?_; refine oe (aC (b := b7)) ?_; obtain ⟨ko, hy27, hM⟩ := bind_some hM; refine aF (bg (fun w hm => let ⟨S, hs⟩ := hm; XO _ w x5.Weight ko hy27 (aT hs) ) ?_); refine oe dN ?_; refine oa ?_; refine aU (hJ3 ((!ko), ()) _ _ hM ⟨rfl, rfl, rfl, rfl, rfl, rfl, rfl, trivial⟩ rI)
   clear hM; intro g hM; obtain ⟨Lh, ⟨⟩⟩ := g; dsimp only at hM ⊢; dsimp only [Ce] at hM; refine cc rfl hM (fun hc17 hM => ?_) (fun hc17 hM => ?_)
   · refine sr ?_; refine oa ?_; refine on ?_; obtain rfl := some_inj hM; refine aL (aZ (fun w hm => aW hm rfl))
   refine sr ?_; refine oe (ay 3) ?_; refine oe (aC (b := b7)) ?_; refine oe bE ?_; refine oe dS ?_; refine oa ?_; refine on ?_; refine cc rfl hM (fun hc18 hM => ?_) (fun hc18 hM => ?_)
   · refine sr ?_; refine oa ?_; refine on ?_; obtain rfl := some_inj hM; refine aL (aZ (fun w hm => aW hm rfl))
   refine aM (fE _ _ ?_); clear fE; refine sr ?_; refine oe (ay 3) ?_; refine oe (aC (b := b7)) ?_; refine jS (fun w hm => Kn.len ((Sk.elem (Sk.dJ (α := List Line) (r := ah.2.2.1) (x := p0.Lines) hA) hx6)).kn hm) fun air => ?_; refine oe bE ?_; refine om ?_; refine on ?_; refine bf ?_; refine dF (γ := Nat × Nat × Unit) (env := fun (_, yY, _) => [(2, eP b1), (3, eP b2), (6, eP b7), (10, eS ah.2.2.1 p0.Lines), (11, eI (p0.Lines.length : Int)), (12, eI (fH : Int)), (50, eI (x5.bq.length : Int)), (51, eI (yY : Int))]) (mem := fun (_, yY, _) => [iL l0.aX aj.1, iL l0.bF aj.2.1, iL l0.Sections aj.2.2.1, iL l0.Links aj.2.2.2, own b1 26 (bK l0 aj), iL p0.aY ah.1, iL p0.Routes ah.2.1, iL p0.Lines ah.2.2.1, iL p0.Changes ah.2.2.2.1, iL p0.Turns ah.2.2.2.2.1, iL p0.bT ah.2.2.2.2.2.1, iL p0.bS ah.2.2.2.2.2.2, own b2 35 (dO p0 ah), own b7 56 (iW x5 (ah.2.2.1.es (fH : Int).toNat))]) (R := fun g => iter (Ew x5 l0 p0 aQ fH) g.1 g.2.1 = some y) (μ := fun g => g.1) (FUEL, 0, ()) hM ⟨rfl, rfl, rfl, rfl, rfl, rfl, rfl, rfl, trivial⟩ rI ?_
   clear hM; intro g hM uP hL2; obtain ⟨jI, yY, ⟨⟩⟩ := g; dsimp only at hM ⊢; obtain ⟨jI, iA, rfl, mH, hM⟩ := dL hM; dsimp only [Ew] at hM; refine sr ?_; refine oe bN ?_; refine on ?_; refine aD fun G9 oJ => ?_; refine cc rfl hM (fun wH hM => ?_) (fun wH hM => ?_)
   · have ah9 := of_decide_eq_true wH; refine aM (oJ _ _ ?_); clear oJ; refine aD fun ze kQ => ?_; refine bf ?_; refine sr ?_; refine om ?_; refine oa ?_; refine on ?_; refine sr ?_; refine oe (bH (b := b1)) ?_; refine oe (bH (b := b2)) ?_; refine oe (bH (b := b7)) ?_; refine om ?_; obtain ⟨y21, QH, hM⟩ := bind_some hM; refine aF (bg (fun w hm => let ⟨S, hs⟩ := hm; af7 _ w l0 aj p0 ah x5 (ah.2.2.1.es (fH : Int).toNat) (yY : Int) y21 QH (aT hs) ⟨(kM hs), (kM hs), (kM hs), (kM hs)⟩ ⟨(kM hs), (kM hs), (kM hs), (kM hs), (kM hs), (kM hs), (kM hs)⟩ (Kn.lend ((Sk.elem (Sk.dJ (α := List Line) (r := ah.2.2.1) (x := p0.Lines) hA) hx6)).kn hs)) ?_); refine oa ?_; refine on ?_; refine sr ?_; refine om ?_; refine oe fB ?_; refine on ?_; refine cc rfl hM (fun I5 hM => ?_) (fun I5 hM => ?_)
     · refine sr ?_; refine om ?_; refine oa ?_; refine on ?_; obtain rfl := some_inj hM; refine aL (aZ (fun w hm => aW hm rfl))
     refine aM (kQ _ _ ?_); clear kQ; refine aR ?_; refine oe (dh (hr := fun _ => by unfold eB; omega)) ?_; refine om ?_; refine aU (hL2 (jI, (yY + 1), ()) _ _ (eqc mH hM) (Nat.lt_succ_self _) ⟨rfl, rfl, rfl, rfl, rfl, rfl, rfl, rfl, trivial⟩ rI)
   refine dD (cK _ _ ?_); clear cK; dsimp only [XI] at hM; refine aR ?_; refine oe (dh (hr := fun _ => by unfold eB; omega)) ?_; refine om ?_; refine aU (hL1 (bJ, (fH + 1), ()) _ _ (eqc dz hM) (Nat.lt_succ_self _) ⟨rfl, rfl, rfl, rfl, rfl, trivial⟩ rI)
 refine dD (hK2 _ _ ?_); clear hK2; dsimp only [XH] at hM; refine sr ?_; refine oa ?_; refine on ?_; obtain rfl := some_inj hM; refine aL (aZ (fun w hm => aW hm rfl))
def XF : Unit → Option Int := fun _ =>
  some 0
def JK (p0 : Plan) (l0 : Layout) (aQ : Nat → Option Int) : Nat → Option Int := fun fH =>
  if decide ((fH : Int) < (p0.Changes.length : Int)) then
    ((idx p0.Changes (fH : Int)).bind fun x5 =>
    (Af p0 x5.dX x5.fG).bind fun y8 =>
    (dV (!(!y8)) default (Af p0 x5.fK x5.iN)).bind fun iZ =>
    (dV (!(((!y8) || (!iZ)) || decide (x5.dX = x5.fK))) default (Cc p0 x5.Min x5.Max)).bind fun pq =>
    (dV (!((((!y8) || (!iZ)) || decide (x5.dX = x5.fK)) || (!pq))) default (JU x5.Weight)).bind fun bV =>
    if (((((!y8) || (!iZ)) || decide (x5.dX = x5.fK)) || (!pq)) || (!bV)) then
      (some 4)
    else
      ((idx p0.Lines x5.dX).bind fun iM =>
      (idx iM.bq x5.fG).bind fun Lu =>
      (Cj p0 Lu).bind fun y21 =>
      (idx l0.Sections y21).bind fun x23 =>
      (idx p0.Lines x5.fK).bind fun x25 =>
      (idx x25.bq x5.iN).bind fun x27 =>
      (Ci p0 x27).bind fun y29 =>
      (idx l0.Sections y29).bind fun x31 =>
      if (decide (x23.mE = (-1)) || decide (x23.mE ≠ x31.mE)) then
        (some 11)
      else
        (aQ (fH + 1))))
  else
    (XF ())
def Et (l0 : Layout) (p0 : Plan) : Option Int :=
  iter (JK p0 l0) FUEL 0
theorem af3 (S : bD) (w : World) (l0 : Layout) (aj : ak.R Layout) (p0 : Plan) (ah : ak.R Plan) (y : Int) (hM : Et l0 p0 = some y) (hS : sB S w) (dH : ak.ok S w aj l0) (eu : ak.ok S w ah p0) :
    Calls Tryz.prog 36 #[.agg (iy l0 aj), .agg (jT p0 ah)] w (bW w (vI y)) := by
 refine bR (args := [_, _]) Tryz.func36 rfl ((pre_nil hS).start |>.jw dH|>.kD eu) rfl ?_; unfold Et at hM; refine sr ?_; refine aF (bU (l := (bK l0 aj)) (k := fun b1 => ?_)); refine aF (bU (l := (dO p0 ah)) (k := fun b2 => ?_))
 refine oa ?_; refine on ?_; refine aD fun K2 hK2 => ?_; refine sr ?_; refine oe (ay 4) ?_; refine oe (aC (b := b2)) ?_; refine jS (fun w hm => Kn.len (kG p0.Changes ah.2.2.2.1) hm) fun hl3 => ?_; refine oe bE ?_; refine om ?_; refine on ?_; refine bf ?_; refine dF (γ := Nat × Nat × Unit) (env := fun (_, fH, _) => [(2, eP b1), (3, eP b2), (10, eS ah.2.2.2.1 p0.Changes), (11, eI (p0.Changes.length : Int)), (12, eI (fH : Int))]) (mem := fun (_, fH, _) => [iL l0.aX aj.1, iL l0.bF aj.2.1, iL l0.Sections aj.2.2.1, iL l0.Links aj.2.2.2, own b1 26 (bK l0 aj), iL p0.aY ah.1, iL p0.Routes ah.2.1, iL p0.Lines ah.2.2.1, iL p0.Changes ah.2.2.2.1, iL p0.Turns ah.2.2.2.2.1, iL p0.bT ah.2.2.2.2.2.1, iL p0.bS ah.2.2.2.2.2.2, own b2 35 (dO p0 ah)]) (R := fun g => iter (JK p0 l0) g.1 g.2.1 = some y) (μ := fun g => g.1) (FUEL, 0, ()) hM ⟨rfl, rfl, rfl, rfl, rfl, trivial⟩ rI ?_
 clear hM; intro g hM gy hL1; obtain ⟨bJ, fH, ⟨⟩⟩ := g; dsimp only at hM ⊢; obtain ⟨bJ, aQ, rfl, dz, hM⟩ := dL hM; dsimp only [JK] at hM; refine sr ?_; refine oe bN ?_; refine on ?_; refine aD fun K5 cu => ?_; refine cc rfl hM (fun hc4 hM => ?_) (fun hc4 hM => ?_)
 · have zO := of_decide_eq_true hc4; refine aM (cu _ _ ?_); clear cu; refine aD fun K6 cK => ?_; refine bf ?_; refine sr ?_; obtain ⟨x5, hx6, hM⟩ := bind_some hM; refine oe (bA (xs := p0.Changes) 7 (kG p0.Changes ah.2.2.2.1) (iS hx6)) ?_; refine oe (dU (m := 7) (i := (fH : Int)) (xs := p0.Changes) (y := x5) (l := (wO x5)) 0 (kG p0.Changes ah.2.2.2.1) (fun _ => hx6)) ?_; refine aF (bQ rfl (k := fun b7 => ?_)); refine aF (bI (b := b7) (vs := (wO x5)) (k := ?_)); refine on ?_; refine aD fun K8 fE => ?_; refine sr ?_; refine oe (bH (b := b2)) ?_; refine oe (ay 0) ?_; refine oe (aC (b := b7)) ?_; refine oe (ay 1) ?_; refine oe (aC (b := b7)) ?_; obtain ⟨y8, nM, hM⟩ := bind_some hM; refine aF (bg (fun w hm => let ⟨S, hs⟩ := hm; MQ _ w p0 ah x5.dX x5.fG y8 nM (aT hs) ⟨(kM hs), (kM hs), (kM hs), (kM hs), (kM hs), (kM hs), (kM hs)⟩) ?_); refine oe dN ?_; refine om ?_; refine av rfl (bH (b := b2)) ?_
   refine av rfl (ay 2) ?_; refine av rfl (aC (b := b7)) ?_; refine av rfl (ay 3) ?_; refine av rfl (aC (b := b7)) ?_; obtain ⟨iZ, qz, hM⟩ := bind_some hM; refine iX rfl (fun hg w hm => let ⟨S, hs⟩ := hm; MQ _ w p0 ah x5.fK x5.iN iZ (dM qz hg) (aT hs) ⟨(kM hs), (kM hs), (kM hs), (kM hs), (kM hs), (kM hs), (kM hs)⟩) ?_; refine av rfl dN ?_; refine oe dw ?_; refine om ?_; refine av rfl (ay 0) ?_; refine av rfl (aC (b := b7)) ?_; refine av rfl (ay 2) ?_; refine av rfl (aC (b := b7)) ?_; refine av rfl dS ?_; refine oe dw ?_; refine om ?_; refine av rfl (bH (b := b2)) ?_; refine av rfl (ay 4) ?_; refine av rfl (aC (b := b7)) ?_; refine av rfl (ay 5) ?_; refine av rfl (aC (b := b7)) ?_; obtain ⟨pq, BI, hM⟩ := bind_some hM; refine iX rfl (fun hg w hm => let ⟨S, hs⟩ := hm; Rf _ w p0 ah x5.Min x5.Max pq (dM BI hg) (aT hs) ⟨(kM hs), (kM hs), (kM hs), (kM hs), (kM hs), (kM hs), (kM hs)⟩) ?_; refine av rfl dN ?_; refine oe dw ?_; refine om ?_; refine av rfl (ay 6) ?_; refine av rfl (aC (b := b7)) ?_; obtain ⟨bV, oO, hM⟩ := bind_some hM; refine iX rfl (fun hg w hm => let ⟨S, hs⟩ := hm; XO _ w x5.Weight bV (dM oO hg) (aT hs) ) ?_; refine av rfl dN ?_
   refine oe dw ?_; refine on ?_; refine cc rfl hM (fun hc16 hM => ?_) (fun hc16 hM => ?_)
   · refine sr ?_; refine oa ?_; refine on ?_; obtain rfl := some_inj hM; refine aL (aZ (fun w hm => aW hm rfl))
   refine aM (fE _ _ ?_); clear fE; refine aD fun oG fM => ?_; refine fA _ (List.Sublist.refl _) ?_; refine au 0 rfl (ay 2) ?_; refine au 1 rfl (aC (b := b1)) ?_; refine au 2 rfl (bH (b := b2)) ?_; refine au 3 rfl (ay 3) ?_; refine au 4 rfl (aC (b := b2)) ?_; refine au 5 rfl (ay 0) ?_; refine au 6 rfl (aC (b := b7)) ?_; obtain ⟨iM, sG, hM⟩ := bind_some hM; refine au 7 rfl (bA (xs := p0.Lines) 4 (kG p0.Lines ah.2.2.1) (iS sG)) ?_; refine au 8 rfl (ay 3) ?_; refine au 9 rfl (cZ (i := x5.dX) (xs := p0.Lines) (y := iM) 3 (kG p0.Lines ah.2.2.1) (fun _ => sG)) ?_; refine au 10 rfl (ay 1) ?_; refine au 11 rfl (aC (b := b7)) ?_; obtain ⟨Lu, Wu, hM⟩ := bind_some hM; refine au 12 rfl (bA (xs := iM.bq) 4 ((Sk.elem (Sk.dJ (α := List Line) (r := ah.2.2.1) (x := p0.Lines) hA) sG)).kn (iS Wu)) ?_; refine au 13 rfl (dU (m := 4) (i := x5.fG) (xs := iM.bq) (y := Lu) (l := (p8 Lu)) 0 ((Sk.elem (Sk.dJ (α := List Line) (r := ah.2.2.1) (x := p0.Lines) hA) sG)).kn (fun _ => Wu)) ?_; obtain ⟨y21, QH, hM⟩ := bind_some hM; refine bB 14 rfl (bg (fun w hm => let ⟨S, hs⟩ := hm; Ro _ w p0 ah Lu y21 QH (aT hs) ⟨(kM hs), (kM hs), (kM hs), (kM hs), (kM hs), (kM hs), (kM hs)⟩) ⟨rI, ?_⟩)
   obtain ⟨x23, hx24, hM⟩ := bind_some hM; refine au 15 rfl (bA (xs := l0.Sections) 5 (kG l0.Sections aj.2.2.1) (iS hx24)) ?_; refine au 16 rfl (ay 4) ?_; refine au 17 rfl (cZ (i := y21) (xs := l0.Sections) (y := x23) 4 (kG l0.Sections aj.2.2.1) (fun _ => hx24)) ?_; refine au 18 rfl bX ?_; refine dG (fM _ _ ?_); clear fM; refine aD fun uq iU => ?_; refine fA _ (List.Sublist.refl _) ?_; refine au 0 rfl (ay 2) ?_; refine au 1 rfl (aC (b := b1)) ?_; refine au 2 rfl (bH (b := b2)) ?_; refine au 3 rfl (ay 3) ?_; refine au 4 rfl (aC (b := b2)) ?_; refine au 5 rfl (ay 2) ?_; refine au 6 rfl (aC (b := b7)) ?_; obtain ⟨x25, sH, hM⟩ := bind_some hM; refine au 7 rfl (bA (xs := p0.Lines) 4 (kG p0.Lines ah.2.2.1) (iS sH)) ?_; refine au 8 rfl (ay 3) ?_; refine au 9 rfl (cZ (i := x5.fK) (xs := p0.Lines) (y := x25) 3 (kG p0.Lines ah.2.2.1) (fun _ => sH)) ?_; refine au 10 rfl (ay 3) ?_; refine au 11 rfl (aC (b := b7)) ?_; obtain ⟨x27, hx28, hM⟩ := bind_some hM; refine au 12 rfl (bA (xs := x25.bq) 4 ((Sk.elem (Sk.dJ (α := List Line) (r := ah.2.2.1) (x := p0.Lines) hA) sH)).kn (iS hx28)) ?_; refine au 13 rfl (dU (m := 4) (i := x5.iN) (xs := x25.bq) (y := x27) (l := (p8 x27)) 0 ((Sk.elem (Sk.dJ (α := List Line) (r := ah.2.2.1) (x := p0.Lines) hA) sH)).kn (fun _ => hx28)) ?_
   obtain ⟨y29, QI, hM⟩ := bind_some hM; refine bB 14 rfl (bg (fun w hm => let ⟨S, hs⟩ := hm; Rn _ w p0 ah x27 y29 QI (aT hs) ⟨(kM hs), (kM hs), (kM hs), (kM hs), (kM hs), (kM hs), (kM hs)⟩) ⟨rI, ?_⟩); obtain ⟨x31, hx32, hM⟩ := bind_some hM; refine au 15 rfl (bA (xs := l0.Sections) 5 (kG l0.Sections aj.2.2.1) (iS hx32)) ?_; refine au 16 rfl (ay 4) ?_; refine au 17 rfl (cZ (i := y29) (xs := l0.Sections) (y := x31) 4 (kG l0.Sections aj.2.2.1) (fun _ => hx32)) ?_; refine au 18 rfl bX ?_; refine dG (iU _ _ ?_); clear iU; refine sr ?_; refine om ?_; refine oe dS ?_; refine om ?_; refine av rfl aG ?_; refine av rfl aG ?_; refine av rfl fB ?_; refine oe dw ?_; refine on ?_; refine cc rfl hM (fun Qj hM => ?_) (fun Qj hM => ?_)
   · refine sr ?_; refine oa ?_; refine on ?_; obtain rfl := some_inj hM; refine aL (aZ (fun w hm => aW hm rfl))
   refine aM (cK _ _ ?_); clear cK; refine aR ?_; refine oe (dh (hr := fun _ => by unfold eB; omega)) ?_; refine om ?_; refine aU (hL1 (bJ, (fH + 1), ()) _ _ (eqc dz hM) (Nat.lt_succ_self _) ⟨rfl, rfl, rfl, rfl, rfl, trivial⟩ rI)
 refine dD (hK2 _ _ ?_); clear hK2; dsimp only [XF] at hM; refine sr ?_; refine oa ?_; refine on ?_; obtain rfl := some_inj hM; refine aL (aZ (fun w hm => aW hm rfl))
def MP (p0 : Plan) (aQ : Nat → Option Int) (fH : Nat) : (Str × Int × Int × (List fV) × Str × Int × Int × (List fV)) → Option Int := fun (Mt, Iw, Mv, sJ, Ob, Lj, Oc, wN) =>
  bM (bP ((sJ.length : Int) - 1)) <|
  (idx sJ ((sJ.length : Int) - 1)).bind fun jL =>
  (idx wN 0).bind fun x24 =>
  (Cj p0 jL).bind fun ko =>
  (Ci p0 x24).bind fun y28 =>
  if (decide (ko ≠ y28) || decide (Iw ≠ Lj)) then
    (some 11)
  else
    (aQ (fH + 1))
def XM : Unit → Option Int := fun _ =>
  some 0
def JR (p0 : Plan) (aQ : Nat → Option Int) : Nat → Option Int := fun fH =>
  if decide ((fH : Int) < (p0.Turns.length : Int)) then
    ((idx p0.Turns (fH : Int)).bind fun x5 =>
    (Cg p0 x5.From).bind fun y8 =>
    (dV (!(!y8)) default (Cg p0 x5.To)).bind fun iZ =>
    (dV (!((!y8) || (!iZ))) default (Cc p0 x5.Min x5.Max)).bind fun pq =>
    if (((!y8) || (!iZ)) || (!pq)) then
      (some 4)
    else
      ((sub p0.Turns 0 (fH : Int)).bind fun vE =>
      (KU vE x5).bind fun iw =>
      if iw then
        (some 5)
      else
        ((idx p0.Lines x5.From).bind fun x31 =>
        (idx p0.Lines x5.To).bind fun iq =>
        MP p0 aQ fH (x31.Name, x31.bL, x31.Weight, x31.bq, iq.Name, iq.bL, iq.Weight, iq.bq))))
  else
    (XM ())
def EG (l0 : Layout) (p0 : Plan) : Option Int :=
  iter (JR p0) FUEL 0
theorem agf (S : bD) (w : World) (l0 : Layout) (aj : ak.R Layout) (p0 : Plan) (ah : ak.R Plan) (y : Int) (hM : EG l0 p0 = some y) (hS : sB S w) (dH : ak.ok S w aj l0) (eu : ak.ok S w ah p0) :
    Calls Tryz.prog 37 #[.agg (iy l0 aj), .agg (jT p0 ah)] w (bW w (vI y)) := by
 refine bR (args := [_, _]) Tryz.func37 rfl ((pre_nil hS).start |>.jw dH|>.kD eu) rfl ?_; unfold EG at hM; refine sr ?_; refine aF (bU (l := (bK l0 aj)) (k := fun b1 => ?_)); refine aF (bU (l := (dO p0 ah)) (k := fun b2 => ?_))
 refine oa ?_; refine on ?_; refine aD fun K2 hK2 => ?_; refine sr ?_; refine oe (ay 5) ?_; refine oe (aC (b := b2)) ?_; refine jS (fun w hm => Kn.len (kG p0.Turns ah.2.2.2.2.1) hm) fun hl3 => ?_; refine oe bE ?_; refine om ?_; refine on ?_; refine bf ?_; refine dF (γ := Nat × Nat × Unit) (env := fun (_, fH, _) => [(3, eP b2), (10, eS ah.2.2.2.2.1 p0.Turns), (11, eI (p0.Turns.length : Int)), (12, eI (fH : Int))]) (mem := fun (_, fH, _) => [iL p0.aY ah.1, iL p0.Routes ah.2.1, iL p0.Lines ah.2.2.1, iL p0.Changes ah.2.2.2.1, iL p0.Turns ah.2.2.2.2.1, iL p0.bT ah.2.2.2.2.2.1, iL p0.bS ah.2.2.2.2.2.2, own b2 35 (dO p0 ah)]) (R := fun g => iter (JR p0) g.1 g.2.1 = some y) (μ := fun g => g.1) (FUEL, 0, ()) hM ⟨rfl, rfl, rfl, rfl, trivial⟩ rI ?_
 clear hM; intro g hM gy hL1; obtain ⟨bJ, fH, ⟨⟩⟩ := g; dsimp only at hM ⊢; obtain ⟨bJ, aQ, rfl, dz, hM⟩ := dL hM; dsimp only [JR] at hM; refine sr ?_; refine oe bN ?_; refine on ?_; refine aD fun K5 cu => ?_; refine cc rfl hM (fun hc4 hM => ?_) (fun hc4 hM => ?_)
 · have zO := of_decide_eq_true hc4; refine aM (cu _ _ ?_); clear cu; refine aD fun K6 cK => ?_; refine bf ?_; refine sr ?_; refine om ?_; obtain ⟨x5, hx6, hM⟩ := bind_some hM; refine oe (bA (xs := p0.Turns) 4 (kG p0.Turns ah.2.2.2.2.1) (iS hx6)) ?_; refine oe (dU (m := 4) (i := (fH : Int)) (xs := p0.Turns) (y := x5) (l := (oo x5)) 0 (kG p0.Turns ah.2.2.2.2.1) (fun _ => hx6)) ?_; refine aF (bQ rfl (k := fun b7 => ?_)); refine oa ?_; refine aF (bI (b := b7) (vs := (oo x5)) (k := ?_)); refine on ?_; refine aD fun K8 fE => ?_; refine sr ?_; refine oe (bH (b := b2)) ?_; refine oe (ay 0) ?_; refine oe (aC (b := b7)) ?_; obtain ⟨y8, nM, hM⟩ := bind_some hM; refine aF (bg (fun w hm => let ⟨S, hs⟩ := hm; Rl _ w p0 ah x5.From y8 nM (aT hs) ⟨(kM hs), (kM hs), (kM hs), (kM hs), (kM hs), (kM hs), (kM hs)⟩) ?_); refine oe dN ?_; refine om ?_; refine av rfl (bH (b := b2)) ?_; refine av rfl (ay 1) ?_; refine av rfl (aC (b := b7)) ?_; obtain ⟨iZ, qz, hM⟩ := bind_some hM; refine iX rfl (fun hg w hm => let ⟨S, hs⟩ := hm; Rl _ w p0 ah x5.To iZ (dM qz hg) (aT hs) ⟨(kM hs), (kM hs), (kM hs), (kM hs), (kM hs), (kM hs), (kM hs)⟩) ?_
   refine av rfl dN ?_; refine oe dw ?_; refine om ?_; refine av rfl (bH (b := b2)) ?_; refine av rfl (ay 2) ?_; refine av rfl (aC (b := b7)) ?_; refine av rfl (ay 3) ?_; refine av rfl (aC (b := b7)) ?_; obtain ⟨pq, BI, hM⟩ := bind_some hM; refine iX rfl (fun hg w hm => let ⟨S, hs⟩ := hm; Rf _ w p0 ah x5.Min x5.Max pq (dM BI hg) (aT hs) ⟨(kM hs), (kM hs), (kM hs), (kM hs), (kM hs), (kM hs), (kM hs)⟩) ?_; refine av rfl dN ?_; refine oe dw ?_; refine on ?_; refine cc rfl hM (fun qx hM => ?_) (fun qx hM => ?_)
   · refine sr ?_; refine oa ?_; refine on ?_; obtain rfl := some_inj hM; refine aL (aZ (fun w hm => aW hm rfl))
   refine aM (fE _ _ ?_); clear fE; refine aD fun oG fM => ?_; refine sr ?_; refine oe (ay 5) ?_; refine oe (aC (b := b2)) ?_; refine om ?_; obtain ⟨vE, ac0, hM⟩ := bind_some hM; refine aF (Gs (r := ah.2.2.2.2.1) (xs := p0.Turns) (ol := none) (oh := some (.i64, (fH : Int))) (Sk.dJ (α := List Turn) (r := ah.2.2.2.2.1) (x := p0.Turns) hA) ac0 (fun ES => ?_)); refine oe Pp ?_; obtain ⟨iw, qB, hM⟩ := bind_some hM; refine aF (bg (fun w hm => let ⟨S, hs⟩ := hm; aho _ w vE ES b7 x5 iw qB (aT hs) (kM hs) (Rb hA hs)) ?_); refine on ?_; refine cc rfl hM (fun wH hM => ?_) (fun wH hM => ?_)
   · refine sr ?_; refine oa ?_; refine on ?_; obtain rfl := some_inj hM; refine aL (aZ (fun w hm => aW hm rfl))
   refine aM (fM _ _ ?_); clear fM; refine iH (γ := (Str × Int × Int × (List fV) × Str × Int × Int × (List fV)) × (Nat × Nat)) (env := fun ((Mt, Iw, Mv, sJ, Ob, Lj, Oc, wN), (Bg, Dl)) => [(3, eP b2), (7, eP Bg), (8, eP Dl), (10, eS ah.2.2.2.2.1 p0.Turns), (11, eI (p0.Turns.length : Int)), (12, eI (fH : Int))]) (mem := fun ((Mt, Iw, Mv, sJ, Ob, Lj, Oc, wN), (Bg, Dl)) => [iL p0.aY ah.1, iL p0.Routes ah.2.1, iL p0.Lines ah.2.2.1, iL p0.Changes ah.2.2.2.1, iL p0.Turns ah.2.2.2.2.1, iL p0.bT ah.2.2.2.2.2.1, iL p0.bS ah.2.2.2.2.2.2, own b2 35 (dO p0 ah), iL sJ (ah.2.2.1.es x5.From.toNat), own Bg 56 [.string Mt.ba, vI Iw, vI Mv, sL (ah.2.2.1.es x5.From.toNat) sJ], iL wN (ah.2.2.1.es x5.To.toNat), own Dl 56 [.string Ob.ba, vI Lj, vI Oc, sL (ah.2.2.1.es x5.To.toNat) wN]]) (R := fun g => MP p0 aQ fH g.1 = some y) ?_ ?_
   · intro uO hJ2; refine fA _ (List.Sublist.refl _) ?_; refine au 0 rfl (ay 3) ?_; refine au 1 rfl (aC (b := b2)) ?_; refine au 2 rfl (ay 0) ?_; refine au 3 rfl (aC (b := b7)) ?_; obtain ⟨x31, hx32, hM⟩ := bind_some hM; refine au 4 rfl (bA (xs := p0.Lines) 4 (kG p0.Lines ah.2.2.1) (iS hx32)) ?_; refine au 5 rfl (dU (m := 4) (i := x5.From) (xs := p0.Lines) (y := x31) (l := (iW x31 (ah.2.2.1.es x5.From.toNat))) 0 (kG p0.Lines ah.2.2.1) (fun _ => hx32)) ?_; refine au 6 rfl (ay 3) ?_; refine au 7 rfl (aC (b := b2)) ?_; refine au 8 rfl (ay 1) ?_; refine au 9 rfl (aC (b := b7)) ?_; obtain ⟨iq, hx34, hM⟩ := bind_some hM; refine au 10 rfl (bA (xs := p0.Lines) 4 (kG p0.Lines ah.2.2.1) (iS hx34)) ?_; refine au 11 rfl (dU (m := 4) (i := x5.To) (xs := p0.Lines) (y := iq) (l := (iW iq (ah.2.2.1.es x5.To.toNat))) 0 (kG p0.Lines ah.2.2.1) (fun _ => hx34)) ?_; refine mO 12 13 (⟨_, rfl, rfl, bQ rfl (k := fun UQ => ⟨rI, ?_⟩)⟩) (⟨_, rfl, rfl, bQ rfl (k := fun HV => ⟨rI, ?_⟩)⟩)
     · refine bB 13 rfl (bQ rfl (k := fun zn => ⟨rI, ?_⟩)); refine bB 14 rfl (bI (b := UQ) (vs := (iW x31 (ah.2.2.1.es x5.From.toNat))) (k := ⟨rI, ?_⟩)); refine bB 15 rfl (bI (b := zn) (vs := (iW iq (ah.2.2.1.es x5.To.toNat))) (k := ⟨rI, ?_⟩)); refine xD (fun w hm => hm.vD (α := List fV) (r := (ah.2.2.1.es x5.From.toNat)) (x := x31.bq) (fun S hs => (Sk.elem (Sk.dJ (α := List Line) (r := ah.2.2.1) (x := p0.Lines) hA) hx32) S w hs)) ?_; refine xD (fun w hm => hm.vD (α := List fV) (r := (ah.2.2.1.es x5.To.toNat)) (x := iq.bq) (fun S hs => (Sk.elem (Sk.dJ (α := List Line) (r := ah.2.2.1) (x := p0.Lines) hA) hx34) S w hs)) ?_; refine dG (hJ2 ((x31.Name, x31.bL, x31.Weight, x31.bq, iq.Name, iq.bL, iq.Weight, iq.bq), (UQ, zn)) _ _ hM ⟨rfl, rfl, rfl, rfl, rfl, rfl, trivial⟩ rI)
     refine bB 12 rfl (bQ rfl (k := fun uS => ⟨rI, ?_⟩)); refine bB 14 rfl (bI (b := uS) (vs := (iW x31 (ah.2.2.1.es x5.From.toNat))) (k := ⟨rI, ?_⟩)); refine bB 15 rfl (bI (b := HV) (vs := (iW iq (ah.2.2.1.es x5.To.toNat))) (k := ⟨rI, ?_⟩)); refine xD (fun w hm => hm.vD (α := List fV) (r := (ah.2.2.1.es x5.From.toNat)) (x := x31.bq) (fun S hs => (Sk.elem (Sk.dJ (α := List Line) (r := ah.2.2.1) (x := p0.Lines) hA) hx32) S w hs)) ?_; refine xD (fun w hm => hm.vD (α := List fV) (r := (ah.2.2.1.es x5.To.toNat)) (x := iq.bq) (fun S hs => (Sk.elem (Sk.dJ (α := List Line) (r := ah.2.2.1) (x := p0.Lines) hA) hx34) S w hs)) ?_; refine dG (hJ2 ((x31.Name, x31.bL, x31.Weight, x31.bq, iq.Name, iq.bL, iq.Weight, iq.bq), (uS, HV)) _ _ hM ⟨rfl, rfl, rfl, rfl, rfl, rfl, trivial⟩ rI)
   clear hM; intro g hM; obtain ⟨⟨Mt, Iw, Mv, sJ, Ob, Lj, Oc, wN⟩, ⟨Bg, Dl⟩⟩ := g; dsimp only at hM ⊢; dsimp only [MP] at hM; refine aD fun uN jv => ?_; refine fA _ (List.Sublist.refl _) ?_; refine au 0 rfl (bH (b := b2)) ?_; refine au 1 rfl (ay 3) ?_; refine au 2 rfl (aC (b := Bg)) ?_; refine au 3 rfl (ay 3) ?_; refine au 4 rfl (aC (b := Bg)) ?_; refine au 5 rfl bE ?_; obtain ⟨PL, hM⟩ := bO hM; refine au 6 rfl (jo (hr := fun hg => dn PL)) ?_; obtain ⟨jL, zT, hM⟩ := bind_some hM; refine au 7 rfl (bA (xs := sJ) 4 (kG sJ (ah.2.2.1.es x5.From.toNat)) (iS zT)) ?_; refine au 8 rfl (dU (m := 4) (i := ((sJ.length : Int) - 1)) (xs := sJ) (y := jL) (l := (p8 jL)) 0 (kG sJ (ah.2.2.1.es x5.From.toNat)) (fun _ => zT)) ?_; refine au 10 rfl (bH (b := b2)) ?_; refine au 11 rfl (ay 3) ?_; refine au 12 rfl (aC (b := Dl)) ?_; obtain ⟨x24, hx25, hM⟩ := bind_some hM; refine au 13 rfl (bA (xs := wN) 4 (kG wN (ah.2.2.1.es x5.To.toNat)) (iS hx25)) ?_; refine au 14 rfl (dU (m := 4) (i := 0) (xs := wN) (y := x24) (l := (p8 x24)) 0 (kG wN (ah.2.2.1.es x5.To.toNat)) (fun _ => hx25)) ?_
   obtain ⟨ko, hy27, hM⟩ := bind_some hM; refine bB 9 rfl (bg (fun w hm => let ⟨S, hs⟩ := hm; Ro _ w p0 ah jL ko hy27 (aT hs) ⟨(kM hs), (kM hs), (kM hs), (kM hs), (kM hs), (kM hs), (kM hs)⟩) ⟨rI, ?_⟩); obtain ⟨y28, hy29, hM⟩ := bind_some hM; refine bB 15 rfl (bg (fun w hm => let ⟨S, hs⟩ := hm; Rn _ w p0 ah x24 y28 hy29 (aT hs) ⟨(kM hs), (kM hs), (kM hs), (kM hs), (kM hs), (kM hs), (kM hs)⟩) ⟨rI, ?_⟩); refine au 16 rfl fB ?_; refine au 17 rfl aG ?_; refine dQ 18 rfl rfl (ay 1) ?_; refine dQ 19 rfl rfl (aC (b := Bg)) ?_; refine dQ 20 rfl rfl (ay 1) ?_; refine dQ 21 rfl rfl (aC (b := Dl)) ?_; refine dQ 22 rfl rfl fB ?_; refine au 23 rfl dw ?_; refine dG (jv _ _ ?_); clear jv; refine cc rfl hM (fun zM hM => ?_) (fun zM hM => ?_)
   · refine sr ?_; refine oa ?_; refine on ?_; obtain rfl := some_inj hM; refine aL (aZ (fun w hm => aW hm rfl))
   refine aM (cK _ _ ?_); clear cK; refine aR ?_; refine oe (dh (hr := fun _ => by unfold eB; omega)) ?_; refine om ?_; refine aU (hL1 (bJ, (fH + 1), ()) _ _ (eqc dz hM) (Nat.lt_succ_self _) ⟨rfl, rfl, rfl, rfl, trivial⟩ rI)
 refine dD (hK2 _ _ ?_); clear hK2; dsimp only [XM] at hM; refine sr ?_; refine oa ?_; refine on ?_; obtain rfl := some_inj hM; refine aL (aZ (fun w hm => aW hm rfl))
def XL : Unit → Option Int := fun _ =>
  some 0
def JQ (p0 : Plan) (aQ : Nat → Option Int) : Nat → Option Int := fun dZ =>
  if decide ((dZ : Int) < (p0.bT.length : Int)) then
    ((idx p0.bT (dZ : Int)).bind fun x5 =>
    (Af p0 x5.jA x5.jc).bind fun y8 =>
    (dV (!(!y8)) default (Af p0 x5.jF x5.jh)).bind fun iZ =>
    if (((((!y8) || (!iZ)) || (decide (x5.jA = x5.jF) && decide (x5.jc = x5.jh))) || decide (x5.Offset < 0)) || decide (p0.dW ≤ x5.Offset)) then
      (some 4)
    else
      (aQ (dZ + 1)))
  else
    (XL ())
def EF (l0 : Layout) (p0 : Plan) : Option Int :=
  iter (JQ p0) FUEL 0
theorem agc (S : bD) (w : World) (l0 : Layout) (aj : ak.R Layout) (p0 : Plan) (ah : ak.R Plan) (y : Int) (hM : EF l0 p0 = some y) (hS : sB S w) (dH : ak.ok S w aj l0) (eu : ak.ok S w ah p0) :
    Calls Tryz.prog 38 #[.agg (iy l0 aj), .agg (jT p0 ah)] w (bW w (vI y)) := by
 refine bR (args := [_, _]) Tryz.func38 rfl ((pre_nil hS).start |>.jw dH|>.kD eu) rfl ?_; unfold EF at hM; refine sr ?_; refine aF (bU (l := (bK l0 aj)) (k := fun b1 => ?_)); refine aF (bU (l := (dO p0 ah)) (k := fun b2 => ?_))
 refine oa ?_; refine on ?_; refine aD fun K2 hK2 => ?_; refine sr ?_; refine oe (ay 6) ?_; refine oe (aC (b := b2)) ?_; refine jS (fun w hm => Kn.len (kG p0.bT ah.2.2.2.2.2.1) hm) fun hl3 => ?_; refine oe bE ?_; refine om ?_; refine on ?_; refine bf ?_; refine dF (γ := Nat × Nat × Unit) (env := fun (_, dZ, _) => [(3, eP b2), (8, eS ah.2.2.2.2.2.1 p0.bT), (9, eI (p0.bT.length : Int)), (10, eI (dZ : Int))]) (mem := fun (_, dZ, _) => [iL p0.aY ah.1, iL p0.Routes ah.2.1, iL p0.Lines ah.2.2.1, iL p0.Changes ah.2.2.2.1, iL p0.Turns ah.2.2.2.2.1, iL p0.bT ah.2.2.2.2.2.1, iL p0.bS ah.2.2.2.2.2.2, own b2 35 (dO p0 ah)]) (R := fun g => iter (JQ p0) g.1 g.2.1 = some y) (μ := fun g => g.1) (FUEL, 0, ()) hM ⟨rfl, rfl, rfl, rfl, trivial⟩ rI ?_
 clear hM; intro g hM gy hL1; obtain ⟨bJ, dZ, ⟨⟩⟩ := g; dsimp only at hM ⊢; obtain ⟨bJ, aQ, rfl, dz, hM⟩ := dL hM; dsimp only [JQ] at hM; refine sr ?_; refine oe bN ?_; refine on ?_; refine aD fun K5 cu => ?_; refine cc rfl hM (fun hc4 hM => ?_) (fun hc4 hM => ?_)
 · have zO := of_decide_eq_true hc4; refine aM (cu _ _ ?_); clear cu; refine aD fun K6 cK => ?_; refine bf ?_; refine sr ?_; obtain ⟨x5, hx6, hM⟩ := bind_some hM; refine oe (bA (xs := p0.bT) 5 (kG p0.bT ah.2.2.2.2.2.1) (iS hx6)) ?_; refine oe (dU (m := 5) (i := (dZ : Int)) (xs := p0.bT) (y := x5) (l := (yh x5)) 0 (kG p0.bT ah.2.2.2.2.2.1) (fun _ => hx6)) ?_; refine aF (bQ rfl (k := fun b7 => ?_)); refine aF (bI (b := b7) (vs := (yh x5)) (k := ?_)); refine on ?_; refine sr ?_; refine oe (bH (b := b2)) ?_; refine oe (ay 0) ?_; refine oe (aC (b := b7)) ?_; refine oe (ay 1) ?_; refine oe (aC (b := b7)) ?_; obtain ⟨y8, nM, hM⟩ := bind_some hM; refine aF (bg (fun w hm => let ⟨S, hs⟩ := hm; MQ _ w p0 ah x5.jA x5.jc y8 nM (aT hs) ⟨(kM hs), (kM hs), (kM hs), (kM hs), (kM hs), (kM hs), (kM hs)⟩) ?_); refine oe dN ?_; refine om ?_; refine av rfl (bH (b := b2)) ?_; refine av rfl (ay 2) ?_; refine av rfl (aC (b := b7)) ?_; refine av rfl (ay 3) ?_
   refine av rfl (aC (b := b7)) ?_; obtain ⟨iZ, qz, hM⟩ := bind_some hM; refine iX rfl (fun hg w hm => let ⟨S, hs⟩ := hm; MQ _ w p0 ah x5.jF x5.jh iZ (dM qz hg) (aT hs) ⟨(kM hs), (kM hs), (kM hs), (kM hs), (kM hs), (kM hs), (kM hs)⟩) ?_; refine av rfl dN ?_; refine oe dw ?_; refine om ?_; refine av rfl (ay 0) ?_; refine av rfl (aC (b := b7)) ?_; refine av rfl (ay 2) ?_; refine av rfl (aC (b := b7)) ?_; refine av rfl dS ?_; refine av rfl aG ?_; refine av rfl (ay 1) ?_; refine av rfl (aC (b := b7)) ?_; refine av rfl (ay 3) ?_; refine av rfl (aC (b := b7)) ?_; refine av rfl dS ?_; refine av rfl cO ?_; refine oe dw ?_; refine om ?_; refine av rfl (ay 4) ?_; refine av rfl (aC (b := b7)) ?_; refine av rfl bN ?_; refine oe dw ?_; refine om ?_; refine av rfl (ay 4) ?_; refine av rfl (aC (b := b7)) ?_; refine av rfl (ay 0) ?_; refine av rfl (aC (b := b2)) ?_; refine av rfl gW ?_; refine oe dw ?_; refine on ?_; refine cc rfl hM (fun lK hM => ?_) (fun lK hM => ?_)
   · refine sr ?_; refine oa ?_; refine on ?_; obtain rfl := some_inj hM; refine aL (aZ (fun w hm => aW hm rfl))
   refine aM (cK _ _ ?_); clear cK; refine aR ?_; refine oe (dh (hr := fun _ => by unfold eB; omega)) ?_; refine om ?_; refine aU (hL1 (bJ, (dZ + 1), ()) _ _ (eqc dz hM) (Nat.lt_succ_self _) ⟨rfl, rfl, rfl, rfl, trivial⟩ rI)
 refine dD (hK2 _ _ ?_); clear hK2; dsimp only [XL] at hM; refine sr ?_; refine oa ?_; refine on ?_; obtain rfl := some_inj hM; refine aL (aZ (fun w hm => aW hm rfl))
def XG : Unit → Option Int := fun _ =>
  some 0
def JL (p0 : Plan) (l0 : Layout) (aQ : Nat → Option Int) : Nat → Option Int := fun dZ =>
  if decide ((dZ : Int) < (p0.bS.length : Int)) then
    ((idx p0.bS (dZ : Int)).bind fun x5 =>
    if ((((((decide (x5.From < 0) || decide ((l0.aX.length : Int) ≤ x5.From)) || decide (x5.To < 0)) || decide ((l0.aX.length : Int) ≤ x5.To)) || decide (x5.From = x5.To)) || decide (x5.Weight < 1)) || decide (1048576 < x5.Weight)) then
      (some 4)
    else
      (aQ (dZ + 1)))
  else
    (XG ())
def Eu (l0 : Layout) (p0 : Plan) : Option Int :=
  iter (JL p0 l0) FUEL 0
theorem af4 (S : bD) (w : World) (l0 : Layout) (aj : ak.R Layout) (p0 : Plan) (ah : ak.R Plan) (y : Int) (hM : Eu l0 p0 = some y) (hS : sB S w) (dH : ak.ok S w aj l0) (eu : ak.ok S w ah p0) :
    Calls Tryz.prog 39 #[.agg (iy l0 aj), .agg (jT p0 ah)] w (bW w (vI y)) := by
 refine bR (args := [_, _]) Tryz.func39 rfl ((pre_nil hS).start |>.jw dH|>.kD eu) rfl ?_; unfold Eu at hM; refine sr ?_; refine aF (bU (l := (bK l0 aj)) (k := fun b1 => ?_)); refine aF (bU (l := (dO p0 ah)) (k := fun b2 => ?_))
 refine oa ?_; refine on ?_; refine aD fun K2 hK2 => ?_; refine sr ?_; refine oe (ay 7) ?_; refine oe (aC (b := b2)) ?_; refine jS (fun w hm => Kn.len (kG p0.bS ah.2.2.2.2.2.2) hm) fun hl3 => ?_; refine oe bE ?_; refine om ?_; refine on ?_; refine bf ?_; refine dF (γ := Nat × Nat × Unit) (env := fun (_, dZ, _) => [(2, eP b1), (8, eS ah.2.2.2.2.2.2 p0.bS), (9, eI (p0.bS.length : Int)), (10, eI (dZ : Int))]) (mem := fun (_, dZ, _) => [iL l0.aX aj.1, iL l0.bF aj.2.1, iL l0.Sections aj.2.2.1, iL l0.Links aj.2.2.2, own b1 26 (bK l0 aj), iL p0.bS ah.2.2.2.2.2.2]) (R := fun g => iter (JL p0 l0) g.1 g.2.1 = some y) (μ := fun g => g.1) (FUEL, 0, ()) hM ⟨rfl, rfl, rfl, rfl, trivial⟩ rI ?_; clear hM; intro g hM gy hL1; obtain ⟨bJ, dZ, ⟨⟩⟩ := g; dsimp only at hM ⊢; obtain ⟨bJ, aQ, rfl, dz, hM⟩ := dL hM; dsimp only [JL] at hM; refine aD fun K4 hK4 => ?_
 refine aR ?_; refine oe bN ?_; refine aU (hK4 _ _ ?_); clear hK4; refine aD fun K5 cu => ?_; refine cc rfl hM (fun hc4 hM => ?_) (fun hc4 hM => ?_)
 · have zO := of_decide_eq_true hc4; refine aM (cu _ _ ?_); clear cu; refine aD fun K6 cK => ?_; refine bf ?_; refine sr ?_; obtain ⟨x5, hx6, hM⟩ := bind_some hM; refine oe (bA (xs := p0.bS) 3 (kG p0.bS ah.2.2.2.2.2.2) (iS hx6)) ?_; refine oe (dU (m := 3) (i := (dZ : Int)) (xs := p0.bS) (y := x5) (l := (yc x5)) 0 (kG p0.bS ah.2.2.2.2.2.2) (fun _ => hx6)) ?_; refine aF (bQ rfl (k := fun b7 => ?_)); refine aF (bI (b := b7) (vs := (yc x5)) (k := ?_)); refine on ?_; refine sr ?_; refine oe (ay 0) ?_; refine oe (aC (b := b7)) ?_; refine oe bN ?_; refine om ?_; refine av rfl (ay 0) ?_; refine av rfl (aC (b := b7)) ?_; refine av rfl (ay 0) ?_; refine av rfl (aC (b := b1)) ?_; refine av rfl bE ?_; refine av rfl gW ?_; refine oe dw ?_; refine om ?_; refine av rfl (ay 1) ?_; refine av rfl (aC (b := b7)) ?_; refine av rfl bN ?_; refine oe dw ?_; refine om ?_; refine av rfl (ay 1) ?_; refine av rfl (aC (b := b7)) ?_; refine av rfl (ay 0) ?_; refine av rfl (aC (b := b1)) ?_
   refine av rfl bE ?_; refine av rfl gW ?_; refine oe dw ?_; refine om ?_; refine av rfl (ay 0) ?_; refine av rfl (aC (b := b7)) ?_; refine av rfl (ay 1) ?_; refine av rfl (aC (b := b7)) ?_; refine av rfl dS ?_; refine oe dw ?_; refine om ?_; refine av rfl (ay 2) ?_; refine av rfl (aC (b := b7)) ?_; refine av rfl bN ?_; refine oe dw ?_; refine om ?_; refine av rfl (ay 2) ?_; refine av rfl (aC (b := b7)) ?_; refine av rfl fP ?_; refine oe dw ?_; refine on ?_; refine cc rfl hM (fun hc8 hM => ?_) (fun hc8 hM => ?_)
   · refine sr ?_; refine oa ?_; refine on ?_; obtain rfl := some_inj hM; refine aL (aZ (fun w hm => aW hm rfl))
   refine aM (cK _ _ ?_); clear cK; refine aR ?_; refine oe (dh (hr := fun _ => by unfold eB; omega)) ?_; refine om ?_; refine aU (hL1 (bJ, (dZ + 1), ()) _ _ (eqc dz hM) (Nat.lt_succ_self _) ⟨rfl, rfl, rfl, rfl, trivial⟩ rI)
 refine dD (hK2 _ _ ?_); clear hK2; dsimp only [XG] at hM; refine sr ?_; refine oa ?_; refine on ?_; obtain rfl := some_inj hM; refine aL (aZ (fun w hm => aW hm rfl))
def MO (x : Nat) (l0 : Layout) (p0 : Plan) : Option Int :=
  if x = 32 then EC l0 p0
  else if x = 33 then ED l0 p0
  else if x = 34 then EA l0 p0
  else if x = 35 then Ey l0 p0
  else if x = 36 then Et l0 p0
  else if x = 37 then EG l0 p0
  else if x = 38 then EF l0 p0
  else if x = 39 then Eu l0 p0
  else none
theorem afZ {i : Int} {x : Nat} (h : idx ([32, 33, 34, 35, 36, 37, 38, 39] : List Nat) i = some x) : callable Tryz.prog x = true := by
  have hm := List.mem_of_getElem? (lg h).2.2
  simp only [List.mem_cons, List.not_mem_nil, or_false] at hm
  rcases hm with rfl | rfl | rfl | rfl | rfl | rfl | rfl | rfl
  · exact (show callable Tryz.prog 32 = true by kernel_rfl)
  · exact (show callable Tryz.prog 33 = true by kernel_rfl)
  · exact (show callable Tryz.prog 34 = true by kernel_rfl)
  · exact (show callable Tryz.prog 35 = true by kernel_rfl)
  · exact (show callable Tryz.prog 36 = true by kernel_rfl)
  · exact (show callable Tryz.prog 37 = true by kernel_rfl)
  · exact (show callable Tryz.prog 38 = true by kernel_rfl)
  · exact (show callable Tryz.prog 39 = true by kernel_rfl)
theorem af0 (x : Nat) (S : bD) (w : World) (l0 : Layout) (aj : ak.R Layout) (p0 : Plan) (ah : ak.R Plan) (y : Int) (hM : MO x l0 p0 = some y) (hS : sB S w) (dH : ak.ok S w aj l0) (eu : ak.ok S w ah p0) :
    Calls Tryz.prog x #[.agg (iy l0 aj), .agg (jT p0 ah)] w (bW w (vI y)) := by
  unfold MO at hM
  split at hM
  · rename_i h; subst h; exact af9 S w l0 aj p0 ah y hM hS dH eu
  split at hM
  · rename_i h; subst h; exact agb S w l0 aj p0 ah y hM hS dH eu
  split at hM
  · rename_i h; subst h; exact af8 S w l0 aj p0 ah y hM hS dH eu
  split at hM
  · rename_i h; subst h; exact af6 S w l0 aj p0 ah y hM hS dH eu
  split at hM
  · rename_i h; subst h; exact af3 S w l0 aj p0 ah y hM hS dH eu
  split at hM
  · rename_i h; subst h; exact agf S w l0 aj p0 ah y hM hS dH eu
  split at hM
  · rename_i h; subst h; exact agc S w l0 aj p0 ah y hM hS dH eu
  split at hM
  · rename_i h; subst h; exact af4 S w l0 aj p0 ah y hM hS dH eu
  cases hM
def XC : Unit → Option Int := fun _ =>
  some 0
def JI (l0 : Layout) (p0 : Plan) (aQ : Nat → Option Int) : Nat → Option Int := fun mX =>
  if decide ((mX : Int) < 8) then
    ((idx ([32, 33, 34, 35, 36, 37, 38, 39] : List Nat) (mX : Int)).bind fun x5 =>
    (MO x5 l0 p0).bind fun y7 =>
    if decide (y7 ≠ 0) then
      (some y7)
    else
      (aQ (mX + 1)))
  else
    (XC ())
def BZ (l0 : Layout) (p0 : Plan) : Option Int :=
  iter (JI l0 p0) FUEL 0
theorem Rc (S : bD) (w : World) (l0 : Layout) (aj : ak.R Layout) (p0 : Plan) (ah : ak.R Plan) (y : Int) (hM : BZ l0 p0 = some y) (hS : sB S w) (dH : ak.ok S w aj l0) (eu : ak.ok S w ah p0) :
    Calls Tryz.prog 13 #[.agg (iy l0 aj), .agg (jT p0 ah)] w (bW w (vI y)) := by
 refine bR (args := [_, _]) Tryz.func13 rfl ((pre_nil hS).start |>.jw dH|>.kD eu) rfl ?_; unfold BZ at hM; refine sr ?_; refine aF (bU (l := (bK l0 aj)) (k := fun b1 => ?_)); refine aF (bU (l := (dO p0 ah)) (k := fun b2 => ?_))
 refine oa ?_; refine on ?_; refine sr ?_; refine oe (jE [.func (.func 32) #[] #[], .func (.func 33) #[] #[], .func (.func 34) #[] #[], .func (.func 35) #[] #[], .func (.func 36) #[] #[], .func (.func 37) #[] #[], .func (.func 38) #[] #[], .func (.func 39) #[] #[]]) ?_; refine aF (bQ rfl (k := fun b3 => ?_)); refine aF (bI (b := b3) (vs := [.func (.func 32) #[] #[], .func (.func 33) #[] #[], .func (.func 34) #[] #[], .func (.func 35) #[] #[], .func (.func 36) #[] #[], .func (.func 37) #[] #[], .func (.func 38) #[] #[], .func (.func 39) #[] #[]]) (k := ?_)); refine on ?_; refine aD fun K3 hK3 => ?_; refine sr ?_; refine oe (bH (b := b3)) ?_; refine om ?_; refine on ?_; refine bf ?_; refine dF (γ := Nat × Nat × Unit) (env := fun (_, mX, _) => [(2, eP b1), (3, eP b2), (10, .v (.agg #[.func (.func 32) #[] #[], .func (.func 33) #[] #[], .func (.func 34) #[] #[], .func (.func 35) #[] #[], .func (.func 36) #[] #[], .func (.func 37) #[] #[], .func (.func 38) #[] #[], .func (.func 39) #[] #[]])), (11, eI (mX : Int))]) (mem := fun (_, mX, _) => [iL l0.aX aj.1, iL l0.bF aj.2.1, iL l0.Sections aj.2.2.1, iL l0.Links aj.2.2.2, own b1 26 (bK l0 aj), iL p0.aY ah.1, iL p0.Routes ah.2.1, iL p0.Lines ah.2.2.1, iL p0.Changes ah.2.2.2.1, iL p0.Turns ah.2.2.2.2.1, iL p0.bT ah.2.2.2.2.2.1, iL p0.bS ah.2.2.2.2.2.2, own b2 35 (dO p0 ah)]) (R := fun g => iter (JI l0 p0) g.1 g.2.1 = some y) (μ := fun g => g.1) (FUEL, 0, ()) hM ⟨rfl, rfl, rfl, rfl, trivial⟩ rI ?_
 clear hM; intro g hM gy hL1; obtain ⟨bJ, mX, ⟨⟩⟩ := g; dsimp only at hM ⊢; obtain ⟨bJ, aQ, rfl, dz, hM⟩ := dL hM; dsimp only [JI] at hM; refine sr ?_; refine oe bN ?_; refine on ?_; refine aD fun K6 cK => ?_; refine cc rfl hM (fun hc4 hM => ?_) (fun hc4 hM => ?_)
 · have zO := of_decide_eq_true hc4; refine aM (cK _ _ ?_); clear cK; refine aD fun K7 dI => ?_; refine bf ?_; refine sr ?_; obtain ⟨x5, hx6, hM⟩ := bind_some hM; refine oe (aa9 (xs := ([32, 33, 34, 35, 36, 37, 38, 39] : List Nat)) [.func (.func 32) #[] #[], .func (.func 33) #[] #[], .func (.func 34) #[] #[], .func (.func 35) #[] #[], .func (.func 36) #[] #[], .func (.func 37) #[] #[], .func (.func 38) #[] #[], .func (.func 39) #[] #[]] (fun _ => hx6)) ?_; refine oa ?_; refine on ?_; refine sr ?_; refine om ?_; refine oe (bH (b := b1)) ?_; refine oe (bH (b := b2)) ?_; obtain ⟨y7, BL, hM⟩ := bind_some hM; refine aF (NU (vs := [.agg (iy l0 aj), .agg (jT p0 ah)]) (cap := []) (hf := afZ hx6) (fun w hm => let ⟨S, hs⟩ := hm; af0 x5 _ w l0 aj p0 ah y7 BL (aT hs) ⟨(kM hs), (kM hs), (kM hs), (kM hs)⟩ ⟨(kM hs), (kM hs), (kM hs), (kM hs), (kM hs), (kM hs), (kM hs)⟩) ?_)
   refine oa ?_; refine on ?_; refine sr ?_; refine om ?_; refine oe fB ?_; refine on ?_; refine cc rfl hM (fun nA hM => ?_) (fun nA hM => ?_)
   · refine sr ?_; refine om ?_; refine oa ?_; refine on ?_; obtain rfl := some_inj hM; refine aL (aZ (fun w hm => aW hm rfl))
   refine aM (dI _ _ ?_); clear dI; refine aR ?_; refine oe (dh (hr := fun _ => by unfold eB; omega)) ?_; refine om ?_; refine aU (hL1 (bJ, (mX + 1), ()) _ _ (eqc dz hM) (Nat.lt_succ_self _) ⟨rfl, rfl, rfl, rfl, trivial⟩ rI)
 refine dD (hK3 _ _ ?_); clear hK3; dsimp only [XC] at hM; refine sr ?_; refine oa ?_; refine on ?_; obtain rfl := some_inj hM; refine aL (aZ (fun w hm => aW hm rfl))
end Go.Proofs.YtcalibhfgdncaaaGreatDoor
