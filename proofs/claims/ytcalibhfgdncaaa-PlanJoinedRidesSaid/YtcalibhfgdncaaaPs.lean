/- Models of functions, and that the code computes them. -/
import Derived.Test.YtcalibhfgdncaaaPq
import Derived.Test.YtcalibhfgdncaaaPr
import Derived.Test.YtcalibhfgdncaaaWa
set_option linter.all false
namespace Go.Proofs.Ytcalibhfgdncaaa
open Go.Dc Go.RowKit
set_option maxRecDepth 10000
def PI (p0 : Plan) : Unit → Option Int := fun _ =>
  if (decide (p0.bL < 2) || decide (7200 < p0.bL)) then
    (some 4)
  else
    (some 0)
def EX (p0 : Plan) (bI : Nat → Option Int) : Nat → Option Int := fun wU =>
  if decide ((wU : Int) < (p0.Lines.length : Int)) then
    ((idx p0.Lines (wU : Int)).bind fun x9 =>
    if decide (12 < (x9.ay.length : Int)) then
      (some 7)
    else
      (bI (wU + 1)))
  else
    (PI p0 ())
def wM (p0 : Plan) : Bool → Option Int := fun JB =>
  if JB then
    (some 7)
  else
    (iter (EX p0) FUEL 0)
def EY (l0 : Layout) (p0 : Plan) : Option Int :=
  (Iy l0).bind fun y3 =>
  if decide (y3 ≠ 0) then
    (some 1)
  else
    (if decide (8 < (p0.aT.length : Int)) then
      (wM p0 (decide (8 < (p0.aT.length : Int))))
    else
      (if decide (48 < (p0.Routes.length : Int)) then
        (wM p0 (decide (48 < (p0.Routes.length : Int))))
      else
        (if decide (16 < (p0.Lines.length : Int)) then
          (wM p0 (decide (16 < (p0.Lines.length : Int))))
        else
          (if decide (32 < (p0.Changes.length : Int)) then
            (wM p0 (decide (32 < (p0.Changes.length : Int))))
          else
            (if decide (32 < (p0.Turns.length : Int)) then
              (wM p0 (decide (32 < (p0.Turns.length : Int))))
            else
              (if decide (32 < (p0.aV.length : Int)) then
                (wM p0 (decide (32 < (p0.aV.length : Int))))
              else
                (wM p0 (decide (32 < (p0.aZ.length : Int))))))))))
theorem adf (S : bU) (w : World) (l0 : Layout) (aG : aj.R Layout) (p0 : Plan) (au : aj.R Plan) (y : Int) (hM : EY l0 p0 = some y) (hS : sB S w) (fJ : aj.ok S w aG l0) (gN : aj.ok S w au p0) :
    Calls Try.prog 18 #[.agg (kX l0 aG), .agg (iK p0 au)] w (dQ w (vI y)) := by
 refine dH (args := [_, _]) Try.func18 rfl ((pre_nil hS).start |>.nX fJ|>.oJ gN) rfl ?_; unfold EY at hM; refine sr ?_; refine aM (dU (l := (fq l0 aG)) (k := fun b1 => ?_)); refine aM (dU (l := (dB p0 au)) (k := fun b2 => ?_))
 refine oa ?_; refine on ?_; refine aO fun K2 hK2 => ?_; refine bX ?_; refine sr ?_; refine oe (cu (b := b1)) ?_; obtain ⟨y3, hy4, hM⟩ := bind_some hM; refine aM (bJ (fun w hm => let ⟨S, hs⟩ := hm; UN _ w l0 aG y3 hy4 (bB hs) ⟨(kM hs), (kM hs), (kM hs), (kM hs)⟩) ?_); refine oe jo ?_; refine oa ?_; refine on ?_; refine cc rfl hM (fun mP hM => ?_) (fun mP hM => ?_)
 · refine sr ?_; refine oa ?_; refine on ?_; obtain rfl := some_inj hM; refine bn (bT (fun w hm => bQ hm rfl))
 refine kL (γ := Bool × Unit) (env := fun (JB, _) => [(3, eP b2), (11, .v (.bool JB))]) (mem := fun (JB, _) => [iL p0.aT au.1, iL p0.Routes au.2.1, iL p0.Lines au.2.2.1, iL p0.Changes au.2.2.2.1, iL p0.Turns au.2.2.2.2.1, iL p0.aV au.2.2.2.2.2.1, iL p0.aZ au.2.2.2.2.2.2, own b2 36 (dB p0 au)]) (R := fun g => wM p0 g.1 = some y) ?_ ?_
 · intro vT eF; refine sr ?_; refine oe (aH 1) ?_; refine oe (aN (b := b2)) ?_; refine oe bR ?_; refine oe iH ?_; refine oa ?_; refine on ?_; refine cc rfl hM (fun yV hM => ?_) (fun yV hM => ?_)
   · refine bA (eF ((decide (8 < (p0.aT.length : Int))), ()) _ _ hM ⟨rfl, rfl, trivial⟩ rI)
   refine sr ?_; refine oe (aH 2) ?_; refine oe (aN (b := b2)) ?_; refine oe bR ?_; refine oe iH ?_; refine oa ?_; refine on ?_; refine cc rfl hM (fun xL hM => ?_) (fun xL hM => ?_)
   · refine bA (eF ((decide (48 < (p0.Routes.length : Int))), ()) _ _ hM ⟨rfl, rfl, trivial⟩ rI)
   refine sr ?_; refine oe (aH 3) ?_; refine oe (aN (b := b2)) ?_; refine oe bR ?_; refine oe iH ?_; refine oa ?_; refine on ?_; refine cc rfl hM (fun hc16 hM => ?_) (fun hc16 hM => ?_)
   · refine bA (eF ((decide (16 < (p0.Lines.length : Int))), ()) _ _ hM ⟨rfl, rfl, trivial⟩ rI)
   refine sr ?_; refine oe (aH 4) ?_; refine oe (aN (b := b2)) ?_; refine oe bR ?_; refine oe iH ?_; refine oa ?_; refine on ?_; refine cc rfl hM (fun hc17 hM => ?_) (fun hc17 hM => ?_)
   · refine bA (eF ((decide (32 < (p0.Changes.length : Int))), ()) _ _ hM ⟨rfl, rfl, trivial⟩ rI)
   refine sr ?_; refine oe (aH 5) ?_; refine oe (aN (b := b2)) ?_; refine oe bR ?_; refine oe iH ?_; refine oa ?_; refine on ?_; refine cc rfl hM (fun hc18 hM => ?_) (fun hc18 hM => ?_)
   · refine bA (eF ((decide (32 < (p0.Turns.length : Int))), ()) _ _ hM ⟨rfl, rfl, trivial⟩ rI)
   refine sr ?_; refine oe (aH 6) ?_; refine oe (aN (b := b2)) ?_; refine oe bR ?_; refine oe iH ?_; refine oa ?_; refine on ?_; refine cc rfl hM (fun hc19 hM => ?_) (fun hc19 hM => ?_)
   · refine bA (eF ((decide (32 < (p0.aV.length : Int))), ()) _ _ hM ⟨rfl, rfl, trivial⟩ rI)
   refine bE ?_; refine oe (aH 7) ?_; refine oe (aN (b := b2)) ?_; refine oe bR ?_; refine oe iH ?_; refine oa ?_; refine bF (eF ((decide (32 < (p0.aZ.length : Int))), ()) _ _ hM ⟨rfl, rfl, trivial⟩ rI)
 clear hM; intro g hM; obtain ⟨JB, ⟨⟩⟩ := g; dsimp only at hM ⊢; dsimp only [wM] at hM; refine cc rfl hM (fun hc6 hM => ?_) (fun hc6 hM => ?_)
 · refine sr ?_; refine oa ?_; refine on ?_; obtain rfl := some_inj hM; refine bn (bT (fun w hm => bQ hm rfl))
 refine bA (hK2 _ _ ?_); clear hK2; refine aO fun K6 dM => ?_; refine sr ?_; refine oe (aH 3) ?_; refine oe (aN (b := b2)) ?_; refine mZ (fun w hm => Kn.len (kG p0.Lines au.2.2.1) hm) fun hl7 => ?_; refine oe bR ?_; refine om ?_; refine on ?_; refine bX ?_; refine fM (γ := Nat × Nat × Unit) (env := fun (_, wU, _) => [(3, eP b2), (41, eS au.2.2.1 p0.Lines), (42, eI (p0.Lines.length : Int)), (43, eI (wU : Int))]) (mem := fun (_, wU, _) => [iL p0.aT au.1, iL p0.Routes au.2.1, iL p0.Lines au.2.2.1, iL p0.Changes au.2.2.2.1, iL p0.Turns au.2.2.2.2.1, iL p0.aV au.2.2.2.2.2.1, iL p0.aZ au.2.2.2.2.2.2, own b2 36 (dB p0 au)]) (R := fun g => iter (EX p0) g.1 g.2.1 = some y) (μ := fun g => g.1) (FUEL, 0, ()) hM ⟨rfl, rfl, rfl, rfl, trivial⟩ rI ?_
 clear hM; intro g hM jw hL1; obtain ⟨dx, wU, ⟨⟩⟩ := g; dsimp only at hM ⊢; obtain ⟨dx, bI, rfl, eH, hM⟩ := gG hM; dsimp only [EX] at hM; refine sr ?_; refine oe dJ ?_; refine on ?_; refine aO fun K9 gJ => ?_; refine cc rfl hM (fun hc8 hM => ?_) (fun hc8 hM => ?_)
 · have aeS := of_decide_eq_true hc8; refine bA (gJ _ _ ?_); clear gJ; refine aO fun rW iA => ?_; refine bX ?_; refine sr ?_; obtain ⟨x9, kY, hM⟩ := bind_some hM; refine oe (bK (xs := p0.Lines) 4 (kG p0.Lines au.2.2.1) (iS kY)) ?_; refine oe (jm (m := 4) (i := (wU : Int)) (xs := p0.Lines) (y := x9) (l := (oI x9 (au.2.2.1.es (wU : Int).toNat))) 0 (kG p0.Lines au.2.2.1) (fun _ => kY)) ?_; refine aM (cO rfl (k := fun b11 => ?_)); refine aM (bY (b := b11) (vs := (oI x9 (au.2.2.1.es (wU : Int).toNat))) (k := ?_)); refine on ?_; refine sr ?_; refine oe (aH 3) ?_; refine oe (aN (b := b11)) ?_; refine oe bR ?_; refine oe iH ?_; refine on ?_; refine cc rfl hM (fun xK hM => ?_) (fun xK hM => ?_)
   · refine sr ?_; refine oa ?_; refine on ?_; obtain rfl := some_inj hM; refine bn (bT (fun w hm => bQ hm rfl))
   refine bA (iA _ _ ?_); clear iA; refine bE ?_; refine oe (dh (hr := fun _ => by unfold gy; omega)) ?_; refine om ?_; refine bF (hL1 (dx, (wU + 1), ()) _ _ (eqc eH hM) (Nat.lt_succ_self _) ⟨rfl, rfl, rfl, rfl, trivial⟩ rI)
 refine fI (dM _ _ ?_); clear dM; dsimp only [PI] at hM; refine aO fun yI lM => ?_; refine sr ?_; refine oe (aH 0) ?_; refine oe (aN (b := b2)) ?_; refine oe dJ ?_; refine om ?_; refine aF rfl (aH 0) ?_; refine aF rfl (aN (b := b2)) ?_; refine aF rfl iH ?_; refine oe eu ?_; refine on ?_; refine cc rfl hM (fun Ah hM => ?_) (fun Ah hM => ?_)
 · refine sr ?_; refine oa ?_; refine on ?_; obtain rfl := some_inj hM; refine bn (bT (fun w hm => bQ hm rfl))
 refine bA (lM _ _ ?_); clear lM; refine sr ?_; refine oa ?_; refine on ?_; obtain rfl := some_inj hM; refine bn (bT (fun w hm => bQ hm rfl))
def Vr : Unit → Option Int := fun _ =>
  some 0
def IQ (p0 : Plan) (bI : Nat → Option Int) : Nat → Option Int := fun lq =>
  if decide ((lq : Int) < (p0.aT.length : Int)) then
    ((idx p0.aT (lq : Int)).bind fun x5 =>
    (FV x5.Name).bind fun y8 =>
    if (!y8) then
      (some 3)
    else
      ((sub p0.aT 0 (lq : Int)).bind fun BZ =>
      (Jq BZ x5).bind fun bZ =>
      if bZ then
        (some 5)
      else
        ((Gr x5).bind fun Rk =>
        if (!Rk) then
          (some 4)
        else
          (bI (lq + 1)))))
  else
    (Vr ())
def EZ (l0 : Layout) (p0 : Plan) : Option Int :=
  iter (IQ p0) FUEL 0
theorem adh (S : bU) (w : World) (l0 : Layout) (aG : aj.R Layout) (p0 : Plan) (au : aj.R Plan) (y : Int) (hM : EZ l0 p0 = some y) (hS : sB S w) (fJ : aj.ok S w aG l0) (gN : aj.ok S w au p0) :
    Calls Try.prog 19 #[.agg (kX l0 aG), .agg (iK p0 au)] w (dQ w (vI y)) := by
 refine dH (args := [_, _]) Try.func19 rfl ((pre_nil hS).start |>.nX fJ|>.oJ gN) rfl ?_; unfold EZ at hM; refine sr ?_; refine aM (dU (l := (fq l0 aG)) (k := fun b1 => ?_)); refine aM (dU (l := (dB p0 au)) (k := fun b2 => ?_))
 refine oa ?_; refine on ?_; refine aO fun K2 hK2 => ?_; refine sr ?_; refine oe (aH 1) ?_; refine oe (aN (b := b2)) ?_; refine mZ (fun w hm => Kn.len (kG p0.aT au.1) hm) fun hl3 => ?_; refine oe bR ?_; refine om ?_; refine on ?_; refine bX ?_; refine fM (γ := Nat × Nat × Unit) (env := fun (_, lq, _) => [(3, eP b2), (8, eS au.1 p0.aT), (9, eI (p0.aT.length : Int)), (10, eI (lq : Int))]) (mem := fun (_, lq, _) => [iL p0.aT au.1, iL p0.Routes au.2.1, iL p0.Lines au.2.2.1, iL p0.Changes au.2.2.2.1, iL p0.Turns au.2.2.2.2.1, iL p0.aV au.2.2.2.2.2.1, iL p0.aZ au.2.2.2.2.2.2, own b2 36 (dB p0 au)]) (R := fun g => iter (IQ p0) g.1 g.2.1 = some y) (μ := fun g => g.1) (FUEL, 0, ()) hM ⟨rfl, rfl, rfl, rfl, trivial⟩ rI ?_
 clear hM; intro g hM jw hL1; obtain ⟨dx, lq, ⟨⟩⟩ := g; dsimp only at hM ⊢; obtain ⟨dx, bI, rfl, eH, hM⟩ := gG hM; dsimp only [IQ] at hM; refine sr ?_; refine oe dJ ?_; refine on ?_; refine aO fun K5 dW => ?_; refine cc rfl hM (fun hc4 hM => ?_) (fun hc4 hM => ?_)
 · have Aj := of_decide_eq_true hc4; refine bA (dW _ _ ?_); clear dW; refine aO fun K6 dM => ?_; refine bX ?_; refine sr ?_; refine om ?_; obtain ⟨x5, hx6, hM⟩ := bind_some hM; refine oe (bK (xs := p0.aT) 5 (kG p0.aT au.1) (iS hx6)) ?_; refine oe (jm (m := 5) (i := (lq : Int)) (xs := p0.aT) (y := x5) (l := (tJ x5)) 0 (kG p0.aT au.1) (fun _ => hx6)) ?_; refine aM (cO rfl (k := fun b7 => ?_)); refine oa ?_; refine aM (bY (b := b7) (vs := (tJ x5)) (k := ?_)); refine on ?_; refine bX ?_; refine sr ?_; refine oe (aH 0) ?_; refine oe (aN (b := b7)) ?_; obtain ⟨y8, wz, hM⟩ := bind_some hM; refine aM (bJ (fun w hm => let ⟨S, hs⟩ := hm; Xi _ w x5.Name y8 wz (bB hs) ) ?_); refine oe gB ?_; refine oa ?_; refine on ?_; refine cc rfl hM (fun vv hM => ?_) (fun vv hM => ?_)
   · refine sr ?_; refine oa ?_; refine on ?_; obtain rfl := some_inj hM; refine bn (bT (fun w hm => bQ hm rfl))
   refine sr ?_; refine oe (aH 1) ?_; refine oe (aN (b := b2)) ?_; refine om ?_; obtain ⟨BZ, hl12, hM⟩ := bind_some hM; refine aM (Dh (r := au.1) (xs := p0.aT) (ol := none) (oh := some (.i64, (lq : Int))) (Sk.eB (α := List av) (r := au.1) (x := p0.aT) hA) hl12 (fun sH => ?_)); refine oe Nk ?_; obtain ⟨bZ, pQ, hM⟩ := bind_some hM; refine aM (bJ (fun w hm => let ⟨S, hs⟩ := hm; aec _ w BZ sH b7 x5 bZ pQ (bB hs) (kM hs) (PD hA hs)) ?_); refine oa ?_; refine on ?_; refine cc rfl hM (fun hc16 hM => ?_) (fun hc16 hM => ?_)
   · refine sr ?_; refine oa ?_; refine on ?_; obtain rfl := some_inj hM; refine bn (bT (fun w hm => bQ hm rfl))
   refine sr ?_; refine oe (cu (b := b7)) ?_; obtain ⟨Rk, abB, hM⟩ := bind_some hM; refine aM (bJ (fun w hm => let ⟨S, hs⟩ := hm; Te _ w x5 Rk abB (bB hs) ) ?_); refine oe gB ?_; refine oa ?_; refine on ?_; refine cc rfl hM (fun hc19 hM => ?_) (fun hc19 hM => ?_)
   · refine sr ?_; refine oa ?_; refine on ?_; obtain rfl := some_inj hM; refine bn (bT (fun w hm => bQ hm rfl))
   refine bA (dM _ _ ?_); clear dM; refine bE ?_; refine oe (dh (hr := fun _ => by unfold gy; omega)) ?_; refine om ?_; refine bF (hL1 (dx, (lq + 1), ()) _ _ (eqc eH hM) (Nat.lt_succ_self _) ⟨rfl, rfl, rfl, rfl, trivial⟩ rI)
 refine fI (hK2 _ _ ?_); clear hK2; dsimp only [Vr] at hM; refine sr ?_; refine oa ?_; refine on ?_; obtain rfl := some_inj hM; refine bn (bT (fun w hm => bQ hm rfl))
def Vq : Unit → Option Int := fun _ =>
  some 0
def IL (p0 : Plan) (l0 : Layout) (bI : Nat → Option Int) : Nat → Option Int := fun oL =>
  if decide ((oL : Int) < (p0.Routes.length : Int)) then
    ((idx p0.Routes (oL : Int)).bind fun x5 =>
    (Fz l0 x5).bind fun y8 =>
    if decide (y8 ≠ 0) then
      (some y8)
    else
      (bI (oL + 1)))
  else
    (Vq ())
def EW (l0 : Layout) (p0 : Plan) : Option Int :=
  iter (IL p0 l0) FUEL 0
theorem ade (S : bU) (w : World) (l0 : Layout) (aG : aj.R Layout) (p0 : Plan) (au : aj.R Plan) (y : Int) (hM : EW l0 p0 = some y) (hS : sB S w) (fJ : aj.ok S w aG l0) (gN : aj.ok S w au p0) :
    Calls Try.prog 20 #[.agg (kX l0 aG), .agg (iK p0 au)] w (dQ w (vI y)) := by
 refine dH (args := [_, _]) Try.func20 rfl ((pre_nil hS).start |>.nX fJ|>.oJ gN) rfl ?_; unfold EW at hM; refine sr ?_; refine aM (dU (l := (fq l0 aG)) (k := fun b1 => ?_)); refine aM (dU (l := (dB p0 au)) (k := fun b2 => ?_))
 refine oa ?_; refine on ?_; refine aO fun K2 hK2 => ?_; refine sr ?_; refine oe (aH 2) ?_; refine oe (aN (b := b2)) ?_; refine mZ (fun w hm => Kn.len (kG p0.Routes au.2.1) hm) fun hl3 => ?_; refine oe bR ?_; refine om ?_; refine on ?_; refine bX ?_; refine fM (γ := Nat × Nat × Unit) (env := fun (_, oL, _) => [(2, eP b1), (9, eS au.2.1 p0.Routes), (10, eI (p0.Routes.length : Int)), (11, eI (oL : Int))]) (mem := fun (_, oL, _) => [iL l0.aQ aG.1, iL l0.aR aG.2.1, iL l0.Sections aG.2.2.1, iL l0.Links aG.2.2.2, own b1 27 (fq l0 aG), iL p0.Routes au.2.1]) (R := fun g => iter (IL p0 l0) g.1 g.2.1 = some y) (μ := fun g => g.1) (FUEL, 0, ()) hM ⟨rfl, rfl, rfl, rfl, trivial⟩ rI ?_; clear hM; intro g hM jw hL1; obtain ⟨dx, oL, ⟨⟩⟩ := g; dsimp only at hM ⊢; obtain ⟨dx, bI, rfl, eH, hM⟩ := gG hM; dsimp only [IL] at hM; refine sr ?_
 refine oe dJ ?_; refine on ?_; refine aO fun K5 dW => ?_; refine cc rfl hM (fun hc4 hM => ?_) (fun hc4 hM => ?_)
 · have Aj := of_decide_eq_true hc4; refine bA (dW _ _ ?_); clear dW; refine aO fun K6 dM => ?_; refine bX ?_; refine sr ?_; obtain ⟨x5, hx6, hM⟩ := bind_some hM; refine oe (bK (xs := p0.Routes) 2 (kG p0.Routes au.2.1) (iS hx6)) ?_; refine oe (jm (m := 2) (i := (oL : Int)) (xs := p0.Routes) (y := x5) (l := (mY x5 (au.2.1.es (oL : Int).toNat))) 0 (kG p0.Routes au.2.1) (fun _ => hx6)) ?_; refine aM (cO rfl (k := fun b7 => ?_)); refine aM (bY (b := b7) (vs := (mY x5 (au.2.1.es (oL : Int).toNat))) (k := ?_)); refine on ?_; refine sr ?_; refine oe (cu (b := b1)) ?_; refine oe (cu (b := b7)) ?_; obtain ⟨y8, wz, hM⟩ := bind_some hM; refine aM (bJ (fun w hm => let ⟨S, hs⟩ := hm; Wj _ w l0 aG x5 (au.2.1.es (oL : Int).toNat) y8 wz (bB hs) ⟨(kM hs), (kM hs), (kM hs), (kM hs)⟩ (Kn.lend ((Sk.elem (Sk.eB (α := List aI) (r := au.2.1) (x := p0.Routes) hA) hx6)).kn hs)) ?_); refine oa ?_; refine on ?_; refine sr ?_; refine om ?_; refine oe jo ?_; refine on ?_
   refine cc rfl hM (fun vv hM => ?_) (fun vv hM => ?_)
   · refine sr ?_; refine om ?_; refine oa ?_; refine on ?_; obtain rfl := some_inj hM; refine bn (bT (fun w hm => bQ hm rfl))
   refine bA (dM _ _ ?_); clear dM; refine bE ?_; refine oe (dh (hr := fun _ => by unfold gy; omega)) ?_; refine om ?_; refine bF (hL1 (dx, (oL + 1), ()) _ _ (eqc eH hM) (Nat.lt_succ_self _) ⟨rfl, rfl, rfl, rfl, trivial⟩ rI)
 refine fI (hK2 _ _ ?_); clear hK2; dsimp only [Vq] at hM; refine sr ?_; refine oa ?_; refine on ?_; obtain rfl := some_inj hM; refine bn (bT (fun w hm => bQ hm rfl))
def wL (p0 : Plan) (x4 : aC) (dP : Line) (l0 : Layout) (k0 : Int) : Bool → Option Int := fun JC =>
  if JC then
    (some 4)
  else
    ((idx p0.Routes x4.aI).bind fun x8 =>
    (idx p0.aT dP.av).bind fun x10 =>
    (Gl l0 x8 x10).bind fun ru =>
    if decide (ru ≠ 0) then
      (some ru)
    else
      (bq (!(decide (0 < k0)) || bP (k0 - 1)) <|
      (fP (decide (0 < k0)) default (idx dP.ay (k0 - 1))).bind fun mW =>
      (fP (decide (0 < k0)) default (Cz p0 x4)).bind fun jY =>
      (fP (decide (0 < k0)) default (CB p0 mW)).bind fun y20 =>
      if (decide (0 < k0) && decide (jY ≠ y20)) then
        (some 11)
      else
        (some 0)))
def EU (l0 : Layout) (p0 : Plan) (dP : Line) (k0 : Int) : Option Int :=
  (idx dP.ay k0).bind fun x4 =>
  if decide (x4.aI < 0) then
    (wL p0 x4 dP l0 k0 (decide (x4.aI < 0)))
  else
    (if decide ((p0.Routes.length : Int) ≤ x4.aI) then
      (wL p0 x4 dP l0 k0 (decide ((p0.Routes.length : Int) ≤ x4.aI)))
    else
      (if decide (x4.Extra < 0) then
        (wL p0 x4 dP l0 k0 (decide (x4.Extra < 0)))
      else
        (if decide (p0.bL ≤ x4.Extra) then
          (wL p0 x4 dP l0 k0 (decide (p0.bL ≤ x4.Extra)))
        else
          ((Cw p0 x4.Min x4.Max).bind fun y27 =>
          if (!y27) then
            (wL p0 x4 dP l0 k0 (!y27))
          else
            (bq (bP ((dP.ay.length : Int) - 1)) <|
            wL p0 x4 dP l0 k0 (decide (k0 = ((dP.ay.length : Int) - 1)) && (decide (x4.Min ≠ 0) || decide (x4.Max ≠ 0))))))))
theorem adb (S : bU) (w : World) (l0 : Layout) (aG : aj.R Layout) (p0 : Plan) (au : aj.R Plan) (dP : Line) (yh : aj.R Line) (k0 : Int) (y : Int) (hM : EU l0 p0 dP k0 = some y) (hS : sB S w) (fJ : aj.ok S w aG l0) (gN : aj.ok S w au p0) (ZQ : aj.ok S w yh dP) :
    Calls Try.prog 45 #[.agg (kX l0 aG), .agg (iK p0 au), .agg (MW dP yh), vI k0] w (dQ w (vI y)) := by
 refine dH (args := [_, _, _, _]) Try.func45 rfl ((pre_nil hS).start |>.nX fJ|>.oJ gN|>.gU (α := List aC) (r := yh) (x := dP.ay) ZQ) rfl ?_; unfold EU at hM; refine sr ?_; refine aM (dU (l := (fq l0 aG)) (k := fun b1 => ?_)); refine aM (dU (l := (dB p0 au)) (k := fun b2 => ?_))
 refine aM (dU (l := (oI dP yh)) (k := fun b3 => ?_)); refine oa ?_; refine on ?_; refine sr ?_; refine oe (aH 3) ?_; refine oe (aN (b := b3)) ?_; refine om ?_; obtain ⟨x4, hx5, hM⟩ := bind_some hM; refine oe (bK (xs := dP.ay) 4 (kG dP.ay yh) (iS hx5)) ?_; refine oe (jm (m := 4) (i := k0) (xs := dP.ay) (y := x4) (l := (wJ x4)) 0 (kG dP.ay yh) (fun _ => hx5)) ?_; refine aM (cO rfl (k := fun b6 => ?_)); refine aM (bY (b := b6) (vs := (wJ x4)) (k := ?_)); refine on ?_; refine aO fun K3 hK3 => ?_; refine bX ?_; refine kL (γ := Bool × Unit) (env := fun (JC, _) => [(3, eI k0), (4, eP b1), (5, eP b2), (6, eP b3), (9, eP b6), (16, .v (.bool JC))]) (mem := fun (JC, _) => [iL l0.aQ aG.1, iL l0.aR aG.2.1, iL l0.Sections aG.2.2.1, iL l0.Links aG.2.2.2, own b1 27 (fq l0 aG), iL p0.aT au.1, iL p0.Routes au.2.1, iL p0.Lines au.2.2.1, iL p0.Changes au.2.2.2.1, iL p0.Turns au.2.2.2.2.1, iL p0.aV au.2.2.2.2.2.1, iL p0.aZ au.2.2.2.2.2.2, own b2 36 (dB p0 au), iL dP.ay yh, own b3 45 (oI dP yh), own b6 78 (wJ x4)]) (R := fun g => wL p0 x4 dP l0 k0 g.1 = some y) ?_ ?_
 · intro vT eF; refine sr ?_; refine oe (aH 0) ?_; refine oe (aN (b := b6)) ?_; refine oe dJ ?_; refine oa ?_; refine on ?_; refine cc rfl hM (fun Hl hM => ?_) (fun Hl hM => ?_)
   · refine bA (eF ((decide (x4.aI < 0)), ()) _ _ hM ⟨rfl, rfl, rfl, rfl, rfl, rfl, trivial⟩ rI)
   refine sr ?_; refine oe (aH 0) ?_; refine oe (aN (b := b6)) ?_; refine oe (aH 2) ?_; refine oe (aN (b := b2)) ?_; refine oe bR ?_; refine oe iM ?_; refine oa ?_; refine on ?_; refine cc rfl hM (fun hc24 hM => ?_) (fun hc24 hM => ?_)
   · refine bA (eF ((decide ((p0.Routes.length : Int) ≤ x4.aI)), ()) _ _ hM ⟨rfl, rfl, rfl, rfl, rfl, rfl, trivial⟩ rI)
   refine sr ?_; refine oe (aH 1) ?_; refine oe (aN (b := b6)) ?_; refine oe dJ ?_; refine oa ?_; refine on ?_; refine cc rfl hM (fun hc25 hM => ?_) (fun hc25 hM => ?_)
   · refine bA (eF ((decide (x4.Extra < 0)), ()) _ _ hM ⟨rfl, rfl, rfl, rfl, rfl, rfl, trivial⟩ rI)
   refine sr ?_; refine oe (aH 1) ?_; refine oe (aN (b := b6)) ?_; refine oe (aH 0) ?_; refine oe (aN (b := b2)) ?_; refine oe iM ?_; refine oa ?_; refine on ?_; refine cc rfl hM (fun Ho hM => ?_) (fun Ho hM => ?_)
   · refine bA (eF ((decide (p0.bL ≤ x4.Extra)), ()) _ _ hM ⟨rfl, rfl, rfl, rfl, rfl, rfl, trivial⟩ rI)
   refine sr ?_; refine oe (cu (b := b2)) ?_; refine oe (aH 2) ?_; refine oe (aN (b := b6)) ?_; refine oe (aH 3) ?_; refine oe (aN (b := b6)) ?_; obtain ⟨y27, hy28, hM⟩ := bind_some hM; refine aM (bJ (fun w hm => let ⟨S, hs⟩ := hm; PE _ w p0 au x4.Min x4.Max y27 hy28 (bB hs) ⟨(kM hs), (kM hs), (kM hs), (kM hs), (kM hs), (kM hs), (kM hs)⟩) ?_); refine oe gB ?_; refine oa ?_; refine on ?_; refine cc rfl hM (fun hc29 hM => ?_) (fun hc29 hM => ?_)
   · refine bA (eF ((!y27), ()) _ _ hM ⟨rfl, rfl, rfl, rfl, rfl, rfl, trivial⟩ rI)
   refine bE ?_; refine om ?_; refine oe (aH 3) ?_; refine oe (aN (b := b3)) ?_; refine oe bR ?_; obtain ⟨NJ, hM⟩ := bC hM; refine oe (iy (hr := fun hg => bS NJ)) ?_; refine oe eX ?_; refine om ?_; refine aF rfl (aH 2) ?_; refine aF rfl (aN (b := b6)) ?_; refine aF rfl jo ?_; refine aF rfl aL ?_; refine aF rfl (aH 3) ?_; refine aF rfl (aN (b := b6)) ?_; refine aF rfl jo ?_; refine aF rfl eu ?_; refine oe dO ?_; refine oa ?_; refine bF (eF ((decide (k0 = ((dP.ay.length : Int) - 1)) && (decide (x4.Min ≠ 0) || decide (x4.Max ≠ 0))), ()) _ _ hM ⟨rfl, rfl, rfl, rfl, rfl, rfl, trivial⟩ rI)
 clear hM; intro g hM; obtain ⟨JC, ⟨⟩⟩ := g; dsimp only at hM ⊢; dsimp only [wL] at hM; refine cc rfl hM (fun oq hM => ?_) (fun oq hM => ?_)
 · refine sr ?_; refine oa ?_; refine on ?_; obtain rfl := some_inj hM; refine bn (bT (fun w hm => bQ hm rfl))
 refine bA (hK3 _ _ ?_); clear hK3; refine aO fun K5 dW => ?_; refine aO fun K6 dM => ?_; refine jh _ (List.Sublist.refl _) ?_; refine aJ 0 rfl (cu (b := b1)) ?_; refine aJ 1 rfl (aH 2) ?_; refine aJ 2 rfl (aN (b := b2)) ?_; refine aJ 3 rfl (aH 0) ?_; refine aJ 4 rfl (aN (b := b6)) ?_; obtain ⟨x8, D5, hM⟩ := bind_some hM; refine aJ 5 rfl (bK (xs := p0.Routes) 2 (kG p0.Routes au.2.1) (iS D5)) ?_; refine aJ 6 rfl (jm (m := 2) (i := x4.aI) (xs := p0.Routes) (y := x8) (l := (mY x8 (au.2.1.es x4.aI.toNat))) 0 (kG p0.Routes au.2.1) (fun _ => D5)) ?_; refine aJ 7 rfl (aH 1) ?_; refine aJ 8 rfl (aN (b := b2)) ?_; refine aJ 9 rfl (aH 1) ?_; refine aJ 10 rfl (aN (b := b3)) ?_; obtain ⟨x10, Al, hM⟩ := bind_some hM; refine aJ 11 rfl (bK (xs := p0.aT) 5 (kG p0.aT au.1) (iS Al)) ?_; refine aJ 12 rfl (jm (m := 5) (i := dP.av) (xs := p0.aT) (y := x10) (l := (tJ x10)) 0 (kG p0.aT au.1) (fun _ => Al)) ?_; obtain ⟨ru, BP, hM⟩ := bind_some hM; refine bO 13 rfl (bJ (fun w hm => let ⟨S, hs⟩ := hm; Yb _ w l0 aG x8 (au.2.1.es x4.aI.toNat) x10 ru BP (bB hs) ⟨(kM hs), (kM hs), (kM hs), (kM hs)⟩ (Kn.lend ((Sk.elem (Sk.eB (α := List aI) (r := au.2.1) (x := p0.Routes) hA) D5)).kn hs)) ⟨rI, ?_⟩)
 refine aJ 14 rfl d9 ?_; refine eT (dM _ _ ?_); clear dM; refine sr ?_; refine om ?_; refine oe jo ?_; refine on ?_; refine cc rfl hM (fun yV hM => ?_) (fun yV hM => ?_)
 · refine sr ?_; refine om ?_; refine oa ?_; refine on ?_; obtain rfl := some_inj hM; refine bn (bT (fun w hm => bQ hm rfl))
 refine bA (dW _ _ ?_); clear dW; refine aO fun K9 gJ => ?_; refine aO fun rW iA => ?_; refine jh _ (List.Sublist.refl _) ?_; refine aJ 0 rfl aL ?_; refine aJ 1 rfl iH ?_; refine aJ 2 rfl aL ?_; refine dD 3 rfl rfl (cu (b := b2)) ?_; refine dD 4 rfl rfl (cu (b := b6)) ?_; refine dD 6 rfl rfl (cu (b := b2)) ?_; refine dD 7 rfl rfl (aH 3) ?_; refine dD 8 rfl rfl (aN (b := b3)) ?_; refine dD 9 rfl rfl aL ?_; obtain ⟨Ny, hM⟩ := bC hM; refine dD 10 rfl rfl (iy (hr := fun hg => bS (DT Ny hg))) ?_; obtain ⟨mW, xO, hM⟩ := bind_some hM; refine dD 11 rfl rfl (bK (xs := dP.ay) 4 (kG dP.ay yh) (fun hg => let h := kZ (eG xO hg); ⟨h.1, h.2.1⟩)) ?_; refine dD 12 rfl rfl (jm (m := 4) (i := (k0 - 1)) (xs := dP.ay) (y := mW) (l := (wJ mW)) 0 (kG dP.ay yh) (fun hg => eG xO hg)) ?_; obtain ⟨jY, uy, hM⟩ := bind_some hM; refine Dq 5 rfl rfl (fun hg w hm => let ⟨S, hs⟩ := hm; PS _ w p0 au x4 jY (eG uy hg) (bB hs) ⟨(kM hs), (kM hs), (kM hs), (kM hs), (kM hs), (kM hs), (kM hs)⟩) ?_; obtain ⟨y20, BR, hM⟩ := bind_some hM; refine Dq 13 rfl rfl (fun hg w hm => let ⟨S, hs⟩ := hm; PU _ w p0 au mW y20 (eG BR hg) (bB hs) ⟨(kM hs), (kM hs), (kM hs), (kM hs), (kM hs), (kM hs), (kM hs)⟩) ?_
 refine dD 14 rfl rfl jo ?_; refine aJ 15 rfl dO ?_; refine eT (iA _ _ ?_); clear iA; refine cc rfl hM (fun hc22 hM => ?_) (fun hc22 hM => ?_)
 · refine sr ?_; refine oa ?_; refine on ?_; obtain rfl := some_inj hM; refine bn (bT (fun w hm => bQ hm rfl))
 refine bA (gJ _ _ ?_); clear gJ; refine sr ?_; refine oa ?_; refine on ?_; obtain rfl := some_inj hM; refine bn (bT (fun w hm => bQ hm rfl))
def Vp (bI : Nat → Option Int) (gD : Nat) : Unit → Option Int := fun _ =>
  bI (gD + 1)
def ES (x5 : Line) (l0 : Layout) (p0 : Plan) (bI : Nat → Option Int) (gD : Nat) (gZ : Nat → Option Int) : Nat → Option Int := fun zC =>
  if decide ((zC : Int) < (x5.ay.length : Int)) then
    ((EU l0 p0 x5 (zC : Int)).bind fun y21 =>
    if decide (y21 ≠ 0) then
      (some y21)
    else
      (gZ (zC + 1)))
  else
    (Vp bI gD ())
def Cx (x5 : Line) (l0 : Layout) (p0 : Plan) (bI : Nat → Option Int) (gD : Nat) : Bool → Option Int := fun JF =>
  if JF then
    (some 4)
  else
    (if decide ((x5.ay.length : Int) = 0) then
      (some 1)
    else
      (iter (ES x5 l0 p0 bI gD) FUEL 0))
def Vo : Unit → Option Int := fun _ =>
  some 0
def IK (p0 : Plan) (l0 : Layout) (bI : Nat → Option Int) : Nat → Option Int := fun gD =>
  if decide ((gD : Int) < (p0.Lines.length : Int)) then
    ((idx p0.Lines (gD : Int)).bind fun x5 =>
    (FV x5.Name).bind fun y8 =>
    if (!y8) then
      (some 3)
    else
      ((sub p0.Lines 0 (gD : Int)).bind fun BZ =>
      (Jp BZ x5).bind fun bZ =>
      if bZ then
        (some 5)
      else
        (if decide (x5.av < 0) then
          (Cx x5 l0 p0 bI gD (decide (x5.av < 0)))
        else
          (if decide ((p0.aT.length : Int) ≤ x5.av) then
            (Cx x5 l0 p0 bI gD (decide ((p0.aT.length : Int) ≤ x5.av)))
          else
            ((IW x5.Weight).bind fun aD =>
            Cx x5 l0 p0 bI gD (!aD))))))
  else
    (Vo ())
def ET (l0 : Layout) (p0 : Plan) : Option Int :=
  iter (IK p0 l0) FUEL 0
theorem ada (S : bU) (w : World) (l0 : Layout) (aG : aj.R Layout) (p0 : Plan) (au : aj.R Plan) (y : Int) (hM : ET l0 p0 = some y) (hS : sB S w) (fJ : aj.ok S w aG l0) (gN : aj.ok S w au p0) :
    Calls Try.prog 21 #[.agg (kX l0 aG), .agg (iK p0 au)] w (dQ w (vI y)) := by
 refine dH (args := [_, _]) Try.func21 rfl ((pre_nil hS).start |>.nX fJ|>.oJ gN) rfl ?_; unfold ET at hM; refine sr ?_; refine aM (dU (l := (fq l0 aG)) (k := fun b1 => ?_)); refine aM (dU (l := (dB p0 au)) (k := fun b2 => ?_))
 refine oa ?_; refine on ?_; refine aO fun K2 hK2 => ?_; refine sr ?_; refine oe (aH 3) ?_; refine oe (aN (b := b2)) ?_; refine mZ (fun w hm => Kn.len (kG p0.Lines au.2.2.1) hm) fun hl3 => ?_; refine oe bR ?_; refine om ?_; refine on ?_; refine bX ?_; refine fM (γ := Nat × Nat × Unit) (env := fun (_, gD, _) => [(2, eP b1), (3, eP b2), (10, eS au.2.2.1 p0.Lines), (11, eI (p0.Lines.length : Int)), (12, eI (gD : Int))]) (mem := fun (_, gD, _) => [iL l0.aQ aG.1, iL l0.aR aG.2.1, iL l0.Sections aG.2.2.1, iL l0.Links aG.2.2.2, own b1 27 (fq l0 aG), iL p0.aT au.1, iL p0.Routes au.2.1, iL p0.Lines au.2.2.1, iL p0.Changes au.2.2.2.1, iL p0.Turns au.2.2.2.2.1, iL p0.aV au.2.2.2.2.2.1, iL p0.aZ au.2.2.2.2.2.2, own b2 36 (dB p0 au)]) (R := fun g => iter (IK p0 l0) g.1 g.2.1 = some y) (μ := fun g => g.1) (FUEL, 0, ()) hM ⟨rfl, rfl, rfl, rfl, rfl, trivial⟩ rI ?_
 clear hM; intro g hM jw hL1; obtain ⟨dx, gD, ⟨⟩⟩ := g; dsimp only at hM ⊢; obtain ⟨dx, bI, rfl, eH, hM⟩ := gG hM; dsimp only [IK] at hM; refine sr ?_; refine oe dJ ?_; refine on ?_; refine aO fun K5 dW => ?_; refine cc rfl hM (fun hc4 hM => ?_) (fun hc4 hM => ?_)
 · have Aj := of_decide_eq_true hc4; refine bA (dW _ _ ?_); clear dW; refine aO fun K6 dM => ?_; refine bX ?_; refine sr ?_; refine om ?_; obtain ⟨x5, hx6, hM⟩ := bind_some hM; refine oe (bK (xs := p0.Lines) 4 (kG p0.Lines au.2.2.1) (iS hx6)) ?_; refine oe (jm (m := 4) (i := (gD : Int)) (xs := p0.Lines) (y := x5) (l := (oI x5 (au.2.2.1.es (gD : Int).toNat))) 0 (kG p0.Lines au.2.2.1) (fun _ => hx6)) ?_; refine aM (cO rfl (k := fun b7 => ?_)); refine oa ?_; refine aM (bY (b := b7) (vs := (oI x5 (au.2.2.1.es (gD : Int).toNat))) (k := ?_)); refine on ?_; refine aO fun K8 jB => ?_; refine bX ?_; refine sr ?_; refine oe (aH 0) ?_; refine oe (aN (b := b7)) ?_; obtain ⟨y8, wz, hM⟩ := bind_some hM; refine aM (bJ (fun w hm => let ⟨S, hs⟩ := hm; Xi _ w x5.Name y8 wz (bB hs) ) ?_); refine oe gB ?_; refine oa ?_; refine on ?_; refine cc rfl hM (fun vv hM => ?_) (fun vv hM => ?_)
   · refine sr ?_; refine oa ?_; refine on ?_; obtain rfl := some_inj hM; refine bn (bT (fun w hm => bQ hm rfl))
   refine sr ?_; refine oe (aH 3) ?_; refine oe (aN (b := b2)) ?_; refine om ?_; obtain ⟨BZ, hl12, hM⟩ := bind_some hM; refine aM (Dh (r := au.2.2.1) (xs := p0.Lines) (ol := none) (oh := some (.i64, (gD : Int))) (Sk.eB (α := List Line) (r := au.2.2.1) (x := p0.Lines) hA) hl12 (fun sH => ?_)); refine oe Nk ?_; obtain ⟨bZ, pQ, hM⟩ := bind_some hM; refine aM (bJ (fun w hm => let ⟨S, hs⟩ := hm; aeb _ w BZ sH b7 x5 (au.2.2.1.es (gD : Int).toNat) bZ pQ (bB hs) (kM hs) (PD hA hs) (Kn.lend ((Sk.elem (Sk.eB (α := List Line) (r := au.2.2.1) (x := p0.Lines) hA) hx6)).kn hs)) ?_); refine oa ?_; refine on ?_; refine cc rfl hM (fun hc16 hM => ?_) (fun hc16 hM => ?_)
   · refine sr ?_; refine oa ?_; refine on ?_; obtain rfl := some_inj hM; refine bn (bT (fun w hm => bQ hm rfl))
   refine kL (γ := Bool × Unit) (env := fun (JF, _) => [(2, eP b1), (3, eP b2), (6, eP b7), (10, eS au.2.2.1 p0.Lines), (11, eI (p0.Lines.length : Int)), (12, eI (gD : Int)), (29, .v (.bool JF))]) (mem := fun (JF, _) => [iL l0.aQ aG.1, iL l0.aR aG.2.1, iL l0.Sections aG.2.2.1, iL l0.Links aG.2.2.2, own b1 27 (fq l0 aG), iL p0.aT au.1, iL p0.Routes au.2.1, iL p0.Lines au.2.2.1, iL p0.Changes au.2.2.2.1, iL p0.Turns au.2.2.2.2.1, iL p0.aV au.2.2.2.2.2.1, iL p0.aZ au.2.2.2.2.2.2, own b2 36 (dB p0 au), own b7 45 (oI x5 (au.2.2.1.es (gD : Int).toNat))]) (R := fun g => Cx x5 l0 p0 bI gD g.1 = some y) ?_ ?_
   · intro ME hJ3; refine sr ?_; refine oe (aH 1) ?_; refine oe (aN (b := b7)) ?_; refine oe dJ ?_; refine oa ?_; refine on ?_; refine cc rfl hM (fun hc24 hM => ?_) (fun hc24 hM => ?_)
     · refine bA (hJ3 ((decide (x5.av < 0)), ()) _ _ hM ⟨rfl, rfl, rfl, rfl, rfl, rfl, rfl, trivial⟩ rI)
     refine sr ?_; refine oe (aH 1) ?_; refine oe (aN (b := b7)) ?_; refine oe (aH 1) ?_; refine oe (aN (b := b2)) ?_; refine oe bR ?_; refine oe iM ?_; refine oa ?_; refine on ?_; refine cc rfl hM (fun hc25 hM => ?_) (fun hc25 hM => ?_)
     · refine bA (hJ3 ((decide ((p0.aT.length : Int) ≤ x5.av)), ()) _ _ hM ⟨rfl, rfl, rfl, rfl, rfl, rfl, rfl, trivial⟩ rI)
     refine bE ?_; refine oe (aH 2) ?_; refine oe (aN (b := b7)) ?_; obtain ⟨aD, hy27, hM⟩ := bind_some hM; refine aM (bJ (fun w hm => let ⟨S, hs⟩ := hm; Vu _ w x5.Weight aD hy27 (bB hs) ) ?_); refine oe gB ?_; refine oa ?_; refine bF (hJ3 ((!aD), ()) _ _ hM ⟨rfl, rfl, rfl, rfl, rfl, rfl, rfl, trivial⟩ rI)
   clear hM; intro g hM; obtain ⟨JF, ⟨⟩⟩ := g; dsimp only at hM ⊢; dsimp only [Cx] at hM; refine cc rfl hM (fun hc17 hM => ?_) (fun hc17 hM => ?_)
   · refine sr ?_; refine oa ?_; refine on ?_; obtain rfl := some_inj hM; refine bn (bT (fun w hm => bQ hm rfl))
   refine sr ?_; refine oe (aH 3) ?_; refine oe (aN (b := b7)) ?_; refine oe bR ?_; refine oe eX ?_; refine oa ?_; refine on ?_; refine cc rfl hM (fun hc18 hM => ?_) (fun hc18 hM => ?_)
   · refine sr ?_; refine oa ?_; refine on ?_; obtain rfl := some_inj hM; refine bn (bT (fun w hm => bQ hm rfl))
   refine bA (jB _ _ ?_); clear jB; refine sr ?_; refine oe (aH 3) ?_; refine oe (aN (b := b7)) ?_; refine mZ (fun w hm => Kn.len ((Sk.elem (Sk.eB (α := List Line) (r := au.2.2.1) (x := p0.Lines) hA) hx6)).kn hm) fun aeX => ?_; refine oe bR ?_; refine om ?_; refine on ?_; refine bX ?_; refine fM (γ := Nat × Nat × Unit) (env := fun (_, zC, _) => [(2, eP b1), (3, eP b2), (6, eP b7), (10, eS au.2.2.1 p0.Lines), (11, eI (p0.Lines.length : Int)), (12, eI (gD : Int)), (50, eI (x5.ay.length : Int)), (51, eI (zC : Int))]) (mem := fun (_, zC, _) => [iL l0.aQ aG.1, iL l0.aR aG.2.1, iL l0.Sections aG.2.2.1, iL l0.Links aG.2.2.2, own b1 27 (fq l0 aG), iL p0.aT au.1, iL p0.Routes au.2.1, iL p0.Lines au.2.2.1, iL p0.Changes au.2.2.2.1, iL p0.Turns au.2.2.2.2.1, iL p0.aV au.2.2.2.2.2.1, iL p0.aZ au.2.2.2.2.2.2, own b2 36 (dB p0 au), own b7 45 (oI x5 (au.2.2.1.es (gD : Int).toNat))]) (R := fun g => iter (ES x5 l0 p0 bI gD) g.1 g.2.1 = some y) (μ := fun g => g.1) (FUEL, 0, ()) hM ⟨rfl, rfl, rfl, rfl, rfl, rfl, rfl, rfl, trivial⟩ rI ?_
   clear hM; intro g hM xk hL2; obtain ⟨lS, zC, ⟨⟩⟩ := g; dsimp only at hM ⊢; obtain ⟨lS, gZ, rfl, pO, hM⟩ := gG hM; dsimp only [ES] at hM; refine sr ?_; refine oe dJ ?_; refine on ?_; refine aO fun Dm oP => ?_; refine cc rfl hM (fun Ai hM => ?_) (fun Ai hM => ?_)
   · have aeL := of_decide_eq_true Ai; refine bA (oP _ _ ?_); clear oP; refine aO fun F5 qK => ?_; refine bX ?_; refine sr ?_; refine om ?_; refine oa ?_; refine on ?_; refine sr ?_; refine oe (cu (b := b1)) ?_; refine oe (cu (b := b2)) ?_; refine oe (cu (b := b7)) ?_; refine om ?_; obtain ⟨y21, H7, hM⟩ := bind_some hM; refine aM (bJ (fun w hm => let ⟨S, hs⟩ := hm; adb _ w l0 aG p0 au x5 (au.2.2.1.es (gD : Int).toNat) (zC : Int) y21 H7 (bB hs) ⟨(kM hs), (kM hs), (kM hs), (kM hs)⟩ ⟨(kM hs), (kM hs), (kM hs), (kM hs), (kM hs), (kM hs), (kM hs)⟩ (Kn.lend ((Sk.elem (Sk.eB (α := List Line) (r := au.2.2.1) (x := p0.Lines) hA) hx6)).kn hs)) ?_); refine oa ?_; refine on ?_; refine sr ?_; refine om ?_; refine oe jo ?_; refine on ?_; refine cc rfl hM (fun Hl hM => ?_) (fun Hl hM => ?_)
     · refine sr ?_; refine om ?_; refine oa ?_; refine on ?_; obtain rfl := some_inj hM; refine bn (bT (fun w hm => bQ hm rfl))
     refine bA (qK _ _ ?_); clear qK; refine bE ?_; refine oe (dh (hr := fun _ => by unfold gy; omega)) ?_; refine om ?_; refine bF (hL2 (lS, (zC + 1), ()) _ _ (eqc pO hM) (Nat.lt_succ_self _) ⟨rfl, rfl, rfl, rfl, rfl, rfl, rfl, rfl, trivial⟩ rI)
   refine fI (dM _ _ ?_); clear dM; dsimp only [Vp] at hM; refine bE ?_; refine oe (dh (hr := fun _ => by unfold gy; omega)) ?_; refine om ?_; refine bF (hL1 (dx, (gD + 1), ()) _ _ (eqc eH hM) (Nat.lt_succ_self _) ⟨rfl, rfl, rfl, rfl, rfl, trivial⟩ rI)
 refine fI (hK2 _ _ ?_); clear hK2; dsimp only [Vo] at hM; refine sr ?_; refine oa ?_; refine on ?_; obtain rfl := some_inj hM; refine bn (bT (fun w hm => bQ hm rfl))
def Vm : Unit → Option Int := fun _ =>
  some 0
def II (p0 : Plan) (l0 : Layout) (bI : Nat → Option Int) : Nat → Option Int := fun gD =>
  if decide ((gD : Int) < (p0.Changes.length : Int)) then
    ((idx p0.Changes (gD : Int)).bind fun x5 =>
    (Aw p0 x5.kr x5.nC).bind fun y8 =>
    (fP (!(!y8)) default (Aw p0 x5.mq x5.qh)).bind fun jk =>
    (fP (!(((!y8) || (!jk)) || decide (x5.kr = x5.mq))) default (Cw p0 x5.Min x5.Max)).bind fun ru =>
    (fP (!((((!y8) || (!jk)) || decide (x5.kr = x5.mq)) || (!ru))) default (IW x5.Weight)).bind fun bZ =>
    if (((((!y8) || (!jk)) || decide (x5.kr = x5.mq)) || (!ru)) || (!bZ)) then
      (some 4)
    else
      ((idx p0.Lines x5.kr).bind fun je =>
      (idx je.ay x5.nC).bind fun zF =>
      (CB p0 zF).bind fun y21 =>
      (idx l0.Sections y21).bind fun x23 =>
      (idx p0.Lines x5.mq).bind fun x25 =>
      (idx x25.ay x5.qh).bind fun x27 =>
      (Cz p0 x27).bind fun y29 =>
      (idx l0.Sections y29).bind fun x31 =>
      if (decide (x23.og = (-1)) || decide (x23.og ≠ x31.og)) then
        (some 11)
      else
        (bI (gD + 1))))
  else
    (Vm ())
def EP (l0 : Layout) (p0 : Plan) : Option Int :=
  iter (II p0 l0) FUEL 0
theorem ac7 (S : bU) (w : World) (l0 : Layout) (aG : aj.R Layout) (p0 : Plan) (au : aj.R Plan) (y : Int) (hM : EP l0 p0 = some y) (hS : sB S w) (fJ : aj.ok S w aG l0) (gN : aj.ok S w au p0) :
    Calls Try.prog 22 #[.agg (kX l0 aG), .agg (iK p0 au)] w (dQ w (vI y)) := by
 refine dH (args := [_, _]) Try.func22 rfl ((pre_nil hS).start |>.nX fJ|>.oJ gN) rfl ?_; unfold EP at hM; refine sr ?_; refine aM (dU (l := (fq l0 aG)) (k := fun b1 => ?_)); refine aM (dU (l := (dB p0 au)) (k := fun b2 => ?_))
 refine oa ?_; refine on ?_; refine aO fun K2 hK2 => ?_; refine sr ?_; refine oe (aH 4) ?_; refine oe (aN (b := b2)) ?_; refine mZ (fun w hm => Kn.len (kG p0.Changes au.2.2.2.1) hm) fun hl3 => ?_; refine oe bR ?_; refine om ?_; refine on ?_; refine bX ?_; refine fM (γ := Nat × Nat × Unit) (env := fun (_, gD, _) => [(2, eP b1), (3, eP b2), (10, eS au.2.2.2.1 p0.Changes), (11, eI (p0.Changes.length : Int)), (12, eI (gD : Int))]) (mem := fun (_, gD, _) => [iL l0.aQ aG.1, iL l0.aR aG.2.1, iL l0.Sections aG.2.2.1, iL l0.Links aG.2.2.2, own b1 27 (fq l0 aG), iL p0.aT au.1, iL p0.Routes au.2.1, iL p0.Lines au.2.2.1, iL p0.Changes au.2.2.2.1, iL p0.Turns au.2.2.2.2.1, iL p0.aV au.2.2.2.2.2.1, iL p0.aZ au.2.2.2.2.2.2, own b2 36 (dB p0 au)]) (R := fun g => iter (II p0 l0) g.1 g.2.1 = some y) (μ := fun g => g.1) (FUEL, 0, ()) hM ⟨rfl, rfl, rfl, rfl, rfl, trivial⟩ rI ?_
 clear hM; intro g hM jw hL1; obtain ⟨dx, gD, ⟨⟩⟩ := g; dsimp only at hM ⊢; obtain ⟨dx, bI, rfl, eH, hM⟩ := gG hM; dsimp only [II] at hM; refine sr ?_; refine oe dJ ?_; refine on ?_; refine aO fun K5 dW => ?_; refine cc rfl hM (fun hc4 hM => ?_) (fun hc4 hM => ?_)
 · have Aj := of_decide_eq_true hc4; refine bA (dW _ _ ?_); clear dW; refine aO fun K6 dM => ?_; refine bX ?_; refine sr ?_; obtain ⟨x5, hx6, hM⟩ := bind_some hM; refine oe (bK (xs := p0.Changes) 7 (kG p0.Changes au.2.2.2.1) (iS hx6)) ?_; refine oe (jm (m := 7) (i := (gD : Int)) (xs := p0.Changes) (y := x5) (l := (Vb x5)) 0 (kG p0.Changes au.2.2.2.1) (fun _ => hx6)) ?_; refine aM (cO rfl (k := fun b7 => ?_)); refine aM (bY (b := b7) (vs := (Vb x5)) (k := ?_)); refine on ?_; refine aO fun K8 jB => ?_; refine sr ?_; refine oe (cu (b := b2)) ?_; refine oe (aH 0) ?_; refine oe (aN (b := b7)) ?_; refine oe (aH 1) ?_; refine oe (aN (b := b7)) ?_; obtain ⟨y8, wz, hM⟩ := bind_some hM; refine aM (bJ (fun w hm => let ⟨S, hs⟩ := hm; Lh _ w p0 au x5.kr x5.nC y8 wz (bB hs) ⟨(kM hs), (kM hs), (kM hs), (kM hs), (kM hs), (kM hs), (kM hs)⟩) ?_); refine oe gB ?_; refine om ?_; refine aF rfl (cu (b := b2)) ?_
   refine aF rfl (aH 2) ?_; refine aF rfl (aN (b := b7)) ?_; refine aF rfl (aH 3) ?_; refine aF rfl (aN (b := b7)) ?_; obtain ⟨jk, uq, hM⟩ := bind_some hM; refine nW rfl (fun hg w hm => let ⟨S, hs⟩ := hm; Lh _ w p0 au x5.mq x5.qh jk (eG uq hg) (bB hs) ⟨(kM hs), (kM hs), (kM hs), (kM hs), (kM hs), (kM hs), (kM hs)⟩) ?_; refine aF rfl gB ?_; refine oe eu ?_; refine om ?_; refine aF rfl (aH 0) ?_; refine aF rfl (aN (b := b7)) ?_; refine aF rfl (aH 2) ?_; refine aF rfl (aN (b := b7)) ?_; refine aF rfl eX ?_; refine oe eu ?_; refine om ?_; refine aF rfl (cu (b := b2)) ?_; refine aF rfl (aH 4) ?_; refine aF rfl (aN (b := b7)) ?_; refine aF rfl (aH 5) ?_; refine aF rfl (aN (b := b7)) ?_; obtain ⟨ru, BP, hM⟩ := bind_some hM; refine nW rfl (fun hg w hm => let ⟨S, hs⟩ := hm; PE _ w p0 au x5.Min x5.Max ru (eG BP hg) (bB hs) ⟨(kM hs), (kM hs), (kM hs), (kM hs), (kM hs), (kM hs), (kM hs)⟩) ?_; refine aF rfl gB ?_; refine oe eu ?_; refine om ?_; refine aF rfl (aH 6) ?_; refine aF rfl (aN (b := b7)) ?_; obtain ⟨bZ, pQ, hM⟩ := bind_some hM; refine nW rfl (fun hg w hm => let ⟨S, hs⟩ := hm; Vu _ w x5.Weight bZ (eG pQ hg) (bB hs) ) ?_; refine aF rfl gB ?_
   refine oe eu ?_; refine on ?_; refine cc rfl hM (fun hc16 hM => ?_) (fun hc16 hM => ?_)
   · refine sr ?_; refine oa ?_; refine on ?_; obtain rfl := some_inj hM; refine bn (bT (fun w hm => bQ hm rfl))
   refine bA (jB _ _ ?_); clear jB; refine aO fun rX ig => ?_; refine jh _ (List.Sublist.refl _) ?_; refine aJ 0 rfl (aH 2) ?_; refine aJ 1 rfl (aN (b := b1)) ?_; refine aJ 2 rfl (cu (b := b2)) ?_; refine aJ 3 rfl (aH 3) ?_; refine aJ 4 rfl (aN (b := b2)) ?_; refine aJ 5 rfl (aH 0) ?_; refine aJ 6 rfl (aN (b := b7)) ?_; obtain ⟨je, su, hM⟩ := bind_some hM; refine aJ 7 rfl (bK (xs := p0.Lines) 4 (kG p0.Lines au.2.2.1) (iS su)) ?_; refine aJ 8 rfl (aH 3) ?_; refine aJ 9 rfl (dn (i := x5.kr) (xs := p0.Lines) (y := je) 3 (kG p0.Lines au.2.2.1) (fun _ => su)) ?_; refine aJ 10 rfl (aH 1) ?_; refine aJ 11 rfl (aN (b := b7)) ?_; obtain ⟨zF, HY, hM⟩ := bind_some hM; refine aJ 12 rfl (bK (xs := je.ay) 4 ((Sk.elem (Sk.eB (α := List Line) (r := au.2.2.1) (x := p0.Lines) hA) su)).kn (iS HY)) ?_; refine aJ 13 rfl (jm (m := 4) (i := x5.nC) (xs := je.ay) (y := zF) (l := (wJ zF)) 0 ((Sk.elem (Sk.eB (α := List Line) (r := au.2.2.1) (x := p0.Lines) hA) su)).kn (fun _ => HY)) ?_; obtain ⟨y21, H7, hM⟩ := bind_some hM; refine bO 14 rfl (bJ (fun w hm => let ⟨S, hs⟩ := hm; PU _ w p0 au zF y21 H7 (bB hs) ⟨(kM hs), (kM hs), (kM hs), (kM hs), (kM hs), (kM hs), (kM hs)⟩) ⟨rI, ?_⟩)
   obtain ⟨x23, hx24, hM⟩ := bind_some hM; refine aJ 15 rfl (bK (xs := l0.Sections) 5 (kG l0.Sections aG.2.2.1) (iS hx24)) ?_; refine aJ 16 rfl (aH 4) ?_; refine aJ 17 rfl (dn (i := y21) (xs := l0.Sections) (y := x23) 4 (kG l0.Sections aG.2.2.1) (fun _ => hx24)) ?_; refine aJ 18 rfl d9 ?_; refine eT (ig _ _ ?_); clear ig; refine aO fun yH lK => ?_; refine jh _ (List.Sublist.refl _) ?_; refine aJ 0 rfl (aH 2) ?_; refine aJ 1 rfl (aN (b := b1)) ?_; refine aJ 2 rfl (cu (b := b2)) ?_; refine aJ 3 rfl (aH 3) ?_; refine aJ 4 rfl (aN (b := b2)) ?_; refine aJ 5 rfl (aH 2) ?_; refine aJ 6 rfl (aN (b := b7)) ?_; obtain ⟨x25, Am, hM⟩ := bind_some hM; refine aJ 7 rfl (bK (xs := p0.Lines) 4 (kG p0.Lines au.2.2.1) (iS Am)) ?_; refine aJ 8 rfl (aH 3) ?_; refine aJ 9 rfl (dn (i := x5.mq) (xs := p0.Lines) (y := x25) 3 (kG p0.Lines au.2.2.1) (fun _ => Am)) ?_; refine aJ 10 rfl (aH 3) ?_; refine aJ 11 rfl (aN (b := b7)) ?_; obtain ⟨x27, hx28, hM⟩ := bind_some hM; refine aJ 12 rfl (bK (xs := x25.ay) 4 ((Sk.elem (Sk.eB (α := List Line) (r := au.2.2.1) (x := p0.Lines) hA) Am)).kn (iS hx28)) ?_; refine aJ 13 rfl (jm (m := 4) (i := x5.qh) (xs := x25.ay) (y := x27) (l := (wJ x27)) 0 ((Sk.elem (Sk.eB (α := List Line) (r := au.2.2.1) (x := p0.Lines) hA) Am)).kn (fun _ => hx28)) ?_
   obtain ⟨y29, H9, hM⟩ := bind_some hM; refine bO 14 rfl (bJ (fun w hm => let ⟨S, hs⟩ := hm; PS _ w p0 au x27 y29 H9 (bB hs) ⟨(kM hs), (kM hs), (kM hs), (kM hs), (kM hs), (kM hs), (kM hs)⟩) ⟨rI, ?_⟩); obtain ⟨x31, hx32, hM⟩ := bind_some hM; refine aJ 15 rfl (bK (xs := l0.Sections) 5 (kG l0.Sections aG.2.2.1) (iS hx32)) ?_; refine aJ 16 rfl (aH 4) ?_; refine aJ 17 rfl (dn (i := y29) (xs := l0.Sections) (y := x31) 4 (kG l0.Sections aG.2.2.1) (fun _ => hx32)) ?_; refine aJ 18 rfl d9 ?_; refine eT (lK _ _ ?_); clear lK; refine sr ?_; refine om ?_; refine oe eX ?_; refine om ?_; refine aF rfl aL ?_; refine aF rfl aL ?_; refine aF rfl jo ?_; refine oe eu ?_; refine on ?_; refine cc rfl hM (fun Ht hM => ?_) (fun Ht hM => ?_)
   · refine sr ?_; refine oa ?_; refine on ?_; obtain rfl := some_inj hM; refine bn (bT (fun w hm => bQ hm rfl))
   refine bA (dM _ _ ?_); clear dM; refine bE ?_; refine oe (dh (hr := fun _ => by unfold gy; omega)) ?_; refine om ?_; refine bF (hL1 (dx, (gD + 1), ()) _ _ (eqc eH hM) (Nat.lt_succ_self _) ⟨rfl, rfl, rfl, rfl, rfl, trivial⟩ rI)
 refine fI (hK2 _ _ ?_); clear hK2; dsimp only [Vm] at hM; refine sr ?_; refine oa ?_; refine on ?_; obtain rfl := some_inj hM; refine bn (bT (fun w hm => bQ hm rfl))
def Lg (p0 : Plan) (bI : Nat → Option Int) (gD : Nat) : (Str × Int × Int × (List aC) × Str × Int × Int × (List aC)) → Option Int := fun (Kc, GI, Ke, uF, Mh, JH, Mi, yg) =>
  bq (bP ((uF.length : Int) - 1)) <|
  (idx uF ((uF.length : Int) - 1)).bind fun yC =>
  (idx yg 0).bind fun x24 =>
  (CB p0 yC).bind fun aD =>
  (Cz p0 x24).bind fun y28 =>
  if (decide (aD ≠ y28) || decide (GI ≠ JH)) then
    (some 11)
  else
    (bI (gD + 1))
def Vt : Unit → Option Int := fun _ =>
  some 0
def IV (p0 : Plan) (bI : Nat → Option Int) : Nat → Option Int := fun gD =>
  if decide ((gD : Int) < (p0.Turns.length : Int)) then
    ((idx p0.Turns (gD : Int)).bind fun x5 =>
    (Cy p0 x5.From).bind fun y8 =>
    (fP (!(!y8)) default (Cy p0 x5.To)).bind fun jk =>
    (fP (!((!y8) || (!jk))) default (Cw p0 x5.Min x5.Max)).bind fun ru =>
    if (((!y8) || (!jk)) || (!ru)) then
      (some 4)
    else
      ((sub p0.Turns 0 (gD : Int)).bind fun vE =>
      (Jr vE x5).bind fun jY =>
      if jY then
        (some 5)
      else
        ((idx p0.Lines x5.From).bind fun x31 =>
        (idx p0.Lines x5.To).bind fun ak =>
        Lg p0 bI gD (x31.Name, x31.av, x31.Weight, x31.ay, ak.Name, ak.av, ak.Weight, ak.ay))))
  else
    (Vt ())
def E8 (l0 : Layout) (p0 : Plan) : Option Int :=
  iter (IV p0) FUEL 0
theorem adk (S : bU) (w : World) (l0 : Layout) (aG : aj.R Layout) (p0 : Plan) (au : aj.R Plan) (y : Int) (hM : E8 l0 p0 = some y) (hS : sB S w) (fJ : aj.ok S w aG l0) (gN : aj.ok S w au p0) :
    Calls Try.prog 23 #[.agg (kX l0 aG), .agg (iK p0 au)] w (dQ w (vI y)) := by
 refine dH (args := [_, _]) Try.func23 rfl ((pre_nil hS).start |>.nX fJ|>.oJ gN) rfl ?_; unfold E8 at hM; refine sr ?_; refine aM (dU (l := (fq l0 aG)) (k := fun b1 => ?_)); refine aM (dU (l := (dB p0 au)) (k := fun b2 => ?_))
 refine oa ?_; refine on ?_; refine aO fun K2 hK2 => ?_; refine sr ?_; refine oe (aH 5) ?_; refine oe (aN (b := b2)) ?_; refine mZ (fun w hm => Kn.len (kG p0.Turns au.2.2.2.2.1) hm) fun hl3 => ?_; refine oe bR ?_; refine om ?_; refine on ?_; refine bX ?_; refine fM (γ := Nat × Nat × Unit) (env := fun (_, gD, _) => [(3, eP b2), (10, eS au.2.2.2.2.1 p0.Turns), (11, eI (p0.Turns.length : Int)), (12, eI (gD : Int))]) (mem := fun (_, gD, _) => [iL p0.aT au.1, iL p0.Routes au.2.1, iL p0.Lines au.2.2.1, iL p0.Changes au.2.2.2.1, iL p0.Turns au.2.2.2.2.1, iL p0.aV au.2.2.2.2.2.1, iL p0.aZ au.2.2.2.2.2.2, own b2 36 (dB p0 au)]) (R := fun g => iter (IV p0) g.1 g.2.1 = some y) (μ := fun g => g.1) (FUEL, 0, ()) hM ⟨rfl, rfl, rfl, rfl, trivial⟩ rI ?_
 clear hM; intro g hM jw hL1; obtain ⟨dx, gD, ⟨⟩⟩ := g; dsimp only at hM ⊢; obtain ⟨dx, bI, rfl, eH, hM⟩ := gG hM; dsimp only [IV] at hM; refine sr ?_; refine oe dJ ?_; refine on ?_; refine aO fun K5 dW => ?_; refine cc rfl hM (fun hc4 hM => ?_) (fun hc4 hM => ?_)
 · have Aj := of_decide_eq_true hc4; refine bA (dW _ _ ?_); clear dW; refine aO fun K6 dM => ?_; refine bX ?_; refine sr ?_; refine om ?_; obtain ⟨x5, hx6, hM⟩ := bind_some hM; refine oe (bK (xs := p0.Turns) 4 (kG p0.Turns au.2.2.2.2.1) (iS hx6)) ?_; refine oe (jm (m := 4) (i := (gD : Int)) (xs := p0.Turns) (y := x5) (l := (wK x5)) 0 (kG p0.Turns au.2.2.2.2.1) (fun _ => hx6)) ?_; refine aM (cO rfl (k := fun b7 => ?_)); refine oa ?_; refine aM (bY (b := b7) (vs := (wK x5)) (k := ?_)); refine on ?_; refine aO fun K8 jB => ?_; refine sr ?_; refine oe (cu (b := b2)) ?_; refine oe (aH 0) ?_; refine oe (aN (b := b7)) ?_; obtain ⟨y8, wz, hM⟩ := bind_some hM; refine aM (bJ (fun w hm => let ⟨S, hs⟩ := hm; PO _ w p0 au x5.From y8 wz (bB hs) ⟨(kM hs), (kM hs), (kM hs), (kM hs), (kM hs), (kM hs), (kM hs)⟩) ?_); refine oe gB ?_; refine om ?_; refine aF rfl (cu (b := b2)) ?_; refine aF rfl (aH 1) ?_; refine aF rfl (aN (b := b7)) ?_; obtain ⟨jk, uq, hM⟩ := bind_some hM; refine nW rfl (fun hg w hm => let ⟨S, hs⟩ := hm; PO _ w p0 au x5.To jk (eG uq hg) (bB hs) ⟨(kM hs), (kM hs), (kM hs), (kM hs), (kM hs), (kM hs), (kM hs)⟩) ?_
   refine aF rfl gB ?_; refine oe eu ?_; refine om ?_; refine aF rfl (cu (b := b2)) ?_; refine aF rfl (aH 2) ?_; refine aF rfl (aN (b := b7)) ?_; refine aF rfl (aH 3) ?_; refine aF rfl (aN (b := b7)) ?_; obtain ⟨ru, BP, hM⟩ := bind_some hM; refine nW rfl (fun hg w hm => let ⟨S, hs⟩ := hm; PE _ w p0 au x5.Min x5.Max ru (eG BP hg) (bB hs) ⟨(kM hs), (kM hs), (kM hs), (kM hs), (kM hs), (kM hs), (kM hs)⟩) ?_; refine aF rfl gB ?_; refine oe eu ?_; refine on ?_; refine cc rfl hM (fun yV hM => ?_) (fun yV hM => ?_)
   · refine sr ?_; refine oa ?_; refine on ?_; obtain rfl := some_inj hM; refine bn (bT (fun w hm => bQ hm rfl))
   refine bA (jB _ _ ?_); clear jB; refine aO fun rX ig => ?_; refine sr ?_; refine oe (aH 5) ?_; refine oe (aN (b := b2)) ?_; refine om ?_; obtain ⟨vE, aa6, hM⟩ := bind_some hM; refine aM (Dh (r := au.2.2.2.2.1) (xs := p0.Turns) (ol := none) (oh := some (.i64, (gD : Int))) (Sk.eB (α := List Turn) (r := au.2.2.2.2.1) (x := p0.Turns) hA) aa6 (fun bD => ?_)); refine oe Nk ?_; obtain ⟨jY, uy, hM⟩ := bind_some hM; refine aM (bJ (fun w hm => let ⟨S, hs⟩ := hm; aed _ w vE bD b7 x5 jY uy (bB hs) (kM hs) (PD hA hs)) ?_); refine on ?_; refine cc rfl hM (fun Ai hM => ?_) (fun Ai hM => ?_)
   · refine sr ?_; refine oa ?_; refine on ?_; obtain rfl := some_inj hM; refine bn (bT (fun w hm => bQ hm rfl))
   refine bA (ig _ _ ?_); clear ig; refine kL (γ := (Str × Int × Int × (List aC) × Str × Int × Int × (List aC)) × (Nat × Nat)) (env := fun ((Kc, GI, Ke, uF, Mh, JH, Mi, yg), (BG, DF)) => [(3, eP b2), (7, eP BG), (8, eP DF), (10, eS au.2.2.2.2.1 p0.Turns), (11, eI (p0.Turns.length : Int)), (12, eI (gD : Int))]) (mem := fun ((Kc, GI, Ke, uF, Mh, JH, Mi, yg), (BG, DF)) => [iL p0.aT au.1, iL p0.Routes au.2.1, iL p0.Lines au.2.2.1, iL p0.Changes au.2.2.2.1, iL p0.Turns au.2.2.2.2.1, iL p0.aV au.2.2.2.2.2.1, iL p0.aZ au.2.2.2.2.2.2, own b2 36 (dB p0 au), iL uF (au.2.2.1.es x5.From.toNat), own BG 45 [.string Kc.ba, vI GI, vI Ke, sL (au.2.2.1.es x5.From.toNat) uF], iL yg (au.2.2.1.es x5.To.toNat), own DF 45 [.string Mh.ba, vI JH, vI Mi, sL (au.2.2.1.es x5.To.toNat) yg]]) (R := fun g => Lg p0 bI gD g.1 = some y) ?_ ?_
   · intro zR hJ2; refine jh _ (List.Sublist.refl _) ?_; refine aJ 0 rfl (aH 3) ?_; refine aJ 1 rfl (aN (b := b2)) ?_; refine aJ 2 rfl (aH 0) ?_; refine aJ 3 rfl (aN (b := b7)) ?_; obtain ⟨x31, hx32, hM⟩ := bind_some hM; refine aJ 4 rfl (bK (xs := p0.Lines) 4 (kG p0.Lines au.2.2.1) (iS hx32)) ?_; refine aJ 5 rfl (jm (m := 4) (i := x5.From) (xs := p0.Lines) (y := x31) (l := (oI x31 (au.2.2.1.es x5.From.toNat))) 0 (kG p0.Lines au.2.2.1) (fun _ => hx32)) ?_; refine aJ 6 rfl (aH 3) ?_; refine aJ 7 rfl (aN (b := b2)) ?_; refine aJ 8 rfl (aH 1) ?_; refine aJ 9 rfl (aN (b := b7)) ?_; obtain ⟨ak, hx34, hM⟩ := bind_some hM; refine aJ 10 rfl (bK (xs := p0.Lines) 4 (kG p0.Lines au.2.2.1) (iS hx34)) ?_; refine aJ 11 rfl (jm (m := 4) (i := x5.To) (xs := p0.Lines) (y := ak) (l := (oI ak (au.2.2.1.es x5.To.toNat))) 0 (kG p0.Lines au.2.2.1) (fun _ => hx34)) ?_; refine kD 12 13 (⟨_, rfl, rfl, cO rfl (k := fun Sq => ⟨rI, ?_⟩)⟩) (⟨_, rfl, rfl, cO rfl (k := fun Gd => ⟨rI, ?_⟩)⟩)
     · refine bO 13 rfl (cO rfl (k := fun Gf => ⟨rI, ?_⟩)); refine bO 14 rfl (bY (b := Sq) (vs := (oI x31 (au.2.2.1.es x5.From.toNat))) (k := ⟨rI, ?_⟩)); refine bO 15 rfl (bY (b := Gf) (vs := (oI ak (au.2.2.1.es x5.To.toNat))) (k := ⟨rI, ?_⟩)); refine BF (fun w hm => hm.wD (α := List aC) (r := (au.2.2.1.es x5.From.toNat)) (x := x31.ay) (fun S hs => (Sk.elem (Sk.eB (α := List Line) (r := au.2.2.1) (x := p0.Lines) hA) hx32) S w hs)) ?_; refine BF (fun w hm => hm.wD (α := List aC) (r := (au.2.2.1.es x5.To.toNat)) (x := ak.ay) (fun S hs => (Sk.elem (Sk.eB (α := List Line) (r := au.2.2.1) (x := p0.Lines) hA) hx34) S w hs)) ?_; refine eT (hJ2 ((x31.Name, x31.av, x31.Weight, x31.ay, ak.Name, ak.av, ak.Weight, ak.ay), (Sq, Gf)) _ _ hM ⟨rfl, rfl, rfl, rfl, rfl, rfl, trivial⟩ rI)
     refine bO 12 rfl (cO rfl (k := fun zV => ⟨rI, ?_⟩)); refine bO 14 rfl (bY (b := zV) (vs := (oI x31 (au.2.2.1.es x5.From.toNat))) (k := ⟨rI, ?_⟩)); refine bO 15 rfl (bY (b := Gd) (vs := (oI ak (au.2.2.1.es x5.To.toNat))) (k := ⟨rI, ?_⟩)); refine BF (fun w hm => hm.wD (α := List aC) (r := (au.2.2.1.es x5.From.toNat)) (x := x31.ay) (fun S hs => (Sk.elem (Sk.eB (α := List Line) (r := au.2.2.1) (x := p0.Lines) hA) hx32) S w hs)) ?_; refine BF (fun w hm => hm.wD (α := List aC) (r := (au.2.2.1.es x5.To.toNat)) (x := ak.ay) (fun S hs => (Sk.elem (Sk.eB (α := List Line) (r := au.2.2.1) (x := p0.Lines) hA) hx34) S w hs)) ?_; refine eT (hJ2 ((x31.Name, x31.av, x31.Weight, x31.ay, ak.Name, ak.av, ak.Weight, ak.ay), (zV, Gd)) _ _ hM ⟨rfl, rfl, rfl, rfl, rfl, rfl, trivial⟩ rI)
   clear hM; intro g hM; obtain ⟨⟨Kc, GI, Ke, uF, Mh, JH, Mi, yg⟩, ⟨BG, DF⟩⟩ := g; dsimp only at hM ⊢; dsimp only [Lg] at hM; refine aO fun yI lM => ?_; refine jh _ (List.Sublist.refl _) ?_; refine aJ 0 rfl (cu (b := b2)) ?_; refine aJ 1 rfl (aH 3) ?_; refine aJ 2 rfl (aN (b := BG)) ?_; refine aJ 3 rfl (aH 3) ?_; refine aJ 4 rfl (aN (b := BG)) ?_; refine aJ 5 rfl bR ?_; obtain ⟨Zj, hM⟩ := bC hM; refine aJ 6 rfl (iy (hr := fun hg => bS Zj)) ?_; obtain ⟨yC, HZ, hM⟩ := bind_some hM; refine aJ 7 rfl (bK (xs := uF) 4 (kG uF (au.2.2.1.es x5.From.toNat)) (iS HZ)) ?_; refine aJ 8 rfl (jm (m := 4) (i := ((uF.length : Int) - 1)) (xs := uF) (y := yC) (l := (wJ yC)) 0 (kG uF (au.2.2.1.es x5.From.toNat)) (fun _ => HZ)) ?_; refine aJ 10 rfl (cu (b := b2)) ?_; refine aJ 11 rfl (aH 3) ?_; refine aJ 12 rfl (aN (b := DF)) ?_; obtain ⟨x24, hx25, hM⟩ := bind_some hM; refine aJ 13 rfl (bK (xs := yg) 4 (kG yg (au.2.2.1.es x5.To.toNat)) (iS hx25)) ?_; refine aJ 14 rfl (jm (m := 4) (i := 0) (xs := yg) (y := x24) (l := (wJ x24)) 0 (kG yg (au.2.2.1.es x5.To.toNat)) (fun _ => hx25)) ?_
   obtain ⟨aD, hy27, hM⟩ := bind_some hM; refine bO 9 rfl (bJ (fun w hm => let ⟨S, hs⟩ := hm; PU _ w p0 au yC aD hy27 (bB hs) ⟨(kM hs), (kM hs), (kM hs), (kM hs), (kM hs), (kM hs), (kM hs)⟩) ⟨rI, ?_⟩); obtain ⟨y28, hy29, hM⟩ := bind_some hM; refine bO 15 rfl (bJ (fun w hm => let ⟨S, hs⟩ := hm; PS _ w p0 au x24 y28 hy29 (bB hs) ⟨(kM hs), (kM hs), (kM hs), (kM hs), (kM hs), (kM hs), (kM hs)⟩) ⟨rI, ?_⟩); refine aJ 16 rfl jo ?_; refine aJ 17 rfl aL ?_; refine dD 18 rfl rfl (aH 1) ?_; refine dD 19 rfl rfl (aN (b := BG)) ?_; refine dD 20 rfl rfl (aH 1) ?_; refine dD 21 rfl rfl (aN (b := DF)) ?_; refine dD 22 rfl rfl jo ?_; refine aJ 23 rfl eu ?_; refine eT (lM _ _ ?_); clear lM; refine cc rfl hM (fun Hq hM => ?_) (fun Hq hM => ?_)
   · refine sr ?_; refine oa ?_; refine on ?_; obtain rfl := some_inj hM; refine bn (bT (fun w hm => bQ hm rfl))
   refine bA (dM _ _ ?_); clear dM; refine bE ?_; refine oe (dh (hr := fun _ => by unfold gy; omega)) ?_; refine om ?_; refine bF (hL1 (dx, (gD + 1), ()) _ _ (eqc eH hM) (Nat.lt_succ_self _) ⟨rfl, rfl, rfl, rfl, trivial⟩ rI)
 refine fI (hK2 _ _ ?_); clear hK2; dsimp only [Vt] at hM; refine sr ?_; refine oa ?_; refine on ?_; obtain rfl := some_inj hM; refine bn (bT (fun w hm => bQ hm rfl))
def Vs : Unit → Option Int := fun _ =>
  some 0
def IU (p0 : Plan) (bI : Nat → Option Int) : Nat → Option Int := fun lq =>
  if decide ((lq : Int) < (p0.aV.length : Int)) then
    ((idx p0.aV (lq : Int)).bind fun x5 =>
    (Aw p0 x5.qc x5.qd).bind fun y8 =>
    (fP (!(!y8)) default (Aw p0 x5.qH x5.qI)).bind fun jk =>
    if (((((!y8) || (!jk)) || (decide (x5.qc = x5.qH) && decide (x5.qd = x5.qI))) || decide (x5.Offset < 0)) || decide (p0.bL ≤ x5.Offset)) then
      (some 4)
    else
      (bI (lq + 1)))
  else
    (Vs ())
def E5 (l0 : Layout) (p0 : Plan) : Option Int :=
  iter (IU p0) FUEL 0
theorem adi (S : bU) (w : World) (l0 : Layout) (aG : aj.R Layout) (p0 : Plan) (au : aj.R Plan) (y : Int) (hM : E5 l0 p0 = some y) (hS : sB S w) (fJ : aj.ok S w aG l0) (gN : aj.ok S w au p0) :
    Calls Try.prog 24 #[.agg (kX l0 aG), .agg (iK p0 au)] w (dQ w (vI y)) := by
 refine dH (args := [_, _]) Try.func24 rfl ((pre_nil hS).start |>.nX fJ|>.oJ gN) rfl ?_; unfold E5 at hM; refine sr ?_; refine aM (dU (l := (fq l0 aG)) (k := fun b1 => ?_)); refine aM (dU (l := (dB p0 au)) (k := fun b2 => ?_))
 refine oa ?_; refine on ?_; refine aO fun K2 hK2 => ?_; refine sr ?_; refine oe (aH 6) ?_; refine oe (aN (b := b2)) ?_; refine mZ (fun w hm => Kn.len (kG p0.aV au.2.2.2.2.2.1) hm) fun hl3 => ?_; refine oe bR ?_; refine om ?_; refine on ?_; refine bX ?_; refine fM (γ := Nat × Nat × Unit) (env := fun (_, lq, _) => [(3, eP b2), (8, eS au.2.2.2.2.2.1 p0.aV), (9, eI (p0.aV.length : Int)), (10, eI (lq : Int))]) (mem := fun (_, lq, _) => [iL p0.aT au.1, iL p0.Routes au.2.1, iL p0.Lines au.2.2.1, iL p0.Changes au.2.2.2.1, iL p0.Turns au.2.2.2.2.1, iL p0.aV au.2.2.2.2.2.1, iL p0.aZ au.2.2.2.2.2.2, own b2 36 (dB p0 au)]) (R := fun g => iter (IU p0) g.1 g.2.1 = some y) (μ := fun g => g.1) (FUEL, 0, ()) hM ⟨rfl, rfl, rfl, rfl, trivial⟩ rI ?_
 clear hM; intro g hM jw hL1; obtain ⟨dx, lq, ⟨⟩⟩ := g; dsimp only at hM ⊢; obtain ⟨dx, bI, rfl, eH, hM⟩ := gG hM; dsimp only [IU] at hM; refine sr ?_; refine oe dJ ?_; refine on ?_; refine aO fun K5 dW => ?_; refine cc rfl hM (fun hc4 hM => ?_) (fun hc4 hM => ?_)
 · have Aj := of_decide_eq_true hc4; refine bA (dW _ _ ?_); clear dW; refine aO fun K6 dM => ?_; refine bX ?_; refine sr ?_; obtain ⟨x5, hx6, hM⟩ := bind_some hM; refine oe (bK (xs := p0.aV) 5 (kG p0.aV au.2.2.2.2.2.1) (iS hx6)) ?_; refine oe (jm (m := 5) (i := (lq : Int)) (xs := p0.aV) (y := x5) (l := (Ve x5)) 0 (kG p0.aV au.2.2.2.2.2.1) (fun _ => hx6)) ?_; refine aM (cO rfl (k := fun b7 => ?_)); refine aM (bY (b := b7) (vs := (Ve x5)) (k := ?_)); refine on ?_; refine sr ?_; refine oe (cu (b := b2)) ?_; refine oe (aH 0) ?_; refine oe (aN (b := b7)) ?_; refine oe (aH 1) ?_; refine oe (aN (b := b7)) ?_; obtain ⟨y8, wz, hM⟩ := bind_some hM; refine aM (bJ (fun w hm => let ⟨S, hs⟩ := hm; Lh _ w p0 au x5.qc x5.qd y8 wz (bB hs) ⟨(kM hs), (kM hs), (kM hs), (kM hs), (kM hs), (kM hs), (kM hs)⟩) ?_); refine oe gB ?_; refine om ?_; refine aF rfl (cu (b := b2)) ?_; refine aF rfl (aH 2) ?_; refine aF rfl (aN (b := b7)) ?_; refine aF rfl (aH 3) ?_
   refine aF rfl (aN (b := b7)) ?_; obtain ⟨jk, uq, hM⟩ := bind_some hM; refine nW rfl (fun hg w hm => let ⟨S, hs⟩ := hm; Lh _ w p0 au x5.qH x5.qI jk (eG uq hg) (bB hs) ⟨(kM hs), (kM hs), (kM hs), (kM hs), (kM hs), (kM hs), (kM hs)⟩) ?_; refine aF rfl gB ?_; refine oe eu ?_; refine om ?_; refine aF rfl (aH 0) ?_; refine aF rfl (aN (b := b7)) ?_; refine aF rfl (aH 2) ?_; refine aF rfl (aN (b := b7)) ?_; refine aF rfl eX ?_; refine aF rfl aL ?_; refine aF rfl (aH 1) ?_; refine aF rfl (aN (b := b7)) ?_; refine aF rfl (aH 3) ?_; refine aF rfl (aN (b := b7)) ?_; refine aF rfl eX ?_; refine aF rfl dO ?_; refine oe eu ?_; refine om ?_; refine aF rfl (aH 4) ?_; refine aF rfl (aN (b := b7)) ?_; refine aF rfl dJ ?_; refine oe eu ?_; refine om ?_; refine aF rfl (aH 4) ?_; refine aF rfl (aN (b := b7)) ?_; refine aF rfl (aH 0) ?_; refine aF rfl (aN (b := b2)) ?_; refine aF rfl iM ?_; refine oe eu ?_; refine on ?_; refine cc rfl hM (fun xK hM => ?_) (fun xK hM => ?_)
   · refine sr ?_; refine oa ?_; refine on ?_; obtain rfl := some_inj hM; refine bn (bT (fun w hm => bQ hm rfl))
   refine bA (dM _ _ ?_); clear dM; refine bE ?_; refine oe (dh (hr := fun _ => by unfold gy; omega)) ?_; refine om ?_; refine bF (hL1 (dx, (lq + 1), ()) _ _ (eqc eH hM) (Nat.lt_succ_self _) ⟨rfl, rfl, rfl, rfl, trivial⟩ rI)
 refine fI (hK2 _ _ ?_); clear hK2; dsimp only [Vs] at hM; refine sr ?_; refine oa ?_; refine on ?_; obtain rfl := some_inj hM; refine bn (bT (fun w hm => bQ hm rfl))
def Vn : Unit → Option Int := fun _ =>
  some 0
def IJ (p0 : Plan) (l0 : Layout) (bI : Nat → Option Int) : Nat → Option Int := fun lq =>
  if decide ((lq : Int) < (p0.aZ.length : Int)) then
    ((idx p0.aZ (lq : Int)).bind fun x5 =>
    if ((((((decide (x5.From < 0) || decide ((l0.aQ.length : Int) ≤ x5.From)) || decide (x5.To < 0)) || decide ((l0.aQ.length : Int) ≤ x5.To)) || decide (x5.From = x5.To)) || decide (x5.Weight < 1)) || decide (1048576 < x5.Weight)) then
      (some 4)
    else
      (bI (lq + 1)))
  else
    (Vn ())
def ER (l0 : Layout) (p0 : Plan) : Option Int :=
  iter (IJ p0 l0) FUEL 0
theorem ac8 (S : bU) (w : World) (l0 : Layout) (aG : aj.R Layout) (p0 : Plan) (au : aj.R Plan) (y : Int) (hM : ER l0 p0 = some y) (hS : sB S w) (fJ : aj.ok S w aG l0) (gN : aj.ok S w au p0) :
    Calls Try.prog 25 #[.agg (kX l0 aG), .agg (iK p0 au)] w (dQ w (vI y)) := by
 refine dH (args := [_, _]) Try.func25 rfl ((pre_nil hS).start |>.nX fJ|>.oJ gN) rfl ?_; unfold ER at hM; refine sr ?_; refine aM (dU (l := (fq l0 aG)) (k := fun b1 => ?_)); refine aM (dU (l := (dB p0 au)) (k := fun b2 => ?_))
 refine oa ?_; refine on ?_; refine aO fun K2 hK2 => ?_; refine sr ?_; refine oe (aH 7) ?_; refine oe (aN (b := b2)) ?_; refine mZ (fun w hm => Kn.len (kG p0.aZ au.2.2.2.2.2.2) hm) fun hl3 => ?_; refine oe bR ?_; refine om ?_; refine on ?_; refine bX ?_; refine fM (γ := Nat × Nat × Unit) (env := fun (_, lq, _) => [(2, eP b1), (8, eS au.2.2.2.2.2.2 p0.aZ), (9, eI (p0.aZ.length : Int)), (10, eI (lq : Int))]) (mem := fun (_, lq, _) => [iL l0.aQ aG.1, iL l0.aR aG.2.1, iL l0.Sections aG.2.2.1, iL l0.Links aG.2.2.2, own b1 27 (fq l0 aG), iL p0.aZ au.2.2.2.2.2.2]) (R := fun g => iter (IJ p0 l0) g.1 g.2.1 = some y) (μ := fun g => g.1) (FUEL, 0, ()) hM ⟨rfl, rfl, rfl, rfl, trivial⟩ rI ?_; clear hM; intro g hM jw hL1; obtain ⟨dx, lq, ⟨⟩⟩ := g; dsimp only at hM ⊢; obtain ⟨dx, bI, rfl, eH, hM⟩ := gG hM; dsimp only [IJ] at hM; refine aO fun K4 hK4 => ?_
 refine bE ?_; refine oe dJ ?_; refine bF (hK4 _ _ ?_); clear hK4; refine aO fun K5 dW => ?_; refine cc rfl hM (fun hc4 hM => ?_) (fun hc4 hM => ?_)
 · have Aj := of_decide_eq_true hc4; refine bA (dW _ _ ?_); clear dW; refine aO fun K6 dM => ?_; refine bX ?_; refine sr ?_; obtain ⟨x5, hx6, hM⟩ := bind_some hM; refine oe (bK (xs := p0.aZ) 3 (kG p0.aZ au.2.2.2.2.2.2) (iS hx6)) ?_; refine oe (jm (m := 3) (i := (lq : Int)) (xs := p0.aZ) (y := x5) (l := (Vd x5)) 0 (kG p0.aZ au.2.2.2.2.2.2) (fun _ => hx6)) ?_; refine aM (cO rfl (k := fun b7 => ?_)); refine aM (bY (b := b7) (vs := (Vd x5)) (k := ?_)); refine on ?_; refine sr ?_; refine oe (aH 0) ?_; refine oe (aN (b := b7)) ?_; refine oe dJ ?_; refine om ?_; refine aF rfl (aH 0) ?_; refine aF rfl (aN (b := b7)) ?_; refine aF rfl (aH 0) ?_; refine aF rfl (aN (b := b1)) ?_; refine aF rfl bR ?_; refine aF rfl iM ?_; refine oe eu ?_; refine om ?_; refine aF rfl (aH 1) ?_; refine aF rfl (aN (b := b7)) ?_; refine aF rfl dJ ?_; refine oe eu ?_; refine om ?_; refine aF rfl (aH 1) ?_; refine aF rfl (aN (b := b7)) ?_; refine aF rfl (aH 0) ?_; refine aF rfl (aN (b := b1)) ?_
   refine aF rfl bR ?_; refine aF rfl iM ?_; refine oe eu ?_; refine om ?_; refine aF rfl (aH 0) ?_; refine aF rfl (aN (b := b7)) ?_; refine aF rfl (aH 1) ?_; refine aF rfl (aN (b := b7)) ?_; refine aF rfl eX ?_; refine oe eu ?_; refine om ?_; refine aF rfl (aH 2) ?_; refine aF rfl (aN (b := b7)) ?_; refine aF rfl dJ ?_; refine oe eu ?_; refine om ?_; refine aF rfl (aH 2) ?_; refine aF rfl (aN (b := b7)) ?_; refine aF rfl iH ?_; refine oe eu ?_; refine on ?_; refine cc rfl hM (fun hc8 hM => ?_) (fun hc8 hM => ?_)
   · refine sr ?_; refine oa ?_; refine on ?_; obtain rfl := some_inj hM; refine bn (bT (fun w hm => bQ hm rfl))
   refine bA (dM _ _ ?_); clear dM; refine bE ?_; refine oe (dh (hr := fun _ => by unfold gy; omega)) ?_; refine om ?_; refine bF (hL1 (dx, (lq + 1), ()) _ _ (eqc eH hM) (Nat.lt_succ_self _) ⟨rfl, rfl, rfl, rfl, trivial⟩ rI)
 refine fI (hK2 _ _ ?_); clear hK2; dsimp only [Vn] at hM; refine sr ?_; refine oa ?_; refine on ?_; obtain rfl := some_inj hM; refine bn (bT (fun w hm => bQ hm rfl))
def Lf (x : Nat) (l0 : Layout) (p0 : Plan) : Option Int :=
  if x = 18 then EY l0 p0
  else if x = 19 then EZ l0 p0
  else if x = 20 then EW l0 p0
  else if x = 21 then ET l0 p0
  else if x = 22 then EP l0 p0
  else if x = 23 then E8 l0 p0
  else if x = 24 then E5 l0 p0
  else if x = 25 then ER l0 p0
  else none
theorem ac5 {i : Int} {x : Nat} (h : idx ([18, 19, 20, 21, 22, 23, 24, 25] : List Nat) i = some x) : callable Try.prog x = true := by
  have hm := List.mem_of_getElem? (kZ h).2.2
  simp only [List.mem_cons, List.not_mem_nil, or_false] at hm
  rcases hm with rfl | rfl | rfl | rfl | rfl | rfl | rfl | rfl
  · exact (show callable Try.prog 18 = true by kernel_rfl)
  · exact (show callable Try.prog 19 = true by kernel_rfl)
  · exact (show callable Try.prog 20 = true by kernel_rfl)
  · exact (show callable Try.prog 21 = true by kernel_rfl)
  · exact (show callable Try.prog 22 = true by kernel_rfl)
  · exact (show callable Try.prog 23 = true by kernel_rfl)
  · exact (show callable Try.prog 24 = true by kernel_rfl)
  · exact (show callable Try.prog 25 = true by kernel_rfl)
theorem ac6 (x : Nat) (S : bU) (w : World) (l0 : Layout) (aG : aj.R Layout) (p0 : Plan) (au : aj.R Plan) (y : Int) (hM : Lf x l0 p0 = some y) (hS : sB S w) (fJ : aj.ok S w aG l0) (gN : aj.ok S w au p0) :
    Calls Try.prog x #[.agg (kX l0 aG), .agg (iK p0 au)] w (dQ w (vI y)) := by
  unfold Lf at hM
  split at hM
  · rename_i h; subst h; exact adf S w l0 aG p0 au y hM hS fJ gN
  split at hM
  · rename_i h; subst h; exact adh S w l0 aG p0 au y hM hS fJ gN
  split at hM
  · rename_i h; subst h; exact ade S w l0 aG p0 au y hM hS fJ gN
  split at hM
  · rename_i h; subst h; exact ada S w l0 aG p0 au y hM hS fJ gN
  split at hM
  · rename_i h; subst h; exact ac7 S w l0 aG p0 au y hM hS fJ gN
  split at hM
  · rename_i h; subst h; exact adk S w l0 aG p0 au y hM hS fJ gN
  split at hM
  · rename_i h; subst h; exact adi S w l0 aG p0 au y hM hS fJ gN
  split at hM
  · rename_i h; subst h; exact ac8 S w l0 aG p0 au y hM hS fJ gN
  cases hM
def Vk : Unit → Option Int := fun _ =>
  some 0
def IG (l0 : Layout) (p0 : Plan) (bI : Nat → Option Int) : Nat → Option Int := fun oL =>
  if decide ((oL : Int) < 8) then
    ((idx ([18, 19, 20, 21, 22, 23, 24, 25] : List Nat) (oL : Int)).bind fun x5 =>
    (Lf x5 l0 p0).bind fun y7 =>
    if decide (y7 ≠ 0) then
      (some y7)
    else
      (bI (oL + 1)))
  else
    (Vk ())
def EO (l0 : Layout) (p0 : Plan) : Option Int :=
  iter (IG l0 p0) FUEL 0
theorem Vl (S : bU) (w : World) (l0 : Layout) (aG : aj.R Layout) (p0 : Plan) (au : aj.R Plan) (y : Int) (hM : EO l0 p0 = some y) (hS : sB S w) (fJ : aj.ok S w aG l0) (gN : aj.ok S w au p0) :
    Calls Try.prog 6 #[.agg (kX l0 aG), .agg (iK p0 au)] w (dQ w (vI y)) := by
 refine dH (args := [_, _]) Try.func6 rfl ((pre_nil hS).start |>.nX fJ|>.oJ gN) rfl ?_; unfold EO at hM; refine sr ?_; refine aM (dU (l := (fq l0 aG)) (k := fun b1 => ?_)); refine aM (dU (l := (dB p0 au)) (k := fun b2 => ?_))
 refine oa ?_; refine on ?_; refine sr ?_; refine oe (fU [.func (.func 18) #[] #[], .func (.func 19) #[] #[], .func (.func 20) #[] #[], .func (.func 21) #[] #[], .func (.func 22) #[] #[], .func (.func 23) #[] #[], .func (.func 24) #[] #[], .func (.func 25) #[] #[]]) ?_; refine aM (cO rfl (k := fun b3 => ?_)); refine aM (bY (b := b3) (vs := [.func (.func 18) #[] #[], .func (.func 19) #[] #[], .func (.func 20) #[] #[], .func (.func 21) #[] #[], .func (.func 22) #[] #[], .func (.func 23) #[] #[], .func (.func 24) #[] #[], .func (.func 25) #[] #[]]) (k := ?_)); refine on ?_; refine aO fun K3 hK3 => ?_; refine sr ?_; refine oe (cu (b := b3)) ?_; refine om ?_; refine on ?_; refine bX ?_; refine fM (γ := Nat × Nat × Unit) (env := fun (_, oL, _) => [(2, eP b1), (3, eP b2), (10, .v (.agg #[.func (.func 18) #[] #[], .func (.func 19) #[] #[], .func (.func 20) #[] #[], .func (.func 21) #[] #[], .func (.func 22) #[] #[], .func (.func 23) #[] #[], .func (.func 24) #[] #[], .func (.func 25) #[] #[]])), (11, eI (oL : Int))]) (mem := fun (_, oL, _) => [iL l0.aQ aG.1, iL l0.aR aG.2.1, iL l0.Sections aG.2.2.1, iL l0.Links aG.2.2.2, own b1 27 (fq l0 aG), iL p0.aT au.1, iL p0.Routes au.2.1, iL p0.Lines au.2.2.1, iL p0.Changes au.2.2.2.1, iL p0.Turns au.2.2.2.2.1, iL p0.aV au.2.2.2.2.2.1, iL p0.aZ au.2.2.2.2.2.2, own b2 36 (dB p0 au)]) (R := fun g => iter (IG l0 p0) g.1 g.2.1 = some y) (μ := fun g => g.1) (FUEL, 0, ()) hM ⟨rfl, rfl, rfl, rfl, trivial⟩ rI ?_
 clear hM; intro g hM jw hL1; obtain ⟨dx, oL, ⟨⟩⟩ := g; dsimp only at hM ⊢; obtain ⟨dx, bI, rfl, eH, hM⟩ := gG hM; dsimp only [IG] at hM; refine sr ?_; refine oe dJ ?_; refine on ?_; refine aO fun K6 dM => ?_; refine cc rfl hM (fun hc4 hM => ?_) (fun hc4 hM => ?_)
 · have Aj := of_decide_eq_true hc4; refine bA (dM _ _ ?_); clear dM; refine aO fun K7 eZ => ?_; refine bX ?_; refine sr ?_; obtain ⟨x5, hx6, hM⟩ := bind_some hM; refine oe (YF (xs := ([18, 19, 20, 21, 22, 23, 24, 25] : List Nat)) [.func (.func 18) #[] #[], .func (.func 19) #[] #[], .func (.func 20) #[] #[], .func (.func 21) #[] #[], .func (.func 22) #[] #[], .func (.func 23) #[] #[], .func (.func 24) #[] #[], .func (.func 25) #[] #[]] (fun _ => hx6)) ?_; refine oa ?_; refine on ?_; refine sr ?_; refine om ?_; refine oe (cu (b := b1)) ?_; refine oe (cu (b := b2)) ?_; obtain ⟨y7, wu, hM⟩ := bind_some hM; refine aM (Mg (vs := [.agg (kX l0 aG), .agg (iK p0 au)]) (cap := []) (hf := ac5 hx6) (fun w hm => let ⟨S, hs⟩ := hm; ac6 x5 _ w l0 aG p0 au y7 wu (bB hs) ⟨(kM hs), (kM hs), (kM hs), (kM hs)⟩ ⟨(kM hs), (kM hs), (kM hs), (kM hs), (kM hs), (kM hs), (kM hs)⟩) ?_)
   refine oa ?_; refine on ?_; refine sr ?_; refine om ?_; refine oe jo ?_; refine on ?_; refine cc rfl hM (fun sU hM => ?_) (fun sU hM => ?_)
   · refine sr ?_; refine om ?_; refine oa ?_; refine on ?_; obtain rfl := some_inj hM; refine bn (bT (fun w hm => bQ hm rfl))
   refine bA (eZ _ _ ?_); clear eZ; refine bE ?_; refine oe (dh (hr := fun _ => by unfold gy; omega)) ?_; refine om ?_; refine bF (hL1 (dx, (oL + 1), ()) _ _ (eqc eH hM) (Nat.lt_succ_self _) ⟨rfl, rfl, rfl, rfl, trivial⟩ rI)
 refine fI (hK3 _ _ ?_); clear hK3; dsimp only [Vk] at hM; refine sr ?_; refine oa ?_; refine on ?_; obtain rfl := some_inj hM; refine bn (bT (fun w hm => bQ hm rfl))
end Go.Proofs.Ytcalibhfgdncaaa
