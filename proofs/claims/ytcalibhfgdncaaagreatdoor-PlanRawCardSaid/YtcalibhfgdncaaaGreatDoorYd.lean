/- Models of functions, and that the code computes them. -/
import Derived.Test.YtcalibhfgdncaaaGreatDoorYc
set_option linter.all false
namespace Go.Proofs.YtcalibhfgdncaaaGreatDoor
open Go.Dc Go.RowKit
set_option maxRecDepth 10000
def EZ (s_1 : Str) (gH : Int) (aQ : (Int × Str) → Option Str) : Int → Option Str := fun xM =>
  bM (bP (xM + 1)) <|
  (wZ (⟨[48, 49, 50, 51, 52, 53, 54, 55, 56, 57]⟩ : Str) xM (xM + 1)).bind fun q7 =>
  (dB q7 s_1).bind fun q9 =>
  bM (decide (10 ≠ 0) && bP (gH.tdiv 10)) <|
  aQ ((gH.tdiv 10), q9)
def J2 : Str → Option Str := fun vS =>
  some vS
def M7 (n0 : Int) (s_1 : Str) : Unit → Option Str := fun _ =>
  if decide (n0 < 0) then
    ((dB (⟨[45]⟩ : Str) s_1).bind fun Rv =>
    J2 Rv)
  else
    (J2 s_1)
def Cn (n0 : Int) (aQ : (Int × Str) → Option Str) : (Int × Str) → Option Str := fun (gH, s_1) =>
  if decide (gH ≠ 0) then
    (if decide ((gH.tmod 10) < 0) then
      (bM (bP (-(gH.tmod 10))) <|
      EZ s_1 gH aQ (-(gH.tmod 10)))
    else
      (EZ s_1 gH aQ (gH.tmod 10)))
  else
    (M7 n0 s_1 ())
def yC (n0 : Int) : Option Str :=
  if (decide (0 ≤ n0) && decide (n0 < 10)) then
    (bM (bP (n0 + 1)) <|
    (wZ (⟨[48, 49, 50, 51, 52, 53, 54, 55, 56, 57]⟩ : Str) n0 (n0 + 1)).bind fun q3 =>
    some q3)
  else
    (iter (Cn n0) FUEL (n0, (⟨[]⟩ : Str)))
theorem M8 (S : bD) (w : World) (n0 : Int) (y : Str) (hM : yC n0 = some y) (hS : sB S w)  :
    Calls Tryz.prog 94 #[vI n0] w (bW w (.string y.ba)) := by
 refine bR (args := [_]) Tryz.func94 rfl ((pre_nil hS).start) rfl ?_; unfold yC at hM; refine sr ?_; refine oa ?_; refine on ?_; refine aD fun K2 hK2 => ?_; refine sr ?_; refine om ?_; refine oe gW ?_; refine om ?_; refine av rfl aG ?_; refine av rfl bN ?_; refine oe cO ?_; refine on ?_; refine cc rfl hM (fun hc1 hM => ?_) (fun hc1 hM => ?_)
 · refine sr ?_; refine om ?_; refine om ?_; obtain ⟨hI2, hM⟩ := bO hM; refine oe (dh (hr := fun hg => dn hI2)) ?_; obtain ⟨q3, hq4, hM⟩ := bind_some hM; refine oe (Dx (ol := some (.i64, n0)) (oh := some (.i64, (n0 + 1))) (fun _ => hq4)) ?_; refine oa ?_; refine on ?_; obtain rfl := some_inj hM; refine aL (aZ (fun w hm => aW hm rfl))
 refine aM (hK2 _ _ ?_); clear hK2; refine sr ?_; refine oa ?_; refine on ?_; refine sr ?_; refine om ?_; refine oe bN ?_; refine oa ?_; refine on ?_; refine aD fun K7 dI => ?_; refine bf ?_; refine dF (γ := Nat × (Int × Str) × Unit) (env := fun (_, (gH, s_1), _) => [(0, eI gH), (3, .v (.string s_1.ba)), (4, .v (.bool (decide (n0 < 0))))]) (mem := fun (_, (gH, s_1), _) => []) (R := fun g => iter (Cn n0) g.1 g.2.1 = some y) (μ := fun g => g.1) (FUEL, (n0, (⟨[]⟩ : Str)), ()) hM ⟨rfl, rfl, rfl, trivial⟩ rI ?_; clear hM; intro g hM gy hL1; obtain ⟨bJ, ⟨gH, s_1⟩, ⟨⟩⟩ := g; dsimp only at hM ⊢; obtain ⟨bJ, aQ, rfl, dz, hM⟩ := dL hM; dsimp only [Cn] at hM; refine aD fun K8 fE => ?_; refine sr ?_; refine om ?_; refine oe fB ?_; refine on ?_; refine cc rfl hM (fun gX hM => ?_) (fun gX hM => ?_)
 · refine aM (fE _ _ ?_); clear fE; refine bf ?_; refine sr ?_; refine om ?_; refine oe Vs ?_; refine oa ?_; refine on ?_; refine iH (γ := Int × Unit) (env := fun (xM, _) => [(0, eI gH), (3, .v (.string s_1.ba)), (4, .v (.bool (decide (n0 < 0)))), (5, eI xM)]) (mem := fun (xM, _) => []) (R := fun g => EZ s_1 gH aQ g.1 = some y) ?_ ?_
   · intro uO hJ2; refine sr ?_; refine om ?_; refine oe bN ?_; refine on ?_; refine cc rfl hM (fun lK hM => ?_) (fun lK hM => ?_)
     · refine aR ?_; refine om ?_; obtain ⟨xP, hM⟩ := bO hM; refine oe (Mq (hr := fun hg => dn xP)) ?_; refine oa ?_; refine aU (hJ2 ((-(gH.tmod 10)), ()) _ _ hM ⟨rfl, rfl, rfl, rfl, trivial⟩ rI)
     refine aM (hJ2 ((gH.tmod 10), ()) _ _ hM ⟨rfl, rfl, rfl, rfl, trivial⟩ rI)
   clear hM; intro g hM; obtain ⟨xM, ⟨⟩⟩ := g; dsimp only at hM ⊢; dsimp only [EZ] at hM; refine sr ?_; refine om ?_; refine om ?_; obtain ⟨PY, hM⟩ := bO hM; refine oe (dh (hr := fun hg => dn PY)) ?_; obtain ⟨q7, hq8, hM⟩ := bind_some hM; refine oe (Dx (ol := some (.i64, xM)) (oh := some (.i64, (xM + 1))) (fun _ => hq8)) ?_; refine om ?_; obtain ⟨q9, Je, hM⟩ := bind_some hM; refine oe (dK (fun _ => Je)) ?_; refine oa ?_; refine on ?_; refine aR ?_; refine om ?_; obtain ⟨PD, hM⟩ := bO hM; refine oe (abg (hr := fun hg => agm PD)) ?_; refine oa ?_; refine aU (hL1 (bJ, ((gH.tdiv 10), q9), ()) _ _ (eqc dz hM) (Nat.lt_succ_self _) ⟨rfl, rfl, rfl, trivial⟩ rI)
 refine dD (dI _ _ ?_); clear dI; dsimp only [M7] at hM; refine iH (γ := Str × Unit) (env := fun (vS, _) => [(3, .v (.string vS.ba))]) (mem := fun (vS, _) => []) (R := fun g => J2 g.1 = some y) ?_ ?_
 · intro A9 hJ3; refine sr ?_; refine om ?_; refine on ?_; refine cc rfl hM (fun qx hM => ?_) (fun qx hM => ?_)
   · refine aR ?_; refine om ?_; obtain ⟨Rv, adn, hM⟩ := bind_some hM; refine oe (dK (fun _ => adn)) ?_; refine oa ?_; refine aU (hJ3 (Rv, ()) _ _ hM ⟨rfl, trivial⟩ rI)
   refine aM (hJ3 (s_1, ()) _ _ hM ⟨rfl, trivial⟩ rI)
 clear hM; intro g hM; obtain ⟨vS, ⟨⟩⟩ := g; dsimp only at hM ⊢; dsimp only [J2] at hM; refine sr ?_; refine om ?_; refine oa ?_; refine on ?_; obtain rfl := some_inj hM; refine aL (aZ (fun w hm => aW hm rfl))
def nP (n0 : Int) : Option Str :=
  (yC n0).bind fun y1 =>
  some y1
theorem qG (S : bD) (w : World) (n0 : Int) (y : Str) (hM : nP n0 = some y) (hS : sB S w)  :
    Calls Tryz.prog 40 #[vI n0] w (bW w (.string y.ba)) := by
 refine bR (args := [_]) Tryz.func40 rfl ((pre_nil hS).start) rfl ?_; unfold nP at hM; refine sr ?_; refine oa ?_; refine on ?_; refine sr ?_; refine om ?_; obtain ⟨y1, hy2, hM⟩ := bind_some hM; refine aF (bg (fun w hm => let ⟨S, hs⟩ := hm; M8 _ w n0 y1 hy2 (aT hs) ) ?_); refine oa ?_; refine on ?_; obtain rfl := some_inj hM; refine aL (aZ (fun w hm => aW hm rfl))
def F6 (aK : Nat) (aQ : (Str × Nat) → Option Str) : Str → Option Str := fun Gr =>
  bM (bP ((aK : Int) + 1)) <|
  aQ (Gr, aK + 1)
def F7 : Str → Option Str := fun vS =>
  (dB vS (⟨[10]⟩ : Str)).bind fun EN =>
  some EN
def Sy (r0 : aV) (s_1 : Str) : Unit → Option Str := fun _ =>
  if decide (0 < r0.Overlap) then
    ((yC r0.Overlap).bind fun y23 =>
    (dB (⟨[32, 111, 118, 101, 114, 108, 97, 112, 32]⟩ : Str) y23).bind fun Yt =>
    (dB s_1 Yt).bind fun EO =>
    F7 EO)
  else
    (F7 s_1)
def F5 (r0 : aV) (l0 : Layout) (aQ : (Str × Nat) → Option Str) : (Str × Nat) → Option Str := fun (s_1, aK) =>
  if decide ((aK : Int) < (r0.Steps.length : Int)) then
    ((idx r0.Steps (aK : Int)).bind fun x5 =>
    (idx l0.Sections x5.Section).bind fun x7 =>
    (dB (⟨[32]⟩ : Str) x7.Name).bind fun q9 =>
    (dB s_1 q9).bind fun Ru =>
    (idx r0.Steps (aK : Int)).bind fun jK =>
    if decide (jK.Dir = 0) then
      ((dB Ru (⟨[32, 117, 112]⟩ : Str)).bind fun q16 =>
      F6 aK aQ q16)
    else
      ((dB Ru (⟨[32, 100, 111, 119, 110]⟩ : Str)).bind fun EM =>
      F6 aK aQ EM))
  else
    (Sy r0 s_1 ())
def Ku (l0 : Layout) (r0 : aV) : Option Str :=
  iter (F5 r0 l0) FUEL ((⟨[114, 111, 117, 116, 101]⟩ : Str), 0)
theorem agE (S : bD) (w : World) (l0 : Layout) (aj : ak.R Layout) (r0 : aV) (bC : ak.R aV) (y : Str) (hM : Ku l0 r0 = some y) (hS : sB S w) (dH : ak.ok S w aj l0) (kZ : ak.ok S w bC r0) :
    Calls Tryz.prog 41 #[.agg (iy l0 aj), .agg (qM r0 bC)] w (bW w (.string y.ba)) := by
 refine bR (args := [_, _]) Tryz.func41 rfl ((pre_nil hS).start |>.jw dH|>.gQ (α := List Step) (r := bC) (x := r0.Steps) kZ) rfl ?_; unfold Ku at hM; refine sr ?_; refine aF (bU (l := (bK l0 aj)) (k := fun b1 => ?_)); refine aF (bU (l := (gJ r0 bC)) (k := fun b2 => ?_)); refine oa ?_; refine on ?_; refine sr ?_; refine oa ?_; refine on ?_; refine aD fun K3 hK3 => ?_; refine sr ?_; refine oa ?_; refine on ?_; refine bf ?_; refine dF (γ := Nat × (Str × Nat) × Unit) (env := fun (_, (s_1, aK), _) => [(2, eP b1), (3, eP b2), (5, .v (.string s_1.ba)), (6, eI (aK : Int))]) (mem := fun (_, (s_1, aK), _) => [iL l0.aX aj.1, iL l0.bF aj.2.1, iL l0.Sections aj.2.2.1, iL l0.Links aj.2.2.2, own b1 26 (bK l0 aj), iL r0.Steps bC, own b2 90 (gJ r0 bC)]) (R := fun g => iter (F5 r0 l0) g.1 g.2.1 = some y) (μ := fun g => g.1) (FUEL, ((⟨[114, 111, 117, 116, 101]⟩ : Str), 0), ()) hM ⟨rfl, rfl, rfl, rfl, trivial⟩ rI ?_
 clear hM; intro g hM gy hL1; obtain ⟨bJ, ⟨s_1, aK⟩, ⟨⟩⟩ := g; dsimp only at hM ⊢; obtain ⟨bJ, aQ, rfl, dz, hM⟩ := dL hM; dsimp only [F5] at hM; refine aD fun K5 cu => ?_; refine sr ?_; refine om ?_; refine oe (ay 0) ?_; refine oe (aC (b := b2)) ?_; refine oe bE ?_; refine oe bN ?_; refine on ?_; refine cc rfl hM (fun hc3 hM => ?_) (fun hc3 hM => ?_)
 · refine aM (cu _ _ ?_); clear cu; refine iH (γ := Str × Unit) (env := fun (Gr, _) => [(2, eP b1), (3, eP b2), (5, .v (.string Gr.ba)), (6, eI (aK : Int))]) (mem := fun (Gr, _) => [iL l0.aX aj.1, iL l0.bF aj.2.1, iL l0.Sections aj.2.2.1, iL l0.Links aj.2.2.2, own b1 26 (bK l0 aj), iL r0.Steps bC, own b2 90 (gJ r0 bC)]) (R := fun g => F6 aK aQ g.1 = some y) ?_ ?_
   · intro uO hJ2; refine bf ?_; refine aD fun K7 dI => ?_; refine fA _ (List.Sublist.refl _) ?_; refine au 0 rfl aG ?_; refine au 1 rfl (ay 2) ?_; refine au 2 rfl (aC (b := b1)) ?_; refine au 3 rfl (ay 0) ?_; refine au 4 rfl (aC (b := b2)) ?_; refine au 5 rfl aG ?_; obtain ⟨x5, hx6, hM⟩ := bind_some hM; refine au 6 rfl (bA (xs := r0.Steps) 2 (kG r0.Steps bC) (iS hx6)) ?_; refine au 7 rfl (ay 0) ?_; refine au 8 rfl (cZ (i := (aK : Int)) (xs := r0.Steps) (y := x5) 0 (kG r0.Steps bC) (fun _ => hx6)) ?_; obtain ⟨x7, qW, hM⟩ := bind_some hM; refine au 9 rfl (bA (xs := l0.Sections) 5 (kG l0.Sections aj.2.2.1) (iS qW)) ?_; refine au 10 rfl (ay 0) ?_; refine au 11 rfl (cZ (i := x5.Section) (xs := l0.Sections) (y := x7) 0 (kG l0.Sections aj.2.2.1) (fun _ => qW)) ?_; obtain ⟨q9, Je, hM⟩ := bind_some hM; refine au 12 rfl (dK (fun _ => Je)) ?_; obtain ⟨Ru, hq12, hM⟩ := bind_some hM; refine au 13 rfl (dK (fun _ => hq12)) ?_; refine au 14 rfl bX ?_; refine dG (dI _ _ ?_); clear dI; refine sr ?_; refine oe (ay 0) ?_; refine oe (aC (b := b2)) ?_; refine om ?_; obtain ⟨jK, qV, hM⟩ := bind_some hM; refine oe (bA (xs := r0.Steps) 2 (kG r0.Steps bC) (iS qV)) ?_
     refine oe (ay 1) ?_; refine oe (cZ (i := (aK : Int)) (xs := r0.Steps) (y := jK) 1 (kG r0.Steps bC) (fun _ => qV)) ?_; refine oe dS ?_; refine on ?_; refine cc rfl hM (fun qy hM => ?_) (fun qy hM => ?_)
     · refine aR ?_; refine om ?_; obtain ⟨q16, Qx, hM⟩ := bind_some hM; refine oe (dK (fun _ => Qx)) ?_; refine oa ?_; refine aU (hJ2 (q16, ()) _ _ hM ⟨rfl, rfl, rfl, rfl, trivial⟩ rI)
     refine aR ?_; refine om ?_; obtain ⟨EM, Qy, hM⟩ := bind_some hM; refine oe (dK (fun _ => Qy)) ?_; refine oa ?_; refine aU (hJ2 (EM, ()) _ _ hM ⟨rfl, rfl, rfl, rfl, trivial⟩ rI)
   clear hM; intro g hM; obtain ⟨Gr, ⟨⟩⟩ := g; dsimp only at hM ⊢; dsimp only [F6] at hM; refine aR ?_; refine om ?_; obtain ⟨hI4, hM⟩ := bO hM; refine oe (dh (hr := fun hg => dn hI4)) ?_; refine oa ?_; refine aU (hL1 (bJ, (Gr, aK + 1), ()) _ _ (eqc dz hM) (Nat.lt_succ_self _) ⟨rfl, rfl, rfl, rfl, trivial⟩ rI)
 refine dD (hK3 _ _ ?_); clear hK3; dsimp only [Sy] at hM; refine iH (γ := Str × Unit) (env := fun (vS, _) => [(5, .v (.string vS.ba))]) (mem := fun (vS, _) => []) (R := fun g => F7 g.1 = some y) ?_ ?_
 · intro A9 hJ3; refine sr ?_; refine oe (ay 1) ?_; refine oe (aC (b := b2)) ?_; refine oe fP ?_; refine on ?_; refine cc rfl hM (fun hc22 hM => ?_) (fun hc22 hM => ?_)
   · refine aR ?_; refine om ?_; refine oe (ay 1) ?_; refine oe (aC (b := b2)) ?_; obtain ⟨y23, hy24, hM⟩ := bind_some hM; refine aF (bg (fun w hm => let ⟨S, hs⟩ := hm; M8 _ w r0.Overlap y23 hy24 (aT hs) ) ?_); obtain ⟨Yt, adQ, hM⟩ := bind_some hM; refine oe (dK (fun _ => adQ)) ?_; obtain ⟨EO, QA, hM⟩ := bind_some hM; refine oe (dK (fun _ => QA)) ?_; refine oa ?_; refine aU (hJ3 (EO, ()) _ _ hM ⟨rfl, trivial⟩ rI)
   refine aM (hJ3 (s_1, ()) _ _ hM ⟨rfl, trivial⟩ rI)
 clear hM; intro g hM; obtain ⟨vS, ⟨⟩⟩ := g; dsimp only at hM ⊢; dsimp only [F7] at hM; refine sr ?_; refine om ?_; obtain ⟨EN, Qz, hM⟩ := bind_some hM; refine oe (dK (fun _ => Qz)) ?_; refine oa ?_; refine on ?_; obtain rfl := some_inj hM; refine aL (aZ (fun w hm => aW hm rfl))
def Cz (gZ : Int) (hi0 : Int) : Option Str :=
  (yC gZ).bind fun y1 =>
  (dB y1 (⟨[46, 46]⟩ : Str)).bind fun q3 =>
  (yC hi0).bind fun y5 =>
  (dB q3 y5).bind fun q7 =>
  some q7
theorem SA (S : bD) (w : World) (gZ : Int) (hi0 : Int) (y : Str) (hM : Cz gZ hi0 = some y) (hS : sB S w)  :
    Calls Tryz.prog 42 #[vI gZ, vI hi0] w (bW w (.string y.ba)) := by
 refine bR (args := [_, _]) Tryz.func42 rfl ((pre_nil hS).start) rfl ?_; unfold Cz at hM; refine sr ?_; refine oa ?_; refine on ?_; refine sr ?_; refine om ?_; obtain ⟨y1, hy2, hM⟩ := bind_some hM; refine aF (bg (fun w hm => let ⟨S, hs⟩ := hm; M8 _ w gZ y1 hy2 (aT hs) ) ?_); obtain ⟨q3, hq4, hM⟩ := bind_some hM; refine oe (dK (fun _ => hq4)) ?_; refine om ?_; obtain ⟨y5, mQ, hM⟩ := bind_some hM; refine aF (bg (fun w hm => let ⟨S, hs⟩ := hm; M8 _ w hi0 y5 mQ (aT hs) ) ?_); obtain ⟨q7, hq8, hM⟩ := bind_some hM; refine oe (dK (fun _ => hq8)) ?_; refine oa ?_; refine on ?_; obtain rfl := some_inj hM; refine aL (aZ (fun w hm => aW hm rfl))
def FU (lX : Nat) (kY : (Str × Nat) → Option (Str × Int)) : Str → Option (Str × Int) := fun KQ =>
  (dB KQ (⟨[10]⟩ : Str)).bind fun RF =>
  bM (bP ((lX : Int) + 1)) <|
  kY (RF, lX + 1)
def Sq (gL : Nat) (kH : (Str × Nat) → Option (Str × Int)) (yI : Str) : Unit → Option (Str × Int) := fun _ =>
  bM (bP ((gL : Int) + 1)) <|
  kH (yI, gL + 1)
def Cv (j3 : Line) (gL : Nat) (kH : (Str × Nat) → Option (Str × Int)) (kY : (Str × Nat) → Option (Str × Int)) : (Str × Nat) → Option (Str × Int) := fun (yI, lX) =>
  if decide ((lX : Int) < (j3.bq.length : Int)) then
    ((idx j3.bq (lX : Int)).bind fun vX =>
    (idx j3.bq (lX : Int)).bind fun x80 =>
    (nP vX.aV).bind fun Uc =>
    (dB (⟨[114, 105, 100, 101, 32]⟩ : Str) Uc).bind fun YG =>
    (dB YG (⟨[32]⟩ : Str)).bind fun YH =>
    (nP x80.Extra).bind fun Ud =>
    (dB YH Ud).bind fun YI =>
    (dB yI YI).bind fun MU =>
    (idx j3.bq (lX : Int)).bind fun TM =>
    if decide (0 < TM.Max) then
      ((idx j3.bq (lX : Int)).bind fun x100 =>
      (idx j3.bq (lX : Int)).bind fun x102 =>
      (Cz x100.Min x102.Max).bind fun y104 =>
      (dB (⟨[32]⟩ : Str) y104).bind fun XP =>
      (dB MU XP).bind fun Rt =>
      FU lX kY Rt)
    else
      (FU lX kY MU))
  else
    (Sq gL kH yI ())
def Zh (AJ : Str) : Unit → Option (Str × Int) := fun _ =>
  some (AJ, 0)
def FP (p0 : Plan) (l0 : Layout) (Ib : (Str × Nat) → Option (Str × Int)) : (Str × Nat) → Option (Str × Int) := fun (AJ, wJ) =>
  if decide ((wJ : Int) < (p0.bS.length : Int)) then
    ((idx p0.bS (wJ : Int)).bind fun xg =>
    (idx l0.aX xg.From).bind fun TK =>
    (dB (⟨[100, 101, 109, 97, 110, 100, 32]⟩ : Str) TK).bind fun Ym =>
    (dB Ym (⟨[32]⟩ : Str)).bind fun Yn =>
    (idx l0.aX xg.To).bind fun TL =>
    (dB Yn TL).bind fun Yo =>
    (dB Yo (⟨[32]⟩ : Str)).bind fun Yp =>
    (nP xg.Weight).bind fun TY =>
    (dB Yp TY).bind fun Yq =>
    (dB Yq (⟨[10]⟩ : Str)).bind fun Yr =>
    (dB AJ Yr).bind fun Rz =>
    bM (bP ((wJ : Int) + 1)) <|
    Ib (Rz, wJ + 1))
  else
    (Zh AJ ())
def FX (p0 : Plan) (l0 : Layout) (yL : Str) : Unit → Option (Str × Int) := fun _ =>
  iter (FP p0 l0) FUEL (yL, 0)
def FN (p0 : Plan) (l0 : Layout) (zw : (Str × Nat) → Option (Str × Int)) : (Str × Nat) → Option (Str × Int) := fun (yL, mV) =>
  if decide ((mV : Int) < (p0.bT.length : Int)) then
    ((idx p0.bT (mV : Int)).bind fun rO =>
    (idx p0.Lines rO.jA).bind fun TI =>
    (dB (⟨[115, 121, 110, 99, 32]⟩ : Str) TI.Name).bind fun Yc =>
    (dB Yc (⟨[32]⟩ : Str)).bind fun Yd =>
    (idx p0.Lines rO.jF).bind fun TJ =>
    (nP rO.jc).bind fun TU =>
    (dB Yd TU).bind fun Ye =>
    (dB Ye (⟨[32]⟩ : Str)).bind fun Yf =>
    (dB Yf TJ.Name).bind fun Yg =>
    (dB Yg (⟨[32]⟩ : Str)).bind fun Yh =>
    (nP rO.jh).bind fun TV =>
    (dB Yh TV).bind fun Yi =>
    (dB Yi (⟨[32]⟩ : Str)).bind fun Yj =>
    (nP rO.Offset).bind fun TW =>
    (dB Yj TW).bind fun Yk =>
    (dB Yk (⟨[10]⟩ : Str)).bind fun Yl =>
    (dB yL Yl).bind fun Ry =>
    bM (bP ((mV : Int) + 1)) <|
    zw (Ry, mV + 1))
  else
    (FX p0 l0 yL ())
def FW (p0 : Plan) (l0 : Layout) (yK : Str) : Unit → Option (Str × Int) := fun _ =>
  iter (FN p0 l0) FUEL (yK, 0)
def FM (p0 : Plan) (l0 : Layout) (zu : (Str × Nat) → Option (Str × Int)) : (Str × Nat) → Option (Str × Int) := fun (yK, mU) =>
  if decide ((mU : Int) < (p0.Turns.length : Int)) then
    ((idx p0.Turns (mU : Int)).bind fun uK =>
    (idx p0.Lines uK.From).bind fun x158 =>
    (dB (⟨[116, 117, 114, 110, 32]⟩ : Str) x158.Name).bind fun X6 =>
    (dB X6 (⟨[32]⟩ : Str)).bind fun X7 =>
    (idx p0.Lines uK.To).bind fun TH =>
    (dB X7 TH.Name).bind fun X8 =>
    (dB X8 (⟨[32]⟩ : Str)).bind fun X9 =>
    (Cz uK.Min uK.Max).bind fun TT =>
    (dB X9 TT).bind fun Ya =>
    (dB Ya (⟨[10]⟩ : Str)).bind fun Yb =>
    (dB yK Yb).bind fun Rx =>
    bM (bP ((mU : Int) + 1)) <|
    zu (Rx, mU + 1))
  else
    (FW p0 l0 yK ())
def FV (p0 : Plan) (l0 : Layout) (yJ : Str) : Unit → Option (Str × Int) := fun _ =>
  iter (FM p0 l0) FUEL (yJ, 0)
def FL (p0 : Plan) (l0 : Layout) (zq : (Str × Nat) → Option (Str × Int)) : (Str × Nat) → Option (Str × Int) := fun (yJ, mR) =>
  if decide ((mR : Int) < (p0.Changes.length : Int)) then
    ((idx p0.Changes (mR : Int)).bind fun x112 =>
    (idx p0.Lines x112.dX).bind fun x115 =>
    (dB (⟨[99, 104, 97, 110, 103, 101, 32]⟩ : Str) x115.Name).bind fun XQ =>
    (dB XQ (⟨[32]⟩ : Str)).bind fun XR =>
    (idx p0.Lines x112.fK).bind fun TG =>
    (nP x112.fG).bind fun TP =>
    (dB XR TP).bind fun XT =>
    (dB XT (⟨[32]⟩ : Str)).bind fun XU =>
    (dB XU TG.Name).bind fun XV =>
    (dB XV (⟨[32]⟩ : Str)).bind fun XW =>
    (nP x112.iN).bind fun TQ =>
    (dB XW TQ).bind fun XY =>
    (dB XY (⟨[32]⟩ : Str)).bind fun XZ =>
    (Cz x112.Min x112.Max).bind fun TR =>
    (dB XZ TR).bind fun X0 =>
    (dB X0 (⟨[32]⟩ : Str)).bind fun X3 =>
    (nP x112.Weight).bind fun TS =>
    (dB X3 TS).bind fun X4 =>
    (dB X4 (⟨[10]⟩ : Str)).bind fun X5 =>
    (dB yJ X5).bind fun Rw =>
    bM (bP ((mR : Int) + 1)) <|
    zq (Rw, mR + 1))
  else
    (FV p0 l0 yJ ())
def FT (p0 : Plan) (l0 : Layout) (yH : Str) : Unit → Option (Str × Int) := fun _ =>
  iter (FL p0 l0) FUEL (yH, 0)
def FK (p0 : Plan) (l0 : Layout) (kH : (Str × Nat) → Option (Str × Int)) : (Str × Nat) → Option (Str × Int) := fun (yH, gL) =>
  if decide ((gL : Int) < (p0.Lines.length : Int)) then
    ((idx p0.Lines (gL : Int)).bind fun j3 =>
    (dB (⟨[108, 105, 110, 101, 32]⟩ : Str) j3.Name).bind fun YA =>
    (dB YA (⟨[32]⟩ : Str)).bind fun YB =>
    (idx p0.aY j3.bL).bind fun xk =>
    (dB YB xk.Name).bind fun YC =>
    (dB YC (⟨[32]⟩ : Str)).bind fun YD =>
    (nP j3.Weight).bind fun Ub =>
    (dB YD Ub).bind fun YE =>
    (dB YE (⟨[10]⟩ : Str)).bind fun YF =>
    (dB yH YF).bind fun RD =>
    iter (Cv j3 gL kH) FUEL (RD, 0))
  else
    (FT p0 l0 yH ())
def FR (p0 : Plan) (l0 : Layout) (s_2 : Str) : Unit → Option (Str × Int) := fun _ =>
  iter (FK p0 l0) FUEL (s_2, 0)
def FJ (p0 : Plan) (l0 : Layout) (iA : (Str × Nat) → Option (Str × Int)) : (Str × Nat) → Option (Str × Int) := fun (s_2, fI) =>
  if decide ((fI : Int) < (p0.Routes.length : Int)) then
    ((idx p0.Routes (fI : Int)).bind fun LB =>
    (Ku l0 LB).bind fun CU =>
    (dB s_2 CU).bind fun RB =>
    bM (bP ((fI : Int) + 1)) <|
    iA (RB, fI + 1))
  else
    (FR p0 l0 s_2 ())
def FQ (p0 : Plan) (l0 : Layout) (s_1 : Str) : Unit → Option (Str × Int) := fun _ =>
  iter (FJ p0 l0) FUEL (s_1, 0)
def Cu (p0 : Plan) (l0 : Layout) (aQ : (Str × Nat) → Option (Str × Int)) : (Str × Nat) → Option (Str × Int) := fun (s_1, aK) =>
  if decide ((aK : Int) < (p0.aY.length : Int)) then
    ((idx p0.aY (aK : Int)).bind fun jK =>
    (dB (⟨[115, 116, 111, 99, 107, 32]⟩ : Str) jK.Name).bind fun q16 =>
    (dB q16 (⟨[32]⟩ : Str)).bind fun EM =>
    (nP jK.Length).bind fun y20 =>
    (dB EM y20).bind fun q22 =>
    (dB q22 (⟨[32]⟩ : Str)).bind fun q24 =>
    (nP jK.lI).bind fun ko =>
    (dB q24 ko).bind fun Yu =>
    (dB Yu (⟨[32]⟩ : Str)).bind fun Yv =>
    (nP jK.lF).bind fun y32 =>
    (dB Yv y32).bind fun Yw =>
    (dB Yw (⟨[32]⟩ : Str)).bind fun Yx =>
    (nP jK.lG).bind fun y38 =>
    (dB Yx y38).bind fun Yy =>
    (dB Yy (⟨[10]⟩ : Str)).bind fun Yz =>
    (dB s_1 Yz).bind fun RA =>
    bM (bP ((aK : Int) + 1)) <|
    aQ (RA, aK + 1))
  else
    (FQ p0 l0 s_1 ())
def Kq (l0 : Layout) (p0 : Plan) : Option (Str × Int) :=
  (FI l0 p0).bind fun y3 =>
  if decide (y3 ≠ 0) then
    (some ((⟨[]⟩ : Str), 1))
  else
    ((nP p0.dW).bind fun y6 =>
    (dB (⟨[112, 101, 114, 105, 111, 100, 32]⟩ : Str) y6).bind fun q8 =>
    (dB q8 (⟨[10]⟩ : Str)).bind fun Rs =>
    iter (Cu p0 l0) FUEL (Rs, 0))
theorem agA (S : bD) (w : World) (l0 : Layout) (aj : ak.R Layout) (p0 : Plan) (ah : ak.R Plan) (y : Str × Int) (hM : Kq l0 p0 = some y) (hS : sB S w) (dH : ak.ok S w aj l0) (eu : ak.ok S w ah p0) :
    Calls Tryz.prog 15 #[.agg (iy l0 aj), .agg (jT p0 ah)] w (bW w (.tuple #[.string y.1.ba, vI y.2])) := by
 refine bR (args := [_, _]) Tryz.func15 rfl ((pre_nil hS).start |>.jw dH|>.kD eu) rfl ?_; unfold Kq at hM; refine sr ?_; refine aF (bU (l := (bK l0 aj)) (k := fun b1 => ?_)); refine aF (bU (l := (dO p0 ah)) (k := fun b2 => ?_))
 refine oa ?_; refine oa ?_; refine on ?_; refine aD fun K2 hK2 => ?_; refine sr ?_; refine oe (bH (b := b1)) ?_; refine oe (bH (b := b2)) ?_; obtain ⟨y3, hy4, hM⟩ := bind_some hM; refine aF (bg (fun w hm => let ⟨S, hs⟩ := hm; Zg _ w l0 aj p0 ah y3 hy4 (aT hs) ⟨(kM hs), (kM hs), (kM hs), (kM hs)⟩ ⟨(kM hs), (kM hs), (kM hs), (kM hs), (kM hs), (kM hs), (kM hs)⟩) ?_); refine oe fB ?_; refine on ?_; refine cc rfl hM (fun gX hM => ?_) (fun gX hM => ?_)
 · refine sr ?_; refine oa ?_; refine oa ?_; refine on ?_; obtain rfl := some_inj hM; refine aL (jQ (fun w hm => aW hm rfl))
 refine aM (hK2 _ _ ?_); clear hK2; refine sr ?_; refine oe (ay 0) ?_; refine oe (aC (b := b2)) ?_; obtain ⟨y6, qC, hM⟩ := bind_some hM; refine aF (bg (fun w hm => let ⟨S, hs⟩ := hm; qG _ w p0.dW y6 qC (aT hs) ) ?_); obtain ⟨q8, hq9, hM⟩ := bind_some hM; refine oe (dK (fun _ => hq9)) ?_; obtain ⟨Rs, hq11, hM⟩ := bind_some hM; refine oe (dK (fun _ => hq11)) ?_; refine oa ?_; refine on ?_; refine aD fun K6 cK => ?_; refine sr ?_; refine oa ?_; refine on ?_; refine bf ?_; refine dF (γ := Nat × (Str × Nat) × Unit) (env := fun (_, (s_1, aK), _) => [(2, eP b1), (3, eP b2), (6, .v (.string s_1.ba)), (7, eI (aK : Int))]) (mem := fun (_, (s_1, aK), _) => [iL l0.aX aj.1, iL l0.bF aj.2.1, iL l0.Sections aj.2.2.1, iL l0.Links aj.2.2.2, own b1 26 (bK l0 aj), iL p0.aY ah.1, iL p0.Routes ah.2.1, iL p0.Lines ah.2.2.1, iL p0.Changes ah.2.2.2.1, iL p0.Turns ah.2.2.2.2.1, iL p0.bT ah.2.2.2.2.2.1, iL p0.bS ah.2.2.2.2.2.2, own b2 35 (dO p0 ah)]) (R := fun g => iter (Cu p0 l0) g.1 g.2.1 = some y) (μ := fun g => g.1) (FUEL, (Rs, 0), ()) hM ⟨rfl, rfl, rfl, rfl, trivial⟩ rI ?_
 clear hM; intro g hM gy hL1; obtain ⟨bJ, ⟨s_1, aK⟩, ⟨⟩⟩ := g; dsimp only at hM ⊢; obtain ⟨bJ, aQ, rfl, dz, hM⟩ := dL hM; dsimp only [Cu] at hM; refine aD fun K8 fE => ?_; refine sr ?_; refine om ?_; refine oe (ay 1) ?_; refine oe (aC (b := b2)) ?_; refine oe bE ?_; refine oe bN ?_; refine on ?_; refine cc rfl hM (fun lK hM => ?_) (fun lK hM => ?_)
 · refine aM (fE _ _ ?_); clear fE; refine aD fun pE gu => ?_; refine bf ?_; refine sr ?_; refine oe (ay 1) ?_; refine oe (aC (b := b2)) ?_; refine om ?_; obtain ⟨jK, qV, hM⟩ := bind_some hM; refine oe (bA (xs := p0.aY) 5 (kG p0.aY ah.1) (iS qV)) ?_; refine oe (dU (m := 5) (i := (aK : Int)) (xs := p0.aY) (y := jK) (l := (mg jK)) 0 (kG p0.aY ah.1) (fun _ => qV)) ?_; refine aF (bQ rfl (k := fun b15 => ?_)); refine aF (bI (b := b15) (vs := (mg jK)) (k := ?_)); refine on ?_; refine fA _ (List.Sublist.refl _) ?_; refine au 0 rfl aG ?_; refine au 1 rfl (ay 0) ?_; refine au 2 rfl (aC (b := b15)) ?_; obtain ⟨q16, Qx, hM⟩ := bind_some hM; refine au 3 rfl (dK (fun _ => Qx)) ?_; obtain ⟨EM, Qy, hM⟩ := bind_some hM; refine au 4 rfl (dK (fun _ => Qy)) ?_; refine au 5 rfl (ay 1) ?_; refine au 6 rfl (aC (b := b15)) ?_; refine au 10 rfl (ay 2) ?_; refine au 11 rfl (aC (b := b15)) ?_; refine au 15 rfl (ay 3) ?_; refine au 16 rfl (aC (b := b15)) ?_
   refine au 20 rfl (ay 4) ?_; refine au 21 rfl (aC (b := b15)) ?_; obtain ⟨y20, vB, hM⟩ := bind_some hM; refine bB 7 rfl (bg (fun w hm => let ⟨S, hs⟩ := hm; qG _ w jK.Length y20 vB (aT hs) ) ⟨rI, ?_⟩); obtain ⟨q22, adK, hM⟩ := bind_some hM; refine au 8 rfl (dK (fun _ => adK)) ?_; obtain ⟨q24, adP, hM⟩ := bind_some hM; refine au 9 rfl (dK (fun _ => adP)) ?_; obtain ⟨ko, hy27, hM⟩ := bind_some hM; refine bB 12 rfl (bg (fun w hm => let ⟨S, hs⟩ := hm; qG _ w jK.lI ko hy27 (aT hs) ) ⟨rI, ?_⟩); obtain ⟨Yu, adR, hM⟩ := bind_some hM; refine au 13 rfl (dK (fun _ => adR)) ?_; obtain ⟨Yv, adT, hM⟩ := bind_some hM; refine au 14 rfl (dK (fun _ => adT)) ?_; obtain ⟨y32, Jp, hM⟩ := bind_some hM; refine bB 17 rfl (bg (fun w hm => let ⟨S, hs⟩ := hm; qG _ w jK.lF y32 Jp (aT hs) ) ⟨rI, ?_⟩); obtain ⟨Yw, adU, hM⟩ := bind_some hM; refine au 18 rfl (dK (fun _ => adU)) ?_; obtain ⟨Yx, adW, hM⟩ := bind_some hM; refine au 19 rfl (dK (fun _ => adW)) ?_; obtain ⟨y38, hy39, hM⟩ := bind_some hM; refine bB 22 rfl (bg (fun w hm => let ⟨S, hs⟩ := hm; qG _ w jK.lG y38 hy39 (aT hs) ) ⟨rI, ?_⟩); obtain ⟨Yy, adX, hM⟩ := bind_some hM; refine au 23 rfl (dK (fun _ => adX)) ?_; obtain ⟨Yz, adY, hM⟩ := bind_some hM; refine au 24 rfl (dK (fun _ => adY)) ?_; obtain ⟨RA, adZ, hM⟩ := bind_some hM; refine au 25 rfl (dK (fun _ => adZ)) ?_; refine au 26 rfl bX ?_
   refine dG (gu _ _ ?_); clear gu; refine aR ?_; refine om ?_; obtain ⟨PW, hM⟩ := bO hM; refine oe (dh (hr := fun hg => dn PW)) ?_; refine oa ?_; refine aU (hL1 (bJ, (RA, aK + 1), ()) _ _ (eqc dz hM) (Nat.lt_succ_self _) ⟨rfl, rfl, rfl, rfl, trivial⟩ rI)
 refine dD (cK _ _ ?_); clear cK; dsimp only [FQ] at hM; refine aD fun uq iU => ?_; refine sr ?_; refine oa ?_; refine on ?_; refine bf ?_; refine dF (γ := Nat × (Str × Nat) × Unit) (env := fun (_, (s_2, fI), _) => [(2, eP b1), (3, eP b2), (6, .v (.string s_2.ba)), (9, eI (fI : Int))]) (mem := fun (_, (s_2, fI), _) => [iL l0.aX aj.1, iL l0.bF aj.2.1, iL l0.Sections aj.2.2.1, iL l0.Links aj.2.2.2, own b1 26 (bK l0 aj), iL p0.aY ah.1, iL p0.Routes ah.2.1, iL p0.Lines ah.2.2.1, iL p0.Changes ah.2.2.2.1, iL p0.Turns ah.2.2.2.2.1, iL p0.bT ah.2.2.2.2.2.1, iL p0.bS ah.2.2.2.2.2.2, own b2 35 (dO p0 ah)]) (R := fun g => iter (FJ p0 l0) g.1 g.2.1 = some y) (μ := fun g => g.1) (FUEL, (s_1, 0), ()) hM ⟨rfl, rfl, rfl, rfl, trivial⟩ rI ?_
 clear hM; intro g hM uP hL2; obtain ⟨jI, ⟨s_2, fI⟩, ⟨⟩⟩ := g; dsimp only at hM ⊢; obtain ⟨jI, iA, rfl, mH, hM⟩ := dL hM; dsimp only [FJ] at hM; refine aD fun uN jv => ?_; refine sr ?_; refine om ?_; refine oe (ay 2) ?_; refine oe (aC (b := b2)) ?_; refine oe bE ?_; refine oe bN ?_; refine on ?_; refine cc rfl hM (fun hc47 hM => ?_) (fun hc47 hM => ?_)
 · refine aM (jv _ _ ?_); clear jv; refine aD fun xu j5 => ?_; refine bf ?_; refine fA _ (List.Sublist.refl _) ?_; refine au 0 rfl aG ?_; refine au 1 rfl (bH (b := b1)) ?_; refine au 2 rfl (ay 2) ?_; refine au 3 rfl (aC (b := b2)) ?_; refine au 4 rfl aG ?_; obtain ⟨LB, QE, hM⟩ := bind_some hM; refine au 5 rfl (bA (xs := p0.Routes) 2 (kG p0.Routes ah.2.1) (iS QE)) ?_; refine au 6 rfl (dU (m := 2) (i := (fI : Int)) (xs := p0.Routes) (y := LB) (l := (gJ LB (ah.2.1.es (fI : Int).toNat))) 0 (kG p0.Routes ah.2.1) (fun _ => QE)) ?_; obtain ⟨CU, QK, hM⟩ := bind_some hM; refine bB 7 rfl (bg (fun w hm => let ⟨S, hs⟩ := hm; agE _ w l0 aj LB (ah.2.1.es (fI : Int).toNat) CU QK (aT hs) ⟨(kM hs), (kM hs), (kM hs), (kM hs)⟩ (Kn.lend ((Sk.elem (Sk.dJ (α := List aV) (r := ah.2.1) (x := p0.Routes) hA) QE)).kn hs)) ⟨rI, ?_⟩); obtain ⟨RB, ad1, hM⟩ := bind_some hM; refine au 8 rfl (dK (fun _ => ad1)) ?_; refine au 9 rfl bX ?_; refine dG (j5 _ _ ?_); clear j5; refine aR ?_; refine om ?_; obtain ⟨PX, hM⟩ := bO hM; refine oe (dh (hr := fun hg => dn PX)) ?_; refine oa ?_; refine aU (hL2 (jI, (RB, fI + 1), ()) _ _ (eqc mH hM) (Nat.lt_succ_self _) ⟨rfl, rfl, rfl, rfl, trivial⟩ rI)
 refine dD (iU _ _ ?_); clear iU; dsimp only [FR] at hM; refine aD fun CV ny => ?_; refine sr ?_; refine oa ?_; refine on ?_; refine bf ?_; refine dF (γ := Nat × (Str × Nat) × Unit) (env := fun (_, (yH, gL), _) => [(2, eP b1), (3, eP b2), (6, .v (.string yH.ba)), (10, eI (gL : Int))]) (mem := fun (_, (yH, gL), _) => [iL l0.aX aj.1, iL l0.bF aj.2.1, iL l0.Sections aj.2.2.1, iL l0.Links aj.2.2.2, own b1 26 (bK l0 aj), iL p0.aY ah.1, iL p0.Routes ah.2.1, iL p0.Lines ah.2.2.1, iL p0.Changes ah.2.2.2.1, iL p0.Turns ah.2.2.2.2.1, iL p0.bT ah.2.2.2.2.2.1, iL p0.bS ah.2.2.2.2.2.2, own b2 35 (dO p0 ah)]) (R := fun g => iter (FK p0 l0) g.1 g.2.1 = some y) (μ := fun g => g.1) (FUEL, (s_2, 0), ()) hM ⟨rfl, rfl, rfl, rfl, trivial⟩ rI ?_
 clear hM; intro g hM CX hL3; obtain ⟨oQ, ⟨yH, gL⟩, ⟨⟩⟩ := g; dsimp only at hM ⊢; obtain ⟨oQ, kH, rfl, vv, hM⟩ := dL hM; dsimp only [FK] at hM; refine aD fun ze kQ => ?_; refine sr ?_; refine om ?_; refine oe (ay 3) ?_; refine oe (aC (b := b2)) ?_; refine oe bE ?_; refine oe bN ?_; refine on ?_; refine cc rfl hM (fun I6 hM => ?_) (fun I6 hM => ?_)
 · refine aM (kQ _ _ ?_); clear kQ; refine aD fun LK qQ => ?_; refine bf ?_; refine sr ?_; refine oe (ay 3) ?_; refine oe (aC (b := b2)) ?_; refine om ?_; obtain ⟨j3, uy, hM⟩ := bind_some hM; refine oe (bA (xs := p0.Lines) 4 (kG p0.Lines ah.2.2.1) (iS uy)) ?_; refine oe (dU (m := 4) (i := (gL : Int)) (xs := p0.Lines) (y := j3) (l := (iW j3 (ah.2.2.1.es (gL : Int).toNat))) 0 (kG p0.Lines ah.2.2.1) (fun _ => uy)) ?_; refine aF (bQ rfl (k := fun qO => ?_)); refine aF (bI (b := qO) (vs := (iW j3 (ah.2.2.1.es (gL : Int).toNat))) (k := ?_)); refine on ?_; refine aD fun Hf nK => ?_; refine fA _ (List.Sublist.refl _) ?_; refine au 0 rfl aG ?_; refine au 1 rfl (ay 0) ?_; refine au 2 rfl (aC (b := qO)) ?_; obtain ⟨YA, ad2, hM⟩ := bind_some hM; refine au 3 rfl (dK (fun _ => ad2)) ?_; obtain ⟨YB, ad3, hM⟩ := bind_some hM; refine au 4 rfl (dK (fun _ => ad3)) ?_; refine au 5 rfl (ay 1) ?_; refine au 6 rfl (aC (b := b2)) ?_; refine au 7 rfl (ay 1) ?_
   refine au 8 rfl (aC (b := qO)) ?_; obtain ⟨xk, Jk, hM⟩ := bind_some hM; refine au 9 rfl (bA (xs := p0.aY) 5 (kG p0.aY ah.1) (iS Jk)) ?_; refine au 10 rfl (ay 0) ?_; refine au 11 rfl (cZ (i := j3.bL) (xs := p0.aY) (y := xk) 0 (kG p0.aY ah.1) (fun _ => Jk)) ?_; obtain ⟨YC, ad4, hM⟩ := bind_some hM; refine au 12 rfl (dK (fun _ => ad4)) ?_; obtain ⟨YD, ad5, hM⟩ := bind_some hM; refine au 13 rfl (dK (fun _ => ad5)) ?_; refine au 14 rfl (ay 2) ?_; refine au 15 rfl (aC (b := qO)) ?_; obtain ⟨Ub, aeH, hM⟩ := bind_some hM; refine bB 16 rfl (bg (fun w hm => let ⟨S, hs⟩ := hm; qG _ w j3.Weight Ub aeH (aT hs) ) ⟨rI, ?_⟩); obtain ⟨YE, ad6, hM⟩ := bind_some hM; refine au 17 rfl (dK (fun _ => ad6)) ?_; obtain ⟨YF, ad7, hM⟩ := bind_some hM; refine au 18 rfl (dK (fun _ => ad7)) ?_; obtain ⟨RD, ad8, hM⟩ := bind_some hM; refine au 19 rfl (dK (fun _ => ad8)) ?_; refine au 20 rfl bX ?_; refine dG (nK _ _ ?_); clear nK; refine sr ?_; refine oa ?_; refine on ?_; refine bf ?_; refine dF (γ := Nat × (Str × Nat) × Unit) (env := fun (_, (yI, lX), _) => [(2, eP b1), (3, eP b2), (6, .v (.string yI.ba)), (10, eI (gL : Int)), (11, eP qO), (12, eI (lX : Int))]) (mem := fun (_, (yI, lX), _) => [iL l0.aX aj.1, iL l0.bF aj.2.1, iL l0.Sections aj.2.2.1, iL l0.Links aj.2.2.2, own b1 26 (bK l0 aj), iL p0.aY ah.1, iL p0.Routes ah.2.1, iL p0.Lines ah.2.2.1, iL p0.Changes ah.2.2.2.1, iL p0.Turns ah.2.2.2.2.1, iL p0.bT ah.2.2.2.2.2.1, iL p0.bS ah.2.2.2.2.2.2, own b2 35 (dO p0 ah), own qO 56 (iW j3 (ah.2.2.1.es (gL : Int).toNat))]) (R := fun g => iter (Cv j3 gL kH) g.1 g.2.1 = some y) (μ := fun g => g.1) (FUEL, (RD, 0), ()) hM ⟨rfl, rfl, rfl, rfl, rfl, rfl, trivial⟩ rI ?_
   clear hM; intro g hM LQ hL4; obtain ⟨rA, ⟨yI, lX⟩, ⟨⟩⟩ := g; dsimp only at hM ⊢; obtain ⟨rA, kY, rfl, xS, hM⟩ := dL hM; dsimp only [Cv] at hM; refine aD fun OD uX => ?_; refine sr ?_; refine om ?_; refine oe (ay 3) ?_; refine oe (aC (b := qO)) ?_; refine oe bE ?_; refine oe bN ?_; refine on ?_; refine cc rfl hM (fun acH hM => ?_) (fun acH hM => ?_)
   · refine aM (uX _ _ ?_); clear uX; refine aD fun LM qR => ?_; refine bf ?_; refine aD fun Uh zH => ?_; refine fA _ (List.Sublist.refl _) ?_; refine au 0 rfl aG ?_; refine au 1 rfl (ay 3) ?_; refine au 2 rfl (aC (b := qO)) ?_; refine au 3 rfl aG ?_; obtain ⟨vX, Jl, hM⟩ := bind_some hM; refine au 4 rfl (bA (xs := j3.bq) 4 ((Sk.elem (Sk.dJ (α := List Line) (r := ah.2.2.1) (x := p0.Lines) hA) uy)).kn (iS Jl)) ?_; refine au 5 rfl (ay 0) ?_; refine au 6 rfl (cZ (i := (lX : Int)) (xs := j3.bq) (y := vX) 0 ((Sk.elem (Sk.dJ (α := List Line) (r := ah.2.2.1) (x := p0.Lines) hA) uy)).kn (fun _ => Jl)) ?_; refine au 10 rfl (ay 3) ?_; refine au 11 rfl (aC (b := qO)) ?_; refine au 12 rfl aG ?_; obtain ⟨x80, WJ, hM⟩ := bind_some hM; refine au 13 rfl (bA (xs := j3.bq) 4 ((Sk.elem (Sk.dJ (α := List Line) (r := ah.2.2.1) (x := p0.Lines) hA) uy)).kn (iS WJ)) ?_; refine au 14 rfl (ay 1) ?_; refine au 15 rfl (cZ (i := (lX : Int)) (xs := j3.bq) (y := x80) 1 ((Sk.elem (Sk.dJ (α := List Line) (r := ah.2.2.1) (x := p0.Lines) hA) uy)).kn (fun _ => WJ)) ?_; obtain ⟨Uc, aeM, hM⟩ := bind_some hM; refine bB 7 rfl (bg (fun w hm => let ⟨S, hs⟩ := hm; qG _ w vX.aV Uc aeM (aT hs) ) ⟨rI, ?_⟩); obtain ⟨YG, ad9, hM⟩ := bind_some hM; refine au 8 rfl (dK (fun _ => ad9)) ?_; obtain ⟨YH, aea, hM⟩ := bind_some hM
     refine au 9 rfl (dK (fun _ => aea)) ?_; obtain ⟨Ud, aeO, hM⟩ := bind_some hM; refine bB 16 rfl (bg (fun w hm => let ⟨S, hs⟩ := hm; qG _ w x80.Extra Ud aeO (aT hs) ) ⟨rI, ?_⟩); obtain ⟨YI, aeb, hM⟩ := bind_some hM; refine au 17 rfl (dK (fun _ => aeb)) ?_; obtain ⟨MU, aec, hM⟩ := bind_some hM; refine au 18 rfl (dK (fun _ => aec)) ?_; refine au 19 rfl bX ?_; refine dG (zH _ _ ?_); clear zH; refine iH (γ := Str × Unit) (env := fun (KQ, _) => [(2, eP b1), (3, eP b2), (6, .v (.string KQ.ba)), (10, eI (gL : Int)), (11, eP qO), (12, eI (lX : Int))]) (mem := fun (KQ, _) => [iL l0.aX aj.1, iL l0.bF aj.2.1, iL l0.Sections aj.2.2.1, iL l0.Links aj.2.2.2, own b1 26 (bK l0 aj), iL p0.aY ah.1, iL p0.Routes ah.2.1, iL p0.Lines ah.2.2.1, iL p0.Changes ah.2.2.2.1, iL p0.Turns ah.2.2.2.2.1, iL p0.bT ah.2.2.2.2.2.1, iL p0.bS ah.2.2.2.2.2.2, own b2 35 (dO p0 ah), own qO 56 (iW j3 (ah.2.2.1.es (gL : Int).toNat))]) (R := fun g => FU lX kY g.1 = some y) ?_ ?_
     · intro OJ uW; refine sr ?_; refine oe (ay 3) ?_; refine oe (aC (b := qO)) ?_; refine om ?_; obtain ⟨TM, hx98, hM⟩ := bind_some hM; refine oe (bA (xs := j3.bq) 4 ((Sk.elem (Sk.dJ (α := List Line) (r := ah.2.2.1) (x := p0.Lines) hA) uy)).kn (iS hx98)) ?_; refine oe (ay 3) ?_; refine oe (cZ (i := (lX : Int)) (xs := j3.bq) (y := TM) 3 ((Sk.elem (Sk.dJ (α := List Line) (r := ah.2.2.1) (x := p0.Lines) hA) uy)).kn (fun _ => hx98)) ?_; refine oe fP ?_; refine on ?_; refine cc rfl hM (fun hc99 hM => ?_) (fun hc99 hM => ?_)
       · refine fA _ (List.Sublist.refl _) ?_; refine au 0 rfl aG ?_; refine au 1 rfl (ay 3) ?_; refine au 2 rfl (aC (b := qO)) ?_; refine au 3 rfl aG ?_; obtain ⟨x100, hx101, hM⟩ := bind_some hM; refine au 4 rfl (bA (xs := j3.bq) 4 ((Sk.elem (Sk.dJ (α := List Line) (r := ah.2.2.1) (x := p0.Lines) hA) uy)).kn (iS hx101)) ?_; refine au 5 rfl (ay 2) ?_; refine au 6 rfl (cZ (i := (lX : Int)) (xs := j3.bq) (y := x100) 2 ((Sk.elem (Sk.dJ (α := List Line) (r := ah.2.2.1) (x := p0.Lines) hA) uy)).kn (fun _ => hx101)) ?_; refine au 7 rfl (ay 3) ?_; refine au 8 rfl (aC (b := qO)) ?_; refine au 9 rfl aG ?_; obtain ⟨x102, Wh, hM⟩ := bind_some hM; refine au 10 rfl (bA (xs := j3.bq) 4 ((Sk.elem (Sk.dJ (α := List Line) (r := ah.2.2.1) (x := p0.Lines) hA) uy)).kn (iS Wh)) ?_; refine au 11 rfl (ay 3) ?_; refine au 12 rfl (cZ (i := (lX : Int)) (xs := j3.bq) (y := x102) 3 ((Sk.elem (Sk.dJ (α := List Line) (r := ah.2.2.1) (x := p0.Lines) hA) uy)).kn (fun _ => Wh)) ?_; obtain ⟨y104, aeg, hM⟩ := bind_some hM; refine bB 13 rfl (bg (fun w hm => let ⟨S, hs⟩ := hm; SA _ w x100.Min x102.Max y104 aeg (aT hs) ) ⟨rI, ?_⟩); obtain ⟨XP, ac5, hM⟩ := bind_some hM; refine au 14 rfl (dK (fun _ => ac5)) ?_; obtain ⟨Rt, ac6, hM⟩ := bind_some hM; refine au 15 rfl (dK (fun _ => ac6)) ?_; refine au 16 rfl bX ?_; refine dG (uW (Rt, ()) _ _ hM ⟨rfl, rfl, rfl, rfl, rfl, rfl, trivial⟩ rI)
       refine aM (uW (MU, ()) _ _ hM ⟨rfl, rfl, rfl, rfl, rfl, rfl, trivial⟩ rI)
     clear hM; intro g hM; obtain ⟨KQ, ⟨⟩⟩ := g; dsimp only at hM ⊢; dsimp only [FU] at hM; refine aR ?_; refine om ?_; obtain ⟨RF, aed, hM⟩ := bind_some hM; refine oe (dK (fun _ => aed)) ?_; refine oa ?_; refine aU (qR _ _ ?_); clear qR; refine aR ?_; refine om ?_; obtain ⟨ab6, hM⟩ := bO hM; refine oe (dh (hr := fun hg => dn ab6)) ?_; refine oa ?_; refine aU (hL4 (rA, (RF, lX + 1), ()) _ _ (eqc xS hM) (Nat.lt_succ_self _) ⟨rfl, rfl, rfl, rfl, rfl, rfl, trivial⟩ rI)
   refine dD (qQ _ _ ?_); clear qQ; dsimp only [Sq] at hM; refine aR ?_; refine om ?_; obtain ⟨abM, hM⟩ := bO hM; refine oe (dh (hr := fun hg => dn abM)) ?_; refine oa ?_; refine aU (hL3 (oQ, (yI, gL + 1), ()) _ _ (eqc vv hM) (Nat.lt_succ_self _) ⟨rfl, rfl, rfl, rfl, trivial⟩ rI)
 refine dD (ny _ _ ?_); clear ny; dsimp only [FT] at hM; refine aD fun LP qU => ?_; refine sr ?_; refine oa ?_; refine on ?_; refine bf ?_; refine dF (γ := Nat × (Str × Nat) × Unit) (env := fun (_, (yJ, mR), _) => [(2, eP b1), (3, eP b2), (6, .v (.string yJ.ba)), (13, eI (mR : Int))]) (mem := fun (_, (yJ, mR), _) => [iL l0.aX aj.1, iL l0.bF aj.2.1, iL l0.Sections aj.2.2.1, iL l0.Links aj.2.2.2, own b1 26 (bK l0 aj), iL p0.aY ah.1, iL p0.Routes ah.2.1, iL p0.Lines ah.2.2.1, iL p0.Changes ah.2.2.2.1, iL p0.Turns ah.2.2.2.2.1, iL p0.bT ah.2.2.2.2.2.1, iL p0.bS ah.2.2.2.2.2.2, own b2 35 (dO p0 ah)]) (R := fun g => iter (FL p0 l0) g.1 g.2.1 = some y) (μ := fun g => g.1) (FUEL, (yH, 0), ()) hM ⟨rfl, rfl, rfl, rfl, trivial⟩ rI ?_
 clear hM; intro g hM Un hL5; obtain ⟨zY, ⟨yJ, mR⟩, ⟨⟩⟩ := g; dsimp only at hM ⊢; obtain ⟨zY, zq, rfl, I9, hM⟩ := dL hM; dsimp only [FL] at hM; refine aD fun Ui zI => ?_; refine sr ?_; refine om ?_; refine oe (ay 4) ?_; refine oe (aC (b := b2)) ?_; refine oe bE ?_; refine oe bN ?_; refine on ?_; refine cc rfl hM (fun acr hM => ?_) (fun acr hM => ?_)
 · refine aM (zI _ _ ?_); clear zI; refine aD fun Uj zJ => ?_; refine bf ?_; refine sr ?_; refine oe (ay 4) ?_; refine oe (aC (b := b2)) ?_; refine om ?_; obtain ⟨x112, hx113, hM⟩ := bind_some hM; refine oe (bA (xs := p0.Changes) 7 (kG p0.Changes ah.2.2.2.1) (iS hx113)) ?_; refine oe (dU (m := 7) (i := (mR : Int)) (xs := p0.Changes) (y := x112) (l := (wO x112)) 0 (kG p0.Changes ah.2.2.2.1) (fun _ => hx113)) ?_; refine aF (bQ rfl (k := fun zm => ?_)); refine aF (bI (b := zm) (vs := (wO x112)) (k := ?_)); refine on ?_; refine fA _ (List.Sublist.refl _) ?_; refine au 0 rfl aG ?_; refine au 1 rfl (ay 3) ?_; refine au 2 rfl (aC (b := b2)) ?_; refine au 3 rfl (ay 0) ?_; refine au 4 rfl (aC (b := zm)) ?_; obtain ⟨x115, Wm, hM⟩ := bind_some hM; refine au 5 rfl (bA (xs := p0.Lines) 4 (kG p0.Lines ah.2.2.1) (iS Wm)) ?_; refine au 6 rfl (ay 0) ?_; refine au 7 rfl (cZ (i := x112.dX) (xs := p0.Lines) (y := x115) 0 (kG p0.Lines ah.2.2.1) (fun _ => Wm)) ?_
   obtain ⟨XQ, ac7, hM⟩ := bind_some hM; refine au 8 rfl (dK (fun _ => ac7)) ?_; obtain ⟨XR, ac8, hM⟩ := bind_some hM; refine au 9 rfl (dK (fun _ => ac8)) ?_; refine au 10 rfl (ay 1) ?_; refine au 11 rfl (aC (b := zm)) ?_; refine au 15 rfl (ay 3) ?_; refine au 16 rfl (aC (b := b2)) ?_; refine au 17 rfl (ay 2) ?_; refine au 18 rfl (aC (b := zm)) ?_; obtain ⟨TG, Wn, hM⟩ := bind_some hM; refine au 19 rfl (bA (xs := p0.Lines) 4 (kG p0.Lines ah.2.2.1) (iS Wn)) ?_; refine au 20 rfl (ay 0) ?_; refine au 21 rfl (cZ (i := x112.fK) (xs := p0.Lines) (y := TG) 0 (kG p0.Lines ah.2.2.1) (fun _ => Wn)) ?_; refine au 24 rfl (ay 3) ?_; refine au 25 rfl (aC (b := zm)) ?_; refine au 29 rfl (ay 4) ?_; refine au 30 rfl (aC (b := zm)) ?_; refine au 31 rfl (ay 5) ?_; refine au 32 rfl (aC (b := zm)) ?_; refine au 36 rfl (ay 6) ?_; refine au 37 rfl (aC (b := zm)) ?_; obtain ⟨TP, aei, hM⟩ := bind_some hM; refine bB 12 rfl (bg (fun w hm => let ⟨S, hs⟩ := hm; qG _ w x112.fG TP aei (aT hs) ) ⟨rI, ?_⟩); obtain ⟨XT, ac9, hM⟩ := bind_some hM; refine au 13 rfl (dK (fun _ => ac9)) ?_; obtain ⟨XU, ada, hM⟩ := bind_some hM; refine au 14 rfl (dK (fun _ => ada)) ?_; obtain ⟨XV, adb, hM⟩ := bind_some hM
   refine au 22 rfl (dK (fun _ => adb)) ?_; obtain ⟨XW, ade, hM⟩ := bind_some hM; refine au 23 rfl (dK (fun _ => ade)) ?_; obtain ⟨TQ, aej, hM⟩ := bind_some hM; refine bB 26 rfl (bg (fun w hm => let ⟨S, hs⟩ := hm; qG _ w x112.iN TQ aej (aT hs) ) ⟨rI, ?_⟩); obtain ⟨XY, adf, hM⟩ := bind_some hM; refine au 27 rfl (dK (fun _ => adf)) ?_; obtain ⟨XZ, adg, hM⟩ := bind_some hM; refine au 28 rfl (dK (fun _ => adg)) ?_; obtain ⟨TR, aek, hM⟩ := bind_some hM; refine bB 33 rfl (bg (fun w hm => let ⟨S, hs⟩ := hm; SA _ w x112.Min x112.Max TR aek (aT hs) ) ⟨rI, ?_⟩); obtain ⟨X0, adh, hM⟩ := bind_some hM; refine au 34 rfl (dK (fun _ => adh)) ?_; obtain ⟨X3, adi, hM⟩ := bind_some hM; refine au 35 rfl (dK (fun _ => adi)) ?_; obtain ⟨TS, ael, hM⟩ := bind_some hM; refine bB 38 rfl (bg (fun w hm => let ⟨S, hs⟩ := hm; qG _ w x112.Weight TS ael (aT hs) ) ⟨rI, ?_⟩); obtain ⟨X4, adj, hM⟩ := bind_some hM; refine au 39 rfl (dK (fun _ => adj)) ?_; obtain ⟨X5, adk, hM⟩ := bind_some hM; refine au 40 rfl (dK (fun _ => adk)) ?_; obtain ⟨Rw, adl, hM⟩ := bind_some hM; refine au 41 rfl (dK (fun _ => adl)) ?_; refine au 42 rfl bX ?_; refine dG (zJ _ _ ?_); clear zJ; refine aR ?_; refine om ?_; obtain ⟨abN, hM⟩ := bO hM; refine oe (dh (hr := fun hg => dn abN)) ?_; refine oa ?_; refine aU (hL5 (zY, (Rw, mR + 1), ()) _ _ (eqc I9 hM) (Nat.lt_succ_self _) ⟨rfl, rfl, rfl, rfl, trivial⟩ rI)
 refine dD (qU _ _ ?_); clear qU; dsimp only [FV] at hM; refine aD fun K36 IJ => ?_; refine sr ?_; refine oa ?_; refine on ?_; refine bf ?_; refine dF (γ := Nat × (Str × Nat) × Unit) (env := fun (_, (yK, mU), _) => [(2, eP b1), (3, eP b2), (6, .v (.string yK.ba)), (15, eI (mU : Int))]) (mem := fun (_, (yK, mU), _) => [iL l0.aX aj.1, iL l0.bF aj.2.1, iL l0.Sections aj.2.2.1, iL l0.Links aj.2.2.2, own b1 26 (bK l0 aj), iL p0.aY ah.1, iL p0.Routes ah.2.1, iL p0.Lines ah.2.2.1, iL p0.Changes ah.2.2.2.1, iL p0.Turns ah.2.2.2.2.1, iL p0.bT ah.2.2.2.2.2.1, iL p0.bS ah.2.2.2.2.2.2, own b2 35 (dO p0 ah)]) (R := fun g => iter (FM p0 l0) g.1 g.2.1 = some y) (μ := fun g => g.1) (FUEL, (yJ, 0), ()) hM ⟨rfl, rfl, rfl, rfl, trivial⟩ rI ?_
 clear hM; intro g hM Uo hL6; obtain ⟨zZ, ⟨yK, mU⟩, ⟨⟩⟩ := g; dsimp only at hM ⊢; obtain ⟨zZ, zu, rfl, Ja, hM⟩ := dL hM; dsimp only [FM] at hM; refine aD fun K38 IK => ?_; refine sr ?_; refine om ?_; refine oe (ay 5) ?_; refine oe (aC (b := b2)) ?_; refine oe bE ?_; refine oe bN ?_; refine on ?_; refine cc rfl hM (fun acu hM => ?_) (fun acu hM => ?_)
 · refine aM (IK _ _ ?_); clear IK; refine aD fun Ul zL => ?_; refine bf ?_; refine sr ?_; refine oe (ay 5) ?_; refine oe (aC (b := b2)) ?_; refine om ?_; obtain ⟨uK, Wo, hM⟩ := bind_some hM; refine oe (bA (xs := p0.Turns) 4 (kG p0.Turns ah.2.2.2.2.1) (iS Wo)) ?_; refine oe (dU (m := 4) (i := (mU : Int)) (xs := p0.Turns) (y := uK) (l := (oo uK)) 0 (kG p0.Turns ah.2.2.2.2.1) (fun _ => Wo)) ?_; refine aF (bQ rfl (k := fun Hy => ?_)); refine aF (bI (b := Hy) (vs := (oo uK)) (k := ?_)); refine on ?_; refine fA _ (List.Sublist.refl _) ?_; refine au 0 rfl aG ?_; refine au 1 rfl (ay 3) ?_; refine au 2 rfl (aC (b := b2)) ?_; refine au 3 rfl (ay 0) ?_; refine au 4 rfl (aC (b := Hy)) ?_; obtain ⟨x158, hx159, hM⟩ := bind_some hM; refine au 5 rfl (bA (xs := p0.Lines) 4 (kG p0.Lines ah.2.2.1) (iS hx159)) ?_; refine au 6 rfl (ay 0) ?_; refine au 7 rfl (cZ (i := uK.From) (xs := p0.Lines) (y := x158) 0 (kG p0.Lines ah.2.2.1) (fun _ => hx159)) ?_; obtain ⟨X6, ado, hM⟩ := bind_some hM
   refine au 8 rfl (dK (fun _ => ado)) ?_; obtain ⟨X7, adp, hM⟩ := bind_some hM; refine au 9 rfl (dK (fun _ => adp)) ?_; refine au 10 rfl (ay 3) ?_; refine au 11 rfl (aC (b := b2)) ?_; refine au 12 rfl (ay 1) ?_; refine au 13 rfl (aC (b := Hy)) ?_; obtain ⟨TH, Wp, hM⟩ := bind_some hM; refine au 14 rfl (bA (xs := p0.Lines) 4 (kG p0.Lines ah.2.2.1) (iS Wp)) ?_; refine au 15 rfl (ay 0) ?_; refine au 16 rfl (cZ (i := uK.To) (xs := p0.Lines) (y := TH) 0 (kG p0.Lines ah.2.2.1) (fun _ => Wp)) ?_; obtain ⟨X8, adq, hM⟩ := bind_some hM; refine au 17 rfl (dK (fun _ => adq)) ?_; obtain ⟨X9, adr, hM⟩ := bind_some hM; refine au 18 rfl (dK (fun _ => adr)) ?_; refine au 19 rfl (ay 2) ?_; refine au 20 rfl (aC (b := Hy)) ?_; refine au 21 rfl (ay 3) ?_; refine au 22 rfl (aC (b := Hy)) ?_; obtain ⟨TT, aem, hM⟩ := bind_some hM; refine bB 23 rfl (bg (fun w hm => let ⟨S, hs⟩ := hm; SA _ w uK.Min uK.Max TT aem (aT hs) ) ⟨rI, ?_⟩); obtain ⟨Ya, ads, hM⟩ := bind_some hM; refine au 24 rfl (dK (fun _ => ads)) ?_; obtain ⟨Yb, adt, hM⟩ := bind_some hM; refine au 25 rfl (dK (fun _ => adt)) ?_; obtain ⟨Rx, adu, hM⟩ := bind_some hM; refine au 26 rfl (dK (fun _ => adu)) ?_; refine au 27 rfl bX ?_; refine dG (zL _ _ ?_); clear zL
   refine aR ?_; refine om ?_; obtain ⟨abO, hM⟩ := bO hM; refine oe (dh (hr := fun hg => dn abO)) ?_; refine oa ?_; refine aU (hL6 (zZ, (Rx, mU + 1), ()) _ _ (eqc Ja hM) (Nat.lt_succ_self _) ⟨rfl, rfl, rfl, rfl, trivial⟩ rI)
 refine dD (IJ _ _ ?_); clear IJ; dsimp only [FW] at hM; refine aD fun K42 VD => ?_; refine sr ?_; refine oa ?_; refine on ?_; refine bf ?_; refine dF (γ := Nat × (Str × Nat) × Unit) (env := fun (_, (yL, mV), _) => [(2, eP b1), (3, eP b2), (6, .v (.string yL.ba)), (17, eI (mV : Int))]) (mem := fun (_, (yL, mV), _) => [iL l0.aX aj.1, iL l0.bF aj.2.1, iL l0.Sections aj.2.2.1, iL l0.Links aj.2.2.2, own b1 26 (bK l0 aj), iL p0.aY ah.1, iL p0.Routes ah.2.1, iL p0.Lines ah.2.2.1, iL p0.Changes ah.2.2.2.1, iL p0.Turns ah.2.2.2.2.1, iL p0.bT ah.2.2.2.2.2.1, iL p0.bS ah.2.2.2.2.2.2, own b2 35 (dO p0 ah)]) (R := fun g => iter (FN p0 l0) g.1 g.2.1 = some y) (μ := fun g => g.1) (FUEL, (yK, 0), ()) hM ⟨rfl, rfl, rfl, rfl, trivial⟩ rI ?_
 clear hM; intro g hM Uq hL7; obtain ⟨z8, ⟨yL, mV⟩, ⟨⟩⟩ := g; dsimp only at hM ⊢; obtain ⟨z8, zw, rfl, Jb, hM⟩ := dL hM; dsimp only [FN] at hM; refine aD fun K44 VE => ?_; refine sr ?_; refine om ?_; refine oe (ay 6) ?_; refine oe (aC (b := b2)) ?_; refine oe bE ?_; refine oe bN ?_; refine on ?_; refine cc rfl hM (fun acv hM => ?_) (fun acv hM => ?_)
 · refine aM (VE _ _ ?_); clear VE; refine aD fun K46 IV => ?_; refine bf ?_; refine sr ?_; refine oe (ay 6) ?_; refine oe (aC (b := b2)) ?_; refine om ?_; obtain ⟨rO, Wq, hM⟩ := bind_some hM; refine oe (bA (xs := p0.bT) 5 (kG p0.bT ah.2.2.2.2.2.1) (iS Wq)) ?_; refine oe (dU (m := 5) (i := (mV : Int)) (xs := p0.bT) (y := rO) (l := (yh rO)) 0 (kG p0.bT ah.2.2.2.2.2.1) (fun _ => Wq)) ?_; refine aF (bQ rfl (k := fun CZ => ?_)); refine aF (bI (b := CZ) (vs := (yh rO)) (k := ?_)); refine on ?_; refine fA _ (List.Sublist.refl _) ?_; refine au 0 rfl aG ?_; refine au 1 rfl (ay 3) ?_; refine au 2 rfl (aC (b := b2)) ?_; refine au 3 rfl (ay 0) ?_; refine au 4 rfl (aC (b := CZ)) ?_; obtain ⟨TI, Ws, hM⟩ := bind_some hM; refine au 5 rfl (bA (xs := p0.Lines) 4 (kG p0.Lines ah.2.2.1) (iS Ws)) ?_; refine au 6 rfl (ay 0) ?_; refine au 7 rfl (cZ (i := rO.jA) (xs := p0.Lines) (y := TI) 0 (kG p0.Lines ah.2.2.1) (fun _ => Ws)) ?_
   obtain ⟨Yc, adv, hM⟩ := bind_some hM; refine au 8 rfl (dK (fun _ => adv)) ?_; obtain ⟨Yd, adw, hM⟩ := bind_some hM; refine au 9 rfl (dK (fun _ => adw)) ?_; refine au 10 rfl (ay 1) ?_; refine au 11 rfl (aC (b := CZ)) ?_; refine au 15 rfl (ay 3) ?_; refine au 16 rfl (aC (b := b2)) ?_; refine au 17 rfl (ay 2) ?_; refine au 18 rfl (aC (b := CZ)) ?_; obtain ⟨TJ, Wt, hM⟩ := bind_some hM; refine au 19 rfl (bA (xs := p0.Lines) 4 (kG p0.Lines ah.2.2.1) (iS Wt)) ?_; refine au 20 rfl (ay 0) ?_; refine au 21 rfl (cZ (i := rO.jF) (xs := p0.Lines) (y := TJ) 0 (kG p0.Lines ah.2.2.1) (fun _ => Wt)) ?_; refine au 24 rfl (ay 3) ?_; refine au 25 rfl (aC (b := CZ)) ?_; refine au 29 rfl (ay 4) ?_; refine au 30 rfl (aC (b := CZ)) ?_; obtain ⟨TU, aen, hM⟩ := bind_some hM; refine bB 12 rfl (bg (fun w hm => let ⟨S, hs⟩ := hm; qG _ w rO.jc TU aen (aT hs) ) ⟨rI, ?_⟩); obtain ⟨Ye, adx, hM⟩ := bind_some hM; refine au 13 rfl (dK (fun _ => adx)) ?_; obtain ⟨Yf, ady, hM⟩ := bind_some hM; refine au 14 rfl (dK (fun _ => ady)) ?_; obtain ⟨Yg, adz, hM⟩ := bind_some hM; refine au 22 rfl (dK (fun _ => adz)) ?_; obtain ⟨Yh, adA, hM⟩ := bind_some hM; refine au 23 rfl (dK (fun _ => adA)) ?_; obtain ⟨TV, aep, hM⟩ := bind_some hM
   refine bB 26 rfl (bg (fun w hm => let ⟨S, hs⟩ := hm; qG _ w rO.jh TV aep (aT hs) ) ⟨rI, ?_⟩); obtain ⟨Yi, adB, hM⟩ := bind_some hM; refine au 27 rfl (dK (fun _ => adB)) ?_; obtain ⟨Yj, adC, hM⟩ := bind_some hM; refine au 28 rfl (dK (fun _ => adC)) ?_; obtain ⟨TW, aer, hM⟩ := bind_some hM; refine bB 31 rfl (bg (fun w hm => let ⟨S, hs⟩ := hm; qG _ w rO.Offset TW aer (aT hs) ) ⟨rI, ?_⟩); obtain ⟨Yk, adD, hM⟩ := bind_some hM; refine au 32 rfl (dK (fun _ => adD)) ?_; obtain ⟨Yl, adE, hM⟩ := bind_some hM; refine au 33 rfl (dK (fun _ => adE)) ?_; obtain ⟨Ry, adF, hM⟩ := bind_some hM; refine au 34 rfl (dK (fun _ => adF)) ?_; refine au 35 rfl bX ?_; refine dG (IV _ _ ?_); clear IV; refine aR ?_; refine om ?_; obtain ⟨abQ, hM⟩ := bO hM; refine oe (dh (hr := fun hg => dn abQ)) ?_; refine oa ?_; refine aU (hL7 (z8, (Ry, mV + 1), ()) _ _ (eqc Jb hM) (Nat.lt_succ_self _) ⟨rfl, rfl, rfl, rfl, trivial⟩ rI)
 refine dD (VD _ _ ?_); clear VD; dsimp only [FX] at hM; refine aD fun K48 VG => ?_; refine sr ?_; refine oa ?_; refine on ?_; refine bf ?_; refine dF (γ := Nat × (Str × Nat) × Unit) (env := fun (_, (AJ, wJ), _) => [(2, eP b1), (3, eP b2), (6, .v (.string AJ.ba)), (19, eI (wJ : Int))]) (mem := fun (_, (AJ, wJ), _) => [iL l0.aX aj.1, iL l0.bF aj.2.1, iL l0.Sections aj.2.2.1, iL l0.Links aj.2.2.2, own b1 26 (bK l0 aj), iL p0.aY ah.1, iL p0.Routes ah.2.1, iL p0.Lines ah.2.2.1, iL p0.Changes ah.2.2.2.1, iL p0.Turns ah.2.2.2.2.1, iL p0.bT ah.2.2.2.2.2.1, iL p0.bS ah.2.2.2.2.2.2, own b2 35 (dO p0 ah)]) (R := fun g => iter (FP p0 l0) g.1 g.2.1 = some y) (μ := fun g => g.1) (FUEL, (yL, 0), ()) hM ⟨rfl, rfl, rfl, rfl, trivial⟩ rI ?_
 clear hM; intro g hM KL8 P5; obtain ⟨JB, ⟨AJ, wJ⟩, ⟨⟩⟩ := g; dsimp only at hM ⊢; obtain ⟨JB, Ib, rfl, Qn, hM⟩ := dL hM; dsimp only [FP] at hM; refine aD fun K50 VI => ?_; refine sr ?_; refine om ?_; refine oe (ay 7) ?_; refine oe (aC (b := b2)) ?_; refine oe bE ?_; refine oe bN ?_; refine on ?_; refine cc rfl hM (fun acw hM => ?_) (fun acw hM => ?_)
 · refine aM (VI _ _ ?_); clear VI; refine aD fun K52 IX => ?_; refine bf ?_; refine sr ?_; refine oe (ay 7) ?_; refine oe (aC (b := b2)) ?_; refine om ?_; obtain ⟨xg, Wv, hM⟩ := bind_some hM; refine oe (bA (xs := p0.bS) 3 (kG p0.bS ah.2.2.2.2.2.2) (iS Wv)) ?_; refine oe (dU (m := 3) (i := (wJ : Int)) (xs := p0.bS) (y := xg) (l := (yc xg)) 0 (kG p0.bS ah.2.2.2.2.2.2) (fun _ => Wv)) ?_; refine aF (bQ rfl (k := fun L6 => ?_)); refine aF (bI (b := L6) (vs := (yc xg)) (k := ?_)); refine on ?_; refine fA _ (List.Sublist.refl _) ?_; refine au 0 rfl aG ?_; refine au 1 rfl (ay 0) ?_; refine au 2 rfl (aC (b := b1)) ?_; refine au 3 rfl (ay 0) ?_; refine au 4 rfl (aC (b := L6)) ?_; obtain ⟨TK, Ww, hM⟩ := bind_some hM; refine au 5 rfl (bA (xs := l0.aX) 1 (kG l0.aX aj.1) (iS Ww)) ?_; refine au 6 rfl (cZ (i := xg.From) (xs := l0.aX) (y := TK) 0 (kG l0.aX aj.1) (fun _ => Ww)) ?_; obtain ⟨Ym, adG, hM⟩ := bind_some hM; refine au 7 rfl (dK (fun _ => adG)) ?_
   obtain ⟨Yn, adH, hM⟩ := bind_some hM; refine au 8 rfl (dK (fun _ => adH)) ?_; refine au 9 rfl (ay 0) ?_; refine au 10 rfl (aC (b := b1)) ?_; refine au 11 rfl (ay 1) ?_; refine au 12 rfl (aC (b := L6)) ?_; obtain ⟨TL, Wx, hM⟩ := bind_some hM; refine au 13 rfl (bA (xs := l0.aX) 1 (kG l0.aX aj.1) (iS Wx)) ?_; refine au 14 rfl (cZ (i := xg.To) (xs := l0.aX) (y := TL) 0 (kG l0.aX aj.1) (fun _ => Wx)) ?_; obtain ⟨Yo, adJ, hM⟩ := bind_some hM; refine au 15 rfl (dK (fun _ => adJ)) ?_; obtain ⟨Yp, adL, hM⟩ := bind_some hM; refine au 16 rfl (dK (fun _ => adL)) ?_; refine au 17 rfl (ay 2) ?_; refine au 18 rfl (aC (b := L6)) ?_; obtain ⟨TY, aes, hM⟩ := bind_some hM; refine bB 19 rfl (bg (fun w hm => let ⟨S, hs⟩ := hm; qG _ w xg.Weight TY aes (aT hs) ) ⟨rI, ?_⟩); obtain ⟨Yq, adM, hM⟩ := bind_some hM; refine au 20 rfl (dK (fun _ => adM)) ?_; obtain ⟨Yr, adN, hM⟩ := bind_some hM; refine au 21 rfl (dK (fun _ => adN)) ?_; obtain ⟨Rz, adO, hM⟩ := bind_some hM; refine au 22 rfl (dK (fun _ => adO)) ?_; refine au 23 rfl bX ?_; refine dG (IX _ _ ?_); clear IX; refine aR ?_; refine om ?_; obtain ⟨abS, hM⟩ := bO hM; refine oe (dh (hr := fun hg => dn abS)) ?_; refine oa ?_
   refine aU (P5 (JB, (Rz, wJ + 1), ()) _ _ (eqc Qn hM) (Nat.lt_succ_self _) ⟨rfl, rfl, rfl, rfl, trivial⟩ rI)
 refine dD (VG _ _ ?_); clear VG; dsimp only [Zh] at hM; refine sr ?_; refine om ?_; refine oa ?_; refine oa ?_; refine on ?_; obtain rfl := some_inj hM; refine aL (jQ (fun w hm => aW hm rfl))
end Go.Proofs.YtcalibhfgdncaaaGreatDoor
