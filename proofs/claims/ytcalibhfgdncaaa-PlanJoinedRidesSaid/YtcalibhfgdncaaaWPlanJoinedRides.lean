/- Models of functions, and that the code computes them. -/
import Derived.Test.YtcalibhfgdncaaaPt
import Derived.Test.YtcalibhfgdncaaaPy
import Derived.Test.YtcalibhfgdncaaaPv
set_option linter.all false
namespace Go.Proofs.Ytcalibhfgdncaaa
open Go.Dc Go.RowKit
set_option maxRecDepth 10000
def UJ (bI : Nat → Option Bool) (oC : Nat) : Unit → Option Bool := fun _ =>
  bI (oC + 1)
def Cb (y6 : Plan) (oC : Nat) (bI : Nat → Option Bool) (gZ : Nat → Option Bool) : Nat → Option Bool := fun dV =>
  (idx y6.Lines (oC : Int)).bind fun mW =>
  if decide ((dV : Int) < (mW.ay.length : Int)) then
    (bq (bP ((dV : Int) - 1)) <|
    (zf y6 (oC : Int) (dV : Int)).bind fun y20 =>
    (Et y6 (oC : Int) ((dV : Int) - 1)).bind fun y22 =>
    (fP (!(decide (y20 ≠ y22))) default (zf y6 (oC : Int) (dV : Int))).bind fun y24 =>
    if (decide (y20 ≠ y22) || decide (y24 < 0)) then
      (some false)
    else
      (bq (bP ((dV : Int) + 1)) <|
      gZ (dV + 1)))
  else
    (UJ bI oC ())
def Pt : Unit → Option Bool := fun _ =>
  (Iu).bind fun Rl =>
  some Rl
def Er (y6 : Plan) (mD : Nat → Option Bool) : Nat → Option Bool := fun wV =>
  if decide ((wV : Int) < (y6.Turns.length : Int)) then
    ((idx y6.Turns (wV : Int)).bind fun x30 =>
    (fP (!(decide (x30.From < 0) || decide ((y6.Lines.length : Int) ≤ x30.From))) default (idx y6.Lines x30.From)).bind fun ak =>
    if (!(decide (x30.From < 0) || decide ((y6.Lines.length : Int) ≤ x30.From))) then
    (bq (bP ((ak.ay.length : Int) - 1)) <|
    (Et y6 x30.From ((ak.ay.length : Int) - 1)).bind fun y38 =>
    (zf y6 x30.To 0).bind fun oN =>
    (fP (!((decide (x30.From < 0) || decide ((y6.Lines.length : Int) ≤ x30.From)) || decide (y38 ≠ oN))) default (zf y6 x30.To 0)).bind fun gu =>
    if (((decide (x30.From < 0) || decide ((y6.Lines.length : Int) ≤ x30.From)) || decide (y38 ≠ oN)) || decide (gu < 0)) then
      (some false)
    else
      (mD (wV + 1)))
    else
    ((fP (!true) default (zf y6 x30.To 0)).bind fun yE =>
    if (true || decide (yE < 0)) then
      (some false)
    else
      (mD (wV + 1))))
  else
    (Pt ())
def La (y6 : Plan) : Unit → Option Bool := fun _ =>
  iter (Er y6) FUEL 0
def Ca (y6 : Plan) (bI : Nat → Option Bool) : Nat → Option Bool := fun oC =>
  if decide ((oC : Int) < (y6.Lines.length : Int)) then
    (iter (Cb y6 oC bI) FUEL 1)
  else
    (La y6 ())
def Lb (l0 : List Int) (wo : Int) (ug : Int) (v0 : Int) : Option Bool :=
  (Ij l0).bind fun y1 =>
  (Ii y1.2 wo ug v0).bind fun y6 =>
  (EO y1.1 y6).bind fun y9 =>
  if decide (y9 ≠ 0) then
    ((Iu).bind fun ru =>
    some ru)
  else
    (iter (Ca y6) FUEL 0)
theorem acu (S : bU) (w : World) (l0 : List Int) (aG : aj.R (List Int)) (wo : Int) (ug : Int) (v0 : Int) (y : Bool) (hM : Lb l0 wo ug v0 = some y) (hS : sB S w) (fJ : aj.ok S w aG l0) :
    Calls Try.prog 3 #[sL aG l0, vI wo, vI ug, vI v0] w (dQ w (.bool y)) := by
 refine dH (args := [_, _, _, _]) Try.func3 rfl ((pre_nil hS).start |>.gU (α := List Int) (r := aG) (x := l0) fJ) rfl ?_; unfold Lb at hM; refine sr ?_; refine oa ?_; refine on ?_; refine sr ?_; refine om ?_; obtain ⟨y1, hy2, hM⟩ := bind_some hM; refine aM (qB jF.nil (fun S w hs hP => aci _ w l0 aG y1 hy2 hs.lt (kI hs))  (fun r3 => ?_)); dsimp only [List.cons_append, List.nil_append]; refine om ?_; refine oe (jA (vs := [.agg (kX y1.1 r3.1), .agg (iK y1.2 r3.2)])) ?_; refine oe (jA (vs := [.agg (kX y1.1 r3.1), .agg (iK y1.2 r3.2)])) ?_
 refine aM (cO rfl (k := fun b4 => ?_)); refine aM (cO rfl (k := fun b5 => ?_)); refine aM (bY (b := b4) (vs := (fq y1.1 r3.1)) (k := ?_)); refine aM (bY (b := b5) (vs := (dB y1.2 r3.2)) (k := ?_)); refine on ?_; refine sr ?_; refine oe (cu (b := b5)) ?_; refine om ?_; refine om ?_; refine om ?_; obtain ⟨y6, uD, hM⟩ := bind_some hM; refine aM (qB jF.nil (fun S w hs hP => ach _ w y1.2 r3.2 wo ug v0 y6 uD hs.lt ⟨(kI hs), (kI hs), (kI hs), (kI hs), (kI hs), (kI hs), (kI hs)⟩)  (fun r8 => ?_)); dsimp only [List.cons_append, List.nil_append]; refine aM (bY (b := b5) (vs := (dB y6 r8)) (k := ?_))
 refine on ?_; refine aO fun K4 hK4 => ?_; refine sr ?_; refine oe (cu (b := b4)) ?_; refine oe (cu (b := b5)) ?_; obtain ⟨y9, BO, hM⟩ := bind_some hM; refine aM (bJ (fun w hm => let ⟨S, hs⟩ := hm; Vl _ w y1.1 r3.1 y6 r8 y9 BO (bB hs) ⟨(kM hs), (kM hs), (kM hs), (kM hs)⟩ ⟨(kM hs), (kM hs), (kM hs), (kM hs), (kM hs), (kM hs), (kM hs)⟩) ?_); refine oe jo ?_; refine on ?_; refine cc rfl hM (fun yU hM => ?_) (fun yU hM => ?_)
 · refine sr ?_; obtain ⟨ru, BP, hM⟩ := bind_some hM; refine aM (bJ (fun w hm => let ⟨S, hs⟩ := hm; UK _ w  ru BP (bB hs) ) ?_); refine oa ?_; refine on ?_; obtain rfl := some_inj hM; refine bn (bT (fun w hm => bQ hm rfl))
 refine bA (hK4 _ _ ?_); clear hK4; refine aO fun K7 eZ => ?_; refine sr ?_; refine oe (aH 3) ?_; refine oe (aN (b := b5)) ?_; refine mZ (fun w hm => Kn.len (kG y6.Lines r8.2.2.1) hm) fun aeU => ?_; refine oe bR ?_; refine om ?_; refine on ?_; refine bX ?_; refine fM (γ := Nat × Nat × Unit) (env := fun (_, oC, _) => [(10, eP b5), (32, eI (y6.Lines.length : Int)), (33, eI (oC : Int))]) (mem := fun (_, oC, _) => [iL y6.aT r8.1, iL y6.Routes r8.2.1, iL y6.Lines r8.2.2.1, iL y6.Changes r8.2.2.2.1, iL y6.Turns r8.2.2.2.2.1, iL y6.aV r8.2.2.2.2.2.1, iL y6.aZ r8.2.2.2.2.2.2, own b5 36 (dB y6 r8)]) (R := fun g => iter (Ca y6) g.1 g.2.1 = some y) (μ := fun g => g.1) (FUEL, 0, ()) hM ⟨rfl, rfl, rfl, trivial⟩ rI ?_; clear hM; intro g hM jw hL1
 obtain ⟨dx, oC, ⟨⟩⟩ := g; dsimp only at hM ⊢; obtain ⟨dx, bI, rfl, eH, hM⟩ := gG hM; dsimp only [Ca] at hM; refine sr ?_; refine oe dJ ?_; refine on ?_; refine aO fun rW iA => ?_; refine cc rfl hM (fun xL hM => ?_) (fun xL hM => ?_)
 · have aeI := of_decide_eq_true xL; refine bA (iA _ _ ?_); clear iA; refine aO fun rX ig => ?_; refine bX ?_; refine sr ?_; refine om ?_; refine oa ?_; refine on ?_; refine sr ?_; refine oa ?_; refine on ?_; refine bX ?_; refine fM (γ := Nat × Nat × Unit) (env := fun (_, dV, _) => [(10, eP b5), (11, eI (oC : Int)), (12, eI (dV : Int)), (32, eI (y6.Lines.length : Int)), (33, eI (oC : Int))]) (mem := fun (_, dV, _) => [iL y6.aT r8.1, iL y6.Routes r8.2.1, iL y6.Lines r8.2.2.1, iL y6.Changes r8.2.2.2.1, iL y6.Turns r8.2.2.2.2.1, iL y6.aV r8.2.2.2.2.2.1, iL y6.aZ r8.2.2.2.2.2.2, own b5 36 (dB y6 r8)]) (R := fun g => iter (Cb y6 oC bI) g.1 g.2.1 = some y) (μ := fun g => g.1) (FUEL, 1, ()) hM ⟨rfl, rfl, rfl, rfl, rfl, trivial⟩ rI ?_
   clear hM; intro g hM xk hL2; obtain ⟨lS, dV, ⟨⟩⟩ := g; dsimp only at hM ⊢; obtain ⟨lS, gZ, rfl, pO, hM⟩ := gG hM; dsimp only [Cb] at hM; refine aO fun yI lM => ?_; refine sr ?_; refine om ?_; refine oe (aH 3) ?_; refine oe (aN (b := b5)) ?_; refine om ?_; obtain ⟨mW, xO, hM⟩ := bind_some hM; refine oe (bK (xs := y6.Lines) 4 (kG y6.Lines r8.2.2.1) (iS xO)) ?_; refine oe (aH 3) ?_; refine oe (dn (i := (oC : Int)) (xs := y6.Lines) (y := mW) 3 (kG y6.Lines r8.2.2.1) (fun _ => xO)) ?_; refine oe bR ?_; refine oe dJ ?_; refine on ?_; refine cc rfl hM (fun hc18 hM => ?_) (fun hc18 hM => ?_)
   · refine bA (lM _ _ ?_); clear lM; refine aO fun zQ mO => ?_; refine bX ?_; refine aO fun JO sS => ?_; refine jh _ (List.Sublist.refl _) ?_; refine aJ 0 rfl (cu (b := b5)) ?_; refine aJ 1 rfl aL ?_; refine aJ 2 rfl aL ?_; refine aJ 4 rfl (cu (b := b5)) ?_; refine aJ 5 rfl aL ?_; refine aJ 6 rfl aL ?_; obtain ⟨NC, hM⟩ := bC hM; refine aJ 7 rfl (iy (hr := fun hg => bS NC)) ?_; obtain ⟨y20, BR, hM⟩ := bind_some hM; refine bO 3 rfl (bJ (fun w hm => let ⟨S, hs⟩ := hm; Iw _ w y6 r8 (oC : Int) (dV : Int) y20 BR (bB hs) ⟨(kM hs), (kM hs), (kM hs), (kM hs), (kM hs), (kM hs), (kM hs)⟩) ⟨rI, ?_⟩); obtain ⟨y22, uz, hM⟩ := bind_some hM; refine bO 8 rfl (bJ (fun w hm => let ⟨S, hs⟩ := hm; UM _ w y6 r8 (oC : Int) ((dV : Int) - 1) y22 uz (bB hs) ⟨(kM hs), (kM hs), (kM hs), (kM hs), (kM hs), (kM hs), (kM hs)⟩) ⟨rI, ?_⟩); refine aJ 9 rfl jo ?_; refine aJ 10 rfl aL ?_; refine dD 11 rfl rfl (cu (b := b5)) ?_; refine dD 12 rfl rfl aL ?_; refine dD 13 rfl rfl aL ?_; obtain ⟨y24, hy25, hM⟩ := bind_some hM; refine Dq 14 rfl rfl (fun hg w hm => let ⟨S, hs⟩ := hm; Iw _ w y6 r8 (oC : Int) (dV : Int) y24 (eG hy25 hg) (bB hs) ⟨(kM hs), (kM hs), (kM hs), (kM hs), (kM hs), (kM hs), (kM hs)⟩) ?_; refine dD 15 rfl rfl dJ ?_; refine aJ 16 rfl eu ?_; refine eT (sS _ _ ?_); clear sS
     refine cc rfl hM (fun Ho hM => ?_) (fun Ho hM => ?_)
     · refine sr ?_; refine oa ?_; refine on ?_; obtain rfl := some_inj hM; refine bn (bT (fun w hm => bQ hm rfl))
     refine bA (mO _ _ ?_); clear mO; refine bE ?_; refine om ?_; obtain ⟨NH, hM⟩ := bC hM; refine oe (dh (hr := fun hg => bS NH)) ?_; refine oa ?_; refine bF (hL2 (lS, (dV + 1), ()) _ _ (eqc pO hM) (Nat.lt_succ_self _) ⟨rfl, rfl, rfl, rfl, rfl, trivial⟩ rI)
   refine fI (ig _ _ ?_); clear ig; dsimp only [UJ] at hM; refine bE ?_; refine oe (dh (hr := fun _ => by unfold gy; omega)) ?_; refine om ?_; refine bF (hL1 (dx, (oC + 1), ()) _ _ (eqc eH hM) (Nat.lt_succ_self _) ⟨rfl, rfl, rfl, trivial⟩ rI)
 refine fI (eZ _ _ ?_); clear eZ; dsimp only [La] at hM; refine aO fun F5 qK => ?_; refine sr ?_; refine oe (aH 5) ?_; refine oe (aN (b := b5)) ?_; refine mZ (fun w hm => Kn.len (kG y6.Turns r8.2.2.2.2.1) hm) fun aeZ => ?_; refine oe bR ?_; refine om ?_; refine on ?_; refine bX ?_; refine fM (γ := Nat × Nat × Unit) (env := fun (_, wV, _) => [(10, eP b5), (67, eI (y6.Turns.length : Int)), (68, eI (wV : Int))]) (mem := fun (_, wV, _) => [iL y6.aT r8.1, iL y6.Routes r8.2.1, iL y6.Lines r8.2.2.1, iL y6.Changes r8.2.2.2.1, iL y6.Turns r8.2.2.2.2.1, iL y6.aV r8.2.2.2.2.2.1, iL y6.aZ r8.2.2.2.2.2.2, own b5 36 (dB y6 r8)]) (R := fun g => iter (Er y6) g.1 g.2.1 = some y) (μ := fun g => g.1) (FUEL, 0, ()) hM ⟨rfl, rfl, rfl, trivial⟩ rI ?_
 clear hM; intro g hM F8 hL3; obtain ⟨sG, wV, ⟨⟩⟩ := g; dsimp only at hM ⊢; obtain ⟨sG, mD, rfl, xM, hM⟩ := gG hM; dsimp only [Er] at hM; refine sr ?_; refine oe dJ ?_; refine on ?_; refine aO fun F6 qL => ?_; refine cc rfl hM (fun hc29 hM => ?_) (fun hc29 hM => ?_)
 · have aeN := of_decide_eq_true hc29; refine bA (qL _ _ ?_); clear qL; refine aO fun Rp xJ => ?_; refine bX ?_; refine sr ?_; refine om ?_; refine oa ?_; refine on ?_; refine sr ?_; refine oe (aH 5) ?_; refine oe (aN (b := b5)) ?_; refine om ?_; obtain ⟨x30, hx31, hM⟩ := bind_some hM; refine oe (bK (xs := y6.Turns) 4 (kG y6.Turns r8.2.2.2.2.1) (iS hx31)) ?_; refine oe (jm (m := 4) (i := (wV : Int)) (xs := y6.Turns) (y := x30) (l := (wK x30)) 0 (kG y6.Turns r8.2.2.2.2.1) (fun _ => hx31)) ?_; refine aM (cO rfl (k := fun b32 => ?_)); refine aM (bY (b := b32) (vs := (wK x30)) (k := ?_)); refine on ?_; refine aO fun F7 pK => ?_; refine jh _ (List.Sublist.refl _) ?_; refine aJ 0 rfl (aH 0) ?_; refine aJ 1 rfl (aN (b := b32)) ?_; refine aJ 2 rfl dJ ?_; refine aJ 3 rfl aL ?_; refine dD 4 rfl rfl (aH 0) ?_; refine dD 5 rfl rfl (aN (b := b32)) ?_; refine dD 6 rfl rfl (aH 3) ?_; refine dD 7 rfl rfl (aN (b := b5)) ?_; refine dD 8 rfl rfl bR ?_; refine dD 9 rfl rfl iM ?_
   refine aJ 10 rfl eu ?_; refine aJ 11 rfl aL ?_; refine dD 12 rfl rfl (cu (b := b5)) ?_; refine dD 13 rfl rfl (aH 0) ?_; refine dD 14 rfl rfl (aN (b := b32)) ?_; refine dD 15 rfl rfl (aH 3) ?_; refine dD 16 rfl rfl (aN (b := b5)) ?_; refine dD 17 rfl rfl (aH 0) ?_; refine dD 18 rfl rfl (aN (b := b32)) ?_; obtain ⟨ak, hx34, hM⟩ := bind_some hM; refine dD 19 rfl rfl (bK (xs := y6.Lines) 4 (kG y6.Lines r8.2.2.1) (fun hg => let h := kZ (eG hx34 hg); ⟨h.1, h.2.1⟩)) ?_; refine dD 20 rfl rfl (aH 3) ?_; refine MX (!(decide (x30.From < 0) || decide ((y6.Lines.length : Int) ≤ x30.From))) (fun kN => ?_) (fun kN => ?_)
   · replace hM := iT kN hM; have abn := eG hx34 kN; refine mX 88 kN rfl ?_; refine mX 89 kN rfl ?_; refine mX 90 kN rfl ?_; refine mX 91 kN rfl ?_; refine mX 92 kN rfl ?_; refine mX 93 kN rfl ?_; refine mX 94 kN rfl ?_; refine mX 95 kN rfl ?_; refine mX 96 kN rfl ?_; refine nE 21 rfl rfl kN (dn (i := x30.From) (xs := y6.Lines) (y := ak) 3 (kG y6.Lines r8.2.2.1) (fun _ => abn)) ?_; refine nE 22 rfl rfl kN bR ?_; obtain ⟨vW, hM⟩ := bC hM; refine nE 23 rfl rfl kN (iy (hr := fun hg => bS vW)) ?_; refine nE 25 rfl rfl kN (cu (b := b5)) ?_; refine nE 26 rfl rfl kN (aH 1) ?_; refine nE 27 rfl rfl kN (aN (b := b32)) ?_; obtain ⟨y38, hy39, hM⟩ := bind_some hM; refine JW 24 rfl rfl kN (bJ (fun w hm => let ⟨S, hs⟩ := hm; UM _ w y6 r8 x30.From ((ak.ay.length : Int) - 1) y38 hy39 (bB hs) ⟨(kM hs), (kM hs), (kM hs), (kM hs), (kM hs), (kM hs), (kM hs)⟩) ⟨rI, ?_⟩); obtain ⟨oN, OT, hM⟩ := bind_some hM; refine JW 28 rfl rfl kN (bJ (fun w hm => let ⟨S, hs⟩ := hm; Iw _ w y6 r8 x30.To 0 oN OT (bB hs) ⟨(kM hs), (kM hs), (kM hs), (kM hs), (kM hs), (kM hs), (kM hs)⟩) ⟨rI, ?_⟩); refine nE 29 rfl rfl kN jo ?_; refine aJ 30 rfl eu ?_; refine aJ 31 rfl aL ?_; refine dD 32 rfl rfl (cu (b := b5)) ?_; refine dD 33 rfl rfl (aH 1) ?_; refine dD 34 rfl rfl (aN (b := b32)) ?_
     obtain ⟨gu, D7, hM⟩ := bind_some hM; refine Dq 35 rfl rfl (fun hg w hm => let ⟨S, hs⟩ := hm; Iw _ w y6 r8 x30.To 0 gu (eG D7 hg) (bB hs) ⟨(kM hs), (kM hs), (kM hs), (kM hs), (kM hs), (kM hs), (kM hs)⟩) ?_; refine dD 36 rfl rfl dJ ?_; refine aJ 37 rfl eu ?_; refine eT (pK _ _ ?_); clear pK; refine cc rfl hM (fun aaB hM => ?_) (fun aaB hM => ?_)
     · refine sr ?_; refine oa ?_; refine on ?_; obtain rfl := some_inj hM; refine bn (bT (fun w hm => bQ hm rfl))
     refine bA (xJ _ _ ?_); clear xJ; refine bE ?_; refine oe (dh (hr := fun _ => by unfold gy; omega)) ?_; refine om ?_; refine bF (hL3 (sG, (wV + 1), ()) _ _ (eqc xM hM) (Nat.lt_succ_self _) ⟨rfl, rfl, rfl, trivial⟩ rI)
   replace hM := iF kN hM; refine lH 21 rfl rfl kN ?_; refine lH 22 rfl rfl kN ?_; refine lH 23 rfl rfl kN ?_; refine lH 24 rfl rfl kN ?_; refine lH 25 rfl rfl kN ?_; refine lH 26 rfl rfl kN ?_; refine lH 27 rfl rfl kN ?_; refine lH 28 rfl rfl kN ?_; refine lH 29 rfl rfl kN ?_; refine aJ 30 rfl (Nl (M5 kN)) ?_; refine aJ 31 rfl aL ?_; refine dD 32 rfl rfl (cu (b := b5)) ?_; refine dD 33 rfl rfl (aH 1) ?_; refine dD 34 rfl rfl (aN (b := b32)) ?_; obtain ⟨yE, OU, hM⟩ := bind_some hM; refine Dq 35 rfl rfl (fun hg w hm => let ⟨S, hs⟩ := hm; Iw _ w y6 r8 x30.To 0 yE (eG OU hg) (bB hs) ⟨(kM hs), (kM hs), (kM hs), (kM hs), (kM hs), (kM hs), (kM hs)⟩) ?_; refine dD 36 rfl rfl dJ ?_; refine aJ 37 rfl eu ?_; refine eT (pK _ _ ?_); clear pK; refine cc rfl hM (fun hc47 hM => ?_) (fun hc47 hM => ?_)
   · refine sr ?_; refine oa ?_; refine on ?_; obtain rfl := some_inj hM; refine bn (bT (fun w hm => bQ hm rfl))
   refine bA (xJ _ _ ?_); clear xJ; refine bE ?_; refine oe (dh (hr := fun _ => by unfold gy; omega)) ?_; refine om ?_; refine bF (hL3 (sG, (wV + 1), ()) _ _ (eqc xM hM) (Nat.lt_succ_self _) ⟨rfl, rfl, rfl, trivial⟩ rI)
 refine fI (qK _ _ ?_); clear qK; dsimp only [Pt] at hM; refine sr ?_; obtain ⟨Rl, abK, hM⟩ := bind_some hM; refine aM (bJ (fun w hm => let ⟨S, hs⟩ := hm; UK _ w  Rl abK (bB hs) ) ?_); refine oa ?_; refine on ?_; obtain rfl := some_inj hM; refine bn (bT (fun w hm => bQ hm rfl))
end Go.Proofs.Ytcalibhfgdncaaa
