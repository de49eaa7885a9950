/- Models of functions, and that the code computes them. -/
import Derived.Test.YtcalibhfgdncaaaR0
set_option linter.all false
namespace Go.Proofs.Ytcalibhfgdncaaa
open Go.Dc Go.RowKit
set_option maxRecDepth 10000
def LG (c0 : Int) : Option Bool :=
  some ((decide (97 ≤ c0) && decide (c0 ≤ 122)) || (decide (65 ≤ c0) && decide (c0 ≤ 90)))
theorem V3 (S : bU) (w : World) (c0 : Int) (y : Bool) (hM : LG c0 = some y) (hS : sB S w)  :
    Calls Try.prog 96 #[.int .u8 c0] w (dQ w (.bool y)) := by
 refine dH (args := [_]) Try.func96 rfl ((pre_nil hS).start) rfl ?_; unfold LG at hM; refine sr ?_; refine oa ?_; refine on ?_; refine sr ?_; refine om ?_; refine oe iM ?_; refine om ?_; refine aF rfl aL ?_; refine aF rfl nG ?_; refine oe dO ?_; refine om ?_; refine aF rfl aL ?_; refine aF rfl iM ?_; refine aF rfl aL ?_; refine aF rfl aL ?_; refine aF rfl nG ?_; refine aF rfl dO ?_; refine oe eu ?_; refine oa ?_; refine on ?_; obtain rfl := some_inj hM; refine bn (bT (fun w hm => bQ hm rfl))
def VR : Unit → Option Bool := fun _ =>
  some true
def Ql (s0 : Str) (bI : Nat → Option Bool) : Nat → Option Bool := fun bN =>
  if decide ((bN : Int) < (s0.l.length : Int)) then
    ((nP s0 (bN : Int)).bind fun c7 =>
    (LG c7).bind fun y9 =>
    (fP (!y9) 0 (nP s0 (bN : Int))).bind fun c11 =>
    (fP (!y9) default (LA c11)).bind fun y13 =>
    (fP ((!y9) && (!y13)) 0 (nP s0 (bN : Int))).bind fun c15 =>
    if (((!y9) && (!y13)) && decide (c15 ≠ 95)) then
      (some false)
    else
      (bq (bP ((bN : Int) + 1)) <|
      bI (bN + 1)))
  else
    (VR ())
def Qm (s0 : Str) : Option Bool :=
  (fP (!(decide ((s0.l.length : Int) < 1) || decide (12 < (s0.l.length : Int)))) 0 (nP s0 0)).bind fun c1 =>
  (fP (!(decide ((s0.l.length : Int) < 1) || decide (12 < (s0.l.length : Int)))) default (LG c1)).bind fun y3 =>
  if ((decide ((s0.l.length : Int) < 1) || decide (12 < (s0.l.length : Int))) || (!y3)) then
    (some false)
  else
    (iter (Ql s0) FUEL 1)
theorem adu (S : bU) (w : World) (s0 : Str) (y : Bool) (hM : Qm s0 = some y) (hS : sB S w)  :
    Calls Try.prog 91 #[.string s0.ba] w (dQ w (.bool y)) := by
 refine dH (args := [_]) Try.func91 rfl ((pre_nil hS).start) rfl ?_; unfold Qm at hM; refine sr ?_; refine oa ?_; refine on ?_; refine aO fun K2 hK2 => ?_; refine sr ?_; refine om ?_; refine oe rY ?_; refine oe dJ ?_; refine om ?_; refine aF rfl aL ?_; refine aF rfl rY ?_; refine aF rfl iH ?_; refine oe eu ?_; refine om ?_; refine aF rfl aL ?_; obtain ⟨c1, Hw, hM⟩ := bind_some hM; refine aF rfl (qo (eG Hw)) ?_; obtain ⟨y3, hy4, hM⟩ := bind_some hM; refine nW rfl (fun hg w hm => let ⟨S, hs⟩ := hm; V3 _ w c1 y3 (eG hy4 hg) (bB hs) ) ?_; refine aF rfl gB ?_; refine oe eu ?_; refine on ?_; refine cc rfl hM (fun mP hM => ?_) (fun mP hM => ?_)
 · refine sr ?_; refine oa ?_; refine on ?_; obtain rfl := some_inj hM; refine bn (bT (fun w hm => bQ hm rfl))
 refine bA (hK2 _ _ ?_); clear hK2; refine aO fun K5 dW => ?_; refine sr ?_; refine oa ?_; refine on ?_; refine bX ?_; refine fM (γ := Nat × Nat × Unit) (env := fun (_, bN, _) => [(0, .v (.string s0.ba)), (3, eI (bN : Int))]) (mem := fun (_, bN, _) => []) (R := fun g => iter (Ql s0) g.1 g.2.1 = some y) (μ := fun g => g.1) (FUEL, 1, ()) hM ⟨rfl, rfl, trivial⟩ rI ?_; clear hM; intro g hM jw hL1; obtain ⟨dx, bN, ⟨⟩⟩ := g; dsimp only at hM ⊢; obtain ⟨dx, bI, rfl, eH, hM⟩ := gG hM; dsimp only [Ql] at hM; refine aO fun K7 eZ => ?_; refine sr ?_; refine om ?_; refine om ?_; refine oe rY ?_; refine oe dJ ?_; refine on ?_; refine cc rfl hM (fun hc6 hM => ?_) (fun hc6 hM => ?_)
 · refine bA (eZ _ _ ?_); clear eZ; refine aO fun K9 gJ => ?_; refine bX ?_; refine sr ?_; refine om ?_; refine om ?_; obtain ⟨c7, aaT, hM⟩ := bind_some hM; refine oe (qo (fun _ => aaT)) ?_; obtain ⟨y9, BO, hM⟩ := bind_some hM; refine aM (bJ (fun w hm => let ⟨S, hs⟩ := hm; V3 _ w c7 y9 BO (bB hs) ) ?_); refine oe gB ?_; refine om ?_; refine aF rfl aL ?_; refine aF rfl aL ?_; obtain ⟨c11, Hu, hM⟩ := bind_some hM; refine aF rfl (qo (eG Hu)) ?_; obtain ⟨y13, BQ, hM⟩ := bind_some hM; refine nW rfl (fun hg w hm => let ⟨S, hs⟩ := hm; VX _ w c11 y13 (eG BQ hg) (bB hs) ) ?_; refine aF rfl gB ?_; refine oe dO ?_; refine om ?_; refine aF rfl aL ?_; refine aF rfl aL ?_; obtain ⟨c15, aaN, hM⟩ := bind_some hM; refine aF rfl (qo (eG aaN)) ?_; refine aF rfl jo ?_; refine oe dO ?_; refine on ?_; refine cc rfl hM (fun hc17 hM => ?_) (fun hc17 hM => ?_)
   · refine sr ?_; refine oa ?_; refine on ?_; obtain rfl := some_inj hM; refine bn (bT (fun w hm => bQ hm rfl))
   refine bA (gJ _ _ ?_); clear gJ; refine bE ?_; refine om ?_; obtain ⟨NA, hM⟩ := bC hM; refine oe (dh (hr := fun hg => bS NA)) ?_; refine oa ?_; refine bF (hL1 (dx, (bN + 1), ()) _ _ (eqc eH hM) (Nat.lt_succ_self _) ⟨rfl, rfl, trivial⟩ rI)
 refine fI (dW _ _ ?_); clear dW; dsimp only [VR] at hM; refine sr ?_; refine oa ?_; refine on ?_; obtain rfl := some_inj hM; refine bn (bT (fun w hm => bQ hm rfl))
def V5 : Unit → Option Int := fun _ =>
  some 0
def QB (i0 : Int) (l0 : List Str) (bI : Nat → Option Int) : Nat → Option Int := fun xW =>
  if decide ((xW : Int) < i0) then
    ((idx l0 (xW : Int)).bind fun x7 =>
    (idx l0 i0).bind fun x9 =>
    if decide (x7 = x9) then
      (some 5)
    else
      (bq (bP ((xW : Int) + 1)) <|
      bI (xW + 1)))
  else
    (V5 ())
def Ja (l0 : List Str) (i0 : Int) : Option Int :=
  (idx l0 i0).bind fun x1 =>
  (Qm x1).bind fun y3 =>
  if (!y3) then
    (some 3)
  else
    (iter (QB i0 l0) FUEL 0)
theorem QC (S : bU) (w : World) (l0 : List Str) (aG : aj.R (List Str)) (i0 : Int) (y : Int) (hM : Ja l0 i0 = some y) (hS : sB S w) (fJ : aj.ok S w aG l0) :
    Calls Try.prog 79 #[sL aG l0, vI i0] w (dQ w (vI y)) := by
 refine dH (args := [_, _]) Try.func79 rfl ((pre_nil hS).start |>.gU (α := List Str) (r := aG) (x := l0) fJ) rfl ?_; unfold Ja at hM; refine sr ?_; refine oa ?_; refine on ?_; refine aO fun K2 hK2 => ?_; refine sr ?_; refine om ?_; refine om ?_; obtain ⟨x1, hx2, hM⟩ := bind_some hM; refine oe (bK (xs := l0) 1 (kG l0 aG) (iS hx2)) ?_; refine oe (dn (i := i0) (xs := l0) (y := x1) 0 (kG l0 aG) (fun _ => hx2)) ?_; obtain ⟨y3, hy4, hM⟩ := bind_some hM; refine aM (bJ (fun w hm => let ⟨S, hs⟩ := hm; adu _ w x1 y3 hy4 (bB hs) ) ?_); refine oe gB ?_; refine on ?_; refine cc rfl hM (fun mP hM => ?_) (fun mP hM => ?_)
 · refine sr ?_; refine oa ?_; refine on ?_; obtain rfl := some_inj hM; refine bn (bT (fun w hm => bQ hm rfl))
 refine bA (hK2 _ _ ?_); clear hK2; refine aO fun K5 dW => ?_; refine sr ?_; refine oa ?_; refine on ?_; refine bX ?_; refine fM (γ := Nat × Nat × Unit) (env := fun (_, xW, _) => [(0, eS aG l0), (1, eI i0), (5, eI (xW : Int))]) (mem := fun (_, xW, _) => [iL l0 aG]) (R := fun g => iter (QB i0 l0) g.1 g.2.1 = some y) (μ := fun g => g.1) (FUEL, 0, ()) hM ⟨rfl, rfl, rfl, trivial⟩ rI ?_; clear hM; intro g hM jw hL1; obtain ⟨dx, xW, ⟨⟩⟩ := g; dsimp only at hM ⊢; obtain ⟨dx, bI, rfl, eH, hM⟩ := gG hM; dsimp only [QB] at hM; refine aO fun K7 eZ => ?_; refine sr ?_; refine om ?_; refine om ?_; refine oe dJ ?_; refine on ?_; refine cc rfl hM (fun hc6 hM => ?_) (fun hc6 hM => ?_)
 · refine bA (eZ _ _ ?_); clear eZ; refine aO fun K9 gJ => ?_; refine bX ?_; refine aO fun rW iA => ?_; refine jh _ (List.Sublist.refl _) ?_; refine aJ 0 rfl aL ?_; refine aJ 1 rfl aL ?_; obtain ⟨x7, Uu, hM⟩ := bind_some hM; refine aJ 2 rfl (bK (xs := l0) 1 (kG l0 aG) (iS Uu)) ?_; refine aJ 3 rfl (dn (i := (xW : Int)) (xs := l0) (y := x7) 0 (kG l0 aG) (fun _ => Uu)) ?_; refine aJ 4 rfl aL ?_; refine aJ 5 rfl aL ?_; obtain ⟨x9, kY, hM⟩ := bind_some hM; refine aJ 6 rfl (bK (xs := l0) 1 (kG l0 aG) (iS kY)) ?_; refine aJ 7 rfl (dn (i := i0) (xs := l0) (y := x9) 0 (kG l0 aG) (fun _ => kY)) ?_; refine aJ 8 rfl vk ?_; refine eT (iA _ _ ?_); clear iA; refine cc rfl hM (fun yU hM => ?_) (fun yU hM => ?_)
   · refine sr ?_; refine oa ?_; refine on ?_; obtain rfl := some_inj hM; refine bn (bT (fun w hm => bQ hm rfl))
   refine bA (gJ _ _ ?_); clear gJ; refine bE ?_; refine om ?_; obtain ⟨Nv, hM⟩ := bC hM; refine oe (dh (hr := fun hg => bS Nv)) ?_; refine oa ?_; refine bF (hL1 (dx, (xW + 1), ()) _ _ (eqc eH hM) (Nat.lt_succ_self _) ⟨rfl, rfl, rfl, trivial⟩ rI)
 refine fI (dW _ _ ?_); clear dW; dsimp only [V5] at hM; refine sr ?_; refine oa ?_; refine on ?_; obtain rfl := some_inj hM; refine bn (bT (fun w hm => bQ hm rfl))
def vJ (n0 : Int) (tH : Int) (hi0 : Int) : Option Bool :=
  some (decide (tH ≤ n0) && decide (n0 ≤ hi0))
theorem yt (S : bU) (w : World) (n0 : Int) (tH : Int) (hi0 : Int) (y : Bool) (hM : vJ n0 tH hi0 = some y) (hS : sB S w)  :
    Calls Try.prog 81 #[vI n0, vI tH, vI hi0] w (dQ w (.bool y)) := by
 refine dH (args := [_, _, _]) Try.func81 rfl ((pre_nil hS).start) rfl ?_; unfold vJ at hM; refine sr ?_; refine oa ?_; refine on ?_; refine sr ?_; refine om ?_; refine om ?_; refine oe iM ?_; refine om ?_; refine aF rfl aL ?_; refine aF rfl aL ?_; refine aF rfl nG ?_; refine oe dO ?_; refine oa ?_; refine on ?_; obtain rfl := some_inj hM; refine bn (bT (fun w hm => bQ hm rfl))
def I8 (k0 : Link) (x0 : nN) : Option Bool :=
  some ((decide (k0.A = x0.fZ) && decide (k0.jR = x0.end_)) || (decide (k0.B = x0.fZ) && decide (k0.jS = x0.end_)))
theorem Qx (S : bU) (w : World) (k0 : Link) (x0 : nN) (y : Bool) (hM : I8 k0 x0 = some y) (hS : sB S w)  :
    Calls Try.prog 92 #[.agg (XV k0), .agg (RX x0)] w (dQ w (.bool y)) := by
 refine dH (args := [_, _]) Try.func92 rfl ((pre_nil hS).start) rfl ?_; unfold I8 at hM; refine sr ?_; refine aM (dU (l := (rO k0)) (k := fun b1 => ?_)); refine aM (dU (l := (IC x0)) (k := fun b2 => ?_)); refine oa ?_; refine on ?_; refine sr ?_; refine oe (aH 0) ?_; refine oe (aN (b := b1)) ?_; refine oe (aH 0) ?_; refine oe (aN (b := b2)) ?_; refine oe eX ?_; refine om ?_; refine aF rfl (aH 1) ?_; refine aF rfl (aN (b := b1)) ?_; refine aF rfl (aH 1) ?_; refine aF rfl (aN (b := b2)) ?_; refine aF rfl eX ?_; refine oe dO ?_; refine om ?_; refine aF rfl (aH 2) ?_; refine aF rfl (aN (b := b1)) ?_; refine aF rfl (aH 0) ?_; refine aF rfl (aN (b := b2)) ?_; refine aF rfl eX ?_; refine aF rfl aL ?_; refine aF rfl (aH 3) ?_; refine aF rfl (aN (b := b1)) ?_; refine aF rfl (aH 1) ?_; refine aF rfl (aN (b := b2)) ?_; refine aF rfl eX ?_; refine aF rfl dO ?_; refine oe eu ?_; refine oa ?_; refine on ?_; obtain rfl := some_inj hM; refine bn (bT (fun w hm => bQ hm rfl))
def LB (lD : Nat) (bI : (Int × Int × Int × Int × Int × Int × Int × Nat) → Option Bool) : (Int × Int × Int × Int × Int × Int × Int) → Option Bool := fun (EA, EI, EJ, EK, EL, EM, EN) =>
  bq (bP ((lD : Int) + 1)) <|
  bI (EA, EI, EJ, EK, EL, EM, EN, lD + 1)
def VY (uL : Int) (x3 : Link) (zk : Int) (zl : Int) : Unit → Option Bool := fun _ =>
  some (decide (uL = 0) || (((decide (uL = 1) && decide (0 ≤ x3.Point)) && decide (zk = x3.Point)) && decide (zl ≠ x3.Pos)))
def Qw (i0 : Int) (l0 : Layout) (x0 : nN) (x3 : Link) (bI : (Int × Int × Int × Int × Int × Int × Int × Nat) → Option Bool) : (Int × Int × Int × Int × Int × Int × Int × Nat) → Option Bool := fun (uL, ED, EF, EG, EH, zk, zl, lD) =>
  if decide ((lD : Int) < i0) then
    ((idx l0.Links (lD : Int)).bind fun x9 =>
    (I8 x9 x0).bind fun fF =>
    if fF then
      (bq (bP (uL + 1)) <|
      (idx l0.Links (lD : Int)).bind fun pE =>
      LB lD bI ((uL + 1), pE.A, pE.jR, pE.B, pE.jS, pE.Point, pE.Pos))
    else
      (LB lD bI (uL, ED, EF, EG, EH, zk, zl)))
  else
    (VY uL x3 zk zl ())
def LC (l0 : Layout) (i0 : Int) (x0 : nN) : Option Bool :=
  (idx l0.Links i0).bind fun x3 =>
  iter (Qw i0 l0 x0 x3) FUEL (0, 0, 0, 0, 0, 0, 0, 0)
theorem VZ (S : bU) (w : World) (l0 : Layout) (aG : aj.R Layout) (i0 : Int) (x0 : nN) (y : Bool) (hM : LC l0 i0 x0 = some y) (hS : sB S w) (fJ : aj.ok S w aG l0) :
    Calls Try.prog 93 #[.agg (kX l0 aG), vI i0, .agg (RX x0)] w (dQ w (.bool y)) := by
 refine dH (args := [_, _, _]) Try.func93 rfl ((pre_nil hS).start |>.nX fJ) rfl ?_; unfold LC at hM; refine sr ?_; refine aM (dU (l := (fq l0 aG)) (k := fun b1 => ?_)); refine aM (dU (l := (IC x0)) (k := fun b2 => ?_)); refine oa ?_; refine on ?_; refine sr ?_; refine oe (aH 3) ?_; refine oe (aN (b := b1)) ?_; refine om ?_; obtain ⟨x3, hx4, hM⟩ := bind_some hM; refine oe (bK (xs := l0.Links) 6 (kG l0.Links aG.2.2.2) (iS hx4)) ?_; refine oe (jm (m := 6) (i := i0) (xs := l0.Links) (y := x3) (l := (rO x3)) 0 (kG l0.Links aG.2.2.2) (fun _ => hx4)) ?_; refine aM (cO rfl (k := fun b5 => ?_)); refine aM (bY (b := b5) (vs := (rO x3)) (k := ?_))
 refine on ?_; refine sr ?_; refine oe (fU [vI 0, vI 0, vI 0, vI 0, vI 0, vI 0]) ?_; refine aM (cO rfl (k := fun b6 => ?_)); refine oa ?_; refine aM (bY (b := b6) (vs := [vI 0, vI 0, vI 0, vI 0, vI 0, vI 0]) (k := ?_)); refine on ?_; refine aO fun K4 hK4 => ?_; refine sr ?_; refine oa ?_; refine on ?_; refine bX ?_; refine fM (γ := Nat × (Int × Int × Int × Int × Int × Int × Int × Nat) × Unit) (env := fun (_, (uL, ED, EF, EG, EH, zk, zl, lD), _) => [(1, eI i0), (3, eP b1), (5, eP b2), (7, eP b5), (8, eI uL), (9, eP b6), (10, eI (lD : Int))]) (mem := fun (_, (uL, ED, EF, EG, EH, zk, zl, lD), _) => [iL l0.aQ aG.1, iL l0.aR aG.2.1, iL l0.Sections aG.2.2.1, iL l0.Links aG.2.2.2, own b1 27 (fq l0 aG), own b2 168 (IC x0), own b5 112 (rO x3), own b6 112 [vI ED, vI EF, vI EG, vI EH, vI zk, vI zl]]) (R := fun g => iter (Qw i0 l0 x0 x3) g.1 g.2.1 = some y) (μ := fun g => g.1) (FUEL, (0, 0, 0, 0, 0, 0, 0, 0), ()) hM ⟨rfl, rfl, rfl, rfl, rfl, rfl, rfl, trivial⟩ rI ?_
 clear hM; intro g hM jw hL1; obtain ⟨dx, ⟨uL, ED, EF, EG, EH, zk, zl, lD⟩, ⟨⟩⟩ := g; dsimp only at hM ⊢; obtain ⟨dx, bI, rfl, eH, hM⟩ := gG hM; dsimp only [Qw] at hM; refine aO fun K6 dM => ?_; refine sr ?_; refine om ?_; refine om ?_; refine oe dJ ?_; refine on ?_; refine cc rfl hM (fun oq hM => ?_) (fun oq hM => ?_)
 · refine bA (dM _ _ ?_); clear dM; refine kL (γ := (Int × Int × Int × Int × Int × Int × Int) × Unit) (env := fun ((EA, EI, EJ, EK, EL, EM, EN), _) => [(1, eI i0), (3, eP b1), (5, eP b2), (7, eP b5), (8, eI EA), (9, eP b6), (10, eI (lD : Int))]) (mem := fun ((EA, EI, EJ, EK, EL, EM, EN), _) => [iL l0.aQ aG.1, iL l0.aR aG.2.1, iL l0.Sections aG.2.2.1, iL l0.Links aG.2.2.2, own b1 27 (fq l0 aG), own b2 168 (IC x0), own b5 112 (rO x3), own b6 112 [vI EI, vI EJ, vI EK, vI EL, vI EM, vI EN]]) (R := fun g => LB lD bI g.1 = some y) ?_ ?_
   · intro zR hJ2; refine bX ?_; refine aO fun K8 jB => ?_; refine jh _ (List.Sublist.refl _) ?_; refine aJ 0 rfl (aH 3) ?_; refine aJ 1 rfl (aN (b := b1)) ?_; refine aJ 2 rfl aL ?_; obtain ⟨x9, kY, hM⟩ := bind_some hM; refine aJ 3 rfl (bK (xs := l0.Links) 6 (kG l0.Links aG.2.2.2) (iS kY)) ?_; refine aJ 4 rfl (jm (m := 6) (i := (lD : Int)) (xs := l0.Links) (y := x9) (l := (rO x9)) 0 (kG l0.Links aG.2.2.2) (fun _ => kY)) ?_; refine aJ 5 rfl (cu (b := b2)) ?_; obtain ⟨fF, uw, hM⟩ := bind_some hM; refine bO 6 rfl (bJ (fun w hm => let ⟨S, hs⟩ := hm; Qx _ w x9 x0 fF uw (bB hs) ) ⟨rI, ?_⟩); refine eT (jB _ _ ?_); clear jB; refine cc rfl hM (fun Ah hM => ?_) (fun Ah hM => ?_)
     · refine sr ?_; refine om ?_; obtain ⟨GK, hM⟩ := bC hM; refine oe (dh (hr := fun hg => bS GK)) ?_; refine oa ?_; refine on ?_; refine bE ?_; refine oe (aH 3) ?_; refine oe (aN (b := b1)) ?_; refine om ?_; obtain ⟨pE, hx16, hM⟩ := bind_some hM; refine oe (bK (xs := l0.Links) 6 (kG l0.Links aG.2.2.2) (iS hx16)) ?_; refine oe (jm (m := 6) (i := (lD : Int)) (xs := l0.Links) (y := pE) (l := (rO pE)) 0 (kG l0.Links aG.2.2.2) (fun _ => hx16)) ?_; refine aM (bY (b := b6) (vs := (rO pE)) (k := ?_)); refine bF (hJ2 (((uL + 1), pE.A, pE.jR, pE.B, pE.jS, pE.Point, pE.Pos), ()) _ _ hM ⟨rfl, rfl, rfl, rfl, rfl, rfl, rfl, trivial⟩ rI)
     refine bA (hJ2 ((uL, ED, EF, EG, EH, zk, zl), ()) _ _ hM ⟨rfl, rfl, rfl, rfl, rfl, rfl, rfl, trivial⟩ rI)
   clear hM; intro g hM; obtain ⟨⟨EA, EI, EJ, EK, EL, EM, EN⟩, ⟨⟩⟩ := g; dsimp only at hM ⊢; dsimp only [LB] at hM; refine bE ?_; refine om ?_; obtain ⟨vY, hM⟩ := bC hM; refine oe (dh (hr := fun hg => bS vY)) ?_; refine oa ?_; refine bF (hL1 (dx, (EA, EI, EJ, EK, EL, EM, EN, lD + 1), ()) _ _ (eqc eH hM) (Nat.lt_succ_self _) ⟨rfl, rfl, rfl, rfl, rfl, rfl, rfl, trivial⟩ rI)
 refine fI (hK4 _ _ ?_); clear hK4; dsimp only [VY] at hM; refine sr ?_; refine om ?_; refine oe eX ?_; refine om ?_; refine aF rfl aL ?_; refine aF rfl eX ?_; refine aF rfl aL ?_; refine aF rfl (aH 4) ?_; refine aF rfl (aN (b := b5)) ?_; refine aF rfl iM ?_; refine aF rfl dO ?_; refine aF rfl aL ?_; refine aF rfl (aH 4) ?_; refine aF rfl (aN (b := b6)) ?_; refine aF rfl (aH 4) ?_; refine aF rfl (aN (b := b5)) ?_; refine aF rfl eX ?_; refine aF rfl dO ?_; refine aF rfl aL ?_; refine aF rfl (aH 5) ?_; refine aF rfl (aN (b := b6)) ?_; refine aF rfl (aH 5) ?_; refine aF rfl (aN (b := b5)) ?_; refine aF rfl jo ?_; refine aF rfl dO ?_; refine oe eu ?_; refine oa ?_; refine on ?_; obtain rfl := some_inj hM; refine bn (bT (fun w hm => bQ hm rfl))
def V4 (l0 : Layout) (i0 : Int) (x2 : Link) : Unit → Option Int := fun _ =>
  (LC l0 i0 (nN.mk x2.A x2.jR)).bind fun Ms =>
  (fP (!(!Ms)) default (LC l0 i0 (nN.mk x2.B x2.jS))).bind fun rC =>
  if ((!Ms) || (!rC)) then
    (some 11)
  else
    (some 0)
def Qy (i0 : Int) (l0 : Layout) (x2 : Link) (bI : Nat → Option Int) : Nat → Option Int := fun lD =>
  if decide ((lD : Int) < i0) then
    ((idx l0.Links (lD : Int)).bind fun x23 =>
    (I8 x23 (nN.mk x2.A x2.jR)).bind fun y25 =>
    (fP y25 default (idx l0.Links (lD : Int))).bind fun x27 =>
    (fP y25 default (I8 x27 (nN.mk x2.B x2.jS))).bind fun y29 =>
    if (y25 && y29) then
      (some 5)
    else
      (bq (bP ((lD : Int) + 1)) <|
      bI (lD + 1)))
  else
    (V4 l0 i0 x2 ())
def Qz (x2 : Link) (i0 : Int) (l0 : Layout) : Unit → Option Int := fun _ =>
  if decide ((nN.mk x2.A x2.jR) = (nN.mk x2.B x2.jS)) then
    (some 1)
  else
    (iter (Qy i0 l0 x2) FUEL 0)
def QA (l0 : Layout) (i0 : Int) : Option Int :=
  (idx l0.Links i0).bind fun x2 =>
  bq (bP ((l0.Sections.length : Int) - 1)) <|
  (vJ x2.A 0 ((l0.Sections.length : Int) - 1)).bind fun y6 =>
  bq (!(!(!y6)) || bP ((l0.Sections.length : Int) - 1)) <|
  (fP (!(!y6)) default (vJ x2.B 0 ((l0.Sections.length : Int) - 1))).bind fun y9 =>
  (fP (!((!y6) || (!y9))) default (vJ x2.jR 0 1)).bind fun fF =>
  (fP (!(((!y6) || (!y9)) || (!fF))) default (vJ x2.jS 0 1)).bind fun y13 =>
  bq (!(!((((!y6) || (!y9)) || (!fF)) || (!y13))) || bP ((l0.aR.length : Int) - 1)) <|
  (fP (!((((!y6) || (!y9)) || (!fF)) || (!y13))) default (vJ x2.Point (-1) ((l0.aR.length : Int) - 1))).bind fun Bp =>
  (fP (!(((((!y6) || (!y9)) || (!fF)) || (!y13)) || (!Bp))) default (vJ x2.Pos 0 1)).bind fun jY =>
  if (((((((!y6) || (!y9)) || (!fF)) || (!y13)) || (!Bp)) || (!jY)) || (decide (x2.Point < 0) && decide (x2.Pos ≠ 0))) then
    (some 4)
  else
    (Qz x2 i0 l0 ())
theorem adz (S : bU) (w : World) (l0 : Layout) (aG : aj.R Layout) (i0 : Int) (y : Int) (hM : QA l0 i0 = some y) (hS : sB S w) (fJ : aj.ok S w aG l0) :
    Calls Try.prog 82 #[.agg (kX l0 aG), vI i0] w (dQ w (vI y)) := by
 refine dH (args := [_, _]) Try.func82 rfl ((pre_nil hS).start |>.nX fJ) rfl ?_; unfold QA at hM; refine sr ?_; refine aM (dU (l := (fq l0 aG)) (k := fun b1 => ?_)); refine oa ?_; refine on ?_; refine sr ?_; refine oe (aH 3) ?_; refine oe (aN (b := b1)) ?_; refine om ?_; obtain ⟨x2, hx3, hM⟩ := bind_some hM; refine oe (bK (xs := l0.Links) 6 (kG l0.Links aG.2.2.2) (iS hx3)) ?_; refine oe (jm (m := 6) (i := i0) (xs := l0.Links) (y := x2) (l := (rO x2)) 0 (kG l0.Links aG.2.2.2) (fun _ => hx3)) ?_; refine aM (cO rfl (k := fun b4 => ?_)); refine aM (bY (b := b4) (vs := (rO x2)) (k := ?_))
 refine on ?_; refine sr ?_; refine oe (aH 2) ?_; refine oe (aN (b := b1)) ?_; refine oe bR ?_; refine oa ?_; refine on ?_; refine aO fun K4 hK4 => ?_; refine sr ?_; refine oe (aH 0) ?_; refine oe (aN (b := b4)) ?_; refine om ?_; obtain ⟨vX, hM⟩ := bC hM; refine oe (iy (hr := fun hg => bS vX)) ?_; obtain ⟨y6, uD, hM⟩ := bind_some hM; refine aM (bJ (fun w hm => let ⟨S, hs⟩ := hm; yt _ w x2.A 0 ((l0.Sections.length : Int) - 1) y6 uD (bB hs) ) ?_); refine oe gB ?_; refine om ?_; refine aF rfl (aH 2) ?_; refine aF rfl (aN (b := b4)) ?_; refine aF rfl aL ?_; obtain ⟨vY, hM⟩ := bC hM; refine aF rfl (iy (hr := fun hg => bS (DT vY hg))) ?_; obtain ⟨y9, BO, hM⟩ := bind_some hM; refine nW rfl (fun hg w hm => let ⟨S, hs⟩ := hm; yt _ w x2.B 0 ((l0.Sections.length : Int) - 1) y9 (eG BO hg) (bB hs) ) ?_; refine aF rfl gB ?_; refine oe eu ?_; refine om ?_; refine aF rfl (aH 1) ?_; refine aF rfl (aN (b := b4)) ?_; obtain ⟨fF, uw, hM⟩ := bind_some hM; refine nW rfl (fun hg w hm => let ⟨S, hs⟩ := hm; yt _ w x2.jR 0 1 fF (eG uw hg) (bB hs) ) ?_; refine aF rfl gB ?_; refine oe eu ?_; refine om ?_
 refine aF rfl (aH 3) ?_; refine aF rfl (aN (b := b4)) ?_; obtain ⟨y13, BQ, hM⟩ := bind_some hM; refine nW rfl (fun hg w hm => let ⟨S, hs⟩ := hm; yt _ w x2.jS 0 1 y13 (eG BQ hg) (bB hs) ) ?_; refine aF rfl gB ?_; refine oe eu ?_; refine om ?_; refine aF rfl (aH 4) ?_; refine aF rfl (aN (b := b4)) ?_; refine aF rfl (aH 1) ?_; refine aF rfl (aN (b := b1)) ?_; refine aF rfl bR ?_; obtain ⟨Ny, hM⟩ := bC hM; refine aF rfl (iy (hr := fun hg => bS (DT Ny hg))) ?_; obtain ⟨Bp, OP, hM⟩ := bind_some hM; refine nW rfl (fun hg w hm => let ⟨S, hs⟩ := hm; yt _ w x2.Point (-1) ((l0.aR.length : Int) - 1) Bp (eG OP hg) (bB hs) ) ?_; refine aF rfl gB ?_; refine oe eu ?_; refine om ?_; refine aF rfl (aH 5) ?_; refine aF rfl (aN (b := b4)) ?_; obtain ⟨jY, uy, hM⟩ := bind_some hM; refine nW rfl (fun hg w hm => let ⟨S, hs⟩ := hm; yt _ w x2.Pos 0 1 jY (eG uy hg) (bB hs) ) ?_; refine aF rfl gB ?_; refine oe eu ?_; refine om ?_; refine aF rfl (aH 4) ?_; refine aF rfl (aN (b := b4)) ?_; refine aF rfl dJ ?_; refine aF rfl aL ?_; refine aF rfl (aH 5) ?_; refine aF rfl (aN (b := b4)) ?_; refine aF rfl jo ?_; refine aF rfl dO ?_; refine oe eu ?_; refine on ?_
 refine cc rfl hM (fun Ai hM => ?_) (fun Ai hM => ?_)
 · refine sr ?_; refine oa ?_; refine on ?_; obtain rfl := some_inj hM; refine bn (bT (fun w hm => bQ hm rfl))
 refine bA (hK4 _ _ ?_); clear hK4; refine kL (γ := Unit × (Nat × Nat)) (env := fun (_, (yM, yN)) => [(1, eI i0), (2, eP b1), (7, eP yM), (8, eP yN)]) (mem := fun (_, (yM, yN)) => [iL l0.aQ aG.1, iL l0.aR aG.2.1, iL l0.Sections aG.2.2.1, iL l0.Links aG.2.2.2, own b1 27 (fq l0 aG), own yM 168 [vI x2.A, vI x2.jR], own yN 168 [vI x2.B, vI x2.jS]]) (R := fun g => Qz x2 i0 l0 g.1 = some y) ?_ ?_
 · intro vT eF; refine jh _ (List.Sublist.refl _) ?_; refine aJ 0 rfl (aH 0) ?_; refine aJ 1 rfl (aN (b := b4)) ?_; refine aJ 2 rfl (aH 1) ?_; refine aJ 3 rfl (aN (b := b4)) ?_; refine aJ 4 rfl (fU [vI x2.A, vI x2.jR]) ?_; refine aJ 5 rfl (aH 2) ?_; refine aJ 6 rfl (aN (b := b4)) ?_; refine aJ 7 rfl (aH 3) ?_; refine aJ 8 rfl (aN (b := b4)) ?_; refine aJ 9 rfl (fU [vI x2.B, vI x2.jS]) ?_; refine kD 10 11 (⟨_, rfl, rfl, cO rfl (k := fun zV => ⟨rI, ?_⟩)⟩) (⟨_, rfl, rfl, cO rfl (k := fun Gg => ⟨rI, ?_⟩)⟩)
   · refine bO 11 rfl (cO rfl (k := fun Gh => ⟨rI, ?_⟩)); refine bO 12 rfl (bY (b := zV) (vs := [vI x2.A, vI x2.jR]) (k := ⟨rI, ?_⟩)); refine bO 13 rfl (bY (b := Gh) (vs := [vI x2.B, vI x2.jS]) (k := ⟨rI, ?_⟩)); refine eT (eF ((), (zV, Gh)) _ _ hM ⟨rfl, rfl, rfl, rfl, trivial⟩ rI)
   refine bO 10 rfl (cO rfl (k := fun Gi => ⟨rI, ?_⟩)); refine bO 12 rfl (bY (b := Gi) (vs := [vI x2.A, vI x2.jR]) (k := ⟨rI, ?_⟩)); refine bO 13 rfl (bY (b := Gg) (vs := [vI x2.B, vI x2.jS]) (k := ⟨rI, ?_⟩)); refine eT (eF ((), (Gi, Gg)) _ _ hM ⟨rfl, rfl, rfl, rfl, trivial⟩ rI)
 clear hM; intro g hM; obtain ⟨⟨⟩, ⟨yM, yN⟩⟩ := g; dsimp only at hM ⊢; dsimp only [Qz] at hM; refine aO fun K7 eZ => ?_; refine sr ?_; refine oe (cu (b := yM)) ?_; refine oe (cu (b := yN)) ?_; refine oe (Gt [.int .i64, .int .i64] (decide ((nN.mk x2.A x2.jR) = (nN.mk x2.B x2.jS))) (XU _ _)) ?_; refine on ?_; refine cc rfl hM (fun hc21 hM => ?_) (fun hc21 hM => ?_)
 · refine sr ?_; refine oa ?_; refine on ?_; obtain rfl := some_inj hM; refine bn (bT (fun w hm => bQ hm rfl))
 refine bA (eZ _ _ ?_); clear eZ; refine aO fun rW iA => ?_; refine sr ?_; refine oa ?_; refine on ?_; refine bX ?_; refine fM (γ := Nat × Nat × Unit) (env := fun (_, lD, _) => [(1, eI i0), (2, eP b1), (7, eP yM), (8, eP yN), (9, eI (lD : Int))]) (mem := fun (_, lD, _) => [iL l0.aQ aG.1, iL l0.aR aG.2.1, iL l0.Sections aG.2.2.1, iL l0.Links aG.2.2.2, own b1 27 (fq l0 aG), own yM 168 [vI x2.A, vI x2.jR], own yN 168 [vI x2.B, vI x2.jS]]) (R := fun g => iter (Qy i0 l0 x2) g.1 g.2.1 = some y) (μ := fun g => g.1) (FUEL, 0, ()) hM ⟨rfl, rfl, rfl, rfl, rfl, trivial⟩ rI ?_; clear hM; intro g hM jw hL1; obtain ⟨dx, lD, ⟨⟩⟩ := g; dsimp only at hM ⊢; obtain ⟨dx, bI, rfl, eH, hM⟩ := gG hM; dsimp only [Qy] at hM; refine aO fun yH lK => ?_; refine sr ?_; refine om ?_; refine om ?_; refine oe dJ ?_; refine on ?_; refine cc rfl hM (fun hc22 hM => ?_) (fun hc22 hM => ?_)
 · refine bA (lK _ _ ?_); clear lK; refine aO fun yI lM => ?_; refine bX ?_; refine aO fun yJ lN => ?_; refine jh _ (List.Sublist.refl _) ?_; refine aJ 0 rfl (aH 3) ?_; refine aJ 1 rfl (aN (b := b1)) ?_; refine aJ 2 rfl aL ?_; obtain ⟨x23, hx24, hM⟩ := bind_some hM; refine aJ 3 rfl (bK (xs := l0.Links) 6 (kG l0.Links aG.2.2.2) (iS hx24)) ?_; refine aJ 4 rfl (jm (m := 6) (i := (lD : Int)) (xs := l0.Links) (y := x23) (l := (rO x23)) 0 (kG l0.Links aG.2.2.2) (fun _ => hx24)) ?_; refine aJ 5 rfl (cu (b := yM)) ?_; obtain ⟨y25, H8, hM⟩ := bind_some hM; refine bO 6 rfl (bJ (fun w hm => let ⟨S, hs⟩ := hm; Qx _ w x23 (nN.mk x2.A x2.jR) y25 H8 (bB hs) ) ⟨rI, ?_⟩); refine aJ 7 rfl aL ?_; refine dD 8 rfl rfl (aH 3) ?_; refine dD 9 rfl rfl (aN (b := b1)) ?_; refine dD 10 rfl rfl aL ?_; obtain ⟨x27, hx28, hM⟩ := bind_some hM; refine dD 11 rfl rfl (bK (xs := l0.Links) 6 (kG l0.Links aG.2.2.2) (fun hg => let h := kZ (eG hx28 hg); ⟨h.1, h.2.1⟩)) ?_; refine dD 12 rfl rfl (jm (m := 6) (i := (lD : Int)) (xs := l0.Links) (y := x27) (l := (rO x27)) 0 (kG l0.Links aG.2.2.2) (fun hg => eG hx28 hg)) ?_
   refine dD 13 rfl rfl (cu (b := yN)) ?_; obtain ⟨y29, H9, hM⟩ := bind_some hM; refine Dq 14 rfl rfl (fun hg w hm => let ⟨S, hs⟩ := hm; Qx _ w x27 (nN.mk x2.B x2.jS) y29 (eG H9 hg) (bB hs) ) ?_; refine aJ 15 rfl dO ?_; refine eT (lN _ _ ?_); clear lN; refine cc rfl hM (fun hc31 hM => ?_) (fun hc31 hM => ?_)
   · refine sr ?_; refine oa ?_; refine on ?_; obtain rfl := some_inj hM; refine bn (bT (fun w hm => bQ hm rfl))
   refine bA (lM _ _ ?_); clear lM; refine bE ?_; refine om ?_; obtain ⟨NK, hM⟩ := bC hM; refine oe (dh (hr := fun hg => bS NK)) ?_; refine oa ?_; refine bF (hL1 (dx, (lD + 1), ()) _ _ (eqc eH hM) (Nat.lt_succ_self _) ⟨rfl, rfl, rfl, rfl, rfl, trivial⟩ rI)
 refine fI (iA _ _ ?_); clear iA; dsimp only [V4] at hM; refine aO fun JO sS => ?_; refine sr ?_; refine oe (cu (b := b1)) ?_; refine om ?_; refine oe (cu (b := yM)) ?_; obtain ⟨Ms, hy34, hM⟩ := bind_some hM; refine aM (bJ (fun w hm => let ⟨S, hs⟩ := hm; VZ _ w l0 aG i0 (nN.mk x2.A x2.jR) Ms hy34 (bB hs) ⟨(kM hs), (kM hs), (kM hs), (kM hs)⟩) ?_); refine oe gB ?_; refine om ?_; refine aF rfl (cu (b := b1)) ?_; refine aF rfl aL ?_; refine aF rfl (cu (b := yN)) ?_; obtain ⟨rC, D6, hM⟩ := bind_some hM; refine nW rfl (fun hg w hm => let ⟨S, hs⟩ := hm; VZ _ w l0 aG i0 (nN.mk x2.B x2.jS) rC (eG D6 hg) (bB hs) ⟨(kM hs), (kM hs), (kM hs), (kM hs)⟩) ?_; refine aF rfl gB ?_; refine oe eu ?_; refine on ?_; refine cc rfl hM (fun Od hM => ?_) (fun Od hM => ?_)
 · refine sr ?_; refine oa ?_; refine on ?_; obtain rfl := some_inj hM; refine bn (bT (fun w hm => bQ hm rfl))
 refine bA (sS _ _ ?_); clear sS; refine sr ?_; refine oa ?_; refine on ?_; obtain rfl := some_inj hM; refine bn (bT (fun w hm => bQ hm rfl))
def VN : Unit → Option Int := fun _ =>
  some 0
def Qg (l0 : Layout) (Gq : Nat → Option Int) : Nat → Option Int := fun xS =>
  if decide ((xS : Int) < (l0.Links.length : Int)) then
    ((QA l0 (xS : Int)).bind fun Mt =>
    if decide (Mt ≠ 0) then
      (some Mt)
    else
      (bq (bP ((xS : Int) + 1)) <|
      Gq (xS + 1)))
  else
    (VN ())
def VL (l0 : Layout) : Unit → Option Int := fun _ =>
  iter (Qg l0) FUEL 0
def Qf (l0 : Layout) (bZ : (List Str)) (mD : Nat → Option Int) : Nat → Option Int := fun iw =>
  if decide ((iw : Int) < (l0.Sections.length : Int)) then
    ((Ja bZ (iw : Int)).bind fun jY =>
    if decide (jY ≠ 0) then
      (some jY)
    else
      ((idx l0.Sections (iw : Int)).bind fun x21 =>
      (vJ x21.Length 1 400).bind fun y24 =>
      (fP (!(!y24)) default (vJ x21.Limit 1000 100000)).bind fun aD =>
      (fP (!((!y24) || (!aD))) default (vJ x21.jT (-40) 40)).bind fun y28 =>
      bq (!(!(((!y24) || (!aD)) || (!y28))) || bP ((l0.aQ.length : Int) - 1)) <|
      (fP (!(((!y24) || (!aD)) || (!y28))) default (vJ x21.og (-1) ((l0.aQ.length : Int) - 1))).bind fun y31 =>
      if ((((!y24) || (!aD)) || (!y28)) || (!y31)) then
        (some 4)
      else
        (bq (bP ((iw : Int) + 1)) <|
        mD (iw + 1))))
  else
    (VL l0 ())
def VK (l0 : Layout) : Unit → Option Int := fun _ =>
  (LJ l0).bind fun bZ =>
  iter (Qf l0 bZ) FUEL 0
def Qe (l0 : Layout) (gZ : Nat → Option Int) : Nat → Option Int := fun xR =>
  if decide ((xR : Int) < (l0.aR.length : Int)) then
    ((Ja l0.aR (xR : Int)).bind fun jk =>
    if decide (jk ≠ 0) then
      (some jk)
    else
      (bq (bP ((xR : Int) + 1)) <|
      gZ (xR + 1)))
  else
    (VK l0 ())
def VJ (l0 : Layout) : Unit → Option Int := fun _ =>
  iter (Qe l0) FUEL 0
def Qd (l0 : Layout) (bI : Nat → Option Int) : Nat → Option Int := fun bN =>
  if decide ((bN : Int) < (l0.aQ.length : Int)) then
    ((Ja l0.aQ (bN : Int)).bind fun y5 =>
    if decide (y5 ≠ 0) then
      (some y5)
    else
      (bq (bP ((bN : Int) + 1)) <|
      bI (bN + 1)))
  else
    (VJ l0 ())
def Qh (l0 : Layout) : Option Int :=
  if (((decide (24 < (l0.aQ.length : Int)) || decide (48 < (l0.aR.length : Int))) || decide (96 < (l0.Sections.length : Int))) || decide (192 < (l0.Links.length : Int))) then
    (some 7)
  else
    (if decide ((l0.Sections.length : Int) = 0) then
      (some 1)
    else
      (iter (Qd l0) FUEL 0))
theorem ads (S : bU) (w : World) (l0 : Layout) (aG : aj.R Layout) (y : Int) (hM : Qh l0 = some y) (hS : sB S w) (fJ : aj.ok S w aG l0) :
    Calls Try.prog 67 #[.agg (kX l0 aG)] w (dQ w (vI y)) := by
 refine dH (args := [_]) Try.func67 rfl ((pre_nil hS).start |>.nX fJ) rfl ?_; unfold Qh at hM; refine sr ?_; refine aM (dU (l := (fq l0 aG)) (k := fun b1 => ?_)); refine oa ?_; refine on ?_; refine aO fun K2 hK2 => ?_; refine sr ?_; refine oe (aH 0) ?_; refine oe (aN (b := b1)) ?_; refine oe bR ?_; refine oe iH ?_; refine om ?_; refine aF rfl (aH 1) ?_; refine aF rfl (aN (b := b1)) ?_; refine aF rfl bR ?_; refine aF rfl iH ?_; refine oe eu ?_; refine om ?_; refine aF rfl (aH 2) ?_; refine aF rfl (aN (b := b1)) ?_; refine aF rfl bR ?_; refine aF rfl iH ?_; refine oe eu ?_; refine om ?_; refine aF rfl (aH 3) ?_; refine aF rfl (aN (b := b1)) ?_; refine aF rfl bR ?_; refine aF rfl iH ?_; refine oe eu ?_; refine on ?_
 refine cc rfl hM (fun hc2 hM => ?_) (fun hc2 hM => ?_)
 · refine sr ?_; refine oa ?_; refine on ?_; obtain rfl := some_inj hM; refine bn (bT (fun w hm => bQ hm rfl))
 refine bA (hK2 _ _ ?_); clear hK2; refine aO fun K5 dW => ?_; refine sr ?_; refine oe (aH 2) ?_; refine oe (aN (b := b1)) ?_; refine oe bR ?_; refine oe eX ?_; refine on ?_; refine cc rfl hM (fun hc3 hM => ?_) (fun hc3 hM => ?_)
 · refine sr ?_; refine oa ?_; refine on ?_; obtain rfl := some_inj hM; refine bn (bT (fun w hm => bQ hm rfl))
 refine bA (dW _ _ ?_); clear dW; refine aO fun K8 jB => ?_; refine sr ?_; refine oa ?_; refine on ?_; refine bX ?_; refine fM (γ := Nat × Nat × Unit) (env := fun (_, bN, _) => [(1, eP b1), (3, eI (bN : Int))]) (mem := fun (_, bN, _) => [iL l0.aQ aG.1, iL l0.aR aG.2.1, iL l0.Sections aG.2.2.1, iL l0.Links aG.2.2.2, own b1 27 (fq l0 aG)]) (R := fun g => iter (Qd l0) g.1 g.2.1 = some y) (μ := fun g => g.1) (FUEL, 0, ()) hM ⟨rfl, rfl, trivial⟩ rI ?_; clear hM; intro g hM jw hL1; obtain ⟨dx, bN, ⟨⟩⟩ := g; dsimp only at hM ⊢; obtain ⟨dx, bI, rfl, eH, hM⟩ := gG hM; dsimp only [Qd] at hM; refine aO fun rW iA => ?_; refine sr ?_; refine om ?_; refine oe (aH 0) ?_; refine oe (aN (b := b1)) ?_; refine oe bR ?_; refine oe dJ ?_; refine on ?_; refine cc rfl hM (fun hc4 hM => ?_) (fun hc4 hM => ?_)
 · refine bA (iA _ _ ?_); clear iA; refine aO fun yH lK => ?_; refine bX ?_; refine sr ?_; refine oe (aH 0) ?_; refine oe (aN (b := b1)) ?_; refine om ?_; obtain ⟨y5, yY, hM⟩ := bind_some hM; refine aM (bJ (fun w hm => let ⟨S, hs⟩ := hm; QC _ w l0.aQ aG.1 (bN : Int) y5 yY (bB hs) (kM hs)) ?_); refine oa ?_; refine on ?_; refine sr ?_; refine om ?_; refine oe jo ?_; refine on ?_; refine cc rfl hM (fun oq hM => ?_) (fun oq hM => ?_)
   · refine sr ?_; refine om ?_; refine oa ?_; refine on ?_; obtain rfl := some_inj hM; refine bn (bT (fun w hm => bQ hm rfl))
   refine bA (lK _ _ ?_); clear lK; refine bE ?_; refine om ?_; obtain ⟨vY, hM⟩ := bC hM; refine oe (dh (hr := fun hg => bS vY)) ?_; refine oa ?_; refine bF (hL1 (dx, (bN + 1), ()) _ _ (eqc eH hM) (Nat.lt_succ_self _) ⟨rfl, rfl, trivial⟩ rI)
 refine fI (jB _ _ ?_); clear jB; dsimp only [VJ] at hM; refine aO fun zQ mO => ?_; refine sr ?_; refine oa ?_; refine on ?_; refine bX ?_; refine fM (γ := Nat × Nat × Unit) (env := fun (_, xR, _) => [(1, eP b1), (5, eI (xR : Int))]) (mem := fun (_, xR, _) => [iL l0.aQ aG.1, iL l0.aR aG.2.1, iL l0.Sections aG.2.2.1, iL l0.Links aG.2.2.2, own b1 27 (fq l0 aG)]) (R := fun g => iter (Qe l0) g.1 g.2.1 = some y) (μ := fun g => g.1) (FUEL, 0, ()) hM ⟨rfl, rfl, trivial⟩ rI ?_; clear hM; intro g hM xk hL2; obtain ⟨lS, xR, ⟨⟩⟩ := g; dsimp only at hM ⊢; obtain ⟨lS, gZ, rfl, pO, hM⟩ := gG hM; dsimp only [Qe] at hM; refine aO fun Dm oP => ?_; refine sr ?_; refine om ?_; refine oe (aH 1) ?_; refine oe (aN (b := b1)) ?_; refine oe bR ?_; refine oe dJ ?_; refine on ?_; refine cc rfl hM (fun sU hM => ?_) (fun sU hM => ?_)
 · refine bA (oP _ _ ?_); clear oP; refine aO fun Dn oQ => ?_; refine bX ?_; refine sr ?_; refine oe (aH 1) ?_; refine oe (aN (b := b1)) ?_; refine om ?_; obtain ⟨jk, uq, hM⟩ := bind_some hM; refine aM (bJ (fun w hm => let ⟨S, hs⟩ := hm; QC _ w l0.aR aG.2.1 (xR : Int) jk uq (bB hs) (kM hs)) ?_); refine oa ?_; refine on ?_; refine sr ?_; refine om ?_; refine oe jo ?_; refine on ?_; refine cc rfl hM (fun xK hM => ?_) (fun xK hM => ?_)
   · refine sr ?_; refine om ?_; refine oa ?_; refine on ?_; obtain rfl := some_inj hM; refine bn (bT (fun w hm => bQ hm rfl))
   refine bA (oQ _ _ ?_); clear oQ; refine bE ?_; refine om ?_; obtain ⟨Nw, hM⟩ := bC hM; refine oe (dh (hr := fun hg => bS Nw)) ?_; refine oa ?_; refine bF (hL2 (lS, (xR + 1), ()) _ _ (eqc pO hM) (Nat.lt_succ_self _) ⟨rfl, rfl, trivial⟩ rI)
 refine fI (mO _ _ ?_); clear mO; dsimp only [VK] at hM; refine sr ?_; refine oe (cu (b := b1)) ?_; obtain ⟨bZ, pQ, hM⟩ := bind_some hM; refine aM (fD jF.nil (fun S w hs hP => V9 _ w l0 aG bZ pQ (bB hs) ⟨(kM hs), (kM hs), (kM hs), (kM hs)⟩) fC (fun r16 => ?_)); dsimp only [List.cons_append, List.nil_append]; refine oa ?_; refine on ?_; refine aO fun Xo GV => ?_; refine sr ?_; refine oa ?_; refine on ?_; refine bX ?_; refine fM (γ := Nat × Nat × Unit) (env := fun (_, iw, _) => [(1, eP b1), (7, eS r16 bZ), (8, eI (iw : Int))]) (mem := fun (_, iw, _) => [iL l0.aQ aG.1, iL l0.aR aG.2.1, iL l0.Sections aG.2.2.1, iL l0.Links aG.2.2.2, own b1 27 (fq l0 aG), ah 9 r16 bZ]) (R := fun g => iter (Qf l0 bZ) g.1 g.2.1 = some y) (μ := fun g => g.1) (FUEL, 0, ()) hM ⟨rfl, rfl, rfl, trivial⟩ rI ?_; clear hM; intro g hM F8 hL3; obtain ⟨sG, iw, ⟨⟩⟩ := g; dsimp only at hM ⊢; obtain ⟨sG, mD, rfl, xM, hM⟩ := gG hM
 dsimp only [Qf] at hM; refine aO fun Xp GX => ?_; refine sr ?_; refine om ?_; refine oe (aH 2) ?_; refine oe (aN (b := b1)) ?_; refine oe bR ?_; refine oe dJ ?_; refine on ?_; refine cc rfl hM (fun hc17 hM => ?_) (fun hc17 hM => ?_)
 · refine bA (GX _ _ ?_); clear GX; refine aO fun MC vZ => ?_; refine bX ?_; refine aO fun Rs Af => ?_; refine sr ?_; refine om ?_; refine om ?_; obtain ⟨jY, uy, hM⟩ := bind_some hM; refine aM (bJ (fun w hm => let ⟨S, hs⟩ := hm; QC _ w bZ r16 (iw : Int) jY uy (bB hs) (kT hs)) ?_); refine oa ?_; refine on ?_; refine sr ?_; refine om ?_; refine oe jo ?_; refine on ?_; refine cc rfl hM (fun Ai hM => ?_) (fun Ai hM => ?_)
   · refine sr ?_; refine om ?_; refine oa ?_; refine on ?_; obtain rfl := some_inj hM; refine bn (bT (fun w hm => bQ hm rfl))
   refine bA (Af _ _ ?_); clear Af; refine sr ?_; refine oe (aH 2) ?_; refine oe (aN (b := b1)) ?_; refine om ?_; obtain ⟨x21, Ul, hM⟩ := bind_some hM; refine oe (bK (xs := l0.Sections) 5 (kG l0.Sections aG.2.2.1) (iS Ul)) ?_; refine oe (jm (m := 5) (i := (iw : Int)) (xs := l0.Sections) (y := x21) (l := (zi x21)) 0 (kG l0.Sections aG.2.2.1) (fun _ => Ul)) ?_; refine aM (cO rfl (k := fun Gc => ?_)); refine aM (bY (b := Gc) (vs := (zi x21)) (k := ?_)); refine on ?_; refine sr ?_; refine oe (aH 1) ?_; refine oe (aN (b := Gc)) ?_; obtain ⟨y24, hy25, hM⟩ := bind_some hM; refine aM (bJ (fun w hm => let ⟨S, hs⟩ := hm; yt _ w x21.Length 1 400 y24 hy25 (bB hs) ) ?_); refine oe gB ?_; refine om ?_; refine aF rfl (aH 2) ?_; refine aF rfl (aN (b := Gc)) ?_; obtain ⟨aD, hy27, hM⟩ := bind_some hM; refine nW rfl (fun hg w hm => let ⟨S, hs⟩ := hm; yt _ w x21.Limit 1000 100000 aD (eG hy27 hg) (bB hs) ) ?_; refine aF rfl gB ?_; refine oe eu ?_
   refine om ?_; refine aF rfl (aH 3) ?_; refine aF rfl (aN (b := Gc)) ?_; obtain ⟨y28, hy29, hM⟩ := bind_some hM; refine nW rfl (fun hg w hm => let ⟨S, hs⟩ := hm; yt _ w x21.jT (-40) 40 y28 (eG hy29 hg) (bB hs) ) ?_; refine aF rfl gB ?_; refine oe eu ?_; refine om ?_; refine aF rfl (aH 4) ?_; refine aF rfl (aN (b := Gc)) ?_; refine aF rfl (aH 0) ?_; refine aF rfl (aN (b := b1)) ?_; refine aF rfl bR ?_; obtain ⟨NJ, hM⟩ := bC hM; refine aF rfl (iy (hr := fun hg => bS (DT NJ hg))) ?_; obtain ⟨y31, hy32, hM⟩ := bind_some hM; refine nW rfl (fun hg w hm => let ⟨S, hs⟩ := hm; yt _ w x21.og (-1) ((l0.aQ.length : Int) - 1) y31 (eG hy32 hg) (bB hs) ) ?_; refine aF rfl gB ?_; refine oe eu ?_; refine on ?_; refine cc rfl hM (fun Ht hM => ?_) (fun Ht hM => ?_)
   · refine sr ?_; refine oa ?_; refine on ?_; obtain rfl := some_inj hM; refine bn (bT (fun w hm => bQ hm rfl))
   refine bA (vZ _ _ ?_); clear vZ; refine bE ?_; refine om ?_; obtain ⟨GQ, hM⟩ := bC hM; refine oe (dh (hr := fun hg => bS GQ)) ?_; refine oa ?_; refine bF (hL3 (sG, (iw + 1), ()) _ _ (eqc xM hM) (Nat.lt_succ_self _) ⟨rfl, rfl, rfl, trivial⟩ rI)
 refine fI (GV _ _ ?_); clear GV; dsimp only [VL] at hM; refine aO fun Xw G8 => ?_; refine sr ?_; refine oa ?_; refine on ?_; refine bX ?_; refine fM (γ := Nat × Nat × Unit) (env := fun (_, xS, _) => [(1, eP b1), (11, eI (xS : Int))]) (mem := fun (_, xS, _) => [iL l0.aQ aG.1, iL l0.aR aG.2.1, iL l0.Sections aG.2.2.1, iL l0.Links aG.2.2.2, own b1 27 (fq l0 aG)]) (R := fun g => iter (Qg l0) g.1 g.2.1 = some y) (μ := fun g => g.1) (FUEL, 0, ()) hM ⟨rfl, rfl, trivial⟩ rI ?_; clear hM; intro g hM Xy hL4; obtain ⟨IB, xS, ⟨⟩⟩ := g; dsimp only at hM ⊢; obtain ⟨IB, Gq, rfl, Oj, hM⟩ := gG hM; dsimp only [Qg] at hM; refine aO fun K39 TR => ?_; refine sr ?_; refine om ?_; refine oe (aH 3) ?_; refine oe (aN (b := b1)) ?_; refine oe bR ?_; refine oe dJ ?_; refine on ?_; refine cc rfl hM (fun aax hM => ?_) (fun aax hM => ?_)
 · refine bA (TR _ _ ?_); clear TR; refine aO fun K41 TS => ?_; refine bX ?_; refine sr ?_; refine oe (cu (b := b1)) ?_; refine om ?_; obtain ⟨Mt, abG, hM⟩ := bind_some hM; refine aM (bJ (fun w hm => let ⟨S, hs⟩ := hm; adz _ w l0 aG (xS : Int) Mt abG (bB hs) ⟨(kM hs), (kM hs), (kM hs), (kM hs)⟩) ?_); refine oa ?_; refine on ?_; refine sr ?_; refine om ?_; refine oe jo ?_; refine on ?_; refine cc rfl hM (fun hc38 hM => ?_) (fun hc38 hM => ?_)
   · refine sr ?_; refine om ?_; refine oa ?_; refine on ?_; obtain rfl := some_inj hM; refine bn (bT (fun w hm => bQ hm rfl))
   refine bA (TS _ _ ?_); clear TS; refine bE ?_; refine om ?_; obtain ⟨Zo, hM⟩ := bC hM; refine oe (dh (hr := fun hg => bS Zo)) ?_; refine oa ?_; refine bF (hL4 (IB, (xS + 1), ()) _ _ (eqc Oj hM) (Nat.lt_succ_self _) ⟨rfl, rfl, trivial⟩ rI)
 refine fI (G8 _ _ ?_); clear G8; dsimp only [VN] at hM; refine sr ?_; refine oa ?_; refine on ?_; obtain rfl := some_inj hM; refine bn (bT (fun w hm => bQ hm rfl))
end Go.Proofs.Ytcalibhfgdncaaa
