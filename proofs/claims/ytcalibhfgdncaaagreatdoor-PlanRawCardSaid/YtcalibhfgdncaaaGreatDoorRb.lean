/- Models of functions, and that the code computes them. -/
import Derived.Test.YtcalibhfgdncaaaGreatDoorR0
set_option linter.all false
namespace Go.Proofs.YtcalibhfgdncaaaGreatDoor
open Go.Dc Go.RowKit
set_option maxRecDepth 10000
def Fp (c0 : Int) : Option Bool :=
  some ((decide (97 ≤ c0) && decide (c0 ≤ 122)) || (decide (65 ≤ c0) && decide (c0 ≤ 90)))
theorem Y5 (S : bD) (w : World) (c0 : Int) (y : Bool) (hM : Fp c0 = some y) (hS : sB S w)  :
    Calls Tryz.prog 165 #[.int .u8 c0] w (bW w (.bool y)) := by
 refine bR (args := [_]) Tryz.func165 rfl ((pre_nil hS).start) rfl ?_; unfold Fp at hM; refine sr ?_; refine oa ?_; refine on ?_; refine sr ?_; refine om ?_; refine oe gW ?_; refine om ?_; refine av rfl aG ?_; refine av rfl kr ?_; refine oe cO ?_; refine om ?_; refine av rfl aG ?_; refine av rfl gW ?_; refine av rfl aG ?_; refine av rfl aG ?_; refine av rfl kr ?_; refine av rfl cO ?_; refine oe dw ?_; refine oa ?_; refine on ?_; obtain rfl := some_inj hM; refine aL (aZ (fun w hm => aW hm rfl))
def YZ : Unit → Option Bool := fun _ =>
  some true
def Fa (s0 : Str) (aQ : Nat → Option Bool) : Nat → Option Bool := fun aK =>
  if decide ((aK : Int) < (s0.l.length : Int)) then
    ((kP s0 (aK : Int)).bind fun c7 =>
    (Fp c7).bind fun y9 =>
    (dV (!y9) 0 (kP s0 (aK : Int))).bind fun c11 =>
    (dV (!y9) default (J6 c11)).bind fun y13 =>
    (dV ((!y9) && (!y13)) 0 (kP s0 (aK : Int))).bind fun c15 =>
    if (((!y9) && (!y13)) && decide (c15 ≠ 95)) then
      (some false)
    else
      (bM (bP ((aK : Int) + 1)) <|
      aQ (aK + 1)))
  else
    (YZ ())
def Cq (s0 : Str) : Option Bool :=
  (dV (!(decide ((s0.l.length : Int) < 1) || decide (12 < (s0.l.length : Int)))) 0 (kP s0 0)).bind fun c1 =>
  (dV (!(decide ((s0.l.length : Int) < 1) || decide (12 < (s0.l.length : Int)))) default (Fp c1)).bind fun y3 =>
  if ((decide ((s0.l.length : Int) < 1) || decide (12 < (s0.l.length : Int))) || (!y3)) then
    (some false)
  else
    (iter (Fa s0) FUEL 1)
theorem RS (S : bD) (w : World) (s0 : Str) (y : Bool) (hM : Cq s0 = some y) (hS : sB S w)  :
    Calls Tryz.prog 117 #[.string s0.ba] w (bW w (.bool y)) := by
 refine bR (args := [_]) Tryz.func117 rfl ((pre_nil hS).start) rfl ?_; unfold Cq at hM; refine sr ?_; refine oa ?_; refine on ?_; refine aD fun K2 hK2 => ?_; refine sr ?_; refine om ?_; refine oe oI ?_; refine oe bN ?_; refine om ?_; refine av rfl aG ?_; refine av rfl oI ?_; refine av rfl fP ?_; refine oe dw ?_; refine om ?_; refine av rfl aG ?_; obtain ⟨c1, I8, hM⟩ := bind_some hM; refine av rfl (nH (dM I8)) ?_; obtain ⟨y3, hy4, hM⟩ := bind_some hM; refine iX rfl (fun hg w hm => let ⟨S, hs⟩ := hm; Y5 _ w c1 y3 (dM hy4 hg) (aT hs) ) ?_; refine av rfl dN ?_; refine oe dw ?_; refine on ?_; refine cc rfl hM (fun gX hM => ?_) (fun gX hM => ?_)
 · refine sr ?_; refine oa ?_; refine on ?_; obtain rfl := some_inj hM; refine aL (aZ (fun w hm => aW hm rfl))
 refine aM (hK2 _ _ ?_); clear hK2; refine aD fun K5 cu => ?_; refine sr ?_; refine oa ?_; refine on ?_; refine bf ?_; refine dF (γ := Nat × Nat × Unit) (env := fun (_, aK, _) => [(0, .v (.string s0.ba)), (3, eI (aK : Int))]) (mem := fun (_, aK, _) => []) (R := fun g => iter (Fa s0) g.1 g.2.1 = some y) (μ := fun g => g.1) (FUEL, 1, ()) hM ⟨rfl, rfl, trivial⟩ rI ?_; clear hM; intro g hM gy hL1; obtain ⟨bJ, aK, ⟨⟩⟩ := g; dsimp only at hM ⊢; obtain ⟨bJ, aQ, rfl, dz, hM⟩ := dL hM; dsimp only [Fa] at hM; refine aD fun K7 dI => ?_; refine sr ?_; refine om ?_; refine om ?_; refine oe oI ?_; refine oe bN ?_; refine on ?_; refine cc rfl hM (fun hc6 hM => ?_) (fun hc6 hM => ?_)
 · refine aM (dI _ _ ?_); clear dI; refine aD fun K9 eZ => ?_; refine bf ?_; refine sr ?_; refine om ?_; refine om ?_; obtain ⟨c7, acQ, hM⟩ := bind_some hM; refine oe (nH (fun _ => acQ)) ?_; obtain ⟨y9, vw, hM⟩ := bind_some hM; refine aF (bg (fun w hm => let ⟨S, hs⟩ := hm; Y5 _ w c7 y9 vw (aT hs) ) ?_); refine oe dN ?_; refine om ?_; refine av rfl aG ?_; refine av rfl aG ?_; obtain ⟨c11, I7, hM⟩ := bind_some hM; refine av rfl (nH (dM I7)) ?_; obtain ⟨y13, sI, hM⟩ := bind_some hM; refine iX rfl (fun hg w hm => let ⟨S, hs⟩ := hm; Y3 _ w c11 y13 (dM sI hg) (aT hs) ) ?_; refine av rfl dN ?_; refine oe cO ?_; refine om ?_; refine av rfl aG ?_; refine av rfl aG ?_; obtain ⟨c15, acJ, hM⟩ := bind_some hM; refine av rfl (nH (dM acJ)) ?_; refine av rfl fB ?_; refine oe cO ?_; refine on ?_; refine cc rfl hM (fun hc17 hM => ?_) (fun hc17 hM => ?_)
   · refine sr ?_; refine oa ?_; refine on ?_; obtain rfl := some_inj hM; refine aL (aZ (fun w hm => aW hm rfl))
   refine aM (eZ _ _ ?_); clear eZ; refine aR ?_; refine om ?_; obtain ⟨PI, hM⟩ := bO hM; refine oe (dh (hr := fun hg => dn PI)) ?_; refine oa ?_; refine aU (hL1 (bJ, (aK + 1), ()) _ _ (eqc dz hM) (Nat.lt_succ_self _) ⟨rfl, rfl, trivial⟩ rI)
 refine dD (cu _ _ ?_); clear cu; dsimp only [YZ] at hM; refine sr ?_; refine oa ?_; refine on ?_; obtain rfl := some_inj hM; refine aL (aZ (fun w hm => aW hm rfl))
def Y6 : Unit → Option Int := fun _ =>
  some 0
def Fu (i0 : Int) (l0 : List Str) (aQ : Nat → Option Int) : Nat → Option Int := fun gN =>
  if decide ((gN : Int) < i0) then
    ((idx l0 (gN : Int)).bind fun x7 =>
    (idx l0 i0).bind fun x9 =>
    if decide (x7 = x9) then
      (some 5)
    else
      (bM (bP ((gN : Int) + 1)) <|
      aQ (gN + 1)))
  else
    (Y6 ())
def Aj (l0 : List Str) (i0 : Int) : Option Int :=
  (idx l0 i0).bind fun x1 =>
  (Cq x1).bind fun y3 =>
  if (!y3) then
    (some 3)
  else
    (iter (Fu i0 l0) FUEL 0)
theorem Sb (S : bD) (w : World) (l0 : List Str) (aj : ak.R (List Str)) (i0 : Int) (y : Int) (hM : Aj l0 i0 = some y) (hS : sB S w) (dH : ak.ok S w aj l0) :
    Calls Tryz.prog 51 #[sL aj l0, vI i0] w (bW w (vI y)) := by
 refine bR (args := [_, _]) Tryz.func51 rfl ((pre_nil hS).start |>.gQ (α := List Str) (r := aj) (x := l0) dH) rfl ?_; unfold Aj at hM; refine sr ?_; refine oa ?_; refine on ?_; refine aD fun K2 hK2 => ?_; refine sr ?_; refine om ?_; refine om ?_; obtain ⟨x1, hx2, hM⟩ := bind_some hM; refine oe (bA (xs := l0) 1 (kG l0 aj) (iS hx2)) ?_; refine oe (cZ (i := i0) (xs := l0) (y := x1) 0 (kG l0 aj) (fun _ => hx2)) ?_; obtain ⟨y3, hy4, hM⟩ := bind_some hM; refine aF (bg (fun w hm => let ⟨S, hs⟩ := hm; RS _ w x1 y3 hy4 (aT hs) ) ?_); refine oe dN ?_; refine on ?_; refine cc rfl hM (fun gX hM => ?_) (fun gX hM => ?_)
 · refine sr ?_; refine oa ?_; refine on ?_; obtain rfl := some_inj hM; refine aL (aZ (fun w hm => aW hm rfl))
 refine aM (hK2 _ _ ?_); clear hK2; refine aD fun K5 cu => ?_; refine sr ?_; refine oa ?_; refine on ?_; refine bf ?_; refine dF (γ := Nat × Nat × Unit) (env := fun (_, gN, _) => [(0, eS aj l0), (1, eI i0), (5, eI (gN : Int))]) (mem := fun (_, gN, _) => [iL l0 aj]) (R := fun g => iter (Fu i0 l0) g.1 g.2.1 = some y) (μ := fun g => g.1) (FUEL, 0, ()) hM ⟨rfl, rfl, rfl, trivial⟩ rI ?_; clear hM; intro g hM gy hL1; obtain ⟨bJ, gN, ⟨⟩⟩ := g; dsimp only at hM ⊢; obtain ⟨bJ, aQ, rfl, dz, hM⟩ := dL hM; dsimp only [Fu] at hM; refine aD fun K7 dI => ?_; refine sr ?_; refine om ?_; refine om ?_; refine oe bN ?_; refine on ?_; refine cc rfl hM (fun hc6 hM => ?_) (fun hc6 hM => ?_)
 · refine aM (dI _ _ ?_); clear dI; refine aD fun K9 eZ => ?_; refine bf ?_; refine aD fun pE gu => ?_; refine fA _ (List.Sublist.refl _) ?_; refine au 0 rfl aG ?_; refine au 1 rfl aG ?_; obtain ⟨x7, qW, hM⟩ := bind_some hM; refine au 2 rfl (bA (xs := l0) 1 (kG l0 aj) (iS qW)) ?_; refine au 3 rfl (cZ (i := (gN : Int)) (xs := l0) (y := x7) 0 (kG l0 aj) (fun _ => qW)) ?_; refine au 4 rfl aG ?_; refine au 5 rfl aG ?_; obtain ⟨x9, kR, hM⟩ := bind_some hM; refine au 6 rfl (bA (xs := l0) 1 (kG l0 aj) (iS kR)) ?_; refine au 7 rfl (cZ (i := i0) (xs := l0) (y := x9) 0 (kG l0 aj) (fun _ => kR)) ?_; refine au 8 rfl qo ?_; refine dG (gu _ _ ?_); clear gu; refine cc rfl hM (fun su hM => ?_) (fun su hM => ?_)
   · refine sr ?_; refine oa ?_; refine on ?_; obtain rfl := some_inj hM; refine aL (aZ (fun w hm => aW hm rfl))
   refine aM (eZ _ _ ?_); clear eZ; refine aR ?_; refine om ?_; obtain ⟨PE, hM⟩ := bO hM; refine oe (dh (hr := fun hg => dn PE)) ?_; refine oa ?_; refine aU (hL1 (bJ, (gN + 1), ()) _ _ (eqc dz hM) (Nat.lt_succ_self _) ⟨rfl, rfl, rfl, trivial⟩ rI)
 refine dD (cu _ _ ?_); clear cu; dsimp only [Y6] at hM; refine sr ?_; refine oa ?_; refine on ?_; obtain rfl := some_inj hM; refine aL (aZ (fun w hm => aW hm rfl))
def rC (n0 : Int) (gZ : Int) (hi0 : Int) : Option Bool :=
  some (decide (gZ ≤ n0) && decide (n0 ≤ hi0))
theorem wU (S : bD) (w : World) (n0 : Int) (gZ : Int) (hi0 : Int) (y : Bool) (hM : rC n0 gZ hi0 = some y) (hS : sB S w)  :
    Calls Tryz.prog 53 #[vI n0, vI gZ, vI hi0] w (bW w (.bool y)) := by
 refine bR (args := [_, _, _]) Tryz.func53 rfl ((pre_nil hS).start) rfl ?_; unfold rC at hM; refine sr ?_; refine oa ?_; refine on ?_; refine sr ?_; refine om ?_; refine om ?_; refine oe gW ?_; refine om ?_; refine av rfl aG ?_; refine av rfl aG ?_; refine av rfl kr ?_; refine oe cO ?_; refine oa ?_; refine on ?_; obtain rfl := some_inj hM; refine aL (aZ (fun w hm => aW hm rfl))
def Fj (k0 : Link) (x0 : kL) : Option Bool :=
  some ((decide (k0.A = x0.eH) && decide (k0.bY = x0.end_)) || (decide (k0.B = x0.eH) && decide (k0.dx = x0.end_)))
theorem R8 (S : bD) (w : World) (k0 : Link) (x0 : kL) (y : Bool) (hM : Fj k0 x0 = some y) (hS : sB S w)  :
    Calls Tryz.prog 118 #[.agg (aar k0), .agg (Uy x0)] w (bW w (.bool y)) := by
 refine bR (args := [_, _]) Tryz.func118 rfl ((pre_nil hS).start) rfl ?_; unfold Fj at hM; refine sr ?_; refine aF (bU (l := (nC k0)) (k := fun b1 => ?_)); refine aF (bU (l := (JD x0)) (k := fun b2 => ?_)); refine oa ?_; refine on ?_; refine sr ?_; refine oe (ay 0) ?_; refine oe (aC (b := b1)) ?_; refine oe (ay 0) ?_; refine oe (aC (b := b2)) ?_; refine oe dS ?_; refine om ?_; refine av rfl (ay 1) ?_; refine av rfl (aC (b := b1)) ?_; refine av rfl (ay 1) ?_; refine av rfl (aC (b := b2)) ?_; refine av rfl dS ?_; refine oe cO ?_; refine om ?_; refine av rfl (ay 2) ?_; refine av rfl (aC (b := b1)) ?_; refine av rfl (ay 0) ?_; refine av rfl (aC (b := b2)) ?_; refine av rfl dS ?_; refine av rfl aG ?_; refine av rfl (ay 3) ?_; refine av rfl (aC (b := b1)) ?_; refine av rfl (ay 1) ?_; refine av rfl (aC (b := b2)) ?_; refine av rfl dS ?_; refine av rfl cO ?_; refine oe dw ?_; refine oa ?_; refine on ?_; obtain rfl := some_inj hM; refine aL (aZ (fun w hm => aW hm rfl))
def Fg (jV : Nat) (aQ : (Int × Int × Int × Int × Int × Int × Int × Nat) → Option Bool) : (Int × Int × Int × Int × Int × Int × Int) → Option Bool := fun (DX, D7, D8, D9, Ea, Eb, Ec) =>
  bM (bP ((jV : Int) + 1)) <|
  aQ (DX, D7, D8, D9, Ea, Eb, Ec, jV + 1)
def R7 (tq : Int) (x3 : Link) (yj : Int) (yt : Int) : Unit → Option Bool := fun _ =>
  some (decide (tq = 0) || (((decide (tq = 1) && decide (0 ≤ x3.Point)) && decide (yj = x3.Point)) && decide (yt ≠ x3.Pos)))
def Fe (i0 : Int) (l0 : Layout) (x0 : kL) (x3 : Link) (aQ : (Int × Int × Int × Int × Int × Int × Int × Nat) → Option Bool) : (Int × Int × Int × Int × Int × Int × Int × Nat) → Option Bool := fun (tq, DY, DZ, D5, D6, yj, yt, jV) =>
  if decide ((jV : Int) < i0) then
    ((idx l0.Links (jV : Int)).bind fun x9 =>
    (Fj x9 x0).bind fun dP =>
    if dP then
      (bM (bP (tq + 1)) <|
      (idx l0.Links (jV : Int)).bind fun jZ =>
      Fg jV aQ ((tq + 1), jZ.A, jZ.bY, jZ.B, jZ.dx, jZ.Point, jZ.Pos))
    else
      (Fg jV aQ (tq, DY, DZ, D5, D6, yj, yt)))
  else
    (R7 tq x3 yj yt ())
def Fh (l0 : Layout) (i0 : Int) (x0 : kL) : Option Bool :=
  (idx l0.Links i0).bind fun x3 =>
  iter (Fe i0 l0 x0 x3) FUEL (0, 0, 0, 0, 0, 0, 0, 0)
theorem Y4 (S : bD) (w : World) (l0 : Layout) (aj : ak.R Layout) (i0 : Int) (x0 : kL) (y : Bool) (hM : Fh l0 i0 x0 = some y) (hS : sB S w) (dH : ak.ok S w aj l0) :
    Calls Tryz.prog 119 #[.agg (iy l0 aj), vI i0, .agg (Uy x0)] w (bW w (.bool y)) := by
 refine bR (args := [_, _, _]) Tryz.func119 rfl ((pre_nil hS).start |>.jw dH) rfl ?_; unfold Fh at hM; refine sr ?_; refine aF (bU (l := (bK l0 aj)) (k := fun b1 => ?_)); refine aF (bU (l := (JD x0)) (k := fun b2 => ?_)); refine oa ?_; refine on ?_; refine sr ?_; refine oe (ay 3) ?_; refine oe (aC (b := b1)) ?_; refine om ?_; obtain ⟨x3, hx4, hM⟩ := bind_some hM; refine oe (bA (xs := l0.Links) 6 (kG l0.Links aj.2.2.2) (iS hx4)) ?_; refine oe (dU (m := 6) (i := i0) (xs := l0.Links) (y := x3) (l := (nC x3)) 0 (kG l0.Links aj.2.2.2) (fun _ => hx4)) ?_; refine aF (bQ rfl (k := fun b5 => ?_)); refine aF (bI (b := b5) (vs := (nC x3)) (k := ?_))
 refine on ?_; refine sr ?_; refine oe (jE [vI 0, vI 0, vI 0, vI 0, vI 0, vI 0]) ?_; refine aF (bQ rfl (k := fun b6 => ?_)); refine oa ?_; refine aF (bI (b := b6) (vs := [vI 0, vI 0, vI 0, vI 0, vI 0, vI 0]) (k := ?_)); refine on ?_; refine aD fun K4 hK4 => ?_; refine sr ?_; refine oa ?_; refine on ?_; refine bf ?_; refine dF (γ := Nat × (Int × Int × Int × Int × Int × Int × Int × Nat) × Unit) (env := fun (_, (tq, DY, DZ, D5, D6, yj, yt, jV), _) => [(1, eI i0), (3, eP b1), (5, eP b2), (7, eP b5), (8, eI tq), (9, eP b6), (10, eI (jV : Int))]) (mem := fun (_, (tq, DY, DZ, D5, D6, yj, yt, jV), _) => [iL l0.aX aj.1, iL l0.bF aj.2.1, iL l0.Sections aj.2.2.1, iL l0.Links aj.2.2.2, own b1 26 (bK l0 aj), own b2 185 (JD x0), own b5 183 (nC x3), own b6 183 [vI DY, vI DZ, vI D5, vI D6, vI yj, vI yt]]) (R := fun g => iter (Fe i0 l0 x0 x3) g.1 g.2.1 = some y) (μ := fun g => g.1) (FUEL, (0, 0, 0, 0, 0, 0, 0, 0), ()) hM ⟨rfl, rfl, rfl, rfl, rfl, rfl, rfl, trivial⟩ rI ?_
 clear hM; intro g hM gy hL1; obtain ⟨bJ, ⟨tq, DY, DZ, D5, D6, yj, yt, jV⟩, ⟨⟩⟩ := g; dsimp only at hM ⊢; obtain ⟨bJ, aQ, rfl, dz, hM⟩ := dL hM; dsimp only [Fe] at hM; refine aD fun K6 cK => ?_; refine sr ?_; refine om ?_; refine om ?_; refine oe bN ?_; refine on ?_; refine cc rfl hM (fun ku hM => ?_) (fun ku hM => ?_)
 · refine aM (cK _ _ ?_); clear cK; refine iH (γ := (Int × Int × Int × Int × Int × Int × Int) × Unit) (env := fun ((DX, D7, D8, D9, Ea, Eb, Ec), _) => [(1, eI i0), (3, eP b1), (5, eP b2), (7, eP b5), (8, eI DX), (9, eP b6), (10, eI (jV : Int))]) (mem := fun ((DX, D7, D8, D9, Ea, Eb, Ec), _) => [iL l0.aX aj.1, iL l0.bF aj.2.1, iL l0.Sections aj.2.2.1, iL l0.Links aj.2.2.2, own b1 26 (bK l0 aj), own b2 185 (JD x0), own b5 183 (nC x3), own b6 183 [vI D7, vI D8, vI D9, vI Ea, vI Eb, vI Ec]]) (R := fun g => Fg jV aQ g.1 = some y) ?_ ?_
   · intro uO hJ2; refine bf ?_; refine aD fun K8 fE => ?_; refine fA _ (List.Sublist.refl _) ?_; refine au 0 rfl (ay 3) ?_; refine au 1 rfl (aC (b := b1)) ?_; refine au 2 rfl aG ?_; obtain ⟨x9, kR, hM⟩ := bind_some hM; refine au 3 rfl (bA (xs := l0.Links) 6 (kG l0.Links aj.2.2.2) (iS kR)) ?_; refine au 4 rfl (dU (m := 6) (i := (jV : Int)) (xs := l0.Links) (y := x9) (l := (nC x9)) 0 (kG l0.Links aj.2.2.2) (fun _ => kR)) ?_; refine au 5 rfl (bH (b := b2)) ?_; obtain ⟨dP, qA, hM⟩ := bind_some hM; refine bB 6 rfl (bg (fun w hm => let ⟨S, hs⟩ := hm; R8 _ w x9 x0 dP qA (aT hs) ) ⟨rI, ?_⟩); refine dG (fE _ _ ?_); clear fE; refine cc rfl hM (fun vo hM => ?_) (fun vo hM => ?_)
     · refine sr ?_; refine om ?_; obtain ⟨Bu, hM⟩ := bO hM; refine oe (dh (hr := fun hg => dn Bu)) ?_; refine oa ?_; refine on ?_; refine aR ?_; refine oe (ay 3) ?_; refine oe (aC (b := b1)) ?_; refine om ?_; obtain ⟨jZ, hx16, hM⟩ := bind_some hM; refine oe (bA (xs := l0.Links) 6 (kG l0.Links aj.2.2.2) (iS hx16)) ?_; refine oe (dU (m := 6) (i := (jV : Int)) (xs := l0.Links) (y := jZ) (l := (nC jZ)) 0 (kG l0.Links aj.2.2.2) (fun _ => hx16)) ?_; refine aF (bI (b := b6) (vs := (nC jZ)) (k := ?_)); refine aU (hJ2 (((tq + 1), jZ.A, jZ.bY, jZ.B, jZ.dx, jZ.Point, jZ.Pos), ()) _ _ hM ⟨rfl, rfl, rfl, rfl, rfl, rfl, rfl, trivial⟩ rI)
     refine aM (hJ2 ((tq, DY, DZ, D5, D6, yj, yt), ()) _ _ hM ⟨rfl, rfl, rfl, rfl, rfl, rfl, rfl, trivial⟩ rI)
   clear hM; intro g hM; obtain ⟨⟨DX, D7, D8, D9, Ea, Eb, Ec⟩, ⟨⟩⟩ := g; dsimp only at hM ⊢; dsimp only [Fg] at hM; refine aR ?_; refine om ?_; obtain ⟨r9, hM⟩ := bO hM; refine oe (dh (hr := fun hg => dn r9)) ?_; refine oa ?_; refine aU (hL1 (bJ, (DX, D7, D8, D9, Ea, Eb, Ec, jV + 1), ()) _ _ (eqc dz hM) (Nat.lt_succ_self _) ⟨rfl, rfl, rfl, rfl, rfl, rfl, rfl, trivial⟩ rI)
 refine dD (hK4 _ _ ?_); clear hK4; dsimp only [R7] at hM; refine sr ?_; refine om ?_; refine oe dS ?_; refine om ?_; refine av rfl aG ?_; refine av rfl dS ?_; refine av rfl aG ?_; refine av rfl (ay 4) ?_; refine av rfl (aC (b := b5)) ?_; refine av rfl gW ?_; refine av rfl cO ?_; refine av rfl aG ?_; refine av rfl (ay 4) ?_; refine av rfl (aC (b := b6)) ?_; refine av rfl (ay 4) ?_; refine av rfl (aC (b := b5)) ?_; refine av rfl dS ?_; refine av rfl cO ?_; refine av rfl aG ?_; refine av rfl (ay 5) ?_; refine av rfl (aC (b := b6)) ?_; refine av rfl (ay 5) ?_; refine av rfl (aC (b := b5)) ?_; refine av rfl fB ?_; refine av rfl cO ?_; refine oe dw ?_; refine oa ?_; refine on ?_; obtain rfl := some_inj hM; refine aL (aZ (fun w hm => aW hm rfl))
def R9 (l0 : Layout) (i0 : Int) (x2 : Link) : Unit → Option Int := fun _ =>
  (Fh l0 i0 (kL.mk x2.A x2.bY)).bind fun Oq =>
  (dV (!(!Oq)) default (Fh l0 i0 (kL.mk x2.B x2.dx))).bind fun pz =>
  if ((!Oq) || (!pz)) then
    (some 11)
  else
    (some 0)
def Fq (i0 : Int) (l0 : Layout) (x2 : Link) (aQ : Nat → Option Int) : Nat → Option Int := fun jV =>
  if decide ((jV : Int) < i0) then
    ((idx l0.Links (jV : Int)).bind fun x23 =>
    (Fj x23 (kL.mk x2.A x2.bY)).bind fun y25 =>
    (dV y25 default (idx l0.Links (jV : Int))).bind fun x27 =>
    (dV y25 default (Fj x27 (kL.mk x2.B x2.dx))).bind fun y29 =>
    if (y25 && y29) then
      (some 5)
    else
      (bM (bP ((jV : Int) + 1)) <|
      aQ (jV + 1)))
  else
    (R9 l0 i0 x2 ())
def Ng (x2 : Link) (i0 : Int) (l0 : Layout) : Unit → Option Int := fun _ =>
  if decide ((kL.mk x2.A x2.bY) = (kL.mk x2.B x2.dx)) then
    (some 1)
  else
    (iter (Fq i0 l0 x2) FUEL 0)
def J8 (l0 : Layout) (i0 : Int) : Option Int :=
  (idx l0.Links i0).bind fun x2 =>
  bM (bP ((l0.Sections.length : Int) - 1)) <|
  (rC x2.A 0 ((l0.Sections.length : Int) - 1)).bind fun y6 =>
  bM (!(!(!y6)) || bP ((l0.Sections.length : Int) - 1)) <|
  (dV (!(!y6)) default (rC x2.B 0 ((l0.Sections.length : Int) - 1))).bind fun y9 =>
  (dV (!((!y6) || (!y9))) default (rC x2.bY 0 1)).bind fun dP =>
  (dV (!(((!y6) || (!y9)) || (!dP))) default (rC x2.dx 0 1)).bind fun y13 =>
  bM (!(!((((!y6) || (!y9)) || (!dP)) || (!y13))) || bP ((l0.bF.length : Int) - 1)) <|
  (dV (!((((!y6) || (!y9)) || (!dP)) || (!y13))) default (rC x2.Point (-1) ((l0.bF.length : Int) - 1))).bind fun mZ =>
  (dV (!(((((!y6) || (!y9)) || (!dP)) || (!y13)) || (!mZ))) default (rC x2.Pos 0 1)).bind fun iw =>
  if (((((((!y6) || (!y9)) || (!dP)) || (!y13)) || (!mZ)) || (!iw)) || (decide (x2.Point < 0) && decide (x2.Pos ≠ 0))) then
    (some 4)
  else
    (Ng x2 i0 l0 ())
theorem agw (S : bD) (w : World) (l0 : Layout) (aj : ak.R Layout) (i0 : Int) (y : Int) (hM : J8 l0 i0 = some y) (hS : sB S w) (dH : ak.ok S w aj l0) :
    Calls Tryz.prog 54 #[.agg (iy l0 aj), vI i0] w (bW w (vI y)) := by
 refine bR (args := [_, _]) Tryz.func54 rfl ((pre_nil hS).start |>.jw dH) rfl ?_; unfold J8 at hM; refine sr ?_; refine aF (bU (l := (bK l0 aj)) (k := fun b1 => ?_)); refine oa ?_; refine on ?_; refine sr ?_; refine oe (ay 3) ?_; refine oe (aC (b := b1)) ?_; refine om ?_; obtain ⟨x2, hx3, hM⟩ := bind_some hM; refine oe (bA (xs := l0.Links) 6 (kG l0.Links aj.2.2.2) (iS hx3)) ?_; refine oe (dU (m := 6) (i := i0) (xs := l0.Links) (y := x2) (l := (nC x2)) 0 (kG l0.Links aj.2.2.2) (fun _ => hx3)) ?_; refine aF (bQ rfl (k := fun b4 => ?_)); refine aF (bI (b := b4) (vs := (nC x2)) (k := ?_))
 refine on ?_; refine sr ?_; refine oe (ay 2) ?_; refine oe (aC (b := b1)) ?_; refine oe bE ?_; refine oa ?_; refine on ?_; refine aD fun K4 hK4 => ?_; refine sr ?_; refine oe (ay 0) ?_; refine oe (aC (b := b4)) ?_; refine om ?_; obtain ⟨Bv, hM⟩ := bO hM; refine oe (jo (hr := fun hg => dn Bv)) ?_; obtain ⟨y6, qC, hM⟩ := bind_some hM; refine aF (bg (fun w hm => let ⟨S, hs⟩ := hm; wU _ w x2.A 0 ((l0.Sections.length : Int) - 1) y6 qC (aT hs) ) ?_); refine oe dN ?_; refine om ?_; refine av rfl (ay 2) ?_; refine av rfl (aC (b := b4)) ?_; refine av rfl aG ?_; obtain ⟨r9, hM⟩ := bO hM; refine av rfl (jo (hr := fun hg => dn (uV r9 hg))) ?_; obtain ⟨y9, vw, hM⟩ := bind_some hM; refine iX rfl (fun hg w hm => let ⟨S, hs⟩ := hm; wU _ w x2.B 0 ((l0.Sections.length : Int) - 1) y9 (dM vw hg) (aT hs) ) ?_; refine av rfl dN ?_; refine oe dw ?_; refine om ?_; refine av rfl (ay 1) ?_; refine av rfl (aC (b := b4)) ?_; obtain ⟨dP, qA, hM⟩ := bind_some hM; refine iX rfl (fun hg w hm => let ⟨S, hs⟩ := hm; wU _ w x2.bY 0 1 dP (dM qA hg) (aT hs) ) ?_; refine av rfl dN ?_; refine oe dw ?_; refine om ?_
 refine av rfl (ay 3) ?_; refine av rfl (aC (b := b4)) ?_; obtain ⟨y13, sI, hM⟩ := bind_some hM; refine iX rfl (fun hg w hm => let ⟨S, hs⟩ := hm; wU _ w x2.dx 0 1 y13 (dM sI hg) (aT hs) ) ?_; refine av rfl dN ?_; refine oe dw ?_; refine om ?_; refine av rfl (ay 4) ?_; refine av rfl (aC (b := b4)) ?_; refine av rfl (ay 1) ?_; refine av rfl (aC (b := b1)) ?_; refine av rfl bE ?_; obtain ⟨PG, hM⟩ := bO hM; refine av rfl (jo (hr := fun hg => dn (uV PG hg))) ?_; obtain ⟨mZ, BJ, hM⟩ := bind_some hM; refine iX rfl (fun hg w hm => let ⟨S, hs⟩ := hm; wU _ w x2.Point (-1) ((l0.bF.length : Int) - 1) mZ (dM BJ hg) (aT hs) ) ?_; refine av rfl dN ?_; refine oe dw ?_; refine om ?_; refine av rfl (ay 5) ?_; refine av rfl (aC (b := b4)) ?_; obtain ⟨iw, qB, hM⟩ := bind_some hM; refine iX rfl (fun hg w hm => let ⟨S, hs⟩ := hm; wU _ w x2.Pos 0 1 iw (dM qB hg) (aT hs) ) ?_; refine av rfl dN ?_; refine oe dw ?_; refine om ?_; refine av rfl (ay 4) ?_; refine av rfl (aC (b := b4)) ?_; refine av rfl bN ?_; refine av rfl aG ?_; refine av rfl (ay 5) ?_; refine av rfl (aC (b := b4)) ?_; refine av rfl fB ?_; refine av rfl cO ?_; refine oe dw ?_; refine on ?_
 refine cc rfl hM (fun wH hM => ?_) (fun wH hM => ?_)
 · refine sr ?_; refine oa ?_; refine on ?_; obtain rfl := some_inj hM; refine aL (aZ (fun w hm => aW hm rfl))
 refine aM (hK4 _ _ ?_); clear hK4; refine iH (γ := Unit × (Nat × Nat)) (env := fun (_, (xH, xJ)) => [(1, eI i0), (2, eP b1), (7, eP xH), (8, eP xJ)]) (mem := fun (_, (xH, xJ)) => [iL l0.aX aj.1, iL l0.bF aj.2.1, iL l0.Sections aj.2.2.1, iL l0.Links aj.2.2.2, own b1 26 (bK l0 aj), own xH 185 [vI x2.A, vI x2.bY], own xJ 185 [vI x2.B, vI x2.dx]]) (R := fun g => Ng x2 i0 l0 g.1 = some y) ?_ ?_
 · intro wm eY; refine fA _ (List.Sublist.refl _) ?_; refine au 0 rfl (ay 0) ?_; refine au 1 rfl (aC (b := b4)) ?_; refine au 2 rfl (ay 1) ?_; refine au 3 rfl (aC (b := b4)) ?_; refine au 4 rfl (jE [vI x2.A, vI x2.bY]) ?_; refine au 5 rfl (ay 2) ?_; refine au 6 rfl (aC (b := b4)) ?_; refine au 7 rfl (ay 3) ?_; refine au 8 rfl (aC (b := b4)) ?_; refine au 9 rfl (jE [vI x2.B, vI x2.dx]) ?_; refine mO 10 11 (⟨_, rfl, rfl, bQ rfl (k := fun uS => ⟨rI, ?_⟩)⟩) (⟨_, rfl, rfl, bQ rfl (k := fun zo => ⟨rI, ?_⟩)⟩)
   · refine bB 11 rfl (bQ rfl (k := fun wu => ⟨rI, ?_⟩)); refine bB 12 rfl (bI (b := uS) (vs := [vI x2.A, vI x2.bY]) (k := ⟨rI, ?_⟩)); refine bB 13 rfl (bI (b := wu) (vs := [vI x2.B, vI x2.dx]) (k := ⟨rI, ?_⟩)); refine dG (eY ((), (uS, wu)) _ _ hM ⟨rfl, rfl, rfl, rfl, trivial⟩ rI)
   refine bB 10 rfl (bQ rfl (k := fun Bd => ⟨rI, ?_⟩)); refine bB 12 rfl (bI (b := Bd) (vs := [vI x2.A, vI x2.bY]) (k := ⟨rI, ?_⟩)); refine bB 13 rfl (bI (b := zo) (vs := [vI x2.B, vI x2.dx]) (k := ⟨rI, ?_⟩)); refine dG (eY ((), (Bd, zo)) _ _ hM ⟨rfl, rfl, rfl, rfl, trivial⟩ rI)
 clear hM; intro g hM; obtain ⟨⟨⟩, ⟨xH, xJ⟩⟩ := g; dsimp only at hM ⊢; dsimp only [Ng] at hM; refine aD fun K7 dI => ?_; refine sr ?_; refine oe (bH (b := xH)) ?_; refine oe (bH (b := xJ)) ?_; refine oe (Du [.int .i64, .int .i64] (decide ((kL.mk x2.A x2.bY) = (kL.mk x2.B x2.dx))) (aao _ _)) ?_; refine on ?_; refine cc rfl hM (fun hc21 hM => ?_) (fun hc21 hM => ?_)
 · refine sr ?_; refine oa ?_; refine on ?_; obtain rfl := some_inj hM; refine aL (aZ (fun w hm => aW hm rfl))
 refine aM (dI _ _ ?_); clear dI; refine aD fun pE gu => ?_; refine sr ?_; refine oa ?_; refine on ?_; refine bf ?_; refine dF (γ := Nat × Nat × Unit) (env := fun (_, jV, _) => [(1, eI i0), (2, eP b1), (7, eP xH), (8, eP xJ), (9, eI (jV : Int))]) (mem := fun (_, jV, _) => [iL l0.aX aj.1, iL l0.bF aj.2.1, iL l0.Sections aj.2.2.1, iL l0.Links aj.2.2.2, own b1 26 (bK l0 aj), own xH 185 [vI x2.A, vI x2.bY], own xJ 185 [vI x2.B, vI x2.dx]]) (R := fun g => iter (Fq i0 l0 x2) g.1 g.2.1 = some y) (μ := fun g => g.1) (FUEL, 0, ()) hM ⟨rfl, rfl, rfl, rfl, rfl, trivial⟩ rI ?_; clear hM; intro g hM gy hL1; obtain ⟨bJ, jV, ⟨⟩⟩ := g; dsimp only at hM ⊢; obtain ⟨bJ, aQ, rfl, dz, hM⟩ := dL hM; dsimp only [Fq] at hM; refine aD fun uq iU => ?_; refine sr ?_; refine om ?_; refine om ?_; refine oe bN ?_; refine on ?_; refine cc rfl hM (fun hc22 hM => ?_) (fun hc22 hM => ?_)
 · refine aM (iU _ _ ?_); clear iU; refine aD fun uN jv => ?_; refine bf ?_; refine aD fun wh jN => ?_; refine fA _ (List.Sublist.refl _) ?_; refine au 0 rfl (ay 3) ?_; refine au 1 rfl (aC (b := b1)) ?_; refine au 2 rfl aG ?_; obtain ⟨x23, hx24, hM⟩ := bind_some hM; refine au 3 rfl (bA (xs := l0.Links) 6 (kG l0.Links aj.2.2.2) (iS hx24)) ?_; refine au 4 rfl (dU (m := 6) (i := (jV : Int)) (xs := l0.Links) (y := x23) (l := (nC x23)) 0 (kG l0.Links aj.2.2.2) (fun _ => hx24)) ?_; refine au 5 rfl (bH (b := xH)) ?_; obtain ⟨y25, BK, hM⟩ := bind_some hM; refine bB 6 rfl (bg (fun w hm => let ⟨S, hs⟩ := hm; R8 _ w x23 (kL.mk x2.A x2.bY) y25 BK (aT hs) ) ⟨rI, ?_⟩); refine au 7 rfl aG ?_; refine dQ 8 rfl rfl (ay 3) ?_; refine dQ 9 rfl rfl (aC (b := b1)) ?_; refine dQ 10 rfl rfl aG ?_; obtain ⟨x27, hx28, hM⟩ := bind_some hM; refine dQ 11 rfl rfl (bA (xs := l0.Links) 6 (kG l0.Links aj.2.2.2) (fun hg => let h := lg (dM hx28 hg); ⟨h.1, h.2.1⟩)) ?_; refine dQ 12 rfl rfl (dU (m := 6) (i := (jV : Int)) (xs := l0.Links) (y := x27) (l := (nC x27)) 0 (kG l0.Links aj.2.2.2) (fun hg => dM hx28 hg)) ?_
   refine dQ 13 rfl rfl (bH (b := xJ)) ?_; obtain ⟨y29, QI, hM⟩ := bind_some hM; refine Hu 14 rfl rfl (fun hg w hm => let ⟨S, hs⟩ := hm; R8 _ w x27 (kL.mk x2.B x2.dx) y29 (dM QI hg) (aT hs) ) ?_; refine au 15 rfl cO ?_; refine dG (jN _ _ ?_); clear jN; refine cc rfl hM (fun hc31 hM => ?_) (fun hc31 hM => ?_)
   · refine sr ?_; refine oa ?_; refine on ?_; obtain rfl := some_inj hM; refine aL (aZ (fun w hm => aW hm rfl))
   refine aM (jv _ _ ?_); clear jv; refine aR ?_; refine om ?_; obtain ⟨PV, hM⟩ := bO hM; refine oe (dh (hr := fun hg => dn PV)) ?_; refine oa ?_; refine aU (hL1 (bJ, (jV + 1), ()) _ _ (eqc dz hM) (Nat.lt_succ_self _) ⟨rfl, rfl, rfl, rfl, rfl, trivial⟩ rI)
 refine dD (gu _ _ ?_); clear gu; dsimp only [R9] at hM; refine aD fun CV ny => ?_; refine sr ?_; refine oe (bH (b := b1)) ?_; refine om ?_; refine oe (bH (b := xH)) ?_; obtain ⟨Oq, hy34, hM⟩ := bind_some hM; refine aF (bg (fun w hm => let ⟨S, hs⟩ := hm; Y4 _ w l0 aj i0 (kL.mk x2.A x2.bY) Oq hy34 (aT hs) ⟨(kM hs), (kM hs), (kM hs), (kM hs)⟩) ?_); refine oe dN ?_; refine om ?_; refine av rfl (bH (b := b1)) ?_; refine av rfl aG ?_; refine av rfl (bH (b := xJ)) ?_; obtain ⟨pz, DN, hM⟩ := bind_some hM; refine iX rfl (fun hg w hm => let ⟨S, hs⟩ := hm; Y4 _ w l0 aj i0 (kL.mk x2.B x2.dx) pz (dM DN hg) (aT hs) ⟨(kM hs), (kM hs), (kM hs), (kM hs)⟩) ?_; refine av rfl dN ?_; refine oe dw ?_; refine on ?_; refine cc rfl hM (fun Qk hM => ?_) (fun Qk hM => ?_)
 · refine sr ?_; refine oa ?_; refine on ?_; obtain rfl := some_inj hM; refine aL (aZ (fun w hm => aW hm rfl))
 refine aM (ny _ _ ?_); clear ny; refine sr ?_; refine oa ?_; refine on ?_; obtain rfl := some_inj hM; refine aL (aZ (fun w hm => aW hm rfl))
def YU : Unit → Option Int := fun _ =>
  some 0
def EY (l0 : Layout) (kY : Nat → Option Int) : Nat → Option Int := fun iO =>
  if decide ((iO : Int) < (l0.Links.length : Int)) then
    ((J8 l0 (iO : Int)).bind fun Ot =>
    if decide (Ot ≠ 0) then
      (some Ot)
    else
      (bM (bP ((iO : Int) + 1)) <|
      kY (iO + 1)))
  else
    (YU ())
def M6 (l0 : Layout) : Unit → Option Int := fun _ =>
  iter (EY l0) FUEL 0
def EX (l0 : Layout) (bV : (List Str)) (kH : Nat → Option Int) : Nat → Option Int := fun gL =>
  if decide ((gL : Int) < (l0.Sections.length : Int)) then
    ((Aj bV (gL : Int)).bind fun iw =>
    if decide (iw ≠ 0) then
      (some iw)
    else
      ((idx l0.Sections (gL : Int)).bind fun x21 =>
      (rC x21.Length 1 400).bind fun y24 =>
      (dV (!(!y24)) default (rC x21.Limit 1000 100000)).bind fun ko =>
      (dV (!((!y24) || (!ko))) default (rC x21.iE (-40) 40)).bind fun y28 =>
      bM (!(!(((!y24) || (!ko)) || (!y28))) || bP ((l0.aX.length : Int) - 1)) <|
      (dV (!(((!y24) || (!ko)) || (!y28))) default (rC x21.mE (-1) ((l0.aX.length : Int) - 1))).bind fun y31 =>
      if ((((!y24) || (!ko)) || (!y28)) || (!y31)) then
        (some 4)
      else
        (bM (bP ((gL : Int) + 1)) <|
        kH (gL + 1))))
  else
    (M6 l0 ())
def JZ (l0 : Layout) : Unit → Option Int := fun _ =>
  (Fw l0).bind fun bV =>
  iter (EX l0 bV) FUEL 0
def M4 (l0 : Layout) (iA : Nat → Option Int) : Nat → Option Int := fun fI =>
  if decide ((fI : Int) < (l0.bF.length : Int)) then
    ((Aj l0.bF (fI : Int)).bind fun iZ =>
    if decide (iZ ≠ 0) then
      (some iZ)
    else
      (bM (bP ((fI : Int) + 1)) <|
      iA (fI + 1)))
  else
    (JZ l0 ())
def M5 (l0 : Layout) : Unit → Option Int := fun _ =>
  iter (M4 l0) FUEL 0
def M0 (l0 : Layout) (aQ : Nat → Option Int) : Nat → Option Int := fun aK =>
  if decide ((aK : Int) < (l0.aX.length : Int)) then
    ((Aj l0.aX (aK : Int)).bind fun y5 =>
    if decide (y5 ≠ 0) then
      (some y5)
    else
      (bM (bP ((aK : Int) + 1)) <|
      aQ (aK + 1)))
  else
    (M5 l0 ())
def Cm (l0 : Layout) : Option Int :=
  if (((decide (24 < (l0.aX.length : Int)) || decide (48 < (l0.bF.length : Int))) || decide (96 < (l0.Sections.length : Int))) || decide (192 < (l0.Links.length : Int))) then
    (some 7)
  else
    (if decide ((l0.Sections.length : Int) = 0) then
      (some 1)
    else
      (iter (M0 l0) FUEL 0))
theorem RL (S : bD) (w : World) (l0 : Layout) (aj : ak.R Layout) (y : Int) (hM : Cm l0 = some y) (hS : sB S w) (dH : ak.ok S w aj l0) :
    Calls Tryz.prog 21 #[.agg (iy l0 aj)] w (bW w (vI y)) := by
 refine bR (args := [_]) Tryz.func21 rfl ((pre_nil hS).start |>.jw dH) rfl ?_; unfold Cm at hM; refine sr ?_; refine aF (bU (l := (bK l0 aj)) (k := fun b1 => ?_)); refine oa ?_; refine on ?_; refine aD fun K2 hK2 => ?_; refine sr ?_; refine oe (ay 0) ?_; refine oe (aC (b := b1)) ?_; refine oe bE ?_; refine oe fP ?_; refine om ?_; refine av rfl (ay 1) ?_; refine av rfl (aC (b := b1)) ?_; refine av rfl bE ?_; refine av rfl fP ?_; refine oe dw ?_; refine om ?_; refine av rfl (ay 2) ?_; refine av rfl (aC (b := b1)) ?_; refine av rfl bE ?_; refine av rfl fP ?_; refine oe dw ?_; refine om ?_; refine av rfl (ay 3) ?_; refine av rfl (aC (b := b1)) ?_; refine av rfl bE ?_; refine av rfl fP ?_; refine oe dw ?_; refine on ?_
 refine cc rfl hM (fun hc2 hM => ?_) (fun hc2 hM => ?_)
 · refine sr ?_; refine oa ?_; refine on ?_; obtain rfl := some_inj hM; refine aL (aZ (fun w hm => aW hm rfl))
 refine aM (hK2 _ _ ?_); clear hK2; refine aD fun K5 cu => ?_; refine sr ?_; refine oe (ay 2) ?_; refine oe (aC (b := b1)) ?_; refine oe bE ?_; refine oe dS ?_; refine on ?_; refine cc rfl hM (fun hc3 hM => ?_) (fun hc3 hM => ?_)
 · refine sr ?_; refine oa ?_; refine on ?_; obtain rfl := some_inj hM; refine aL (aZ (fun w hm => aW hm rfl))
 refine aM (cu _ _ ?_); clear cu; refine aD fun K8 fE => ?_; refine sr ?_; refine oa ?_; refine on ?_; refine bf ?_; refine dF (γ := Nat × Nat × Unit) (env := fun (_, aK, _) => [(1, eP b1), (3, eI (aK : Int))]) (mem := fun (_, aK, _) => [iL l0.aX aj.1, iL l0.bF aj.2.1, iL l0.Sections aj.2.2.1, iL l0.Links aj.2.2.2, own b1 26 (bK l0 aj)]) (R := fun g => iter (M0 l0) g.1 g.2.1 = some y) (μ := fun g => g.1) (FUEL, 0, ()) hM ⟨rfl, rfl, trivial⟩ rI ?_; clear hM; intro g hM gy hL1; obtain ⟨bJ, aK, ⟨⟩⟩ := g; dsimp only at hM ⊢; obtain ⟨bJ, aQ, rfl, dz, hM⟩ := dL hM; dsimp only [M0] at hM; refine aD fun pE gu => ?_; refine sr ?_; refine om ?_; refine oe (ay 0) ?_; refine oe (aC (b := b1)) ?_; refine oe bE ?_; refine oe bN ?_; refine on ?_; refine cc rfl hM (fun hc4 hM => ?_) (fun hc4 hM => ?_)
 · refine aM (gu _ _ ?_); clear gu; refine aD fun uq iU => ?_; refine bf ?_; refine sr ?_; refine oe (ay 0) ?_; refine oe (aC (b := b1)) ?_; refine om ?_; obtain ⟨y5, mQ, hM⟩ := bind_some hM; refine aF (bg (fun w hm => let ⟨S, hs⟩ := hm; Sb _ w l0.aX aj.1 (aK : Int) y5 mQ (aT hs) (kM hs)) ?_); refine oa ?_; refine on ?_; refine sr ?_; refine om ?_; refine oe fB ?_; refine on ?_; refine cc rfl hM (fun ku hM => ?_) (fun ku hM => ?_)
   · refine sr ?_; refine om ?_; refine oa ?_; refine on ?_; obtain rfl := some_inj hM; refine aL (aZ (fun w hm => aW hm rfl))
   refine aM (iU _ _ ?_); clear iU; refine aR ?_; refine om ?_; obtain ⟨r9, hM⟩ := bO hM; refine oe (dh (hr := fun hg => dn r9)) ?_; refine oa ?_; refine aU (hL1 (bJ, (aK + 1), ()) _ _ (eqc dz hM) (Nat.lt_succ_self _) ⟨rfl, rfl, trivial⟩ rI)
 refine dD (fE _ _ ?_); clear fE; dsimp only [M5] at hM; refine aD fun xu j5 => ?_; refine sr ?_; refine oa ?_; refine on ?_; refine bf ?_; refine dF (γ := Nat × Nat × Unit) (env := fun (_, fI, _) => [(1, eP b1), (5, eI (fI : Int))]) (mem := fun (_, fI, _) => [iL l0.aX aj.1, iL l0.bF aj.2.1, iL l0.Sections aj.2.2.1, iL l0.Links aj.2.2.2, own b1 26 (bK l0 aj)]) (R := fun g => iter (M4 l0) g.1 g.2.1 = some y) (μ := fun g => g.1) (FUEL, 0, ()) hM ⟨rfl, rfl, trivial⟩ rI ?_; clear hM; intro g hM uP hL2; obtain ⟨jI, fI, ⟨⟩⟩ := g; dsimp only at hM ⊢; obtain ⟨jI, iA, rfl, mH, hM⟩ := dL hM; dsimp only [M4] at hM; refine aD fun G9 oJ => ?_; refine sr ?_; refine om ?_; refine oe (ay 1) ?_; refine oe (aC (b := b1)) ?_; refine oe bE ?_; refine oe bN ?_; refine on ?_; refine cc rfl hM (fun nA hM => ?_) (fun nA hM => ?_)
 · refine aM (oJ _ _ ?_); clear oJ; refine aD fun LJ qP => ?_; refine bf ?_; refine sr ?_; refine oe (ay 1) ?_; refine oe (aC (b := b1)) ?_; refine om ?_; obtain ⟨iZ, qz, hM⟩ := bind_some hM; refine aF (bg (fun w hm => let ⟨S, hs⟩ := hm; Sb _ w l0.bF aj.2.1 (fI : Int) iZ qz (aT hs) (kM hs)) ?_); refine oa ?_; refine on ?_; refine sr ?_; refine om ?_; refine oe fB ?_; refine on ?_; refine cc rfl hM (fun lK hM => ?_) (fun lK hM => ?_)
   · refine sr ?_; refine om ?_; refine oa ?_; refine on ?_; obtain rfl := some_inj hM; refine aL (aZ (fun w hm => aW hm rfl))
   refine aM (qP _ _ ?_); clear qP; refine aR ?_; refine om ?_; obtain ⟨xP, hM⟩ := bO hM; refine oe (dh (hr := fun hg => dn xP)) ?_; refine oa ?_; refine aU (hL2 (jI, (fI + 1), ()) _ _ (eqc mH hM) (Nat.lt_succ_self _) ⟨rfl, rfl, trivial⟩ rI)
 refine dD (j5 _ _ ?_); clear j5; dsimp only [JZ] at hM; refine sr ?_; refine oe (bH (b := b1)) ?_; obtain ⟨bV, oO, hM⟩ := bind_some hM; refine aF (mK iQ.nil (fun S w hs hP => Y9 _ w l0 aj bV oO (aT hs) ⟨(kM hs), (kM hs), (kM hs), (kM hs)⟩) pJ (fun r16 => ?_)); dsimp only [List.cons_append, List.nil_append]; refine oa ?_; refine on ?_; refine aD fun OD uX => ?_; refine sr ?_; refine oa ?_; refine on ?_; refine bf ?_; refine dF (γ := Nat × Nat × Unit) (env := fun (_, gL, _) => [(1, eP b1), (7, eS r16 bV), (8, eI (gL : Int))]) (mem := fun (_, gL, _) => [iL l0.aX aj.1, iL l0.bF aj.2.1, iL l0.Sections aj.2.2.1, iL l0.Links aj.2.2.2, own b1 26 (bK l0 aj), aO 9 r16 bV]) (R := fun g => iter (EX l0 bV) g.1 g.2.1 = some y) (μ := fun g => g.1) (FUEL, 0, ()) hM ⟨rfl, rfl, rfl, trivial⟩ rI ?_; clear hM; intro g hM CX hL3; obtain ⟨oQ, gL, ⟨⟩⟩ := g; dsimp only at hM ⊢; obtain ⟨oQ, kH, rfl, vv, hM⟩ := dL hM
 dsimp only [EX] at hM; refine aD fun LM qR => ?_; refine sr ?_; refine om ?_; refine oe (ay 2) ?_; refine oe (aC (b := b1)) ?_; refine oe bE ?_; refine oe bN ?_; refine on ?_; refine cc rfl hM (fun hc17 hM => ?_) (fun hc17 hM => ?_)
 · refine aM (qR _ _ ?_); clear qR; refine aD fun Hg oL => ?_; refine bf ?_; refine aD fun LP qU => ?_; refine sr ?_; refine om ?_; refine om ?_; obtain ⟨iw, qB, hM⟩ := bind_some hM; refine aF (bg (fun w hm => let ⟨S, hs⟩ := hm; Sb _ w bV r16 (gL : Int) iw qB (aT hs) (kT hs)) ?_); refine oa ?_; refine on ?_; refine sr ?_; refine om ?_; refine oe fB ?_; refine on ?_; refine cc rfl hM (fun wH hM => ?_) (fun wH hM => ?_)
   · refine sr ?_; refine om ?_; refine oa ?_; refine on ?_; obtain rfl := some_inj hM; refine aL (aZ (fun w hm => aW hm rfl))
   refine aM (qU _ _ ?_); clear qU; refine sr ?_; refine oe (ay 2) ?_; refine oe (aC (b := b1)) ?_; refine om ?_; obtain ⟨x21, Jh, hM⟩ := bind_some hM; refine oe (bA (xs := l0.Sections) 5 (kG l0.Sections aj.2.2.1) (iS Jh)) ?_; refine oe (dU (m := 5) (i := (gL : Int)) (xs := l0.Sections) (y := x21) (l := (yg x21)) 0 (kG l0.Sections aj.2.2.1) (fun _ => Jh)) ?_; refine aF (bQ rfl (k := fun Hz => ?_)); refine aF (bI (b := Hz) (vs := (yg x21)) (k := ?_)); refine on ?_; refine sr ?_; refine oe (ay 1) ?_; refine oe (aC (b := Hz)) ?_; obtain ⟨y24, hy25, hM⟩ := bind_some hM; refine aF (bg (fun w hm => let ⟨S, hs⟩ := hm; wU _ w x21.Length 1 400 y24 hy25 (aT hs) ) ?_); refine oe dN ?_; refine om ?_; refine av rfl (ay 2) ?_; refine av rfl (aC (b := Hz)) ?_; obtain ⟨ko, hy27, hM⟩ := bind_some hM; refine iX rfl (fun hg w hm => let ⟨S, hs⟩ := hm; wU _ w x21.Limit 1000 100000 ko (dM hy27 hg) (aT hs) ) ?_; refine av rfl dN ?_; refine oe dw ?_
   refine om ?_; refine av rfl (ay 3) ?_; refine av rfl (aC (b := Hz)) ?_; obtain ⟨y28, hy29, hM⟩ := bind_some hM; refine iX rfl (fun hg w hm => let ⟨S, hs⟩ := hm; wU _ w x21.iE (-40) 40 y28 (dM hy29 hg) (aT hs) ) ?_; refine av rfl dN ?_; refine oe dw ?_; refine om ?_; refine av rfl (ay 4) ?_; refine av rfl (aC (b := Hz)) ?_; refine av rfl (ay 0) ?_; refine av rfl (aC (b := b1)) ?_; refine av rfl bE ?_; obtain ⟨PU, hM⟩ := bO hM; refine av rfl (jo (hr := fun hg => dn (uV PU hg))) ?_; obtain ⟨y31, hy32, hM⟩ := bind_some hM; refine iX rfl (fun hg w hm => let ⟨S, hs⟩ := hm; wU _ w x21.mE (-1) ((l0.aX.length : Int) - 1) y31 (dM hy32 hg) (aT hs) ) ?_; refine av rfl dN ?_; refine oe dw ?_; refine on ?_; refine cc rfl hM (fun Qj hM => ?_) (fun Qj hM => ?_)
   · refine sr ?_; refine oa ?_; refine on ?_; obtain rfl := some_inj hM; refine aL (aZ (fun w hm => aW hm rfl))
   refine aM (oL _ _ ?_); clear oL; refine aR ?_; refine om ?_; obtain ⟨II, hM⟩ := bO hM; refine oe (dh (hr := fun hg => dn II)) ?_; refine oa ?_; refine aU (hL3 (oQ, (gL + 1), ()) _ _ (eqc vv hM) (Nat.lt_succ_self _) ⟨rfl, rfl, rfl, trivial⟩ rI)
 refine dD (uX _ _ ?_); clear uX; dsimp only [M6] at hM; refine aD fun OI u6 => ?_; refine sr ?_; refine oa ?_; refine on ?_; refine bf ?_; refine dF (γ := Nat × Nat × Unit) (env := fun (_, iO, _) => [(1, eP b1), (11, eI (iO : Int))]) (mem := fun (_, iO, _) => [iL l0.aX aj.1, iL l0.bF aj.2.1, iL l0.Sections aj.2.2.1, iL l0.Links aj.2.2.2, own b1 26 (bK l0 aj)]) (R := fun g => iter (EY l0) g.1 g.2.1 = some y) (μ := fun g => g.1) (FUEL, 0, ()) hM ⟨rfl, rfl, trivial⟩ rI ?_; clear hM; intro g hM LQ hL4; obtain ⟨rA, iO, ⟨⟩⟩ := g; dsimp only at hM ⊢; obtain ⟨rA, kY, rfl, xS, hM⟩ := dL hM; dsimp only [EY] at hM; refine aD fun K39 IL => ?_; refine sr ?_; refine om ?_; refine oe (ay 3) ?_; refine oe (aC (b := b1)) ?_; refine oe bE ?_; refine oe bN ?_; refine on ?_; refine cc rfl hM (fun acy hM => ?_) (fun acy hM => ?_)
 · refine aM (IL _ _ ?_); clear IL; refine aD fun K41 IQ => ?_; refine bf ?_; refine sr ?_; refine oe (bH (b := b1)) ?_; refine om ?_; obtain ⟨Ot, aeu, hM⟩ := bind_some hM; refine aF (bg (fun w hm => let ⟨S, hs⟩ := hm; agw _ w l0 aj (iO : Int) Ot aeu (aT hs) ⟨(kM hs), (kM hs), (kM hs), (kM hs)⟩) ?_); refine oa ?_; refine on ?_; refine sr ?_; refine om ?_; refine oe fB ?_; refine on ?_; refine cc rfl hM (fun hc38 hM => ?_) (fun hc38 hM => ?_)
   · refine sr ?_; refine om ?_; refine oa ?_; refine on ?_; obtain rfl := some_inj hM; refine aL (aZ (fun w hm => aW hm rfl))
   refine aM (IQ _ _ ?_); clear IQ; refine aR ?_; refine om ?_; obtain ⟨abX, hM⟩ := bO hM; refine oe (dh (hr := fun hg => dn abX)) ?_; refine oa ?_; refine aU (hL4 (rA, (iO + 1), ()) _ _ (eqc xS hM) (Nat.lt_succ_self _) ⟨rfl, rfl, trivial⟩ rI)
 refine dD (u6 _ _ ?_); clear u6; dsimp only [YU] at hM; refine sr ?_; refine oa ?_; refine on ?_; obtain rfl := some_inj hM; refine aL (aZ (fun w hm => aW hm rfl))
end Go.Proofs.YtcalibhfgdncaaaGreatDoor
