/- Models of functions, and that the code computes them. -/
import Derived.Test.YtcalibhfgdncaaaGreatDoorTypes
set_option linter.all false
namespace Go.Proofs.YtcalibhfgdncaaaGreatDoor
open Go.Dc Go.RowKit
set_option maxRecDepth 10000
def Oj (c0 : Int) : Bool → Option Int := fun Li =>
  if Li then
    (some 1)
  else
    (if decide (c0 = 10) then
      (some 2)
    else
      (if decide (c0 = 35) then
        (some 3)
      else
        (if (decide (33 ≤ c0) && decide (c0 ≤ 126)) then
          (some 4)
        else
          (some 0))))
def GL (c0 : Int) : Option Int :=
  if decide (c0 = 32) then
    (Oj c0 (decide (c0 = 32)))
  else
    (Oj c0 (decide (c0 = 9)))
theorem ahR (S : bD) (w : World) (c0 : Int) (y : Int) (hM : GL c0 = some y) (hS : sB S w)  :
    Calls Tryz.prog 154 #[.int .u8 c0] w (bW w (vI y)) := by
 refine bR (args := [_]) Tryz.func154 rfl ((pre_nil hS).start) rfl ?_; unfold GL at hM; refine sr ?_; refine oa ?_; refine on ?_; refine aD fun K2 hK2 => ?_; refine bf ?_; refine iH (γ := Bool × Unit) (env := fun (Li, _) => [(0, .v (.int .u8 c0)), (3, .v (.bool Li))]) (mem := fun (Li, _) => []) (R := fun g => Oj c0 g.1 = some y) ?_ ?_
 · intro wm eY; refine sr ?_; refine om ?_; refine oe dS ?_; refine oa ?_; refine on ?_; refine cc rfl hM (fun gX hM => ?_) (fun gX hM => ?_)
   · refine aM (eY ((decide (c0 = 32)), ()) _ _ hM ⟨rfl, rfl, trivial⟩ rI)
   refine aR ?_; refine om ?_; refine oe dS ?_; refine oa ?_; refine aU (eY ((decide (c0 = 9)), ()) _ _ hM ⟨rfl, rfl, trivial⟩ rI)
 clear hM; intro g hM; obtain ⟨Li, ⟨⟩⟩ := g; dsimp only at hM ⊢; dsimp only [Oj] at hM; refine cc rfl hM (fun hc1 hM => ?_) (fun hc1 hM => ?_)
 · refine sr ?_; refine oa ?_; refine on ?_; obtain rfl := some_inj hM; refine aL (aZ (fun w hm => aW hm rfl))
 refine sr ?_; refine om ?_; refine oe dS ?_; refine oa ?_; refine on ?_; refine cc rfl hM (fun hc2 hM => ?_) (fun hc2 hM => ?_)
 · refine sr ?_; refine oa ?_; refine on ?_; obtain rfl := some_inj hM; refine aL (aZ (fun w hm => aW hm rfl))
 refine sr ?_; refine om ?_; refine oe dS ?_; refine oa ?_; refine on ?_; refine cc rfl hM (fun hc3 hM => ?_) (fun hc3 hM => ?_)
 · refine sr ?_; refine oa ?_; refine on ?_; obtain rfl := some_inj hM; refine aL (aZ (fun w hm => aW hm rfl))
 refine sr ?_; refine om ?_; refine oe gW ?_; refine om ?_; refine av rfl aG ?_; refine av rfl kr ?_; refine oe cO ?_; refine oa ?_; refine on ?_; refine cc rfl hM (fun hc4 hM => ?_) (fun hc4 hM => ?_)
 · refine sr ?_; refine oa ?_; refine on ?_; obtain rfl := some_inj hM; refine aL (aZ (fun w hm => aW hm rfl))
 refine aM (hK2 _ _ ?_); clear hK2; refine sr ?_; refine oa ?_; refine on ?_; obtain rfl := some_inj hM; refine aL (aZ (fun w hm => aW hm rfl))
def Ol (c0 : Int) : Option Bool :=
  some (decide (48 ≤ c0) && decide (c0 ≤ 57))
theorem ahS (S : bD) (w : World) (c0 : Int) (y : Bool) (hM : Ol c0 = some y) (hS : sB S w)  :
    Calls Tryz.prog 135 #[.int .u8 c0] w (bW w (.bool y)) := by
 refine bR (args := [_]) Tryz.func135 rfl ((pre_nil hS).start) rfl ?_; unfold Ol at hM; refine sr ?_; refine oa ?_; refine on ?_; refine sr ?_; refine om ?_; refine oe gW ?_; refine om ?_; refine av rfl aG ?_; refine av rfl kr ?_; refine oe cO ?_; refine oa ?_; refine on ?_; obtain rfl := some_inj hM; refine aL (aZ (fun w hm => aW hm rfl))
def Lp (c0 : Int) : Option Bool :=
  some ((decide (65 ≤ c0) && decide (c0 ≤ 90)) || (decide (97 ≤ c0) && decide (c0 ≤ 122)))
theorem aaj (S : bD) (w : World) (c0 : Int) (y : Bool) (hM : Lp c0 = some y) (hS : sB S w)  :
    Calls Tryz.prog 134 #[.int .u8 c0] w (bW w (.bool y)) := by
 refine bR (args := [_]) Tryz.func134 rfl ((pre_nil hS).start) rfl ?_; unfold Lp at hM; refine sr ?_; refine oa ?_; refine on ?_; refine sr ?_; refine om ?_; refine oe gW ?_; refine om ?_; refine av rfl aG ?_; refine av rfl kr ?_; refine oe cO ?_; refine om ?_; refine av rfl aG ?_; refine av rfl gW ?_; refine av rfl aG ?_; refine av rfl aG ?_; refine av rfl kr ?_; refine av rfl cO ?_; refine oe dw ?_; refine oa ?_; refine on ?_; obtain rfl := some_inj hM; refine aL (aZ (fun w hm => aW hm rfl))
def aah : Unit → Option Bool := fun _ =>
  some true
def GJ (s0 : Str) (aQ : Nat → Option Bool) : Nat → Option Bool := fun w9 =>
  if decide ((w9 : Int) < (s0.l.length : Int)) then
    ((kP s0 (w9 : Int)).bind fun c8 =>
    (Lp c8).bind fun iZ =>
    (dV (!iZ) 0 (kP s0 (w9 : Int))).bind fun c12 =>
    (dV (!iZ) default (Ol c12)).bind fun bV =>
    (dV ((!iZ) && (!bV)) 0 (kP s0 (w9 : Int))).bind fun c16 =>
    if (((!iZ) && (!bV)) && decide (c16 ≠ 95)) then
      (some false)
    else
      (aQ (w9 + 1)))
  else
    (aah ())
def GK (s0 : Str) : Option Bool :=
  (dV (!(decide ((s0.l.length : Int) < 1) || decide (12 < (s0.l.length : Int)))) 0 (kP s0 0)).bind fun c1 =>
  (dV (!(decide ((s0.l.length : Int) < 1) || decide (12 < (s0.l.length : Int)))) default (Lp c1)).bind fun y3 =>
  if ((decide ((s0.l.length : Int) < 1) || decide (12 < (s0.l.length : Int))) || (!y3)) then
    (some false)
  else
    (bM (decide ((s0.l.length : Int) ≤ 9223372036854775807)) <|
    iter (GJ s0) FUEL 0)
theorem aai (S : bD) (w : World) (s0 : Str) (y : Bool) (hM : GK s0 = some y) (hS : sB S w)  :
    Calls Tryz.prog 78 #[.string s0.ba] w (bW w (.bool y)) := by
 refine bR (args := [_]) Tryz.func78 rfl ((pre_nil hS).start) rfl ?_; unfold GK at hM; refine sr ?_; refine oa ?_; refine on ?_; refine aD fun K2 hK2 => ?_; refine sr ?_; refine om ?_; refine oe oI ?_; refine oe bN ?_; refine om ?_; refine av rfl aG ?_; refine av rfl oI ?_; refine av rfl fP ?_; refine oe dw ?_; refine om ?_; refine av rfl aG ?_; obtain ⟨c1, I8, hM⟩ := bind_some hM; refine av rfl (nH (dM I8)) ?_; obtain ⟨y3, hy4, hM⟩ := bind_some hM; refine iX rfl (fun hg w hm => let ⟨S, hs⟩ := hm; aaj _ w c1 y3 (dM hy4 hg) (aT hs) ) ?_; refine av rfl dN ?_; refine oe dw ?_; refine on ?_; refine cc rfl hM (fun gX hM => ?_) (fun gX hM => ?_)
 · refine sr ?_; refine oa ?_; refine on ?_; obtain rfl := some_inj hM; refine aL (aZ (fun w hm => aW hm rfl))
 refine aM (hK2 _ _ ?_); clear hK2; refine aD fun K5 cu => ?_; refine sr ?_; refine om ?_; obtain ⟨V7, hM⟩ := bO hM; replace V7 := of_decide_eq_true V7; refine oe oI ?_; refine om ?_; refine on ?_; refine bf ?_; refine dF (γ := Nat × Nat × Unit) (env := fun (_, w9, _) => [(0, .v (.string s0.ba)), (19, eI (s0.l.length : Int)), (20, eI (w9 : Int))]) (mem := fun (_, w9, _) => []) (R := fun g => iter (GJ s0) g.1 g.2.1 = some y) (μ := fun g => g.1) (FUEL, 0, ()) hM ⟨rfl, rfl, rfl, trivial⟩ rI ?_; clear hM; intro g hM gy hL1; obtain ⟨bJ, w9, ⟨⟩⟩ := g; dsimp only at hM ⊢; obtain ⟨bJ, aQ, rfl, dz, hM⟩ := dL hM; dsimp only [GJ] at hM; refine sr ?_; refine oe bN ?_; refine on ?_; refine aD fun K8 fE => ?_; refine cc rfl hM (fun ku hM => ?_) (fun ku hM => ?_)
 · have ail := of_decide_eq_true ku; refine aM (fE _ _ ?_); clear fE; refine aD fun K9 eZ => ?_; refine bf ?_; refine sr ?_; refine om ?_; refine oa ?_; refine on ?_; refine sr ?_; refine om ?_; refine om ?_; obtain ⟨c8, Qm, hM⟩ := bind_some hM; refine oe (nH (fun _ => Qm)) ?_; obtain ⟨iZ, qz, hM⟩ := bind_some hM; refine aF (bg (fun w hm => let ⟨S, hs⟩ := hm; aaj _ w c8 iZ qz (aT hs) ) ?_); refine oe dN ?_; refine om ?_; refine av rfl aG ?_; refine av rfl aG ?_; obtain ⟨c12, acI, hM⟩ := bind_some hM; refine av rfl (nH (dM acI)) ?_; obtain ⟨bV, oO, hM⟩ := bind_some hM; refine iX rfl (fun hg w hm => let ⟨S, hs⟩ := hm; ahS _ w c12 bV (dM oO hg) (aT hs) ) ?_; refine av rfl dN ?_; refine oe cO ?_; refine om ?_; refine av rfl aG ?_; refine av rfl aG ?_; obtain ⟨c16, acK, hM⟩ := bind_some hM; refine av rfl (nH (dM acK)) ?_; refine av rfl fB ?_; refine oe cO ?_; refine on ?_; refine cc rfl hM (fun hc18 hM => ?_) (fun hc18 hM => ?_)
   · refine sr ?_; refine oa ?_; refine on ?_; obtain rfl := some_inj hM; refine aL (aZ (fun w hm => aW hm rfl))
   refine aM (eZ _ _ ?_); clear eZ; refine aR ?_; refine oe (dh (hr := fun _ => by unfold eB; omega)) ?_; refine om ?_; refine aU (hL1 (bJ, (w9 + 1), ()) _ _ (eqc dz hM) (Nat.lt_succ_self _) ⟨rfl, rfl, rfl, trivial⟩ rI)
 refine dD (cu _ _ ?_); clear cu; dsimp only [aah] at hM; refine sr ?_; refine oa ?_; refine on ?_; obtain rfl := some_inj hM; refine aL (aZ (fun w hm => aW hm rfl))
end Go.Proofs.YtcalibhfgdncaaaGreatDoor
