/- Models of functions, and that the code computes them. -/
import Derived.Test.YtcalibhfgdncaaaTypes
set_option linter.all false
namespace Go.Proofs.Ytcalibhfgdncaaa
open Go.Dc Go.RowKit
set_option maxRecDepth 10000
def Mk (c0 : Int) : Option Bool :=
  some (decide (48 ≤ c0) && decide (c0 ≤ 57))
theorem aez (S : bU) (w : World) (c0 : Int) (y : Bool) (hM : Mk c0 = some y) (hS : sB S w)  :
    Calls Try.prog 59 #[.int .u8 c0] w (dQ w (.bool y)) := by
 refine dH (args := [_]) Try.func59 rfl ((pre_nil hS).start) rfl ?_; unfold Mk at hM; refine sr ?_; refine oa ?_; refine on ?_; refine sr ?_; refine om ?_; refine oe iM ?_; refine om ?_; refine aF rfl aL ?_; refine aF rfl nG ?_; refine oe dO ?_; refine oa ?_; refine on ?_; obtain rfl := some_inj hM; refine bn (bT (fun w hm => bQ hm rfl))
def JI (c0 : Int) : Option Bool :=
  some ((decide (65 ≤ c0) && decide (c0 ≤ 90)) || (decide (97 ≤ c0) && decide (c0 ≤ 122)))
theorem Xj (S : bU) (w : World) (c0 : Int) (y : Bool) (hM : JI c0 = some y) (hS : sB S w)  :
    Calls Try.prog 58 #[.int .u8 c0] w (dQ w (.bool y)) := by
 refine dH (args := [_]) Try.func58 rfl ((pre_nil hS).start) rfl ?_; unfold JI at hM; refine sr ?_; refine oa ?_; refine on ?_; refine sr ?_; refine om ?_; refine oe iM ?_; refine om ?_; refine aF rfl aL ?_; refine aF rfl nG ?_; refine oe dO ?_; refine om ?_; refine aF rfl aL ?_; refine aF rfl iM ?_; refine aF rfl aL ?_; refine aF rfl aL ?_; refine aF rfl nG ?_; refine aF rfl dO ?_; refine oe eu ?_; refine oa ?_; refine on ?_; obtain rfl := some_inj hM; refine bn (bT (fun w hm => bQ hm rfl))
def Xh : Unit → Option Bool := fun _ =>
  some true
def FU (s0 : Str) (bI : Nat → Option Bool) : Nat → Option Bool := fun yA =>
  if decide ((yA : Int) < (s0.l.length : Int)) then
    ((nP s0 (yA : Int)).bind fun c8 =>
    (JI c8).bind fun jk =>
    (fP (!jk) 0 (nP s0 (yA : Int))).bind fun c12 =>
    (fP (!jk) default (Mk c12)).bind fun bZ =>
    (fP ((!jk) && (!bZ)) 0 (nP s0 (yA : Int))).bind fun c16 =>
    if (((!jk) && (!bZ)) && decide (c16 ≠ 95)) then
      (some false)
    else
      (bI (yA + 1)))
  else
    (Xh ())
def FV (s0 : Str) : Option Bool :=
  (fP (!(decide ((s0.l.length : Int) < 1) || decide (12 < (s0.l.length : Int)))) 0 (nP s0 0)).bind fun c1 =>
  (fP (!(decide ((s0.l.length : Int) < 1) || decide (12 < (s0.l.length : Int)))) default (JI c1)).bind fun y3 =>
  if ((decide ((s0.l.length : Int) < 1) || decide (12 < (s0.l.length : Int))) || (!y3)) then
    (some false)
  else
    (bq (decide ((s0.l.length : Int) ≤ 9223372036854775807)) <|
    iter (FU s0) FUEL 0)
theorem Xi (S : bU) (w : World) (s0 : Str) (y : Bool) (hM : FV s0 = some y) (hS : sB S w)  :
    Calls Try.prog 37 #[.string s0.ba] w (dQ w (.bool y)) := by
 refine dH (args := [_]) Try.func37 rfl ((pre_nil hS).start) rfl ?_; unfold FV at hM; refine sr ?_; refine oa ?_; refine on ?_; refine aO fun K2 hK2 => ?_; refine sr ?_; refine om ?_; refine oe rY ?_; refine oe dJ ?_; refine om ?_; refine aF rfl aL ?_; refine aF rfl rY ?_; refine aF rfl iH ?_; refine oe eu ?_; refine om ?_; refine aF rfl aL ?_; obtain ⟨c1, Hw, hM⟩ := bind_some hM; refine aF rfl (qo (eG Hw)) ?_; obtain ⟨y3, hy4, hM⟩ := bind_some hM; refine nW rfl (fun hg w hm => let ⟨S, hs⟩ := hm; Xj _ w c1 y3 (eG hy4 hg) (bB hs) ) ?_; refine aF rfl gB ?_; refine oe eu ?_; refine on ?_; refine cc rfl hM (fun mP hM => ?_) (fun mP hM => ?_)
 · refine sr ?_; refine oa ?_; refine on ?_; obtain rfl := some_inj hM; refine bn (bT (fun w hm => bQ hm rfl))
 refine bA (hK2 _ _ ?_); clear hK2; refine aO fun K5 dW => ?_; refine sr ?_; refine om ?_; obtain ⟨Ub, hM⟩ := bC hM; replace Ub := of_decide_eq_true Ub; refine oe rY ?_; refine om ?_; refine on ?_; refine bX ?_; refine fM (γ := Nat × Nat × Unit) (env := fun (_, yA, _) => [(0, .v (.string s0.ba)), (19, eI (s0.l.length : Int)), (20, eI (yA : Int))]) (mem := fun (_, yA, _) => []) (R := fun g => iter (FU s0) g.1 g.2.1 = some y) (μ := fun g => g.1) (FUEL, 0, ()) hM ⟨rfl, rfl, rfl, trivial⟩ rI ?_; clear hM; intro g hM jw hL1; obtain ⟨dx, yA, ⟨⟩⟩ := g; dsimp only at hM ⊢; obtain ⟨dx, bI, rfl, eH, hM⟩ := gG hM; dsimp only [FU] at hM; refine sr ?_; refine oe dJ ?_; refine on ?_; refine aO fun K8 jB => ?_; refine cc rfl hM (fun oq hM => ?_) (fun oq hM => ?_)
 · have aeR := of_decide_eq_true oq; refine bA (jB _ _ ?_); clear jB; refine aO fun K9 gJ => ?_; refine bX ?_; refine sr ?_; refine om ?_; refine oa ?_; refine on ?_; refine sr ?_; refine om ?_; refine om ?_; obtain ⟨c8, Oi, hM⟩ := bind_some hM; refine oe (qo (fun _ => Oi)) ?_; obtain ⟨jk, uq, hM⟩ := bind_some hM; refine aM (bJ (fun w hm => let ⟨S, hs⟩ := hm; Xj _ w c8 jk uq (bB hs) ) ?_); refine oe gB ?_; refine om ?_; refine aF rfl aL ?_; refine aF rfl aL ?_; obtain ⟨c12, aaM, hM⟩ := bind_some hM; refine aF rfl (qo (eG aaM)) ?_; obtain ⟨bZ, pQ, hM⟩ := bind_some hM; refine nW rfl (fun hg w hm => let ⟨S, hs⟩ := hm; aez _ w c12 bZ (eG pQ hg) (bB hs) ) ?_; refine aF rfl gB ?_; refine oe dO ?_; refine om ?_; refine aF rfl aL ?_; refine aF rfl aL ?_; obtain ⟨c16, aaO, hM⟩ := bind_some hM; refine aF rfl (qo (eG aaO)) ?_; refine aF rfl jo ?_; refine oe dO ?_; refine on ?_; refine cc rfl hM (fun hc18 hM => ?_) (fun hc18 hM => ?_)
   · refine sr ?_; refine oa ?_; refine on ?_; obtain rfl := some_inj hM; refine bn (bT (fun w hm => bQ hm rfl))
   refine bA (gJ _ _ ?_); clear gJ; refine bE ?_; refine oe (dh (hr := fun _ => by unfold gy; omega)) ?_; refine om ?_; refine bF (hL1 (dx, (yA + 1), ()) _ _ (eqc eH hM) (Nat.lt_succ_self _) ⟨rfl, rfl, rfl, trivial⟩ rI)
 refine fI (dW _ _ ?_); clear dW; dsimp only [Xh] at hM; refine sr ?_; refine oa ?_; refine on ?_; obtain rfl := some_inj hM; refine bn (bT (fun w hm => bQ hm rfl))
end Go.Proofs.Ytcalibhfgdncaaa
