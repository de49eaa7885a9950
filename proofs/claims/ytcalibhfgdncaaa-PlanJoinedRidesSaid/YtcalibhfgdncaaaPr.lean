/- Models of functions, and that the code computes them. -/
import Derived.Test.YtcalibhfgdncaaaTypes
set_option linter.all false
namespace Go.Proofs.Ytcalibhfgdncaaa
open Go.Dc Go.RowKit
set_option maxRecDepth 10000
def IW (p0 : Int) : Option Bool :=
  some (decide (0 ≤ p0) && decide (p0 ≤ 1048576))
theorem Vu (S : bU) (w : World) (p0 : Int) (y : Bool) (hM : IW p0 = some y) (hS : sB S w)  :
    Calls Try.prog 44 #[vI p0] w (dQ w (.bool y)) := by
 refine dH (args := [_]) Try.func44 rfl ((pre_nil hS).start) rfl ?_; unfold IW at hM; refine sr ?_; refine oa ?_; refine on ?_; refine sr ?_; refine om ?_; refine oe iM ?_; refine om ?_; refine aF rfl aL ?_; refine aF rfl nG ?_; refine oe dO ?_; refine oa ?_; refine on ?_; obtain rfl := some_inj hM; refine bn (bT (fun w hm => bQ hm rfl))
def Cw (p0 : Plan) (tH : Int) (hi0 : Int) : Option Bool :=
  bq (!((decide (0 ≤ tH) && decide (tH ≤ hi0)) && decide (hi0 ≤ 7200)) || bP (tH + p0.bL)) <|
  some (((decide (0 ≤ tH) && decide (tH ≤ hi0)) && decide (hi0 ≤ 7200)) && decide (hi0 < (tH + p0.bL)))
theorem PE (S : bU) (w : World) (p0 : Plan) (au : aj.R Plan) (tH : Int) (hi0 : Int) (y : Bool) (hM : Cw p0 tH hi0 = some y) (hS : sB S w) (gN : aj.ok S w au p0) :
    Calls Try.prog 47 #[.agg (iK p0 au), vI tH, vI hi0] w (dQ w (.bool y)) := by
 refine dH (args := [_, _, _]) Try.func47 rfl ((pre_nil hS).start |>.oJ gN) rfl ?_; unfold Cw at hM; refine sr ?_; refine aM (dU (l := (dB p0 au)) (k := fun b1 => ?_)); refine oa ?_; refine on ?_; refine sr ?_; refine om ?_; refine oe nG ?_; refine om ?_; refine aF rfl aL ?_; refine aF rfl aL ?_; refine aF rfl nG ?_; refine oe dO ?_; refine om ?_; refine aF rfl aL ?_; refine aF rfl nG ?_
 refine oe dO ?_; refine om ?_; refine aF rfl aL ?_; refine aF rfl aL ?_; refine aF rfl (aH 0) ?_; refine aF rfl (aN (b := b1)) ?_; obtain ⟨hI2, hM⟩ := bC hM; refine aF rfl (dh (hr := fun hg => bS (DT hI2 hg))) ?_; refine aF rfl dJ ?_; refine oe dO ?_; refine oa ?_; refine on ?_; obtain rfl := some_inj hM; refine bn (bT (fun w hm => bQ hm rfl))
def Cy (p0 : Plan) (i0 : Int) : Option Bool :=
  some (decide (0 ≤ i0) && decide (i0 < (p0.Lines.length : Int)))
theorem PO (S : bU) (w : World) (p0 : Plan) (au : aj.R Plan) (i0 : Int) (y : Bool) (hM : Cy p0 i0 = some y) (hS : sB S w) (gN : aj.ok S w au p0) :
    Calls Try.prog 50 #[.agg (iK p0 au), vI i0] w (dQ w (.bool y)) := by
 refine dH (args := [_, _]) Try.func50 rfl ((pre_nil hS).start |>.oJ gN) rfl ?_; unfold Cy at hM; refine sr ?_; refine aM (dU (l := (dB p0 au)) (k := fun b1 => ?_)); refine oa ?_; refine on ?_; refine sr ?_; refine om ?_; refine oe iM ?_; refine om ?_; refine aF rfl aL ?_; refine aF rfl (aH 3) ?_; refine aF rfl (aN (b := b1)) ?_; refine aF rfl bR ?_; refine aF rfl dJ ?_; refine oe dO ?_
 refine oa ?_; refine on ?_; obtain rfl := some_inj hM; refine bn (bT (fun w hm => bQ hm rfl))
def Aw (p0 : Plan) (i0 : Int) (k0 : Int) : Option Bool :=
  (Cy p0 i0).bind fun y2 =>
  (fP (y2 && decide (0 ≤ k0)) default (idx p0.Lines i0)).bind fun x4 =>
  if (y2 && decide (0 ≤ k0)) then
  (some ((y2 && decide (0 ≤ k0)) && decide (k0 < (x4.ay.length : Int))))
  else
  (some false)
theorem Lh (S : bU) (w : World) (p0 : Plan) (au : aj.R Plan) (i0 : Int) (k0 : Int) (y : Bool) (hM : Aw p0 i0 k0 = some y) (hS : sB S w) (gN : aj.ok S w au p0) :
    Calls Try.prog 46 #[.agg (iK p0 au), vI i0, vI k0] w (dQ w (.bool y)) := by
 refine dH (args := [_, _, _]) Try.func46 rfl ((pre_nil hS).start |>.oJ gN) rfl ?_; unfold Aw at hM; refine sr ?_; refine aM (dU (l := (dB p0 au)) (k := fun b1 => ?_)); refine oa ?_; refine on ?_; refine sr ?_; refine oe (cu (b := b1)) ?_; refine om ?_; obtain ⟨y2, hy3, hM⟩ := bind_some hM; refine aM (bJ (fun w hm => let ⟨S, hs⟩ := hm; PO _ w p0 au i0 y2 hy3 (bB hs) ⟨(kM hs), (kM hs), (kM hs), (kM hs), (kM hs), (kM hs), (kM hs)⟩) ?_)
 refine om ?_; refine aF rfl aL ?_; refine aF rfl iM ?_; refine oe dO ?_; refine om ?_; refine aF rfl aL ?_; refine aF rfl (aH 3) ?_; refine aF rfl (aN (b := b1)) ?_; refine aF rfl aL ?_; obtain ⟨x4, hx5, hM⟩ := bind_some hM; refine aF rfl (bK (xs := p0.Lines) 4 (kG p0.Lines au.2.2.1) (fun hg => let h := kZ (eG hx5 hg); ⟨h.1, h.2.1⟩)) ?_; refine aF rfl (aH 3) ?_; refine Vi (y2 && decide (0 ≤ k0)) (fun qM => ?_) (fun qM => ?_)
 · replace hM := iT qM hM; have hx7 := eG hx5 qM; refine vF 15 qM rfl ?_; refine vF 16 qM rfl ?_; refine vF 17 qM rfl ?_; refine vF 18 qM rfl ?_; refine vF 19 qM rfl ?_; refine vF 20 qM rfl ?_; refine Cu rfl qM ?_; refine oe (dn (i := i0) (xs := p0.Lines) (y := x4) 3 (kG p0.Lines au.2.2.1) (fun _ => hx7)) ?_; refine Cu rfl qM ?_; refine oe bR ?_; refine Cu rfl qM ?_; refine oe dJ ?_; refine oe dO ?_; refine oa ?_; refine on ?_; obtain rfl := some_inj hM; refine bn (bT (fun w hm => bQ hm rfl))
 replace hM := iF qM hM; refine Ct rfl qM ?_; refine Ct rfl qM ?_; refine Ct rfl qM ?_; refine oe (Ti qM) ?_; refine oa ?_; refine on ?_; obtain rfl := some_inj hM; refine bn (bT (fun w hm => bQ hm rfl))
def Cz (p0 : Plan) (r0 : aC) : Option Int :=
  (idx p0.Routes r0.aI).bind fun x3 =>
  (idx x3.Steps 0).bind fun x5 =>
  some x5.Section
theorem PS (S : bU) (w : World) (p0 : Plan) (au : aj.R Plan) (r0 : aC) (y : Int) (hM : Cz p0 r0 = some y) (hS : sB S w) (gN : aj.ok S w au p0) :
    Calls Try.prog 49 #[.agg (iK p0 au), .agg (RY r0)] w (dQ w (vI y)) := by
 refine dH (args := [_, _]) Try.func49 rfl ((pre_nil hS).start |>.oJ gN) rfl ?_; unfold Cz at hM; refine sr ?_; refine aM (dU (l := (dB p0 au)) (k := fun b1 => ?_)); refine aM (dU (l := (wJ r0)) (k := fun b2 => ?_)); refine oa ?_; refine on ?_; refine sr ?_; refine oe (aH 2) ?_; refine oe (aN (b := b1)) ?_; refine oe (aH 0) ?_; refine oe (aN (b := b2)) ?_
 obtain ⟨x3, hx4, hM⟩ := bind_some hM; refine oe (bK (xs := p0.Routes) 2 (kG p0.Routes au.2.1) (iS hx4)) ?_; refine oe (aH 0) ?_; refine oe (dn (i := r0.aI) (xs := p0.Routes) (y := x3) 0 (kG p0.Routes au.2.1) (fun _ => hx4)) ?_; obtain ⟨x5, hx6, hM⟩ := bind_some hM; refine oe (bK (xs := x3.Steps) 2 ((Sk.elem (Sk.eB (α := List aI) (r := au.2.1) (x := p0.Routes) hA) hx4)).kn (iS hx6)) ?_; refine oe (aH 0) ?_; refine oe (dn (i := 0) (xs := x3.Steps) (y := x5) 0 ((Sk.elem (Sk.eB (α := List aI) (r := au.2.1) (x := p0.Routes) hA) hx4)).kn (fun _ => hx6)) ?_; refine oa ?_; refine on ?_; obtain rfl := some_inj hM; refine bn (bT (fun w hm => bQ hm rfl))
def CB (p0 : Plan) (r0 : aC) : Option Int :=
  (idx p0.Routes r0.aI).bind fun x3 =>
  (idx p0.Routes r0.aI).bind fun x5 =>
  bq (bP ((x3.Steps.length : Int) - x5.Overlap)) <|
  bq (bP (((x3.Steps.length : Int) - x5.Overlap) - 1)) <|
  (idx x3.Steps (((x3.Steps.length : Int) - x5.Overlap) - 1)).bind fun x9 =>
  some x9.Section
theorem PU (S : bU) (w : World) (p0 : Plan) (au : aj.R Plan) (r0 : aC) (y : Int) (hM : CB p0 r0 = some y) (hS : sB S w) (gN : aj.ok S w au p0) :
    Calls Try.prog 48 #[.agg (iK p0 au), .agg (RY r0)] w (dQ w (vI y)) := by
 refine dH (args := [_, _]) Try.func48 rfl ((pre_nil hS).start |>.oJ gN) rfl ?_; unfold CB at hM; refine sr ?_; refine aM (dU (l := (dB p0 au)) (k := fun b1 => ?_)); refine aM (dU (l := (wJ r0)) (k := fun b2 => ?_)); refine oa ?_; refine on ?_; refine aO fun K2 hK2 => ?_; refine jh _ (List.Sublist.refl _) ?_; refine aJ 0 rfl (aH 2) ?_; refine aJ 1 rfl (aN (b := b1)) ?_; refine aJ 2 rfl (aH 0) ?_
 refine aJ 3 rfl (aN (b := b2)) ?_; obtain ⟨x3, hx4, hM⟩ := bind_some hM; refine aJ 4 rfl (bK (xs := p0.Routes) 2 (kG p0.Routes au.2.1) (iS hx4)) ?_; refine aJ 5 rfl (aH 0) ?_; refine aJ 6 rfl (dn (i := r0.aI) (xs := p0.Routes) (y := x3) 0 (kG p0.Routes au.2.1) (fun _ => hx4)) ?_; refine aJ 7 rfl (aH 2) ?_; refine aJ 8 rfl (aN (b := b1)) ?_; refine aJ 9 rfl (aH 0) ?_; refine aJ 10 rfl (aN (b := b2)) ?_; obtain ⟨x5, hx6, hM⟩ := bind_some hM; refine aJ 11 rfl (bK (xs := p0.Routes) 2 (kG p0.Routes au.2.1) (iS hx6)) ?_; refine aJ 12 rfl (aH 1) ?_; refine aJ 13 rfl (dn (i := r0.aI) (xs := p0.Routes) (y := x5) 1 (kG p0.Routes au.2.1) (fun _ => hx6)) ?_; refine aJ 14 rfl d9 ?_; refine aJ 15 rfl d9 ?_; refine eT (hK2 _ _ ?_); clear hK2; refine sr ?_; refine om ?_; refine om ?_; refine oe bR ?_; refine om ?_; obtain ⟨NS, hM⟩ := bC hM; refine oe (iy (hr := fun hg => bS NS)) ?_; obtain ⟨vY, hM⟩ := bC hM; refine oe (iy (hr := fun hg => bS vY)) ?_; obtain ⟨x9, kY, hM⟩ := bind_some hM; refine oe (bK (xs := x3.Steps) 2 ((Sk.elem (Sk.eB (α := List aI) (r := au.2.1) (x := p0.Routes) hA) hx4)).kn (iS kY)) ?_
 refine oe (aH 0) ?_; refine oe (dn (i := (((x3.Steps.length : Int) - x5.Overlap) - 1)) (xs := x3.Steps) (y := x9) 0 ((Sk.elem (Sk.eB (α := List aI) (r := au.2.1) (x := p0.Routes) hA) hx4)).kn (fun _ => kY)) ?_; refine oa ?_; refine on ?_; obtain rfl := some_inj hM; refine bn (bT (fun w hm => bQ hm rfl))
def PL (t0 : av) (p0 : av) : Option Bool :=
  some (decide (t0.Name = p0.Name))
theorem adg (S : bU) (w : World) (t0 : av) (fQ : Nat) (p0 : av) (y : Bool) (hM : PL t0 p0 = some y) (hS : sB S w) (Hg : S fQ ∧ w.heap[fQ]? = some (.cells (tJ p0).toArray 56 (0, 0))) :
    Calls Try.prog 39 #[.agg (F9 t0), vP fQ] w (dQ w (.bool y)) := by
 refine dH (args := [_, _]) Try.func39 rfl ((pre_nil hS).start |>.wP Hg) rfl ?_; unfold PL at hM; refine sr ?_; refine aM (dU (l := (tJ t0)) (k := fun b1 => ?_)); refine oa ?_; refine on ?_; refine sr ?_; refine oe (aH 0) ?_; refine oe (aN (b := b1)) ?_; refine oe (aH 0) ?_; refine oe (vg (b := fQ)) ?_; refine oe vk ?_; refine oa ?_; refine on ?_; obtain rfl := some_inj hM; refine bn (bT (fun w hm => bQ hm rfl))
def PG (k0 : Line) (p0 : Line) : Option Bool :=
  some (decide (k0.Name = p0.Name))
theorem ac9 (S : bU) (w : World) (k0 : Line) (Lr : aj.R Line) (fQ : Nat) (p0 : Line) (au : aj.R Line) (y : Bool) (hM : PG k0 p0 = some y) (hS : sB S w) (ZP : aj.ok S w Lr k0) (Hg : S fQ ∧ w.heap[fQ]? = some (.cells (oI p0 au).toArray 45 (0, 0))) (gN : aj.ok S w au p0) :
    Calls Try.prog 43 #[.agg (MW k0 Lr), vP fQ] w (dQ w (.bool y)) := by
 refine dH (args := [_, _]) Try.func43 rfl ((pre_nil hS).start |>.gU (α := List aC) (r := Lr) (x := k0.ay) ZP|>.wP Hg|>.gU (α := List aC) (r := au) (x := p0.ay) gN) rfl ?_; unfold PG at hM; refine sr ?_; refine aM (dU (l := (oI k0 Lr)) (k := fun b1 => ?_)); refine oa ?_; refine on ?_; refine sr ?_; refine oe (aH 0) ?_; refine oe (aN (b := b1)) ?_; refine oe (aH 0) ?_; refine oe (vg (b := fQ)) ?_; refine oe vk ?_; refine oa ?_; refine on ?_; obtain rfl := some_inj hM; refine bn (bT (fun w hm => bQ hm rfl))
def PN (u0 : Turn) (p0 : Turn) : Option Bool :=
  some (decide (u0.From = p0.From) || decide (u0.To = p0.To))
theorem adj (S : bU) (w : World) (u0 : Turn) (fQ : Nat) (p0 : Turn) (y : Bool) (hM : PN u0 p0 = some y) (hS : sB S w) (Hg : S fQ ∧ w.heap[fQ]? = some (.cells (wK p0).toArray 48 (0, 0))) :
    Calls Try.prog 52 #[.agg (R3 u0), vP fQ] w (dQ w (.bool y)) := by
 refine dH (args := [_, _]) Try.func52 rfl ((pre_nil hS).start |>.wP Hg) rfl ?_; unfold PN at hM; refine sr ?_; refine aM (dU (l := (wK u0)) (k := fun b1 => ?_)); refine oa ?_; refine on ?_; refine sr ?_; refine oe (aH 0) ?_; refine oe (aN (b := b1)) ?_; refine oe (aH 0) ?_; refine oe (vg (b := fQ)) ?_; refine oe eX ?_; refine om ?_; refine aF rfl (aH 1) ?_; refine aF rfl (aN (b := b1)) ?_; refine aF rfl (aH 1) ?_; refine aF rfl (vg (b := fQ)) ?_; refine aF rfl eX ?_; refine oe eu ?_; refine oa ?_; refine on ?_; obtain rfl := some_inj hM; refine bn (bT (fun w hm => bQ hm rfl))
def WI : Unit → Option Int := fun _ =>
  some (-1)
def Jt (s0 : List av) (gM : av) (bI : Nat → Option Int) : Nat → Option Int := fun jW =>
  if decide ((jW : Int) < (s0.length : Int)) then
    ((idx s0 (jW : Int)).bind fun x3 =>
    (PL x3 gM).bind fun y5 =>
    if y5 then
      (some (jW : Int))
    else
      (bI (jW + 1)))
  else
    (WI ())
def Mc (s0 : List av) (gM : av) : Option Int :=
  iter (Jt s0 gM) FUEL 0
theorem aef (S : bU) (w : World) (s0 : List av) (bV : aj.R (List av)) (jy : Nat) (gM : av) (y : Int) (hM : Mc s0 gM = some y) (hS : sB S w) (wh : aj.ok S w bV s0) (wm : S jy ∧ w.heap[jy]? = some (.cells (tJ gM).toArray 56 (0, 0))) :
    Calls Try.prog 60 #[sL bV s0, .func (.func 39) #[] #[vP jy]] w (dQ w (vI y)) := by
 refine dH (args := [_, _]) Try.func60 rfl ((pre_nil hS).start |>.gU (α := List av) (r := bV) (x := s0) wh|>.wP wm) rfl ?_; unfold Mc at hM; refine sr ?_; refine oa ?_; refine on ?_; refine aO fun K2 hK2 => ?_; refine sr ?_; refine om ?_; refine mZ (fun w hm => Kn.len (kG s0 bV) hm) fun hl1 => ?_; refine oe bR ?_; refine om ?_; refine on ?_; refine bX ?_; refine fM (γ := Nat × Nat × Unit) (env := fun (_, jW, _) => [(0, eS bV s0), (1, .v (.func (.func 39) #[] #[vP jy])), (7, eI (s0.length : Int)), (8, eI (jW : Int))]) (mem := fun (_, jW, _) => [iL s0 bV, jV jy 56 (tJ gM)]) (R := fun g => iter (Jt s0 gM) g.1 g.2.1 = some y) (μ := fun g => g.1) (FUEL, 0, ()) hM ⟨rfl, rfl, rfl, rfl, trivial⟩ rI ?_; clear hM; intro g hM jw hL1; obtain ⟨dx, jW, ⟨⟩⟩ := g; dsimp only at hM ⊢; obtain ⟨dx, bI, rfl, eH, hM⟩ := gG hM; dsimp only [Jt] at hM; refine sr ?_; refine oe dJ ?_; refine on ?_
 refine aO fun K5 dW => ?_; refine cc rfl hM (fun hc2 hM => ?_) (fun hc2 hM => ?_)
 · have Oc := of_decide_eq_true hc2; refine bA (dW _ _ ?_); clear dW; refine aO fun K6 dM => ?_; refine bX ?_; refine sr ?_; refine om ?_; refine oa ?_; refine on ?_; refine sr ?_; refine om ?_; refine om ?_; refine om ?_; obtain ⟨x3, hx4, hM⟩ := bind_some hM; refine oe (bK (xs := s0) 5 (kG s0 bV) (iS hx4)) ?_; refine oe (jm (m := 5) (i := (jW : Int)) (xs := s0) (y := x3) (l := (tJ x3)) 0 (kG s0 bV) (fun _ => hx4)) ?_; obtain ⟨y5, yY, hM⟩ := bind_some hM; refine aM (Mg (vs := [.agg (F9 x3)]) (cap := [vP jy]) (fun w hm => let ⟨S, hs⟩ := hm; adg _ w x3 jy gM y5 yY (bB hs) (CP hA hs)) ?_); refine on ?_; refine cc rfl hM (fun oq hM => ?_) (fun oq hM => ?_)
   · refine sr ?_; refine om ?_; refine oa ?_; refine on ?_; obtain rfl := some_inj hM; refine bn (bT (fun w hm => bQ hm rfl))
   refine bA (dM _ _ ?_); clear dM; refine bE ?_; refine oe (dh (hr := fun _ => by unfold gy; omega)) ?_; refine om ?_; refine bF (hL1 (dx, (jW + 1), ()) _ _ (eqc eH hM) (Nat.lt_succ_self _) ⟨rfl, rfl, rfl, rfl, trivial⟩ rI)
 refine fI (hK2 _ _ ?_); clear hK2; dsimp only [WI] at hM; refine sr ?_; refine oa ?_; refine on ?_; obtain rfl := some_inj hM; refine bn (bT (fun w hm => bQ hm rfl))
def Jq (s0 : List av) (gM : av) : Option Bool :=
  (Mc s0 gM).bind fun y1 =>
  some (decide (0 ≤ y1))
theorem aec (S : bU) (w : World) (s0 : List av) (bV : aj.R (List av)) (jy : Nat) (gM : av) (y : Bool) (hM : Jq s0 gM = some y) (hS : sB S w) (wh : aj.ok S w bV s0) (wm : S jy ∧ w.heap[jy]? = some (.cells (tJ gM).toArray 56 (0, 0))) :
    Calls Try.prog 38 #[sL bV s0, .func (.func 39) #[] #[vP jy]] w (dQ w (.bool y)) := by
 refine dH (args := [_, _]) Try.func38 rfl ((pre_nil hS).start |>.gU (α := List av) (r := bV) (x := s0) wh|>.wP wm) rfl ?_; unfold Jq at hM; refine sr ?_; refine oa ?_; refine on ?_; refine sr ?_; refine om ?_; refine om ?_; obtain ⟨y1, hy2, hM⟩ := bind_some hM; refine aM (bJ (fun w hm => let ⟨S, hs⟩ := hm; aef _ w s0 bV jy gM y1 hy2 (bB hs) (kM hs) (CP hA hs)) ?_); refine oe iM ?_; refine oa ?_; refine on ?_; obtain rfl := some_inj hM; refine bn (bT (fun w hm => bQ hm rfl))
def WH : Unit → Option Int := fun _ =>
  some (-1)
def Js (s0 : List Line) (gM : Line) (bI : Nat → Option Int) : Nat → Option Int := fun jW =>
  if decide ((jW : Int) < (s0.length : Int)) then
    ((idx s0 (jW : Int)).bind fun x3 =>
    (PG x3 gM).bind fun y5 =>
    if y5 then
      (some (jW : Int))
    else
      (bI (jW + 1)))
  else
    (WH ())
def Ma (s0 : List Line) (gM : Line) : Option Int :=
  iter (Js s0 gM) FUEL 0
theorem aee (S : bU) (w : World) (s0 : List Line) (bV : aj.R (List Line)) (jy : Nat) (gM : Line) (wN : aj.R Line) (y : Int) (hM : Ma s0 gM = some y) (hS : sB S w) (wh : aj.ok S w bV s0) (wm : S jy ∧ w.heap[jy]? = some (.cells (oI gM wN).toArray 45 (0, 0))) (NW : aj.ok S w wN gM) :
    Calls Try.prog 62 #[sL bV s0, .func (.func 43) #[] #[vP jy]] w (dQ w (vI y)) := by
 refine dH (args := [_, _]) Try.func62 rfl ((pre_nil hS).start |>.gU (α := List Line) (r := bV) (x := s0) wh|>.wP wm|>.gU (α := List aC) (r := wN) (x := gM.ay) NW) rfl ?_; unfold Ma at hM; refine sr ?_; refine oa ?_; refine on ?_; refine aO fun K2 hK2 => ?_; refine sr ?_; refine om ?_; refine mZ (fun w hm => Kn.len (kG s0 bV) hm) fun hl1 => ?_; refine oe bR ?_; refine om ?_; refine on ?_; refine bX ?_; refine fM (γ := Nat × Nat × Unit) (env := fun (_, jW, _) => [(0, eS bV s0), (1, .v (.func (.func 43) #[] #[vP jy])), (7, eI (s0.length : Int)), (8, eI (jW : Int))]) (mem := fun (_, jW, _) => [iL s0 bV, iL gM.ay wN, jV jy 45 (oI gM wN)]) (R := fun g => iter (Js s0 gM) g.1 g.2.1 = some y) (μ := fun g => g.1) (FUEL, 0, ()) hM ⟨rfl, rfl, rfl, rfl, trivial⟩ rI ?_; clear hM; intro g hM jw hL1; obtain ⟨dx, jW, ⟨⟩⟩ := g; dsimp only at hM ⊢; obtain ⟨dx, bI, rfl, eH, hM⟩ := gG hM; dsimp only [Js] at hM; refine aO fun K4 hK4 => ?_
 refine bE ?_; refine oe dJ ?_; refine bF (hK4 _ _ ?_); clear hK4; refine aO fun K5 dW => ?_; refine cc rfl hM (fun hc2 hM => ?_) (fun hc2 hM => ?_)
 · have Oc := of_decide_eq_true hc2; refine bA (dW _ _ ?_); clear dW; refine aO fun K6 dM => ?_; refine bX ?_; refine sr ?_; refine om ?_; refine oa ?_; refine on ?_; refine sr ?_; refine om ?_; refine om ?_; refine om ?_; obtain ⟨x3, hx4, hM⟩ := bind_some hM; refine oe (bK (xs := s0) 4 (kG s0 bV) (iS hx4)) ?_; refine oe (jm (m := 4) (i := (jW : Int)) (xs := s0) (y := x3) (l := (oI x3 (bV.es (jW : Int).toNat))) 0 (kG s0 bV) (fun _ => hx4)) ?_; obtain ⟨y5, yY, hM⟩ := bind_some hM; refine aM (Mg (vs := [.agg (MW x3 (bV.es (jW : Int).toNat))]) (cap := [vP jy]) (fun w hm => let ⟨S, hs⟩ := hm; ac9 _ w x3 (bV.es (jW : Int).toNat) jy gM wN y5 yY (bB hs) (Kn.lend ((Sk.elem (Sk.eB (α := List Line) (r := bV) (x := s0) hA) hx4)).kn hs) (CP hA hs) (kM hs)) ?_); refine on ?_; refine cc rfl hM (fun oq hM => ?_) (fun oq hM => ?_)
   · refine sr ?_; refine om ?_; refine oa ?_; refine on ?_; obtain rfl := some_inj hM; refine bn (bT (fun w hm => bQ hm rfl))
   refine bA (dM _ _ ?_); clear dM; refine bE ?_; refine oe (dh (hr := fun _ => by unfold gy; omega)) ?_; refine om ?_; refine bF (hL1 (dx, (jW + 1), ()) _ _ (eqc eH hM) (Nat.lt_succ_self _) ⟨rfl, rfl, rfl, rfl, trivial⟩ rI)
 refine fI (hK2 _ _ ?_); clear hK2; dsimp only [WH] at hM; refine sr ?_; refine oa ?_; refine on ?_; obtain rfl := some_inj hM; refine bn (bT (fun w hm => bQ hm rfl))
def Jp (s0 : List Line) (gM : Line) : Option Bool :=
  (Ma s0 gM).bind fun y1 =>
  some (decide (0 ≤ y1))
theorem aeb (S : bU) (w : World) (s0 : List Line) (bV : aj.R (List Line)) (jy : Nat) (gM : Line) (wN : aj.R Line) (y : Bool) (hM : Jp s0 gM = some y) (hS : sB S w) (wh : aj.ok S w bV s0) (wm : S jy ∧ w.heap[jy]? = some (.cells (oI gM wN).toArray 45 (0, 0))) (NW : aj.ok S w wN gM) :
    Calls Try.prog 42 #[sL bV s0, .func (.func 43) #[] #[vP jy]] w (dQ w (.bool y)) := by
 refine dH (args := [_, _]) Try.func42 rfl ((pre_nil hS).start |>.gU (α := List Line) (r := bV) (x := s0) wh|>.wP wm|>.gU (α := List aC) (r := wN) (x := gM.ay) NW) rfl ?_; unfold Jp at hM; refine sr ?_; refine oa ?_; refine on ?_; refine sr ?_; refine om ?_; refine om ?_; obtain ⟨y1, hy2, hM⟩ := bind_some hM; refine aM (bJ (fun w hm => let ⟨S, hs⟩ := hm; aee _ w s0 bV jy gM wN y1 hy2 (bB hs) (kM hs) (CP hA hs) (kM hs)) ?_); refine oe iM ?_; refine oa ?_; refine on ?_; obtain rfl := some_inj hM; refine bn (bT (fun w hm => bQ hm rfl))
def WJ : Unit → Option Int := fun _ =>
  some (-1)
def Ju (s0 : List Turn) (gM : Turn) (bI : Nat → Option Int) : Nat → Option Int := fun jW =>
  if decide ((jW : Int) < (s0.length : Int)) then
    ((idx s0 (jW : Int)).bind fun x3 =>
    (PN x3 gM).bind fun y5 =>
    if y5 then
      (some (jW : Int))
    else
      (bI (jW + 1)))
  else
    (WJ ())
def Md (s0 : List Turn) (gM : Turn) : Option Int :=
  iter (Ju s0 gM) FUEL 0
theorem aeg (S : bU) (w : World) (s0 : List Turn) (bV : aj.R (List Turn)) (jy : Nat) (gM : Turn) (y : Int) (hM : Md s0 gM = some y) (hS : sB S w) (wh : aj.ok S w bV s0) (wm : S jy ∧ w.heap[jy]? = some (.cells (wK gM).toArray 48 (0, 0))) :
    Calls Try.prog 64 #[sL bV s0, .func (.func 52) #[] #[vP jy]] w (dQ w (vI y)) := by
 refine dH (args := [_, _]) Try.func64 rfl ((pre_nil hS).start |>.gU (α := List Turn) (r := bV) (x := s0) wh|>.wP wm) rfl ?_; unfold Md at hM; refine sr ?_; refine oa ?_; refine on ?_; refine aO fun K2 hK2 => ?_; refine sr ?_; refine om ?_; refine mZ (fun w hm => Kn.len (kG s0 bV) hm) fun hl1 => ?_; refine oe bR ?_; refine om ?_; refine on ?_; refine bX ?_; refine fM (γ := Nat × Nat × Unit) (env := fun (_, jW, _) => [(0, eS bV s0), (1, .v (.func (.func 52) #[] #[vP jy])), (7, eI (s0.length : Int)), (8, eI (jW : Int))]) (mem := fun (_, jW, _) => [iL s0 bV, jV jy 48 (wK gM)]) (R := fun g => iter (Ju s0 gM) g.1 g.2.1 = some y) (μ := fun g => g.1) (FUEL, 0, ()) hM ⟨rfl, rfl, rfl, rfl, trivial⟩ rI ?_; clear hM; intro g hM jw hL1; obtain ⟨dx, jW, ⟨⟩⟩ := g; dsimp only at hM ⊢; obtain ⟨dx, bI, rfl, eH, hM⟩ := gG hM; dsimp only [Ju] at hM; refine sr ?_; refine oe dJ ?_; refine on ?_; refine aO fun K5 dW => ?_; refine cc rfl hM (fun hc2 hM => ?_) (fun hc2 hM => ?_)
 · have Oc := of_decide_eq_true hc2; refine bA (dW _ _ ?_); clear dW; refine aO fun K6 dM => ?_; refine bX ?_; refine sr ?_; refine om ?_; refine oa ?_; refine on ?_; refine sr ?_; refine om ?_; refine om ?_; refine om ?_; obtain ⟨x3, hx4, hM⟩ := bind_some hM; refine oe (bK (xs := s0) 4 (kG s0 bV) (iS hx4)) ?_; refine oe (jm (m := 4) (i := (jW : Int)) (xs := s0) (y := x3) (l := (wK x3)) 0 (kG s0 bV) (fun _ => hx4)) ?_; obtain ⟨y5, yY, hM⟩ := bind_some hM; refine aM (Mg (vs := [.agg (R3 x3)]) (cap := [vP jy]) (fun w hm => let ⟨S, hs⟩ := hm; adj _ w x3 jy gM y5 yY (bB hs) (CP hA hs)) ?_); refine on ?_; refine cc rfl hM (fun oq hM => ?_) (fun oq hM => ?_)
   · refine sr ?_; refine om ?_; refine oa ?_; refine on ?_; obtain rfl := some_inj hM; refine bn (bT (fun w hm => bQ hm rfl))
   refine bA (dM _ _ ?_); clear dM; refine bE ?_; refine oe (dh (hr := fun _ => by unfold gy; omega)) ?_; refine om ?_; refine bF (hL1 (dx, (jW + 1), ()) _ _ (eqc eH hM) (Nat.lt_succ_self _) ⟨rfl, rfl, rfl, rfl, trivial⟩ rI)
 refine fI (hK2 _ _ ?_); clear hK2; dsimp only [WJ] at hM; refine sr ?_; refine oa ?_; refine on ?_; obtain rfl := some_inj hM; refine bn (bT (fun w hm => bQ hm rfl))
def Jr (s0 : List Turn) (gM : Turn) : Option Bool :=
  (Md s0 gM).bind fun y1 =>
  some (decide (0 ≤ y1))
theorem aed (S : bU) (w : World) (s0 : List Turn) (bV : aj.R (List Turn)) (jy : Nat) (gM : Turn) (y : Bool) (hM : Jr s0 gM = some y) (hS : sB S w) (wh : aj.ok S w bV s0) (wm : S jy ∧ w.heap[jy]? = some (.cells (wK gM).toArray 48 (0, 0))) :
    Calls Try.prog 51 #[sL bV s0, .func (.func 52) #[] #[vP jy]] w (dQ w (.bool y)) := by
 refine dH (args := [_, _]) Try.func51 rfl ((pre_nil hS).start |>.gU (α := List Turn) (r := bV) (x := s0) wh|>.wP wm) rfl ?_; unfold Jr at hM; refine sr ?_; refine oa ?_; refine on ?_; refine sr ?_; refine om ?_; refine om ?_; obtain ⟨y1, hy2, hM⟩ := bind_some hM; refine aM (bJ (fun w hm => let ⟨S, hs⟩ := hm; aeg _ w s0 bV jy gM y1 hy2 (bB hs) (kM hs) (CP hA hs)) ?_); refine oe iM ?_; refine oa ?_; refine on ?_; obtain rfl := some_inj hM; refine bn (bT (fun w hm => bQ hm rfl))
end Go.Proofs.Ytcalibhfgdncaaa
