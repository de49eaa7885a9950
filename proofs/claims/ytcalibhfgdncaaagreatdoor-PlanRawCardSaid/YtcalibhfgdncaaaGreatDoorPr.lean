/- Models of functions, and that the code computes them. -/
import Derived.Test.YtcalibhfgdncaaaGreatDoorTypes
set_option linter.all false
namespace Go.Proofs.YtcalibhfgdncaaaGreatDoor
open Go.Dc Go.RowKit
set_option maxRecDepth 10000
def JU (p0 : Int) : Option Bool :=
  some (decide (0 ≤ p0) && decide (p0 ≤ 1048576))
theorem XO (S : bD) (w : World) (p0 : Int) (y : Bool) (hM : JU p0 = some y) (hS : sB S w)  :
    Calls Tryz.prog 85 #[vI p0] w (bW w (.bool y)) := by
 refine bR (args := [_]) Tryz.func85 rfl ((pre_nil hS).start) rfl ?_; unfold JU at hM; refine sr ?_; refine oa ?_; refine on ?_; refine sr ?_; refine om ?_; refine oe gW ?_; refine om ?_; refine av rfl aG ?_; refine av rfl kr ?_; refine oe cO ?_; refine oa ?_; refine on ?_; obtain rfl := some_inj hM; refine aL (aZ (fun w hm => aW hm rfl))
def Cc (p0 : Plan) (gZ : Int) (hi0 : Int) : Option Bool :=
  bM (!((decide (0 ≤ gZ) && decide (gZ ≤ hi0)) && decide (hi0 ≤ 7200)) || bP (gZ + p0.dW)) <|
  some (((decide (0 ≤ gZ) && decide (gZ ≤ hi0)) && decide (hi0 ≤ 7200)) && decide (hi0 < (gZ + p0.dW)))
theorem Rf (S : bD) (w : World) (p0 : Plan) (ah : ak.R Plan) (gZ : Int) (hi0 : Int) (y : Bool) (hM : Cc p0 gZ hi0 = some y) (hS : sB S w) (eu : ak.ok S w ah p0) :
    Calls Tryz.prog 88 #[.agg (jT p0 ah), vI gZ, vI hi0] w (bW w (.bool y)) := by
 refine bR (args := [_, _, _]) Tryz.func88 rfl ((pre_nil hS).start |>.kD eu) rfl ?_; unfold Cc at hM; refine sr ?_; refine aF (bU (l := (dO p0 ah)) (k := fun b1 => ?_)); refine oa ?_; refine on ?_; refine sr ?_; refine om ?_; refine oe kr ?_; refine om ?_; refine av rfl aG ?_; refine av rfl aG ?_; refine av rfl kr ?_; refine oe cO ?_; refine om ?_; refine av rfl aG ?_; refine av rfl kr ?_
 refine oe cO ?_; refine om ?_; refine av rfl aG ?_; refine av rfl aG ?_; refine av rfl (ay 0) ?_; refine av rfl (aC (b := b1)) ?_; obtain ⟨hI2, hM⟩ := bO hM; refine av rfl (dh (hr := fun hg => dn (uV hI2 hg))) ?_; refine av rfl bN ?_; refine oe cO ?_; refine oa ?_; refine on ?_; obtain rfl := some_inj hM; refine aL (aZ (fun w hm => aW hm rfl))
def Cg (p0 : Plan) (i0 : Int) : Option Bool :=
  some (decide (0 ≤ i0) && decide (i0 < (p0.Lines.length : Int)))
theorem Rl (S : bD) (w : World) (p0 : Plan) (ah : ak.R Plan) (i0 : Int) (y : Bool) (hM : Cg p0 i0 = some y) (hS : sB S w) (eu : ak.ok S w ah p0) :
    Calls Tryz.prog 91 #[.agg (jT p0 ah), vI i0] w (bW w (.bool y)) := by
 refine bR (args := [_, _]) Tryz.func91 rfl ((pre_nil hS).start |>.kD eu) rfl ?_; unfold Cg at hM; refine sr ?_; refine aF (bU (l := (dO p0 ah)) (k := fun b1 => ?_)); refine oa ?_; refine on ?_; refine sr ?_; refine om ?_; refine oe gW ?_; refine om ?_; refine av rfl aG ?_; refine av rfl (ay 3) ?_; refine av rfl (aC (b := b1)) ?_; refine av rfl bE ?_; refine av rfl bN ?_; refine oe cO ?_
 refine oa ?_; refine on ?_; obtain rfl := some_inj hM; refine aL (aZ (fun w hm => aW hm rfl))
def Af (p0 : Plan) (i0 : Int) (k0 : Int) : Option Bool :=
  (Cg p0 i0).bind fun y2 =>
  (dV (y2 && decide (0 ≤ k0)) default (idx p0.Lines i0)).bind fun x4 =>
  if (y2 && decide (0 ≤ k0)) then
  (some ((y2 && decide (0 ≤ k0)) && decide (k0 < (x4.bq.length : Int))))
  else
  (some false)
theorem MQ (S : bD) (w : World) (p0 : Plan) (ah : ak.R Plan) (i0 : Int) (k0 : Int) (y : Bool) (hM : Af p0 i0 k0 = some y) (hS : sB S w) (eu : ak.ok S w ah p0) :
    Calls Tryz.prog 87 #[.agg (jT p0 ah), vI i0, vI k0] w (bW w (.bool y)) := by
 refine bR (args := [_, _, _]) Tryz.func87 rfl ((pre_nil hS).start |>.kD eu) rfl ?_; unfold Af at hM; refine sr ?_; refine aF (bU (l := (dO p0 ah)) (k := fun b1 => ?_)); refine oa ?_; refine on ?_; refine sr ?_; refine oe (bH (b := b1)) ?_; refine om ?_; obtain ⟨y2, hy3, hM⟩ := bind_some hM; refine aF (bg (fun w hm => let ⟨S, hs⟩ := hm; Rl _ w p0 ah i0 y2 hy3 (aT hs) ⟨(kM hs), (kM hs), (kM hs), (kM hs), (kM hs), (kM hs), (kM hs)⟩) ?_)
 refine om ?_; refine av rfl aG ?_; refine av rfl gW ?_; refine oe cO ?_; refine om ?_; refine av rfl aG ?_; refine av rfl (ay 3) ?_; refine av rfl (aC (b := b1)) ?_; refine av rfl aG ?_; obtain ⟨x4, hx5, hM⟩ := bind_some hM; refine av rfl (bA (xs := p0.Lines) 4 (kG p0.Lines ah.2.2.1) (fun hg => let h := lg (dM hx5 hg); ⟨h.1, h.2.1⟩)) ?_; refine av rfl (ay 3) ?_; refine Xz (y2 && decide (0 ≤ k0)) (fun oM => ?_) (fun oM => ?_)
 · replace hM := iT oM hM; have hx7 := dM hx5 oM; refine uG 15 oM rfl ?_; refine uG 16 oM rfl ?_; refine uG 17 oM rfl ?_; refine uG 18 oM rfl ?_; refine uG 19 oM rfl ?_; refine uG 20 oM rfl ?_; refine Ad rfl oM ?_; refine oe (cZ (i := i0) (xs := p0.Lines) (y := x4) 3 (kG p0.Lines ah.2.2.1) (fun _ => hx7)) ?_; refine Ad rfl oM ?_; refine oe bE ?_; refine Ad rfl oM ?_; refine oe bN ?_; refine oe cO ?_; refine oa ?_; refine on ?_; obtain rfl := some_inj hM; refine aL (aZ (fun w hm => aW hm rfl))
 replace hM := iF oM hM; refine Ac rfl oM ?_; refine Ac rfl oM ?_; refine Ac rfl oM ?_; refine oe (Mj oM) ?_; refine oa ?_; refine on ?_; obtain rfl := some_inj hM; refine aL (aZ (fun w hm => aW hm rfl))
def Ci (p0 : Plan) (r0 : fV) : Option Int :=
  (idx p0.Routes r0.aV).bind fun x3 =>
  (idx x3.Steps 0).bind fun x5 =>
  some x5.Section
theorem Rn (S : bD) (w : World) (p0 : Plan) (ah : ak.R Plan) (r0 : fV) (y : Int) (hM : Ci p0 r0 = some y) (hS : sB S w) (eu : ak.ok S w ah p0) :
    Calls Tryz.prog 90 #[.agg (jT p0 ah), .agg (Uz r0)] w (bW w (vI y)) := by
 refine bR (args := [_, _]) Tryz.func90 rfl ((pre_nil hS).start |>.kD eu) rfl ?_; unfold Ci at hM; refine sr ?_; refine aF (bU (l := (dO p0 ah)) (k := fun b1 => ?_)); refine aF (bU (l := (p8 r0)) (k := fun b2 => ?_)); refine oa ?_; refine on ?_; refine sr ?_; refine oe (ay 2) ?_; refine oe (aC (b := b1)) ?_; refine oe (ay 0) ?_; refine oe (aC (b := b2)) ?_
 obtain ⟨x3, hx4, hM⟩ := bind_some hM; refine oe (bA (xs := p0.Routes) 2 (kG p0.Routes ah.2.1) (iS hx4)) ?_; refine oe (ay 0) ?_; refine oe (cZ (i := r0.aV) (xs := p0.Routes) (y := x3) 0 (kG p0.Routes ah.2.1) (fun _ => hx4)) ?_; obtain ⟨x5, hx6, hM⟩ := bind_some hM; refine oe (bA (xs := x3.Steps) 2 ((Sk.elem (Sk.dJ (α := List aV) (r := ah.2.1) (x := p0.Routes) hA) hx4)).kn (iS hx6)) ?_; refine oe (ay 0) ?_; refine oe (cZ (i := 0) (xs := x3.Steps) (y := x5) 0 ((Sk.elem (Sk.dJ (α := List aV) (r := ah.2.1) (x := p0.Routes) hA) hx4)).kn (fun _ => hx6)) ?_; refine oa ?_; refine on ?_; obtain rfl := some_inj hM; refine aL (aZ (fun w hm => aW hm rfl))
def Cj (p0 : Plan) (r0 : fV) : Option Int :=
  (idx p0.Routes r0.aV).bind fun x3 =>
  (idx p0.Routes r0.aV).bind fun x5 =>
  bM (bP ((x3.Steps.length : Int) - x5.Overlap)) <|
  bM (bP (((x3.Steps.length : Int) - x5.Overlap) - 1)) <|
  (idx x3.Steps (((x3.Steps.length : Int) - x5.Overlap) - 1)).bind fun x9 =>
  some x9.Section
theorem Ro (S : bD) (w : World) (p0 : Plan) (ah : ak.R Plan) (r0 : fV) (y : Int) (hM : Cj p0 r0 = some y) (hS : sB S w) (eu : ak.ok S w ah p0) :
    Calls Tryz.prog 89 #[.agg (jT p0 ah), .agg (Uz r0)] w (bW w (vI y)) := by
 refine bR (args := [_, _]) Tryz.func89 rfl ((pre_nil hS).start |>.kD eu) rfl ?_; unfold Cj at hM; refine sr ?_; refine aF (bU (l := (dO p0 ah)) (k := fun b1 => ?_)); refine aF (bU (l := (p8 r0)) (k := fun b2 => ?_)); refine oa ?_; refine on ?_; refine aD fun K2 hK2 => ?_; refine fA _ (List.Sublist.refl _) ?_; refine au 0 rfl (ay 2) ?_; refine au 1 rfl (aC (b := b1)) ?_; refine au 2 rfl (ay 0) ?_
 refine au 3 rfl (aC (b := b2)) ?_; obtain ⟨x3, hx4, hM⟩ := bind_some hM; refine au 4 rfl (bA (xs := p0.Routes) 2 (kG p0.Routes ah.2.1) (iS hx4)) ?_; refine au 5 rfl (ay 0) ?_; refine au 6 rfl (cZ (i := r0.aV) (xs := p0.Routes) (y := x3) 0 (kG p0.Routes ah.2.1) (fun _ => hx4)) ?_; refine au 7 rfl (ay 2) ?_; refine au 8 rfl (aC (b := b1)) ?_; refine au 9 rfl (ay 0) ?_; refine au 10 rfl (aC (b := b2)) ?_; obtain ⟨x5, hx6, hM⟩ := bind_some hM; refine au 11 rfl (bA (xs := p0.Routes) 2 (kG p0.Routes ah.2.1) (iS hx6)) ?_; refine au 12 rfl (ay 1) ?_; refine au 13 rfl (cZ (i := r0.aV) (xs := p0.Routes) (y := x5) 1 (kG p0.Routes ah.2.1) (fun _ => hx6)) ?_; refine au 14 rfl bX ?_; refine au 15 rfl bX ?_; refine dG (hK2 _ _ ?_); clear hK2; refine sr ?_; refine om ?_; refine om ?_; refine oe bE ?_; refine om ?_; obtain ⟨Bw, hM⟩ := bO hM; refine oe (jo (hr := fun hg => dn Bw)) ?_; obtain ⟨r9, hM⟩ := bO hM; refine oe (jo (hr := fun hg => dn r9)) ?_; obtain ⟨x9, kR, hM⟩ := bind_some hM; refine oe (bA (xs := x3.Steps) 2 ((Sk.elem (Sk.dJ (α := List aV) (r := ah.2.1) (x := p0.Routes) hA) hx4)).kn (iS kR)) ?_
 refine oe (ay 0) ?_; refine oe (cZ (i := (((x3.Steps.length : Int) - x5.Overlap) - 1)) (xs := x3.Steps) (y := x9) 0 ((Sk.elem (Sk.dJ (α := List aV) (r := ah.2.1) (x := p0.Routes) hA) hx4)).kn (fun _ => kR)) ?_; refine oa ?_; refine on ?_; obtain rfl := some_inj hM; refine aL (aZ (fun w hm => aW hm rfl))
def Rj (t0 : bL) (p0 : bL) : Option Bool :=
  some (decide (t0.Name = p0.Name))
theorem aga (S : bD) (w : World) (t0 : bL) (jk : Nat) (p0 : bL) (y : Bool) (hM : Rj t0 p0 = some y) (hS : sB S w) (I4 : S jk ∧ w.heap[jk]? = some (.cells (mg p0).toArray 71 (0, 0))) :
    Calls Tryz.prog 80 #[.agg (Bb t0), vP jk] w (bW w (.bool y)) := by
 refine bR (args := [_, _]) Tryz.func80 rfl ((pre_nil hS).start |>.yB I4) rfl ?_; unfold Rj at hM; refine sr ?_; refine aF (bU (l := (mg t0)) (k := fun b1 => ?_)); refine oa ?_; refine on ?_; refine sr ?_; refine oe (ay 0) ?_; refine oe (aC (b := b1)) ?_; refine oe (ay 0) ?_; refine oe (Mr (b := jk)) ?_; refine oe qo ?_; refine oa ?_; refine on ?_; obtain rfl := some_inj hM; refine aL (aZ (fun w hm => aW hm rfl))
def Rh (k0 : Line) (p0 : Line) : Option Bool :=
  some (decide (k0.Name = p0.Name))
theorem af5 (S : bD) (w : World) (k0 : Line) (MZ : ak.R Line) (jk : Nat) (p0 : Line) (ah : ak.R Line) (y : Bool) (hM : Rh k0 p0 = some y) (hS : sB S w) (ab7 : ak.ok S w MZ k0) (I4 : S jk ∧ w.heap[jk]? = some (.cells (iW p0 ah).toArray 56 (0, 0))) (eu : ak.ok S w ah p0) :
    Calls Tryz.prog 84 #[.agg (OM k0 MZ), vP jk] w (bW w (.bool y)) := by
 refine bR (args := [_, _]) Tryz.func84 rfl ((pre_nil hS).start |>.gQ (α := List fV) (r := MZ) (x := k0.bq) ab7|>.yB I4|>.gQ (α := List fV) (r := ah) (x := p0.bq) eu) rfl ?_; unfold Rh at hM; refine sr ?_; refine aF (bU (l := (iW k0 MZ)) (k := fun b1 => ?_)); refine oa ?_; refine on ?_; refine sr ?_; refine oe (ay 0) ?_; refine oe (aC (b := b1)) ?_; refine oe (ay 0) ?_; refine oe (Mr (b := jk)) ?_; refine oe qo ?_; refine oa ?_; refine on ?_; obtain rfl := some_inj hM; refine aL (aZ (fun w hm => aW hm rfl))
def Rk (u0 : Turn) (p0 : Turn) : Option Bool :=
  some (decide (u0.From = p0.From) || decide (u0.To = p0.To))
theorem agd (S : bD) (w : World) (u0 : Turn) (jk : Nat) (p0 : Turn) (y : Bool) (hM : Rk u0 p0 = some y) (hS : sB S w) (I4 : S jk ∧ w.heap[jk]? = some (.cells (oo p0).toArray 94 (0, 0))) :
    Calls Tryz.prog 93 #[.agg (UA u0), vP jk] w (bW w (.bool y)) := by
 refine bR (args := [_, _]) Tryz.func93 rfl ((pre_nil hS).start |>.yB I4) rfl ?_; unfold Rk at hM; refine sr ?_; refine aF (bU (l := (oo u0)) (k := fun b1 => ?_)); refine oa ?_; refine on ?_; refine sr ?_; refine oe (ay 0) ?_; refine oe (aC (b := b1)) ?_; refine oe (ay 0) ?_; refine oe (Mr (b := jk)) ?_; refine oe dS ?_; refine om ?_; refine av rfl (ay 1) ?_; refine av rfl (aC (b := b1)) ?_; refine av rfl (ay 1) ?_; refine av rfl (Mr (b := jk)) ?_; refine av rfl dS ?_; refine oe dw ?_; refine oa ?_; refine on ?_; obtain rfl := some_inj hM; refine aL (aZ (fun w hm => aW hm rfl))
def ZM : Unit → Option Int := fun _ =>
  some (-1)
def KX (s0 : List bL) (fQ : bL) (aQ : Nat → Option Int) : Nat → Option Int := fun jy =>
  if decide ((jy : Int) < (s0.length : Int)) then
    ((idx s0 (jy : Int)).bind fun x3 =>
    (Rj x3 fQ).bind fun y5 =>
    if y5 then
      (some (jy : Int))
    else
      (aQ (jy + 1)))
  else
    (ZM ())
def NQ (s0 : List bL) (fQ : bL) : Option Int :=
  iter (KX s0 fQ) FUEL 0
theorem ahq (S : bD) (w : World) (s0 : List bL) (gP : ak.R (List bL)) (iR : Nat) (fQ : bL) (y : Int) (hM : NQ s0 fQ = some y) (hS : sB S w) (u7 : ak.ok S w gP s0) (vg : S iR ∧ w.heap[iR]? = some (.cells (mg fQ).toArray 71 (0, 0))) :
    Calls Tryz.prog 136 #[sL gP s0, .func (.func 80) #[] #[vP iR]] w (bW w (vI y)) := by
 refine bR (args := [_, _]) Tryz.func136 rfl ((pre_nil hS).start |>.gQ (α := List bL) (r := gP) (x := s0) u7|>.yB vg) rfl ?_; unfold NQ at hM; refine sr ?_; refine oa ?_; refine on ?_; refine aD fun K2 hK2 => ?_; refine sr ?_; refine om ?_; refine jS (fun w hm => Kn.len (kG s0 gP) hm) fun hl1 => ?_; refine oe bE ?_; refine om ?_; refine on ?_; refine bf ?_; refine dF (γ := Nat × Nat × Unit) (env := fun (_, jy, _) => [(0, eS gP s0), (1, .v (.func (.func 80) #[] #[vP iR])), (7, eI (s0.length : Int)), (8, eI (jy : Int))]) (mem := fun (_, jy, _) => [iL s0 gP, yA iR 71 (mg fQ)]) (R := fun g => iter (KX s0 fQ) g.1 g.2.1 = some y) (μ := fun g => g.1) (FUEL, 0, ()) hM ⟨rfl, rfl, rfl, rfl, trivial⟩ rI ?_; clear hM; intro g hM gy hL1; obtain ⟨bJ, jy, ⟨⟩⟩ := g; dsimp only at hM ⊢; obtain ⟨bJ, aQ, rfl, dz, hM⟩ := dL hM; dsimp only [KX] at hM; refine sr ?_; refine oe bN ?_; refine on ?_
 refine aD fun K5 cu => ?_; refine cc rfl hM (fun hc2 hM => ?_) (fun hc2 hM => ?_)
 · have Qi := of_decide_eq_true hc2; refine aM (cu _ _ ?_); clear cu; refine aD fun K6 cK => ?_; refine bf ?_; refine sr ?_; refine om ?_; refine oa ?_; refine on ?_; refine sr ?_; refine om ?_; refine om ?_; refine om ?_; obtain ⟨x3, hx4, hM⟩ := bind_some hM; refine oe (bA (xs := s0) 5 (kG s0 gP) (iS hx4)) ?_; refine oe (dU (m := 5) (i := (jy : Int)) (xs := s0) (y := x3) (l := (mg x3)) 0 (kG s0 gP) (fun _ => hx4)) ?_; obtain ⟨y5, mQ, hM⟩ := bind_some hM; refine aF (NU (vs := [.agg (Bb x3)]) (cap := [vP iR]) (fun w hm => let ⟨S, hs⟩ := hm; aga _ w x3 iR fQ y5 mQ (aT hs) (EU hA hs)) ?_); refine on ?_; refine cc rfl hM (fun ku hM => ?_) (fun ku hM => ?_)
   · refine sr ?_; refine om ?_; refine oa ?_; refine on ?_; obtain rfl := some_inj hM; refine aL (aZ (fun w hm => aW hm rfl))
   refine aM (cK _ _ ?_); clear cK; refine aR ?_; refine oe (dh (hr := fun _ => by unfold eB; omega)) ?_; refine om ?_; refine aU (hL1 (bJ, (jy + 1), ()) _ _ (eqc dz hM) (Nat.lt_succ_self _) ⟨rfl, rfl, rfl, rfl, trivial⟩ rI)
 refine dD (hK2 _ _ ?_); clear hK2; dsimp only [ZM] at hM; refine sr ?_; refine oa ?_; refine on ?_; obtain rfl := some_inj hM; refine aL (aZ (fun w hm => aW hm rfl))
def KT (s0 : List bL) (fQ : bL) : Option Bool :=
  (NQ s0 fQ).bind fun y1 =>
  some (decide (0 ≤ y1))
theorem ahn (S : bD) (w : World) (s0 : List bL) (gP : ak.R (List bL)) (iR : Nat) (fQ : bL) (y : Bool) (hM : KT s0 fQ = some y) (hS : sB S w) (u7 : ak.ok S w gP s0) (vg : S iR ∧ w.heap[iR]? = some (.cells (mg fQ).toArray 71 (0, 0))) :
    Calls Tryz.prog 79 #[sL gP s0, .func (.func 80) #[] #[vP iR]] w (bW w (.bool y)) := by
 refine bR (args := [_, _]) Tryz.func79 rfl ((pre_nil hS).start |>.gQ (α := List bL) (r := gP) (x := s0) u7|>.yB vg) rfl ?_; unfold KT at hM; refine sr ?_; refine oa ?_; refine on ?_; refine sr ?_; refine om ?_; refine om ?_; obtain ⟨y1, hy2, hM⟩ := bind_some hM; refine aF (bg (fun w hm => let ⟨S, hs⟩ := hm; ahq _ w s0 gP iR fQ y1 hy2 (aT hs) (kM hs) (EU hA hs)) ?_); refine oe gW ?_; refine oa ?_; refine on ?_; obtain rfl := some_inj hM; refine aL (aZ (fun w hm => aW hm rfl))
def ZL : Unit → Option Int := fun _ =>
  some (-1)
def KV (s0 : List Line) (fQ : Line) (aQ : Nat → Option Int) : Nat → Option Int := fun jy =>
  if decide ((jy : Int) < (s0.length : Int)) then
    ((idx s0 (jy : Int)).bind fun x3 =>
    (Rh x3 fQ).bind fun y5 =>
    if y5 then
      (some (jy : Int))
    else
      (aQ (jy + 1)))
  else
    (ZL ())
def NP (s0 : List Line) (fQ : Line) : Option Int :=
  iter (KV s0 fQ) FUEL 0
theorem ahp (S : bD) (w : World) (s0 : List Line) (gP : ak.R (List Line)) (iR : Nat) (fQ : Line) (vQ : ak.R Line) (y : Int) (hM : NP s0 fQ = some y) (hS : sB S w) (u7 : ak.ok S w gP s0) (vg : S iR ∧ w.heap[iR]? = some (.cells (iW fQ vQ).toArray 56 (0, 0))) (P9 : ak.ok S w vQ fQ) :
    Calls Tryz.prog 138 #[sL gP s0, .func (.func 84) #[] #[vP iR]] w (bW w (vI y)) := by
 refine bR (args := [_, _]) Tryz.func138 rfl ((pre_nil hS).start |>.gQ (α := List Line) (r := gP) (x := s0) u7|>.yB vg|>.gQ (α := List fV) (r := vQ) (x := fQ.bq) P9) rfl ?_; unfold NP at hM; refine sr ?_; refine oa ?_; refine on ?_; refine aD fun K2 hK2 => ?_; refine sr ?_; refine om ?_; refine jS (fun w hm => Kn.len (kG s0 gP) hm) fun hl1 => ?_; refine oe bE ?_; refine om ?_; refine on ?_; refine bf ?_; refine dF (γ := Nat × Nat × Unit) (env := fun (_, jy, _) => [(0, eS gP s0), (1, .v (.func (.func 84) #[] #[vP iR])), (7, eI (s0.length : Int)), (8, eI (jy : Int))]) (mem := fun (_, jy, _) => [iL s0 gP, iL fQ.bq vQ, yA iR 56 (iW fQ vQ)]) (R := fun g => iter (KV s0 fQ) g.1 g.2.1 = some y) (μ := fun g => g.1) (FUEL, 0, ()) hM ⟨rfl, rfl, rfl, rfl, trivial⟩ rI ?_; clear hM; intro g hM gy hL1; obtain ⟨bJ, jy, ⟨⟩⟩ := g; dsimp only at hM ⊢; obtain ⟨bJ, aQ, rfl, dz, hM⟩ := dL hM; dsimp only [KV] at hM
 refine sr ?_; refine oe bN ?_; refine on ?_; refine aD fun K5 cu => ?_; refine cc rfl hM (fun hc2 hM => ?_) (fun hc2 hM => ?_)
 · have Qi := of_decide_eq_true hc2; refine aM (cu _ _ ?_); clear cu; refine aD fun K6 cK => ?_; refine bf ?_; refine sr ?_; refine om ?_; refine oa ?_; refine on ?_; refine sr ?_; refine om ?_; refine om ?_; refine om ?_; obtain ⟨x3, hx4, hM⟩ := bind_some hM; refine oe (bA (xs := s0) 4 (kG s0 gP) (iS hx4)) ?_; refine oe (dU (m := 4) (i := (jy : Int)) (xs := s0) (y := x3) (l := (iW x3 (gP.es (jy : Int).toNat))) 0 (kG s0 gP) (fun _ => hx4)) ?_; obtain ⟨y5, mQ, hM⟩ := bind_some hM; refine aF (NU (vs := [.agg (OM x3 (gP.es (jy : Int).toNat))]) (cap := [vP iR]) (fun w hm => let ⟨S, hs⟩ := hm; af5 _ w x3 (gP.es (jy : Int).toNat) iR fQ vQ y5 mQ (aT hs) (Kn.lend ((Sk.elem (Sk.dJ (α := List Line) (r := gP) (x := s0) hA) hx4)).kn hs) (EU hA hs) (kM hs)) ?_); refine on ?_; refine cc rfl hM (fun ku hM => ?_) (fun ku hM => ?_)
   · refine sr ?_; refine om ?_; refine oa ?_; refine on ?_; obtain rfl := some_inj hM; refine aL (aZ (fun w hm => aW hm rfl))
   refine aM (cK _ _ ?_); clear cK; refine aR ?_; refine oe (dh (hr := fun _ => by unfold eB; omega)) ?_; refine om ?_; refine aU (hL1 (bJ, (jy + 1), ()) _ _ (eqc dz hM) (Nat.lt_succ_self _) ⟨rfl, rfl, rfl, rfl, trivial⟩ rI)
 refine dD (hK2 _ _ ?_); clear hK2; dsimp only [ZL] at hM; refine sr ?_; refine oa ?_; refine on ?_; obtain rfl := some_inj hM; refine aL (aZ (fun w hm => aW hm rfl))
def KS (s0 : List Line) (fQ : Line) : Option Bool :=
  (NP s0 fQ).bind fun y1 =>
  some (decide (0 ≤ y1))
theorem ahm (S : bD) (w : World) (s0 : List Line) (gP : ak.R (List Line)) (iR : Nat) (fQ : Line) (vQ : ak.R Line) (y : Bool) (hM : KS s0 fQ = some y) (hS : sB S w) (u7 : ak.ok S w gP s0) (vg : S iR ∧ w.heap[iR]? = some (.cells (iW fQ vQ).toArray 56 (0, 0))) (P9 : ak.ok S w vQ fQ) :
    Calls Tryz.prog 83 #[sL gP s0, .func (.func 84) #[] #[vP iR]] w (bW w (.bool y)) := by
 refine bR (args := [_, _]) Tryz.func83 rfl ((pre_nil hS).start |>.gQ (α := List Line) (r := gP) (x := s0) u7|>.yB vg|>.gQ (α := List fV) (r := vQ) (x := fQ.bq) P9) rfl ?_; unfold KS at hM; refine sr ?_; refine oa ?_; refine on ?_; refine sr ?_; refine om ?_; refine om ?_; obtain ⟨y1, hy2, hM⟩ := bind_some hM; refine aF (bg (fun w hm => let ⟨S, hs⟩ := hm; ahp _ w s0 gP iR fQ vQ y1 hy2 (aT hs) (kM hs) (EU hA hs) (kM hs)) ?_); refine oe gW ?_; refine oa ?_; refine on ?_; obtain rfl := some_inj hM; refine aL (aZ (fun w hm => aW hm rfl))
def ZN : Unit → Option Int := fun _ =>
  some (-1)
def KY (s0 : List Turn) (fQ : Turn) (aQ : Nat → Option Int) : Nat → Option Int := fun jy =>
  if decide ((jy : Int) < (s0.length : Int)) then
    ((idx s0 (jy : Int)).bind fun x3 =>
    (Rk x3 fQ).bind fun y5 =>
    if y5 then
      (some (jy : Int))
    else
      (aQ (jy + 1)))
  else
    (ZN ())
def NR (s0 : List Turn) (fQ : Turn) : Option Int :=
  iter (KY s0 fQ) FUEL 0
theorem ahr (S : bD) (w : World) (s0 : List Turn) (gP : ak.R (List Turn)) (iR : Nat) (fQ : Turn) (y : Int) (hM : NR s0 fQ = some y) (hS : sB S w) (u7 : ak.ok S w gP s0) (vg : S iR ∧ w.heap[iR]? = some (.cells (oo fQ).toArray 94 (0, 0))) :
    Calls Tryz.prog 140 #[sL gP s0, .func (.func 93) #[] #[vP iR]] w (bW w (vI y)) := by
 refine bR (args := [_, _]) Tryz.func140 rfl ((pre_nil hS).start |>.gQ (α := List Turn) (r := gP) (x := s0) u7|>.yB vg) rfl ?_; unfold NR at hM; refine sr ?_; refine oa ?_; refine on ?_; refine aD fun K2 hK2 => ?_; refine sr ?_; refine om ?_; refine jS (fun w hm => Kn.len (kG s0 gP) hm) fun hl1 => ?_; refine oe bE ?_; refine om ?_; refine on ?_; refine bf ?_; refine dF (γ := Nat × Nat × Unit) (env := fun (_, jy, _) => [(0, eS gP s0), (1, .v (.func (.func 93) #[] #[vP iR])), (7, eI (s0.length : Int)), (8, eI (jy : Int))]) (mem := fun (_, jy, _) => [iL s0 gP, yA iR 94 (oo fQ)]) (R := fun g => iter (KY s0 fQ) g.1 g.2.1 = some y) (μ := fun g => g.1) (FUEL, 0, ()) hM ⟨rfl, rfl, rfl, rfl, trivial⟩ rI ?_; clear hM; intro g hM gy hL1; obtain ⟨bJ, jy, ⟨⟩⟩ := g; dsimp only at hM ⊢; obtain ⟨bJ, aQ, rfl, dz, hM⟩ := dL hM; dsimp only [KY] at hM; refine sr ?_; refine oe bN ?_; refine on ?_; refine aD fun K5 cu => ?_
 refine cc rfl hM (fun hc2 hM => ?_) (fun hc2 hM => ?_)
 · have Qi := of_decide_eq_true hc2; refine aM (cu _ _ ?_); clear cu; refine aD fun K6 cK => ?_; refine bf ?_; refine sr ?_; refine om ?_; refine oa ?_; refine on ?_; refine sr ?_; refine om ?_; refine om ?_; refine om ?_; obtain ⟨x3, hx4, hM⟩ := bind_some hM; refine oe (bA (xs := s0) 4 (kG s0 gP) (iS hx4)) ?_; refine oe (dU (m := 4) (i := (jy : Int)) (xs := s0) (y := x3) (l := (oo x3)) 0 (kG s0 gP) (fun _ => hx4)) ?_; obtain ⟨y5, mQ, hM⟩ := bind_some hM; refine aF (NU (vs := [.agg (UA x3)]) (cap := [vP iR]) (fun w hm => let ⟨S, hs⟩ := hm; agd _ w x3 iR fQ y5 mQ (aT hs) (EU hA hs)) ?_); refine on ?_; refine cc rfl hM (fun ku hM => ?_) (fun ku hM => ?_)
   · refine sr ?_; refine om ?_; refine oa ?_; refine on ?_; obtain rfl := some_inj hM; refine aL (aZ (fun w hm => aW hm rfl))
   refine aM (cK _ _ ?_); clear cK; refine aR ?_; refine oe (dh (hr := fun _ => by unfold eB; omega)) ?_; refine om ?_; refine aU (hL1 (bJ, (jy + 1), ()) _ _ (eqc dz hM) (Nat.lt_succ_self _) ⟨rfl, rfl, rfl, rfl, trivial⟩ rI)
 refine dD (hK2 _ _ ?_); clear hK2; dsimp only [ZN] at hM; refine sr ?_; refine oa ?_; refine on ?_; obtain rfl := some_inj hM; refine aL (aZ (fun w hm => aW hm rfl))
def KU (s0 : List Turn) (fQ : Turn) : Option Bool :=
  (NR s0 fQ).bind fun y1 =>
  some (decide (0 ≤ y1))
theorem aho (S : bD) (w : World) (s0 : List Turn) (gP : ak.R (List Turn)) (iR : Nat) (fQ : Turn) (y : Bool) (hM : KU s0 fQ = some y) (hS : sB S w) (u7 : ak.ok S w gP s0) (vg : S iR ∧ w.heap[iR]? = some (.cells (oo fQ).toArray 94 (0, 0))) :
    Calls Tryz.prog 92 #[sL gP s0, .func (.func 93) #[] #[vP iR]] w (bW w (.bool y)) := by
 refine bR (args := [_, _]) Tryz.func92 rfl ((pre_nil hS).start |>.gQ (α := List Turn) (r := gP) (x := s0) u7|>.yB vg) rfl ?_; unfold KU at hM; refine sr ?_; refine oa ?_; refine on ?_; refine sr ?_; refine om ?_; refine om ?_; obtain ⟨y1, hy2, hM⟩ := bind_some hM; refine aF (bg (fun w hm => let ⟨S, hs⟩ := hm; ahr _ w s0 gP iR fQ y1 hy2 (aT hs) (kM hs) (EU hA hs)) ?_); refine oe gW ?_; refine oa ?_; refine on ?_; obtain rfl := some_inj hM; refine aL (aZ (fun w hm => aW hm rfl))
end Go.Proofs.YtcalibhfgdncaaaGreatDoor
