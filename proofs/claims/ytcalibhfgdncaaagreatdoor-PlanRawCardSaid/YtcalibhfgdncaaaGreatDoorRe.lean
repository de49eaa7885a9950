/- Models of functions, and that the code computes them. -/
import Derived.Test.YtcalibhfgdncaaaGreatDoorRd
set_option linter.all false
namespace Go.Proofs.YtcalibhfgdncaaaGreatDoor
open Go.Dc Go.RowKit
set_option maxRecDepth 10000
def OV (x0 : Int) (p1 : Int) : Option (Int × Int) :=
  some ((IntKind.u64.wrap ((IntKind.u64.wrap ((IntKind.u64.wrap ((wY .u64 x0 32) * (wY .u64 p1 32))) + (wY .u64 (IntKind.u64.wrap ((IntKind.u64.wrap ((wY .u64 x0 32) * (xL .u64 p1 4294967295))) + (wY .u64 (IntKind.u64.wrap ((xL .u64 x0 4294967295) * (xL .u64 p1 4294967295))) 32))) 32))) + (wY .u64 (IntKind.u64.wrap ((xL .u64 (IntKind.u64.wrap ((IntKind.u64.wrap ((wY .u64 x0 32) * (xL .u64 p1 4294967295))) + (wY .u64 (IntKind.u64.wrap ((xL .u64 x0 4294967295) * (xL .u64 p1 4294967295))) 32))) 4294967295) + (IntKind.u64.wrap ((xL .u64 x0 4294967295) * (wY .u64 p1 32))))) 32))), (IntKind.u64.wrap (x0 * p1)))
theorem aaA (S : bD) (w : World) (x0 : Int) (p1 : Int) (y : Int × Int) (hM : OV x0 p1 = some y) (hS : sB S w)  :
    Calls Tryz.prog 219 #[.int .u64 x0, .int .u64 p1] w (bW w (.tuple #[.int .u64 y.1, .int .u64 y.2])) := by
 refine bR (args := [_, _]) Tryz.func219 rfl ((pre_nil hS).start) rfl ?_; unfold OV at hM; refine sr ?_; refine oa ?_; refine oa ?_; refine on ?_; refine sr ?_; refine om ?_; refine oe Pm ?_; refine oa ?_; refine on ?_; refine sr ?_; refine om ?_; refine oe (Il (q := 32) (fun _ => by decide)) ?_; refine oa ?_; refine on ?_; refine sr ?_; refine om ?_; refine oe Pm ?_; refine oa ?_; refine on ?_; refine sr ?_; refine om ?_; refine oe (Il (q := 32) (fun _ => by decide)) ?_; refine oa ?_; refine on ?_; refine sr ?_; refine om ?_; refine om ?_; refine oe Dw ?_; refine oa ?_; refine on ?_; refine sr ?_; refine om ?_; refine om ?_; refine oe Dw ?_; refine om ?_; refine oe (Il (q := 32) (fun _ => by decide)) ?_; refine oe Dt ?_; refine oa ?_; refine on ?_; refine sr ?_; refine om ?_; refine oe Pm ?_; refine oa ?_
 refine on ?_; refine sr ?_; refine om ?_; refine oe (Il (q := 32) (fun _ => by decide)) ?_; refine oa ?_; refine on ?_; refine sr ?_; refine om ?_; refine om ?_; refine om ?_; refine oe Dw ?_; refine oe Dt ?_; refine oa ?_; refine on ?_; refine sr ?_; refine om ?_; refine om ?_; refine oe Dw ?_; refine om ?_; refine oe Dt ?_; refine om ?_; refine oe (Il (q := 32) (fun _ => by decide)) ?_; refine oe Dt ?_; refine oa ?_; refine on ?_; refine sr ?_; refine om ?_; refine om ?_; refine oe Dw ?_; refine oa ?_; refine on ?_; obtain rfl := some_inj hM; refine aL (jQ (fun w hm => aW hm rfl))
def Ma (x0 : Int) (p1 : Int) : Option (Int × Int) :=
  (OV x0 p1).bind fun y1 =>
  some (y1.1, y1.2)
theorem aaB (S : bD) (w : World) (x0 : Int) (p1 : Int) (y : Int × Int) (hM : Ma x0 p1 = some y) (hS : sB S w)  :
    Calls Tryz.prog 213 #[.int .u64 x0, .int .u64 p1] w (bW w (.tuple #[.int .u64 y.1, .int .u64 y.2])) := by
 refine bR (args := [_, _]) Tryz.func213 rfl ((pre_nil hS).start) rfl ?_; unfold Ma at hM; refine sr ?_; refine oa ?_; refine oa ?_; refine on ?_; refine aD fun K2 hK2 => ?_; refine O7 rfl rfl ?_; refine aM (hK2 _ _ ?_); clear hK2; refine sr ?_; refine om ?_; refine om ?_; obtain ⟨y1, hy2, hM⟩ := bind_some hM; refine aF (bg (fun w hm => let ⟨S, hs⟩ := hm; aaA _ w x0 p1 y1 hy2 (aT hs) ) ?_); refine om ?_; refine oe (gF (vs := [.int .u64 y1.1, .int .u64 y1.2])) ?_; refine oe (gF (vs := [.int .u64 y1.1, .int .u64 y1.2])) ?_; refine oa ?_; refine oa ?_; refine on ?_; refine sr ?_; refine om ?_; refine om ?_; refine oa ?_; refine oa ?_; refine on ?_; obtain rfl := some_inj hM; refine aL (jQ (fun w hm => aW hm rfl))
def ZO (pX : List Cell) : Unit → Option (List Cell) := fun _ =>
  some pX
def KZ (aQ : ((List Cell) × Int) → Option (List Cell)) : ((List Cell) × Int) → Option (List Cell) := fun (pX, gH) =>
  if decide (gH < (pX.length : Int)) then
    ((sub pX gH (pX.length : Int)).bind fun l9 =>
    (sub pX 0 gH).bind fun Jt =>
    (wF pX (gH.toNat) l9.length Jt).bind fun vE =>
    bM (bP (gH + ((Nat.min Jt.length l9.length : Nat) : Int))) <|
    aQ (vE, (gH + ((Nat.min Jt.length l9.length : Nat) : Int))))
  else
    (ZO pX ())
def NT (y1 : Int × Int) (x0 : List Cell) : Unit → Option (List Cell) := fun _ =>
  (mk (α := Cell) (Cell.mk 0 0) (IntKind.i64.wrap y1.2)).bind fun m3 =>
  (wF m3 0 m3.length x0).bind fun l6 =>
  iter (KZ) FUEL (l6, ((Nat.min x0.length m3.length : Nat) : Int))
def NS (x0 : List Cell) (wD : Int) : Unit → Option (List Cell) := fun _ =>
  (Ma (IntKind.u64.wrap (x0.length : Int)) (IntKind.u64.wrap wD)).bind fun y1 =>
  if (decide (0 < y1.1) || decide (9223372036854775807 < y1.2)) then
    (none)
  else
    (NT y1 x0 ())
def La (x0 : List Cell) (wD : Int) : Option (List Cell) :=
  if decide (wD < 0) then
    (none)
  else
    (NS x0 wD ())
theorem ahs (S : bD) (w : World) (x0 : List Cell) (Ag : ak.R (List Cell)) (wD : Int) (y : (List Cell)) (hM : La x0 wD = some y) (hS : sB S w) (ab9 : ak.ok S w Ag x0) :
    Calls Tryz.prog 202 #[sL Ag x0, vI wD] w (Post (β := (ak.R (List Cell))) S [] (fun g => sL g y) (fun g => [aO 254 g y]) w) := by
 refine bR (args := [_, _]) Tryz.func202 rfl ((pre_nil hS).start |>.gQ (α := List Cell) (r := Ag) (x := x0) ab9) rfl ?_; unfold La at hM; refine sr ?_; refine oa ?_; refine on ?_; refine iH (γ := Unit × Unit) (env := fun (_, _) => [(0, eS Ag x0), (1, eI wD)]) (mem := fun (_, _) => [iL x0 Ag]) (R := fun g => NS x0 wD g.1 = some y) ?_ ?_
 · intro wm eY; refine sr ?_; refine om ?_; refine oe bN ?_; refine on ?_; refine cc rfl hM (fun hc19 hM => ?_) (fun hc19 hM => ?_)
   · refine aR ?_; cases hM
   refine aM (eY ((), ()) _ _ hM ⟨rfl, rfl, trivial⟩ rI)
 clear hM; intro g hM; obtain ⟨⟨⟩, ⟨⟩⟩ := g; dsimp only at hM ⊢; dsimp only [NS] at hM; refine sr ?_; refine om ?_; refine oe bE ?_; refine oe (Ih .u64) ?_; refine om ?_; refine oe (Ih .u64) ?_; obtain ⟨y1, hy2, hM⟩ := bind_some hM; refine aF (bg (fun w hm => let ⟨S, hs⟩ := hm; aaB _ w (IntKind.u64.wrap (x0.length : Int)) (IntKind.u64.wrap wD) y1 hy2 (aT hs) ) ?_); refine om ?_; refine oe (gF (vs := [.int .u64 y1.1, .int .u64 y1.2])) ?_; refine oe (gF (vs := [.int .u64 y1.1, .int .u64 y1.2])) ?_; refine oa ?_; refine oa ?_; refine on ?_; refine iH (γ := Unit × Unit) (env := fun (_, _) => [(0, eS Ag x0), (6, .v (.int .u64 y1.2))]) (mem := fun (_, _) => [iL x0 Ag]) (R := fun g => NT y1 x0 g.1 = some y) ?_ ?_
 · intro uO hJ2; refine sr ?_; refine om ?_; refine oe fP ?_; refine om ?_; refine av rfl aG ?_; refine av rfl fP ?_; refine oe dw ?_; refine on ?_; refine cc rfl hM (fun hc18 hM => ?_) (fun hc18 hM => ?_)
   · refine aR ?_; cases hM
   refine aM (hJ2 ((), ()) _ _ hM ⟨rfl, rfl, trivial⟩ rI)
 clear hM; intro g hM; obtain ⟨⟨⟩, ⟨⟩⟩ := g; dsimp only at hM ⊢; dsimp only [NT] at hM; refine sr ?_; refine om ?_; refine oe (Ih .i64) ?_; obtain ⟨m3, hm4, hM⟩ := bind_some hM; refine aF (ZU (α := Cell) (e := 254) (Cell.mk 0 0) () hm4 (fun _ _ => trivial) (fun r5 hr5 => ?_)); refine oa ?_; refine on ?_; refine sr ?_; refine om ?_; refine om ?_; obtain ⟨l6, ME, hM⟩ := bind_some hM; refine aF (ZT (r := r5) (xs := m3) uA (kG x0 Ag) ME From.all (fun _ _ _ _ => trivial) (fun _ _ _ => rfl) ?_); refine Ra 30 (v' := sL r5 l6) rfl (by simp only [Bl ME, List.length_set, eS, sL]) ?_; refine Ra 7 (v' := sL r5 l6) rfl (by simp only [Bl ME, List.length_set, eS, sL]) ?_; refine Ra 31 (v' := sL r5 l6) rfl (by simp only [Bl ME, List.length_set, eS, sL]) ?_; refine oa ?_; refine on ?_; refine aD fun K5 cu => ?_; refine bf ?_; refine dF (γ := Nat × ((List Cell) × Int) × Unit) (env := fun (_, (pX, gH), _) => [(7, eS r5 pX), (8, eI gH)]) (mem := fun (_, (pX, gH), _) => [aO 254 r5 pX]) (R := fun g => iter (KZ) g.1 g.2.1 = some y) (μ := fun g => g.1) (FUEL, (l6, ((Nat.min x0.length m3.length : Nat) : Int)), ()) hM ⟨rfl, rfl, trivial⟩ rI ?_
 clear hM; intro g hM gy hL1; obtain ⟨bJ, ⟨pX, gH⟩, ⟨⟩⟩ := g; dsimp only at hM ⊢; obtain ⟨bJ, aQ, rfl, dz, hM⟩ := dL hM; dsimp only [KZ] at hM; refine aD fun K6 cK => ?_; refine sr ?_; refine om ?_; refine om ?_; refine oe bE ?_; refine oe bN ?_; refine on ?_; refine cc rfl hM (fun hc8 hM => ?_) (fun hc8 hM => ?_)
 · refine aM (cK _ _ ?_); clear cK; refine bf ?_; refine fA [] (by repeat (first | exact List.Sublist.refl _ | apply List.Sublist.cons_cons | apply List.Sublist.cons)) ?_; refine au 0 rfl aG ?_; refine au 1 rfl aG ?_; refine au 2 rfl aG ?_; obtain ⟨l9, acY, hM⟩ := bind_some hM; refine OO (fun w hm => Kn.U7 (Kn.aO (e := 254) (r := r5) hA) hm) fun acR => ?_; refine au 3 rfl (Vt (xs := pX) (ol := some (.i64, gH)) (oh := none) acR (fun _ => acY)) ?_; refine au 4 rfl aG ?_; refine au 5 rfl aG ?_; obtain ⟨Jt, V6, hM⟩ := bind_some hM; refine OO (fun w hm => Kn.U7 (Kn.aO (e := 254) (r := r5) hA) hm) fun acS => ?_; refine au 6 rfl (Vt (xs := pX) (ol := none) (oh := some (.i64, gH)) acS (fun _ => V6)) ?_; obtain ⟨vE, Jq, hM⟩ := bind_some hM; refine bB 7 rfl (ZT (r := r5) (xs := pX) uA (Kn.ahH (Kn.aO (e := 254) (r := r5) hA) V6) Jq From.sub (fun _ _ _ _ => trivial) (fun _ _ _ => rfl) ⟨rI, ?_⟩); refine LY 7 (v' := sL r5 vE) rfl (by simp only [Bl Jq, List.length_set, eS, sL]) ?_; refine LY 35 (v' := sL r5 vE) rfl (by simp only [Bl Jq, List.length_set, eS, sL]) ?_; refine LY 39 (v' := sL r5 vE) rfl (by simp only [Bl Jq, List.length_set, eS, sL]) ?_; refine LY 42 (v' := sL r5 vE) rfl (by simp only [Bl Jq, List.length_set, eS, sL]) ?_; obtain ⟨IC, hM⟩ := bO hM; refine au 8 rfl (dh (hr := fun hg => dn IC)) ?_
   refine au 9 rfl bX ?_; refine dG (hL1 (bJ, (vE, (gH + ((Nat.min Jt.length l9.length : Nat) : Int))), ()) _ _ (eqc dz hM) (Nat.lt_succ_self _) ⟨rfl, rfl, trivial⟩ rI)
 refine dD (cu _ _ ?_); clear cu; dsimp only [ZO] at hM; refine sr ?_; refine om ?_; refine oa ?_; refine on ?_; obtain rfl := some_inj hM; refine aL (aZ (fun w hm => fO r5 hm rfl))
def Av (iM : Section) (og : List Cell) (aQ : ((List Cell) × Nat) → Option ((List Cell) × Int × Int)) (rH : Nat) : Int → Option ((List Cell) × Int × Int) := fun Bh =>
  (La ([(Cell.mk iM.Limit Bh)] : List Cell) iM.Length).bind fun y22 =>
  bM (decide ((og.length + y22.length) * 16 ≤ 140737488355328)) <|
  aQ ((og ++ y22), rH + 1)
def SI (og : List Cell) (r0 : aV) (l0 : Layout) : Unit → Option ((List Cell) × Int × Int) := fun _ =>
  if decide (4000 < (og.length : Int)) then
    (some (([] : List Cell), 0, 7))
  else
    ((idx r0.Steps 0).bind fun x31 =>
    (idx l0.Sections x31.Section).bind fun iq =>
    some (og, iq.Length, 0))
def Gc (l8 : List Step) (l0 : Layout) (r0 : aV) (aQ : ((List Cell) × Nat) → Option ((List Cell) × Int × Int)) : ((List Cell) × Nat) → Option ((List Cell) × Int × Int) := fun (og, rH) =>
  if decide ((rH : Int) < (l8.length : Int)) then
    ((idx l8 (rH : Int)).bind fun iY =>
    (idx l0.Sections iY.Section).bind fun iM =>
    if decide (iY.Dir = 1) then
      (bM (bP (-iM.iE)) <|
      Av iM og aQ rH (-iM.iE))
    else
      (Av iM og aQ rH iM.iE))
  else
    (SI og r0 l0 ())
def KE (l0 : Layout) (r0 : aV) : Option ((List Cell) × Int × Int) :=
  (Gd l0 r0).bind fun y3 =>
  if decide (y3 ≠ 0) then
    (some (([] : List Cell), 0, y3))
  else
    (bM (bP ((r0.Steps.length : Int) - r0.Overlap)) <|
    (sub r0.Steps 0 ((r0.Steps.length : Int) - r0.Overlap)).bind fun l8 =>
    iter (Gc l8 l0 r0) FUEL (([] : List Cell), 0))
theorem agX (S : bD) (w : World) (l0 : Layout) (aj : ak.R Layout) (r0 : aV) (bC : ak.R aV) (y : (List Cell) × Int × Int) (hM : KE l0 r0 = some y) (hS : sB S w) (dH : ak.ok S w aj l0) (kZ : ak.ok S w bC r0) :
    Calls Tryz.prog 193 #[.agg (iy l0 aj), .agg (qM r0 bC)] w (Post (β := (ak.R (List Cell))) S [] (fun g => .tuple #[sL g y.1, vI y.2.1, vI y.2.2]) (fun g => [aO 254 g y.1]) w) := by
 refine bR (args := [_, _]) Tryz.func193 rfl ((pre_nil hS).start |>.jw dH|>.gQ (α := List Step) (r := bC) (x := r0.Steps) kZ) rfl ?_; unfold KE at hM; refine sr ?_; refine aF (bU (l := (bK l0 aj)) (k := fun b1 => ?_)); refine aF (bU (l := (gJ r0 bC)) (k := fun b2 => ?_)); refine oa ?_; refine oa ?_; refine oa ?_; refine on ?_; refine aD fun K2 hK2 => ?_; refine sr ?_; refine oe (bH (b := b1)) ?_; refine oe (bH (b := b2)) ?_; obtain ⟨y3, hy4, hM⟩ := bind_some hM; refine aF (bg (fun w hm => let ⟨S, hs⟩ := hm; Zl _ w l0 aj r0 bC y3 hy4 (aT hs) ⟨(kM hs), (kM hs), (kM hs), (kM hs)⟩ (kM hs)) ?_); refine oa ?_; refine on ?_; refine sr ?_; refine om ?_; refine oe fB ?_; refine on ?_
 refine cc rfl hM (fun gX hM => ?_) (fun gX hM => ?_)
 · refine sr ?_; refine om ?_; refine oa ?_; refine oa ?_; refine oa ?_; refine on ?_; refine fZ (fun w hm => hm.fF (α := Cell) 254 (fun _ => ())) ?_; obtain rfl := some_inj hM; refine aL (qY (fun w hm => fO (⟨none, 0, (fun _ => ())⟩ : SR (ak.R Cell) ) hm rfl))
 refine aM (hK2 _ _ ?_); clear hK2; refine sr ?_; refine oa ?_; refine on ?_; refine aD fun K7 dI => ?_; refine sr ?_; refine oe (ay 0) ?_; refine oe (aC (b := b2)) ?_; refine oe (ay 0) ?_; refine oe (aC (b := b2)) ?_; refine oe bE ?_; refine oe (ay 1) ?_; refine oe (aC (b := b2)) ?_; obtain ⟨Bw, hM⟩ := bO hM; refine oe (jo (hr := fun hg => dn Bw)) ?_; obtain ⟨l8, hl9, hM⟩ := bind_some hM; refine aF (Gs (r := bC) (xs := r0.Steps) (ol := none) (oh := some (.i64, ((r0.Steps.length : Int) - r0.Overlap))) (Sk.dJ (α := List Step) (r := bC) (x := r0.Steps) hA) hl9 (fun yw => ?_)); refine jS (fun w hm => Kn.len (kG l8 yw) hm) fun acZ => ?_; refine oe bE ?_; refine om ?_; refine on ?_; refine bf ?_; refine fZ (fun w hm => hm.fF (α := Cell) 254 (fun _ => ())) ?_; refine dF (γ := Nat × ((List Cell) × Nat) × (SR (ak.R Cell))) (env := fun (_, (og, rH), Ai) => [(2, eP b1), (3, eP b2), (8, eS Ai og), (27, eS yw l8), (28, eI (l8.length : Int)), (29, eI (rH : Int))]) (mem := fun (_, (og, rH), Ai) => [iL l0.aX aj.1, iL l0.bF aj.2.1, iL l0.Sections aj.2.2.1, iL l0.Links aj.2.2.2, own b1 26 (bK l0 aj), iL r0.Steps bC, own b2 90 (gJ r0 bC), aO 254 Ai og, iL l8 yw]) (R := fun g => iter (Gc l8 l0 r0) g.1 g.2.1 = some y) (μ := fun g => g.1) (FUEL, (([] : List Cell), 0), (⟨none, 0, (fun _ => ())⟩ : SR (ak.R Cell)  )) hM ⟨rfl, rfl, rfl, rfl, rfl, rfl, trivial⟩ rI ?_
 clear hM; intro g hM gy hL1; obtain ⟨bJ, ⟨og, rH⟩, Ai⟩ := g; dsimp only at hM ⊢; obtain ⟨bJ, aQ, rfl, dz, hM⟩ := dL hM; dsimp only [Gc] at hM; refine sr ?_; refine oe bN ?_; refine on ?_; refine aD fun pE gu => ?_; refine cc rfl hM (fun vo hM => ?_) (fun vo hM => ?_)
 · have acs := of_decide_eq_true vo; refine aM (gu _ _ ?_); clear gu; refine aD fun oG fM => ?_; refine bf ?_; refine sr ?_; obtain ⟨iY, zS, hM⟩ := bind_some hM; refine oe (bA (xs := l8) 2 (kG l8 yw) (iS zS)) ?_; refine oe (dU (m := 2) (i := (rH : Int)) (xs := l8) (y := iY) (l := (kK iY)) 0 (kG l8 yw) (fun _ => zS)) ?_; refine aF (bQ rfl (k := fun b16 => ?_)); refine aF (bI (b := b16) (vs := (kK iY)) (k := ?_)); refine on ?_; refine sr ?_; refine oe (ay 2) ?_; refine oe (aC (b := b1)) ?_; refine oe (ay 0) ?_; refine oe (aC (b := b16)) ?_; obtain ⟨iM, sG, hM⟩ := bind_some hM; refine oe (bA (xs := l0.Sections) 5 (kG l0.Sections aj.2.2.1) (iS sG)) ?_; refine oe (dU (m := 5) (i := iY.Section) (xs := l0.Sections) (y := iM) (l := (yg iM)) 0 (kG l0.Sections aj.2.2.1) (fun _ => sG)) ?_; refine aF (bQ rfl (k := fun b19 => ?_)); refine aF (bI (b := b19) (vs := (yg iM)) (k := ?_))
   refine on ?_; refine sr ?_; refine oe (ay 2) ?_; refine oe (aC (b := b19)) ?_; refine oe (ay 3) ?_; refine oe (aC (b := b19)) ?_; refine oe (jE [vI iM.Limit, vI iM.iE]) ?_; refine aF (bQ rfl (k := fun b20 => ?_)); refine aF (bI (b := b20) (vs := [vI iM.Limit, vI iM.iE]) (k := ?_)); refine on ?_; refine iH (γ := Int × Unit) (env := fun (Bh, _) => [(2, eP b1), (3, eP b2), (8, eS Ai og), (11, eP b19), (12, eP b20), (27, eS yw l8), (28, eI (l8.length : Int)), (29, eI (rH : Int))]) (mem := fun (Bh, _) => [iL l0.aX aj.1, iL l0.bF aj.2.1, iL l0.Sections aj.2.2.1, iL l0.Links aj.2.2.2, own b1 26 (bK l0 aj), iL r0.Steps bC, own b2 90 (gJ r0 bC), aO 254 Ai og, own b19 81 (yg iM), own b20 254 [vI iM.Limit, vI Bh], iL l8 yw]) (R := fun g => Av iM og aQ rH g.1 = some y) ?_ ?_
   · intro uO hJ2; refine sr ?_; refine oe (ay 1) ?_; refine oe (aC (b := b16)) ?_; refine oe dS ?_; refine on ?_; refine cc rfl hM (fun hc27 hM => ?_) (fun hc27 hM => ?_)
     · refine aR ?_; refine oe (ay 1) ?_; refine oe (aC (b := b20)) ?_; obtain ⟨IG, hM⟩ := bO hM; refine oe (Mq (hr := fun hg => dn IG)) ?_; refine oe (ay 1) ?_; refine aF (qh (b := b20) (l' := [vI iM.Limit, vI (-iM.iE)]) (k := ?_)); refine aU (hJ2 ((-iM.iE), ()) _ _ hM ⟨rfl, rfl, rfl, rfl, rfl, rfl, rfl, rfl, trivial⟩ rI)
     refine aM (hJ2 (iM.iE, ()) _ _ hM ⟨rfl, rfl, rfl, rfl, rfl, rfl, rfl, rfl, trivial⟩ rI)
   clear hM; intro g hM; obtain ⟨Bh, ⟨⟩⟩ := g; dsimp only at hM ⊢; dsimp only [Av] at hM; refine aR ?_; refine om ?_; refine oe (bH (b := b20)) ?_; refine aF (kE (α := Cell) 254 (fun _ => ()) ([(Cell.mk iM.Limit Bh)] : List Cell) oF (fun ET => ?_)); refine oe (ay 1) ?_; refine oe (aC (b := b19)) ?_; obtain ⟨y22, vC, hM⟩ := bind_some hM; refine aF (mK iQ.nil (fun S w hs hP => ahs _ w ([(Cell.mk iM.Limit Bh)] : List Cell) ET iM.Length y22 vC (aT hs) (kT hs)) pJ (fun oV => ?_)); dsimp only [List.cons_append, List.nil_append]; obtain ⟨acj, hM⟩ := bO hM; refine aF (ow (r := Ai) (r2 := oV) uR (Kn.aO (e := 254) (r := oV) hA) oF (of_decide_eq_true acj) (fun r25 => ?_)); refine oa ?_; refine aU (fM _ _ ?_); clear fM; refine aR ?_; refine oe (dh (hr := fun _ => by unfold eB; omega)) ?_; refine om ?_; refine aU (hL1 (bJ, ((og ++ y22), rH + 1), r25) _ _ (eqc dz hM) (Nat.lt_succ_self _) ⟨rfl, rfl, rfl, rfl, rfl, rfl, trivial⟩ rI)
 refine dD (dI _ _ ?_); clear dI; dsimp only [SI] at hM; refine aD fun xu j5 => ?_; refine sr ?_; refine om ?_; refine oe bE ?_; refine oe fP ?_; refine on ?_; refine cc rfl hM (fun hc29 hM => ?_) (fun hc29 hM => ?_)
 · refine sr ?_; refine oa ?_; refine oa ?_; refine oa ?_; refine on ?_; refine fZ (fun w hm => hm.fF (α := Cell) 254 (fun _ => ())) ?_; obtain rfl := some_inj hM; refine aL (qY (fun w hm => fO (⟨none, 0, (fun _ => ())⟩ : SR (ak.R Cell)       ) hm rfl))
 refine aM (j5 _ _ ?_); clear j5; refine aD fun ze kQ => ?_; refine fA _ (List.Sublist.refl _) ?_; refine au 0 rfl aG ?_; refine au 1 rfl (ay 2) ?_; refine au 2 rfl (aC (b := b1)) ?_; refine au 3 rfl (ay 0) ?_; refine au 4 rfl (aC (b := b2)) ?_; obtain ⟨x31, hx32, hM⟩ := bind_some hM; refine au 5 rfl (bA (xs := r0.Steps) 2 (kG r0.Steps bC) (iS hx32)) ?_; refine au 6 rfl (ay 0) ?_; refine au 7 rfl (cZ (i := 0) (xs := r0.Steps) (y := x31) 0 (kG r0.Steps bC) (fun _ => hx32)) ?_; obtain ⟨iq, hx34, hM⟩ := bind_some hM; refine au 8 rfl (bA (xs := l0.Sections) 5 (kG l0.Sections aj.2.2.1) (iS hx34)) ?_; refine au 9 rfl (ay 1) ?_; refine au 10 rfl (cZ (i := x31.Section) (xs := l0.Sections) (y := iq) 1 (kG l0.Sections aj.2.2.1) (fun _ => hx34)) ?_; refine au 11 rfl bX ?_; refine au 12 rfl bX ?_; refine au 13 rfl bX ?_; refine dG (kQ _ _ ?_); clear kQ; obtain rfl := some_inj hM; refine aL (qY (fun w hm => fO Ai hm rfl))
end Go.Proofs.YtcalibhfgdncaaaGreatDoor
