/- Models of functions, and that the code computes them. -/
import Derived.Test.YtcalibhfgdncaaaGreatDoorWa
import Derived.Test.YtcalibhfgdncaaaGreatDoorBu
set_option linter.all false
namespace Go.Proofs.YtcalibhfgdncaaaGreatDoor
open Go.Dc Go.RowKit
set_option maxRecDepth 10000
def TD (s0 : Str) : Unit → Option Bool := fun _ =>
  some (!decide (s0 = (⟨[]⟩ : Str)))
def GN (s0 : Str) (aQ : Nat → Option Bool) : Nat → Option Bool := fun AO =>
  if decide ((AO : Int) < (s0.l.length : Int)) then
    ((kP s0 (AO : Int)).bind fun c3 =>
    (GL c3).bind fun y5 =>
    if decide (y5 ≠ 4) then
      (some false)
    else
      (aQ (AO + 1)))
  else
    (TD s0 ())
def Lr (s0 : Str) : Option Bool :=
  bM (decide ((s0.l.length : Int) ≤ 9223372036854775807)) <|
  iter (GN s0) FUEL 0
theorem ahT (S : bD) (w : World) (s0 : Str) (y : Bool) (hM : Lr s0 = some y) (hS : sB S w)  :
    Calls Tryz.prog 113 #[.string s0.ba] w (bW w (.bool y)) := by
 refine bR (args := [_]) Tryz.func113 rfl ((pre_nil hS).start) rfl ?_; unfold Lr at hM; refine sr ?_; refine oa ?_; refine on ?_; refine aD fun K2 hK2 => ?_; refine sr ?_; refine om ?_; obtain ⟨hl1, hM⟩ := bO hM; replace hl1 := of_decide_eq_true hl1; refine oe oI ?_; refine om ?_; refine on ?_; refine bf ?_; refine dF (γ := Nat × Nat × Unit) (env := fun (_, AO, _) => [(0, .v (.string s0.ba)), (5, eI (s0.l.length : Int)), (6, eI (AO : Int))]) (mem := fun (_, AO, _) => []) (R := fun g => iter (GN s0) g.1 g.2.1 = some y) (μ := fun g => g.1) (FUEL, 0, ()) hM ⟨rfl, rfl, rfl, trivial⟩ rI ?_; clear hM; intro g hM gy hL1; obtain ⟨bJ, AO, ⟨⟩⟩ := g; dsimp only at hM ⊢; obtain ⟨bJ, aQ, rfl, dz, hM⟩ := dL hM; dsimp only [GN] at hM; refine sr ?_; refine oe bN ?_; refine on ?_; refine aD fun K5 cu => ?_; refine cc rfl hM (fun hc2 hM => ?_) (fun hc2 hM => ?_)
 · have Qi := of_decide_eq_true hc2; refine aM (cu _ _ ?_); clear cu; refine aD fun K6 cK => ?_; refine bf ?_; refine sr ?_; refine om ?_; refine oa ?_; refine on ?_; refine sr ?_; refine om ?_; refine om ?_; obtain ⟨c3, acO, hM⟩ := bind_some hM; refine oe (nH (fun _ => acO)) ?_; obtain ⟨y5, mQ, hM⟩ := bind_some hM; refine aF (bg (fun w hm => let ⟨S, hs⟩ := hm; ahR _ w c3 y5 mQ (aT hs) ) ?_); refine oe fB ?_; refine on ?_; refine cc rfl hM (fun ku hM => ?_) (fun ku hM => ?_)
   · refine sr ?_; refine oa ?_; refine on ?_; obtain rfl := some_inj hM; refine aL (aZ (fun w hm => aW hm rfl))
   refine aM (cK _ _ ?_); clear cK; refine aR ?_; refine oe (dh (hr := fun _ => by unfold eB; omega)) ?_; refine om ?_; refine aU (hL1 (bJ, (AO + 1), ()) _ _ (eqc dz hM) (Nat.lt_succ_self _) ⟨rfl, rfl, rfl, trivial⟩ rI)
 refine dD (hK2 _ _ ?_); clear hK2; dsimp only [TD] at hM; refine sr ?_; refine om ?_; refine oe Im ?_; refine oa ?_; refine on ?_; obtain rfl := some_inj hM; refine aL (aZ (fun w hm => aW hm rfl))
def GI (x10 : Str) (iA : ((List UInt8) × Nat) → Option Str) (qJ : Nat) : (List UInt8) → Option Str := fun xZ =>
  bM (decide (xZ.length + x10.l.length ≤ 140737488355328)) <|
  iA ((xZ ++ x10.l), qJ + 1)
def TB (aQ : ((List UInt8) × Nat) → Option Str) (nN : List UInt8) (dZ : Nat) : Unit → Option Str := fun _ =>
  aQ ((nN ++ [u8 10]), dZ + 1)
def Lm (nN : List UInt8) (aQ : ((List UInt8) × Nat) → Option Str) (dZ : Nat) : Unit → Option Str := fun _ =>
  bM (decide ((nN.length + 1) * 1 ≤ 140737488355328)) <|
  TB aQ nN dZ ()
def CS (x5 : List Str) (aQ : ((List UInt8) × Nat) → Option Str) (dZ : Nat) (iA : ((List UInt8) × Nat) → Option Str) : ((List UInt8) × Nat) → Option Str := fun (nN, qJ) =>
  if decide ((qJ : Int) < (x5.length : Int)) then
    ((idx x5 (qJ : Int)).bind fun x10 =>
    (Lr x10).bind fun pq =>
    if (!pq) then
      (some (⟨[]⟩ : Str))
    else
      (if decide (0 < (qJ : Int)) then
        (bM (decide ((nN.length + 1) * 1 ≤ 140737488355328)) <|
        GI x10 iA qJ (nN ++ [u8 32]))
      else
        (GI x10 iA qJ nN)))
  else
    (Lm nN aQ dZ ())
def aag (vK : List UInt8) : Unit → Option Str := fun _ =>
  some (⟨vK⟩ : Str)
def GH (l0 : List (List Str)) (aQ : ((List UInt8) × Nat) → Option Str) : ((List UInt8) × Nat) → Option Str := fun (vK, dZ) =>
  if decide ((dZ : Int) < (l0.length : Int)) then
    ((idx l0 (dZ : Int)).bind fun x5 =>
    if (decide ((x5.length : Int) = 0) || decide (64 < (x5.length : Int))) then
      (some (⟨[]⟩ : Str))
    else
      (iter (CS x5 aQ dZ) FUEL (vK, 0)))
  else
    (aag vK ())
def AP (l0 : List (List Str)) : Option Str :=
  iter (GH l0) FUEL (([] : List UInt8), 0)
theorem ahQ (S : bD) (w : World) (l0 : List (List Str)) (aj : ak.R (List (List Str))) (y : Str) (hM : AP l0 = some y) (hS : sB S w) (dH : ak.ok S w aj l0) :
    Calls Tryz.prog 50 #[sL aj l0] w (bW w (.string y.ba)) := by
 refine bR (args := [_]) Tryz.func50 rfl ((pre_nil hS).start |>.gQ (α := List (List Str)) (r := aj) (x := l0) dH) rfl ?_; unfold AP at hM; refine sr ?_; refine oa ?_; refine on ?_; refine sr ?_; refine aF (bQ rfl (k := fun b1 => ?_)); refine p9 (fun w hm => hm.fF (α := UInt8) 5 (fun _ => ())) ?_; refine on ?_; refine aD fun K3 hK3 => ?_; refine sr ?_; refine om ?_; refine jS (fun w hm => Kn.len (kG l0 aj) hm) fun hl3 => ?_; refine oe bE ?_; refine om ?_; refine on ?_; refine bf ?_; refine dF (γ := Nat × ((List UInt8) × Nat) × (Bool × (SR (ak.R UInt8)))) (env := fun (_, (vK, dZ), (Ll, Gm)) => [(3, eP b1), (8, eS aj l0), (9, eI (l0.length : Int)), (10, eI (dZ : Int))]) (mem := fun (_, (vK, dZ), (Ll, Gm)) => [aO 5 Gm vK, own b1 176 [lV Ll b1, sL Gm vK], iL l0 aj]) (R := fun g => iter (GH l0) g.1 g.2.1 = some y) (μ := fun g => g.1) (FUEL, (([] : List UInt8), 0), (false, (⟨none, 0, (fun _ => ())⟩ : SR (ak.R UInt8) ))) hM ⟨rfl, rfl, rfl, rfl, trivial⟩ rI ?_
 clear hM; intro g hM gy hL1; obtain ⟨bJ, ⟨vK, dZ⟩, ⟨Ll, Gm⟩⟩ := g; dsimp only at hM ⊢; obtain ⟨bJ, aQ, rfl, dz, hM⟩ := dL hM; dsimp only [GH] at hM; refine sr ?_; refine oe bN ?_; refine on ?_; refine aD fun K6 cK => ?_; refine cc rfl hM (fun hc4 hM => ?_) (fun hc4 hM => ?_)
 · have zO := of_decide_eq_true hc4; refine aM (cK _ _ ?_); clear cK; refine aD fun K7 dI => ?_; refine bf ?_; refine sr ?_; obtain ⟨x5, hx6, hM⟩ := bind_some hM; refine oe (bA (xs := l0) 1 (kG l0 aj) (iS hx6)) ?_; refine oe (cZ (i := (dZ : Int)) (xs := l0) (y := x5) 0 (kG l0 aj) (fun _ => hx6)) ?_; refine oa ?_; refine on ?_; refine aD fun K9 eZ => ?_; refine sr ?_; refine om ?_; refine oe bE ?_; refine oe dS ?_; refine om ?_; refine av rfl aG ?_; refine av rfl bE ?_; refine av rfl fP ?_; refine oe dw ?_; refine on ?_; refine cc rfl hM (fun ku hM => ?_) (fun ku hM => ?_)
   · refine sr ?_; refine oa ?_; refine on ?_; obtain rfl := some_inj hM; refine aL (aZ (fun w hm => aW hm rfl))
   refine aM (eZ _ _ ?_); clear eZ; refine aD fun uq iU => ?_; refine sr ?_; refine om ?_; refine jS (fun w hm => Kn.len ((Sk.elem (Sk.dJ (α := List (List Str)) (r := aj) (x := l0) hA) hx6)).kn hm) fun hl8 => ?_; refine oe bE ?_; refine om ?_; refine on ?_; refine bf ?_; refine dF (γ := Nat × ((List UInt8) × Nat) × (Bool × (SR (ak.R UInt8)))) (env := fun (_, (nN, qJ), (GA, CF)) => [(3, eP b1), (8, eS aj l0), (9, eI (l0.length : Int)), (10, eI (dZ : Int)), (22, eS (aj.es (dZ : Int).toNat) x5), (23, eI (x5.length : Int)), (24, eI (qJ : Int))]) (mem := fun (_, (nN, qJ), (GA, CF)) => [aO 5 CF nN, own b1 176 [lV GA b1, sL CF nN], iL l0 aj]) (R := fun g => iter (CS x5 aQ dZ) g.1 g.2.1 = some y) (μ := fun g => g.1) (FUEL, (vK, 0), (Ll, Gm)) hM ⟨rfl, rfl, rfl, rfl, rfl, rfl, rfl, trivial⟩ rI ?_; clear hM; intro g hM uP hL2; obtain ⟨jI, ⟨nN, qJ⟩, ⟨GA, CF⟩⟩ := g; dsimp only at hM ⊢; obtain ⟨jI, iA, rfl, mH, hM⟩ := dL hM; dsimp only [CS] at hM; refine sr ?_; refine oe bN ?_
   refine on ?_; refine aD fun wh jN => ?_; refine cc rfl hM (fun nA hM => ?_) (fun nA hM => ?_)
   · have aip := of_decide_eq_true nA; refine aM (jN _ _ ?_); clear jN; refine aD fun xu j5 => ?_; refine bf ?_; refine sr ?_; refine om ?_; obtain ⟨x10, oN, hM⟩ := bind_some hM; refine oe (bA (xs := x5) 1 ((Sk.elem (Sk.dJ (α := List (List Str)) (r := aj) (x := l0) hA) hx6)).kn (iS oN)) ?_; refine oe (cZ (i := (qJ : Int)) (xs := x5) (y := x10) 0 ((Sk.elem (Sk.dJ (α := List (List Str)) (r := aj) (x := l0) hA) hx6)).kn (fun _ => oN)) ?_; refine oa ?_; refine oa ?_; refine on ?_; refine aD fun G9 oJ => ?_; refine sr ?_; refine om ?_; obtain ⟨pq, BI, hM⟩ := bind_some hM; refine aF (bg (fun w hm => let ⟨S, hs⟩ := hm; ahT _ w x10 pq BI (aT hs) ) ?_); refine oe dN ?_; refine on ?_; refine cc rfl hM (fun qx hM => ?_) (fun qx hM => ?_)
     · refine sr ?_; refine oa ?_; refine on ?_; obtain rfl := some_inj hM; refine aL (aZ (fun w hm => aW hm rfl))
     refine aM (oJ _ _ ?_); clear oJ; refine iH (γ := (List UInt8) × (Bool × (SR (ak.R UInt8)))) (env := fun (xZ, (Oe, KJ)) => [(3, eP b1), (7, .v (.string x10.ba)), (8, eS aj l0), (9, eI (l0.length : Int)), (10, eI (dZ : Int)), (22, eS (aj.es (dZ : Int).toNat) x5), (23, eI (x5.length : Int)), (24, eI (qJ : Int))]) (mem := fun (xZ, (Oe, KJ)) => [aO 5 KJ xZ, own b1 176 [lV Oe b1, sL KJ xZ], iL l0 aj]) (R := fun g => GI x10 iA qJ g.1 = some y) ?_ ?_
     · intro Um xQ; refine sr ?_; refine om ?_; refine oe fP ?_; refine on ?_; refine cc rfl hM (fun hc17 hM => ?_) (fun hc17 hM => ?_)
       · refine aR ?_; obtain ⟨Qd, hM⟩ := bO hM; refine aF (mK sA (fun S w hs hP => Ue _ w b1 GA CF nN 32 Qd (by decide) hP) (by intro r c hc; simp only [List.mem_cons, List.not_mem_nil, or_false] at hc; rcases hc with rfl | rfl; exact Bq; exact Iq (fun _ _ _ _ => trivial)) (fun uH => ?_)); dsimp only [List.cons_append, List.nil_append]; refine aU (xQ ((nN ++ [u8 32]), (true, uH)) _ _ hM ⟨rfl, rfl, rfl, rfl, rfl, rfl, rfl, rfl, trivial⟩ rI)
       refine aM (xQ (nN, (GA, CF)) _ _ hM ⟨rfl, rfl, rfl, rfl, rfl, rfl, rfl, rfl, trivial⟩ rI)
     clear hM; intro g hM; obtain ⟨xZ, ⟨Oe, KJ⟩⟩ := g; dsimp only at hM ⊢; dsimp only [GI] at hM; refine aR ?_; refine om ?_; obtain ⟨Qc, hM⟩ := bO hM; refine aF (mK sA (fun S w hs hP => aam _ w b1 Oe KJ xZ x10 Qc hP) (by intro r c hc; simp only [List.mem_cons, List.not_mem_nil, or_false] at hc; rcases hc with rfl | rfl; exact Bq; exact Iq (fun _ _ _ _ => trivial)) (fun r16 => ?_)); dsimp only [List.cons_append, List.nil_append]; refine aU (j5 _ _ ?_); clear j5; refine aR ?_; refine oe (dh (hr := fun _ => by unfold eB; omega)) ?_; refine om ?_; refine aU (hL2 (jI, ((xZ ++ x10.l), qJ + 1), (true, r16)) _ _ (eqc mH hM) (Nat.lt_succ_self _) ⟨rfl, rfl, rfl, rfl, rfl, rfl, rfl, trivial⟩ rI)
   refine dD (iU _ _ ?_); clear iU; dsimp only [Lm] at hM; refine aR ?_; obtain ⟨Qe, hM⟩ := bO hM; refine aF (mK sA (fun S w hs hP => Ue _ w b1 GA CF nN 10 Qe (by decide) hP) (by intro r c hc; simp only [List.mem_cons, List.not_mem_nil, or_false] at hc; rcases hc with rfl | rfl; exact Bq; exact Iq (fun _ _ _ _ => trivial)) (fun ET => ?_)); dsimp only [List.cons_append, List.nil_append]; refine aU (dI _ _ ?_); clear dI; dsimp only [TB] at hM; refine aR ?_; refine oe (dh (hr := fun _ => by unfold eB; omega)) ?_; refine om ?_; refine aU (hL1 (bJ, ((nN ++ [u8 10]), dZ + 1), (true, ET)) _ _ (eqc dz hM) (Nat.lt_succ_self _) ⟨rfl, rfl, rfl, rfl, trivial⟩ rI)
 refine dD (hK3 _ _ ?_); clear hK3; dsimp only [aag] at hM; refine sr ?_; refine aF (mK sA (fun S w hs hP => aal _ w b1 Ll Gm vK hP) (by intro r c hc; cases hc) (fun tN => ?_)); dsimp only [List.cons_append, List.nil_append]; refine oa ?_; refine on ?_; obtain rfl := some_inj hM; refine aL (aZ (fun w hm => aW hm rfl))
end Go.Proofs.YtcalibhfgdncaaaGreatDoor
