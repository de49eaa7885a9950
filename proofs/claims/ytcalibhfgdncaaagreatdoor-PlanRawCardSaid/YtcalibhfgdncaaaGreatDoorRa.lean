/- Models of functions, and that the code computes them. -/
import Derived.Test.YtcalibhfgdncaaaGreatDoorR0
set_option linter.all false
namespace Go.Proofs.YtcalibhfgdncaaaGreatDoor
open Go.Dc Go.RowKit
set_option maxRecDepth 10000
def Nh (c0 : Int) : Option Bool :=
  some ((decide (33 ≤ c0) && decide (c0 ≤ 126)) && decide (c0 ≠ 35))
theorem Y8 (S : bD) (w : World) (c0 : Int) (y : Bool) (hM : Nh c0 = some y) (hS : sB S w)  :
    Calls Tryz.prog 170 #[.int .u8 c0] w (bW w (.bool y)) := by
 refine bR (args := [_]) Tryz.func170 rfl ((pre_nil hS).start) rfl ?_; unfold Nh at hM; refine sr ?_; refine oa ?_; refine on ?_; refine sr ?_; refine om ?_; refine oe gW ?_; refine om ?_; refine av rfl aG ?_; refine av rfl kr ?_; refine oe cO ?_; refine om ?_; refine av rfl aG ?_; refine av rfl fB ?_; refine oe cO ?_; refine oa ?_; refine on ?_; obtain rfl := some_inj hM; refine aL (aZ (fun w hm => aW hm rfl))
def J9 (aK : Nat) (aQ : ((List Word) × Nat) → Option ((List Word) × Int)) : (List Word) → Option ((List Word) × Int) := fun BR =>
  bM (bP ((aK : Int) + 1)) <|
  aQ (BR, aK + 1)
def Y7 (jX : List Word) : Unit → Option ((List Word) × Int) := fun _ =>
  if decide (64 < (jX.length : Int)) then
    (some (([] : List Word), 7))
  else
    (some (jX, 0))
def Sc (s0 : Str) (fq : Int) (aQ : ((List Word) × Nat) → Option ((List Word) × Int)) : ((List Word) × Nat) → Option ((List Word) × Int) := fun (jX, aK) =>
  (dV (decide ((aK : Int) < (s0.l.length : Int))) 0 (kP s0 (aK : Int))).bind fun c2 =>
  if (decide ((aK : Int) < (s0.l.length : Int)) && decide (c2 ≠ 35)) then
    ((kP s0 (aK : Int)).bind fun c6 =>
    (dV (!(decide (c6 = 32))) 0 (kP s0 (aK : Int))).bind fun c8 =>
    if (decide (c6 = 32) || decide (c8 = 9)) then
      (J9 aK aQ jX)
    else
      ((kP s0 (aK : Int)).bind fun c11 =>
      (Nh c11).bind fun y13 =>
      if (!y13) then
        (some (([] : List Word), 2))
      else
        (bM (!(decide (0 < (aK : Int))) || bP ((aK : Int) - 1)) <|
        (dV (decide (0 < (aK : Int))) 0 (kP s0 ((aK : Int) - 1))).bind fun c18 =>
        (dV (decide (0 < (aK : Int))) default (Nh c18)).bind fun y20 =>
        if (decide (0 < (aK : Int)) && y20) then
          (bM (bP ((jX.length : Int) - 1)) <|
          (idx jX ((jX.length : Int) - 1)).bind fun x24 =>
          bM (bP ((aK : Int) + 1)) <|
          (wZ s0 (aK : Int) ((aK : Int) + 1)).bind fun EO =>
          (dB x24.Text EO).bind fun EP =>
          (idx jX ((jX.length : Int) - 1)).bind fun x31 =>
          J9 aK aQ (jX.set ((jX.length : Int) - 1).toNat (Word.mk EP x31.Line x31.Col)))
        else
          (bM (bP ((aK : Int) + 1)) <|
          (wZ s0 (aK : Int) ((aK : Int) + 1)).bind fun ER =>
          bM (bP ((aK : Int) + 1)) <|
          bM (decide ((jX.length + ([(Word.mk ER fq ((aK : Int) + 1))] : List Word).length) * 32 ≤ 140737488355328)) <|
          J9 aK aQ (jX ++ ([(Word.mk ER fq ((aK : Int) + 1))] : List Word))))))
  else
    (Y7 jX ())
def Sd (s0 : Str) (fq : Int) : Option ((List Word) × Int) :=
  iter (Sc s0 fq) FUEL (([] : List Word), 0)
theorem agx (S : bD) (w : World) (s0 : Str) (fq : Int) (y : (List Word) × Int) (hM : Sd s0 fq = some y) (hS : sB S w)  :
    Calls Tryz.prog 130 #[.string s0.ba, vI fq] w (Post (β := (ak.R (List Word))) S [] (fun g => .tuple #[sL g y.1, vI y.2]) (fun g => [aO 108 g y.1]) w) := by
 refine bR (args := [_, _]) Tryz.func130 rfl ((pre_nil hS).start) rfl ?_; unfold Sd at hM; refine sr ?_; refine oa ?_; refine oa ?_; refine on ?_; refine sr ?_; refine oa ?_; refine on ?_; refine aD fun K3 hK3 => ?_; refine sr ?_; refine oa ?_; refine on ?_; refine bf ?_; refine fZ (fun w hm => hm.fF (α := Word) 108 (fun _ => ())) ?_; refine dF (γ := Nat × ((List Word) × Nat) × (SR (ak.R Word))) (env := fun (_, (jX, aK), tQ) => [(0, .v (.string s0.ba)), (1, eI fq), (6, eS tQ jX), (7, eI (aK : Int))]) (mem := fun (_, (jX, aK), tQ) => [aO 108 tQ jX]) (R := fun g => iter (Sc s0 fq) g.1 g.2.1 = some y) (μ := fun g => g.1) (FUEL, (([] : List Word), 0), (⟨none, 0, (fun _ => ())⟩ : SR (ak.R Word) )) hM ⟨rfl, rfl, rfl, rfl, trivial⟩ rI ?_; clear hM; intro g hM gy hL1; obtain ⟨bJ, ⟨jX, aK⟩, tQ⟩ := g; dsimp only at hM ⊢; obtain ⟨bJ, aQ, rfl, dz, hM⟩ := dL hM; dsimp only [Sc] at hM; refine aD fun K5 cu => ?_; refine sr ?_; refine om ?_; refine om ?_; refine oe oI ?_; refine oe bN ?_; refine om ?_; refine av rfl aG ?_; refine av rfl aG ?_; obtain ⟨c2, acN, hM⟩ := bind_some hM
 refine av rfl (nH (dM acN)) ?_; refine av rfl fB ?_; refine oe cO ?_; refine on ?_; refine cc rfl hM (fun hc4 hM => ?_) (fun hc4 hM => ?_)
 · refine aM (cu _ _ ?_); clear cu; refine iH (γ := (List Word) × (SR (ak.R Word))) (env := fun (BR, KA) => [(0, .v (.string s0.ba)), (1, eI fq), (6, eS KA BR), (7, eI (aK : Int))]) (mem := fun (BR, KA) => [aO 108 KA BR]) (R := fun g => J9 aK aQ g.1 = some y) ?_ ?_
   · intro uO hJ2; refine bf ?_; refine aD fun K7 dI => ?_; refine sr ?_; refine om ?_; refine om ?_; obtain ⟨c6, acP, hM⟩ := bind_some hM; refine oe (nH (fun _ => acP)) ?_; refine oe dS ?_; refine om ?_; refine av rfl aG ?_; refine av rfl aG ?_; obtain ⟨c8, Qm, hM⟩ := bind_some hM; refine av rfl (nH (dM Qm)) ?_; refine av rfl dS ?_; refine oe dw ?_; refine on ?_; refine cc rfl hM (fun pV hM => ?_) (fun pV hM => ?_)
     · refine dD (hJ2 (jX, tQ) _ _ hM ⟨rfl, rfl, rfl, rfl, trivial⟩ rI)
     refine aM (dI _ _ ?_); clear dI; refine aD fun K9 eZ => ?_; refine sr ?_; refine om ?_; refine om ?_; obtain ⟨c11, I7, hM⟩ := bind_some hM; refine oe (nH (fun _ => I7)) ?_; obtain ⟨y13, sI, hM⟩ := bind_some hM; refine aF (bg (fun w hm => let ⟨S, hs⟩ := hm; Y8 _ w c11 y13 sI (aT hs) ) ?_); refine oe dN ?_; refine on ?_; refine cc rfl hM (fun qy hM => ?_) (fun qy hM => ?_)
     · refine sr ?_; refine oa ?_; refine oa ?_; refine on ?_; refine fZ (fun w hm => hm.fF (α := Word) 108 (fun _ => ())) ?_; obtain rfl := some_inj hM; refine aL (jQ (fun w hm => fO (⟨none, 0, (fun _ => ())⟩ : SR (ak.R Word)               ) hm rfl))
     refine aM (eZ _ _ ?_); clear eZ; refine sr ?_; refine om ?_; refine oe fP ?_; refine om ?_; refine av rfl aG ?_; refine av rfl aG ?_; obtain ⟨IC, hM⟩ := bO hM; refine av rfl (jo (hr := fun hg => dn (uV IC hg))) ?_; obtain ⟨c18, acM, hM⟩ := bind_some hM; refine av rfl (nH (dM acM)) ?_; obtain ⟨y20, vB, hM⟩ := bind_some hM; refine iX rfl (fun hg w hm => let ⟨S, hs⟩ := hm; Y8 _ w c18 y20 (dM vB hg) (aT hs) ) ?_; refine oe cO ?_; refine on ?_; refine cc rfl hM (fun hc22 hM => ?_) (fun hc22 hM => ?_)
     · refine sr ?_; refine om ?_; refine oe bE ?_; obtain ⟨PN, hM⟩ := bO hM; refine oe (jo (hr := fun hg => dn PN)) ?_; refine oa ?_; refine on ?_; refine nY [aO 108 tQ jX] 15 ?_; refine aP 0 rfl aG ?_; refine aP 1 rfl aG ?_; refine aP 2 rfl aG ?_; refine aP 3 rfl aG ?_; obtain ⟨x24, hx25, hM⟩ := bind_some hM; refine aP 4 rfl (bA (xs := jX) 3 (Kn.aO (e := 108) (r := tQ) hA) (iS hx25)) ?_; refine aP 5 rfl (ay 0) ?_; refine aP 6 rfl (cZ (i := ((jX.length : Int) - 1)) (xs := jX) (y := x24) 0 (Kn.aO (e := 108) (r := tQ) hA) (fun _ => hx25)) ?_; refine aP 7 rfl aG ?_; refine aP 8 rfl aG ?_; refine aP 9 rfl aG ?_; obtain ⟨PO, hM⟩ := bO hM; refine aP 10 rfl (dh (hr := fun hg => dn PO)) ?_; obtain ⟨EO, QA, hM⟩ := bind_some hM; refine aP 11 rfl (Dx (ol := some (.i64, (aK : Int))) (oh := some (.i64, ((aK : Int) + 1))) (fun _ => QA)) ?_; obtain ⟨EP, adS, hM⟩ := bind_some hM; refine aP 12 rfl (dK (fun _ => adS)) ?_; obtain ⟨x31, hx32, hM⟩ := bind_some hM; refine aP 13 rfl (bA (xs := jX) 3 (Kn.aO (e := 108) (r := tQ) hA) (iS hx32)) ?_; refine aP 14 rfl (ay 0) ?_; refine nW rfl (ZW (r := tQ) (i := ((jX.length : Int) - 1)) (xs := jX) (u := x31) (vs := [.string EP.ba]) 0 (Word.mk EP x31.Line x31.Col) hx32 rfl (fun _ _ h => h) uA ?_); have BH := WU (u := (Word.mk EP x31.Line x31.Col)) hx32
       refine nV (hJ2 ((jX.set ((jX.length : Int) - 1).toNat (Word.mk EP x31.Line x31.Col)), tQ) _ _ hM ⟨rfl, rfl, (by simp only [List.length_set, eS, sL]; rfl), rfl, trivial⟩ rI)
     refine aR ?_; refine om ?_; refine om ?_; refine om ?_; refine om ?_; obtain ⟨II, hM⟩ := bO hM; refine oe (dh (hr := fun hg => dn II)) ?_; obtain ⟨ER, adV, hM⟩ := bind_some hM; refine oe (Dx (ol := some (.i64, (aK : Int))) (oh := some (.i64, ((aK : Int) + 1))) (fun _ => adV)) ?_; refine om ?_; refine om ?_; obtain ⟨abW, hM⟩ := bO hM; refine oe (dh (hr := fun hg => dn abW)) ?_; refine oe (jE [.string ER.ba, vI fq, vI ((aK : Int) + 1)]) ?_; refine aF (kE (α := Word) 108 (fun _ => ()) ([(Word.mk ER fq ((aK : Int) + 1))] : List Word) oF (fun YM => ?_)); obtain ⟨acn, hM⟩ := bO hM; refine aF (ow (r := tQ) (r2 := YM) uR (Kn.aO (e := 108) (r := YM) hA) oF (of_decide_eq_true acn) (fun RH => ?_)); refine oa ?_; refine aU (hJ2 ((jX ++ ([(Word.mk ER fq ((aK : Int) + 1))] : List Word)), RH) _ _ hM ⟨rfl, rfl, rfl, rfl, trivial⟩ rI)
   clear hM; intro g hM; obtain ⟨BR, KA⟩ := g; dsimp only at hM ⊢; dsimp only [J9] at hM; refine aR ?_; refine om ?_; obtain ⟨Bv, hM⟩ := bO hM; refine oe (dh (hr := fun hg => dn Bv)) ?_; refine oa ?_; refine aU (hL1 (bJ, (BR, aK + 1), KA) _ _ (eqc dz hM) (Nat.lt_succ_self _) ⟨rfl, rfl, rfl, rfl, trivial⟩ rI)
 refine dD (hK3 _ _ ?_); clear hK3; dsimp only [Y7] at hM; refine aD fun uN jv => ?_; refine sr ?_; refine om ?_; refine oe bE ?_; refine oe fP ?_; refine on ?_; refine cc rfl hM (fun zN hM => ?_) (fun zN hM => ?_)
 · refine sr ?_; refine oa ?_; refine oa ?_; refine on ?_; refine fZ (fun w hm => hm.fF (α := Word) 108 (fun _ => ())) ?_; obtain rfl := some_inj hM; refine aL (jQ (fun w hm => fO (⟨none, 0, (fun _ => ())⟩ : SR (ak.R Word)                ) hm rfl))
 refine aM (jv _ _ ?_); clear jv; refine sr ?_; refine om ?_; refine oa ?_; refine oa ?_; refine on ?_; obtain rfl := some_inj hM; refine aL (jQ (fun w hm => fO tQ hm rfl))
def YW (l5 : Nat) (aQ : ((List (List Word)) × Nat × Int) → Option ((List (List Word)) × Int × Int)) (xY : List (List Word)) (lN : Int) : Unit → Option ((List (List Word)) × Int × Int) := fun _ =>
  bM (bP ((l5 : Int) + 1)) <|
  aQ (xY, l5 + 1, (lN + 1))
def M9 (lN : Int) (l5 : Nat) (aQ : ((List (List Word)) × Nat × Int) → Option ((List (List Word)) × Int × Int)) : (List (List Word)) → Option ((List (List Word)) × Int × Int) := fun xY =>
  bM (bP (lN + 1)) <|
  YW l5 aQ xY lN ()
def YX (kV : Str) (aK : Int) (lN : Int) (l5 : Nat) (jO : List (List Word)) (aQ : ((List (List Word)) × Nat × Int) → Option ((List (List Word)) × Int × Int)) : Unit → Option ((List (List Word)) × Int × Int) := fun _ =>
  (wZ kV aK lN).bind fun q9 =>
  (Sd q9 (l5 : Int)).bind fun dP =>
  if decide (dP.2 ≠ 0) then
    (some (([] : List (List Word)), (l5 : Int), dP.2))
  else
    (if decide (0 < (dP.1.length : Int)) then
      (bM (decide ((jO.length + ([dP.1] : List (List Word)).length) * 24 ≤ 140737488355328)) <|
      M9 lN l5 aQ (jO ++ ([dP.1] : List (List Word))))
    else
      (M9 lN l5 aQ jO))
def RP (kV : Str) (aK : Int) (l5 : Nat) (jO : List (List Word)) (aQ : ((List (List Word)) × Nat × Int) → Option ((List (List Word)) × Int × Int)) (iA : Int → Option ((List (List Word)) × Int × Int)) : Int → Option ((List (List Word)) × Int × Int) := fun lN =>
  (dV (decide (lN < (kV.l.length : Int))) 0 (kP kV lN)).bind fun c5 =>
  if (decide (lN < (kV.l.length : Int)) && decide (c5 ≠ 10)) then
    (bM (bP (lN + 1)) <|
    iA (lN + 1))
  else
    (YX kV aK lN l5 jO aQ ())
def YV (jO : List (List Word)) : Unit → Option ((List (List Word)) × Int × Int) := fun _ =>
  some (jO, 0, 0)
def RO (kV : Str) (aQ : ((List (List Word)) × Nat × Int) → Option ((List (List Word)) × Int × Int)) : ((List (List Word)) × Nat × Int) → Option ((List (List Word)) × Int × Int) := fun (jO, l5, aK) =>
  if decide (aK < (kV.l.length : Int)) then
    (iter (RP kV aK l5 jO aQ) FUEL aK)
  else
    (YV jO ())
def RQ (kV : Str) : Option ((List (List Word)) × Int × Int) :=
  if decide (65536 < (kV.l.length : Int)) then
    (some (([] : List (List Word)), 0, 7))
  else
    (iter (RO kV) FUEL (([] : List (List Word)), 1, 0))
theorem agr (S : bD) (w : World) (kV : Str) (y : (List (List Word)) × Int × Int) (hM : RQ kV = some y) (hS : sB S w)  :
    Calls Tryz.prog 70 #[.string kV.ba] w (Post (β := (ak.R (List (List Word)))) S [] (fun g => .tuple #[sL g y.1, vI y.2.1, vI y.2.2]) (fun g => [aO 105 g y.1]) w) := by
 refine bR (args := [_]) Tryz.func70 rfl ((pre_nil hS).start) rfl ?_; unfold RQ at hM; refine sr ?_; refine oa ?_; refine oa ?_; refine oa ?_; refine on ?_; refine aD fun K2 hK2 => ?_; refine sr ?_; refine om ?_; refine oe oI ?_; refine oe fP ?_; refine on ?_; refine cc rfl hM (fun hc1 hM => ?_) (fun hc1 hM => ?_)
 · refine sr ?_; refine oa ?_; refine oa ?_; refine oa ?_; refine on ?_; refine fZ (fun w hm => hm.fF (α := List Word) 105 (fun _ => (⟨none, 0, (fun _ => ())⟩ : SR (ak.R Word)))) ?_; obtain rfl := some_inj hM; refine aL (qY (fun w hm => fO (⟨none, 0, (fun _ => (⟨none, 0, (fun _ => ())⟩ : SR (ak.R Word)))⟩ : SR (ak.R (List Word)) ) hm rfl))
 refine aM (hK2 _ _ ?_); clear hK2; refine sr ?_; refine oa ?_; refine on ?_; refine sr ?_; refine oa ?_; refine on ?_; refine aD fun K7 dI => ?_; refine sr ?_; refine oa ?_; refine on ?_; refine bf ?_; refine fZ (fun w hm => hm.fF (α := List Word) 105 (fun _ => (⟨none, 0, (fun _ => ())⟩ : SR (ak.R Word)))) ?_; refine dF (γ := Nat × ((List (List Word)) × Nat × Int) × (SR (ak.R (List Word)))) (env := fun (_, (jO, l5, aK), qd) => [(0, .v (.string kV.ba)), (5, eS qd jO), (6, eI (l5 : Int)), (7, eI aK)]) (mem := fun (_, (jO, l5, aK), qd) => [aO 105 qd jO]) (R := fun g => iter (RO kV) g.1 g.2.1 = some y) (μ := fun g => g.1) (FUEL, (([] : List (List Word)), 1, 0), (⟨none, 0, (fun _ => (⟨none, 0, (fun _ => ())⟩ : SR (ak.R Word)))⟩ : SR (ak.R (List Word))  )) hM ⟨rfl, rfl, rfl, rfl, trivial⟩ rI ?_; clear hM; intro g hM gy hL1; obtain ⟨bJ, ⟨jO, l5, aK⟩, qd⟩ := g; dsimp only at hM ⊢; obtain ⟨bJ, aQ, rfl, dz, hM⟩ := dL hM; dsimp only [RO] at hM; refine aD fun K9 eZ => ?_; refine sr ?_; refine om ?_; refine om ?_; refine oe oI ?_; refine oe bN ?_
 refine on ?_; refine cc rfl hM (fun hc4 hM => ?_) (fun hc4 hM => ?_)
 · refine aM (eZ _ _ ?_); clear eZ; refine aD fun oG fM => ?_; refine bf ?_; refine sr ?_; refine om ?_; refine oa ?_; refine on ?_; refine aD fun uM jr => ?_; refine bf ?_; refine dF (γ := Nat × Int × Unit) (env := fun (_, lN, _) => [(0, .v (.string kV.ba)), (5, eS qd jO), (6, eI (l5 : Int)), (7, eI aK), (8, eI lN)]) (mem := fun (_, lN, _) => [aO 105 qd jO]) (R := fun g => iter (RP kV aK l5 jO aQ) g.1 g.2.1 = some y) (μ := fun g => g.1) (FUEL, aK, ()) hM ⟨rfl, rfl, rfl, rfl, rfl, trivial⟩ rI ?_; clear hM; intro g hM uP hL2; obtain ⟨jI, lN, ⟨⟩⟩ := g; dsimp only at hM ⊢; obtain ⟨jI, iA, rfl, mH, hM⟩ := dL hM; dsimp only [RP] at hM; refine aD fun uN jv => ?_; refine sr ?_; refine om ?_; refine om ?_; refine oe oI ?_; refine oe bN ?_; refine om ?_; refine av rfl aG ?_; refine av rfl aG ?_; obtain ⟨c5, Ql, hM⟩ := bind_some hM; refine av rfl (nH (dM Ql)) ?_; refine av rfl fB ?_; refine oe cO ?_; refine on ?_; refine cc rfl hM (fun ku hM => ?_) (fun ku hM => ?_)
   · refine aM (jv _ _ ?_); clear jv; refine bf ?_; refine aR ?_; refine om ?_; obtain ⟨r9, hM⟩ := bO hM; refine oe (dh (hr := fun hg => dn r9)) ?_; refine oa ?_; refine aU (hL2 (jI, (lN + 1), ()) _ _ (eqc mH hM) (Nat.lt_succ_self _) ⟨rfl, rfl, rfl, rfl, rfl, trivial⟩ rI)
   refine dD (jr _ _ ?_); clear jr; dsimp only [YX] at hM; refine sr ?_; refine om ?_; refine om ?_; refine om ?_; obtain ⟨q9, Je, hM⟩ := bind_some hM; refine oe (Dx (ol := some (.i64, aK)) (oh := some (.i64, lN)) (fun _ => Je)) ?_; refine om ?_; obtain ⟨dP, qA, hM⟩ := bind_some hM; refine aF (mK iQ.nil (fun S w hs hP => agx _ w q9 (l5 : Int) dP qA (aT hs) ) pJ (fun tL => ?_)); dsimp only [List.cons_append, List.nil_append]; refine om ?_; refine oe (gF (vs := [sL tL dP.1, vI dP.2])) ?_; refine oe (gF (vs := [sL tL dP.1, vI dP.2])) ?_; refine oa ?_; refine oa ?_; refine on ?_; refine aD fun CV ny => ?_; refine sr ?_; refine om ?_; refine oe fB ?_; refine on ?_; refine cc rfl hM (fun qx hM => ?_) (fun qx hM => ?_)
   · refine sr ?_; refine om ?_; refine om ?_; refine oa ?_; refine oa ?_; refine oa ?_; refine on ?_; refine fZ (fun w hm => hm.fF (α := List Word) 105 (fun _ => (⟨none, 0, (fun _ => ())⟩ : SR (ak.R Word)))) ?_; obtain rfl := some_inj hM; refine aL (qY (fun w hm => fO (⟨none, 0, (fun _ => (⟨none, 0, (fun _ => ())⟩ : SR (ak.R Word)))⟩ : SR (ak.R (List Word))                   ) hm rfl))
   refine aM (ny _ _ ?_); clear ny; refine iH (γ := (List (List Word)) × (SR (ak.R (List Word)))) (env := fun (xY, KD) => [(0, .v (.string kV.ba)), (5, eS KD xY), (6, eI (l5 : Int)), (8, eI lN)]) (mem := fun (xY, KD) => [aO 105 KD xY]) (R := fun g => M9 lN l5 aQ g.1 = some y) ?_ ?_
   · intro Um xQ; refine sr ?_; refine om ?_; refine oe bE ?_; refine oe fP ?_; refine on ?_; refine cc rfl hM (fun hc18 hM => ?_) (fun hc18 hM => ?_)
     · refine aR ?_; refine om ?_; refine om ?_; refine p9 (fun w hm => hm.freeze (r := tL) uA) ?_; refine aF (kE (α := List Word) 105 (fun _ => tL) ([dP.1] : List (List Word)) (mD.cons (fun S w hs => (kI hs)) mD.nil) (fun uH => ?_)); obtain ⟨Qf, hM⟩ := bO hM; refine aF (ow (r := qd) (r2 := uH) uR (Kn.aO (e := 105) (r := uH) hA) (mD.row (e := 105) (r := uH) hA) (of_decide_eq_true Qf) (fun Ck => ?_)); refine oa ?_; refine aU (xQ ((jO ++ ([dP.1] : List (List Word))), Ck) _ _ hM ⟨rfl, rfl, rfl, rfl, trivial⟩ rI)
     refine aM (xQ (jO, qd) _ _ hM ⟨rfl, rfl, rfl, rfl, trivial⟩ rI)
   clear hM; intro g hM; obtain ⟨xY, KD⟩ := g; dsimp only at hM ⊢; dsimp only [M9] at hM; refine aR ?_; refine om ?_; obtain ⟨IB, hM⟩ := bO hM; refine oe (dh (hr := fun hg => dn IB)) ?_; refine oa ?_; refine aU (fM _ _ ?_); clear fM; dsimp only [YW] at hM; refine aR ?_; refine om ?_; obtain ⟨IC, hM⟩ := bO hM; refine oe (dh (hr := fun hg => dn IC)) ?_; refine oa ?_; refine aU (hL1 (bJ, (xY, l5 + 1, (lN + 1)), KD) _ _ (eqc dz hM) (Nat.lt_succ_self _) ⟨rfl, rfl, rfl, rfl, trivial⟩ rI)
 refine dD (dI _ _ ?_); clear dI; dsimp only [YV] at hM; refine sr ?_; refine om ?_; refine oa ?_; refine oa ?_; refine oa ?_; refine on ?_; obtain rfl := some_inj hM; refine aL (qY (fun w hm => fO qd hm rfl))
def Y0 (gH : Int) (tX : Int) : Unit → Option (Int × Bool) := fun _ =>
  if decide (1099511627776 < gH) then
    (some (0, false))
  else
    (bM (bP (tX * gH)) <|
    some ((tX * gH), true))
def RU (o8 : Str) (tX : Int) (aQ : (Int × Nat) → Option (Int × Bool)) : (Int × Nat) → Option (Int × Bool) := fun (gH, aK) =>
  if decide ((aK : Int) < (o8.l.length : Int)) then
    ((kP o8 (aK : Int)).bind fun c5 =>
    (J6 c5).bind fun y7 =>
    if (!y7) then
      (some (0, false))
    else
      (bM (bP (10 * gH)) <|
      (kP o8 (aK : Int)).bind fun c11 =>
      bM (bP ((10 * gH) + (IntKind.i64.wrap (IntKind.u8.wrap (c11 - 48))))) <|
      bM (bP ((aK : Int) + 1)) <|
      aQ (((10 * gH) + (IntKind.i64.wrap (IntKind.u8.wrap (c11 - 48)))), aK + 1)))
  else
    (Y0 gH tX ())
def Na : (Str × Int) → Option (Int × Bool) := fun (o8, tX) =>
  (dV (!(decide ((o8.l.length : Int) < 1) || decide (13 < (o8.l.length : Int)))) 0 (kP o8 0)).bind fun c1 =>
  if ((decide ((o8.l.length : Int) < 1) || decide (13 < (o8.l.length : Int))) || (decide (c1 = 48) && (decide (1 < (o8.l.length : Int)) || decide (tX < 0)))) then
    (some (0, false))
  else
    (iter (RU o8 tX) FUEL (0, 0))
def J4 (s0 : Str) : Option (Int × Bool) :=
  (dV (decide (0 < (s0.l.length : Int))) 0 (kP s0 0)).bind fun c17 =>
  if (decide (0 < (s0.l.length : Int)) && decide (c17 = 45)) then
    ((wZ s0 1 (s0.l.length : Int)).bind fun EN =>
    Na (EN, (-1)))
  else
    (Na (s0, 1))
theorem RV (S : bD) (w : World) (s0 : Str) (y : Int × Bool) (hM : J4 s0 = some y) (hS : sB S w)  :
    Calls Tryz.prog 171 #[.string s0.ba] w (bW w (.tuple #[vI y.1, .bool y.2])) := by
 refine bR (args := [_]) Tryz.func171 rfl ((pre_nil hS).start) rfl ?_; unfold J4 at hM; refine sr ?_; refine oa ?_; refine oa ?_; refine on ?_; refine sr ?_; refine om ?_; refine oa ?_; refine oa ?_; refine on ?_; refine iH (γ := (Str × Int) × Unit) (env := fun ((o8, tX), _) => [(4, .v (.string o8.ba)), (5, eI tX)]) (mem := fun ((o8, tX), _) => []) (R := fun g => Na g.1 = some y) ?_ ?_
 · intro wm eY; refine sr ?_; refine om ?_; refine oe oI ?_; refine oe fP ?_; refine om ?_; refine av rfl aG ?_; obtain ⟨c17, acL, hM⟩ := bind_some hM; refine av rfl (nH (dM acL)) ?_; refine av rfl dS ?_; refine oe cO ?_; refine on ?_; refine cc rfl hM (fun hc19 hM => ?_) (fun hc19 hM => ?_)
   · refine aR ?_; refine om ?_; obtain ⟨EN, Qz, hM⟩ := bind_some hM; refine oe (Dx (ol := some (.i64, 1)) (oh := none) (fun _ => Qz)) ?_; refine oa ?_; refine oa ?_; refine aU (eY ((EN, (-1)), ()) _ _ hM ⟨rfl, rfl, trivial⟩ rI)
   refine aM (eY ((s0, 1), ()) _ _ hM ⟨rfl, rfl, trivial⟩ rI)
 clear hM; intro g hM; obtain ⟨⟨o8, tX⟩, ⟨⟩⟩ := g; dsimp only at hM ⊢; dsimp only [Na] at hM; refine aD fun K3 hK3 => ?_; refine sr ?_; refine om ?_; refine oe oI ?_; refine oe bN ?_; refine om ?_; refine av rfl aG ?_; refine av rfl oI ?_; refine av rfl fP ?_; refine oe dw ?_; refine om ?_; refine av rfl aG ?_; obtain ⟨c1, I8, hM⟩ := bind_some hM; refine av rfl (nH (dM I8)) ?_; refine av rfl dS ?_; refine av rfl aG ?_; refine av rfl aG ?_; refine av rfl oI ?_; refine av rfl fP ?_; refine av rfl aG ?_; refine av rfl aG ?_; refine av rfl bN ?_; refine av rfl dw ?_; refine av rfl cO ?_; refine oe dw ?_; refine on ?_; refine cc rfl hM (fun hc3 hM => ?_) (fun hc3 hM => ?_)
 · refine sr ?_; refine oa ?_; refine oa ?_; refine on ?_; obtain rfl := some_inj hM; refine aL (jQ (fun w hm => aW hm rfl))
 refine aM (hK3 _ _ ?_); clear hK3; refine sr ?_; refine oa ?_; refine on ?_; refine aD fun K7 dI => ?_; refine sr ?_; refine oa ?_; refine on ?_; refine bf ?_; refine dF (γ := Nat × (Int × Nat) × Unit) (env := fun (_, (gH, aK), _) => [(4, .v (.string o8.ba)), (5, eI tX), (6, eI gH), (7, eI (aK : Int))]) (mem := fun (_, (gH, aK), _) => []) (R := fun g => iter (RU o8 tX) g.1 g.2.1 = some y) (μ := fun g => g.1) (FUEL, (0, 0), ()) hM ⟨rfl, rfl, rfl, rfl, trivial⟩ rI ?_; clear hM; intro g hM gy hL1; obtain ⟨bJ, ⟨gH, aK⟩, ⟨⟩⟩ := g; dsimp only at hM ⊢; obtain ⟨bJ, aQ, rfl, dz, hM⟩ := dL hM; dsimp only [RU] at hM; refine aD fun K9 eZ => ?_; refine sr ?_; refine om ?_; refine om ?_; refine oe oI ?_; refine oe bN ?_; refine on ?_; refine cc rfl hM (fun hc4 hM => ?_) (fun hc4 hM => ?_)
 · refine aM (eZ _ _ ?_); clear eZ; refine aD fun oG fM => ?_; refine bf ?_; refine aD fun uq iU => ?_; refine sr ?_; refine om ?_; refine om ?_; obtain ⟨c5, Ql, hM⟩ := bind_some hM; refine oe (nH (fun _ => Ql)) ?_; obtain ⟨y7, BL, hM⟩ := bind_some hM; refine aF (bg (fun w hm => let ⟨S, hs⟩ := hm; Y3 _ w c5 y7 BL (aT hs) ) ?_); refine oe dN ?_; refine on ?_; refine cc rfl hM (fun nA hM => ?_) (fun nA hM => ?_)
   · refine sr ?_; refine oa ?_; refine oa ?_; refine on ?_; obtain rfl := some_inj hM; refine aL (jQ (fun w hm => aW hm rfl))
   refine aM (iU _ _ ?_); clear iU; refine aR ?_; refine om ?_; obtain ⟨abL, hM⟩ := bO hM; refine oe (Ik (hr := fun hg => dn abL)) ?_; refine om ?_; refine om ?_; obtain ⟨c11, I7, hM⟩ := bind_some hM; refine oe (nH (fun _ => I7)) ?_; refine oe Vu ?_; refine oe (Ih .i64) ?_; obtain ⟨xP, hM⟩ := bO hM; refine oe (dh (hr := fun hg => dn xP)) ?_; refine oa ?_; refine aU (fM _ _ ?_); clear fM; refine aR ?_; refine om ?_; obtain ⟨Bu, hM⟩ := bO hM; refine oe (dh (hr := fun hg => dn Bu)) ?_; refine oa ?_; refine aU (hL1 (bJ, (((10 * gH) + (IntKind.i64.wrap (IntKind.u8.wrap (c11 - 48)))), aK + 1), ()) _ _ (eqc dz hM) (Nat.lt_succ_self _) ⟨rfl, rfl, rfl, rfl, trivial⟩ rI)
 refine dD (dI _ _ ?_); clear dI; dsimp only [Y0] at hM; refine aD fun wh jN => ?_; refine sr ?_; refine om ?_; refine oe fP ?_; refine on ?_; refine cc rfl hM (fun qy hM => ?_) (fun qy hM => ?_)
 · refine sr ?_; refine oa ?_; refine oa ?_; refine on ?_; obtain rfl := some_inj hM; refine aL (jQ (fun w hm => aW hm rfl))
 refine aM (jN _ _ ?_); clear jN; refine sr ?_; refine om ?_; refine om ?_; obtain ⟨IB, hM⟩ := bO hM; refine oe (Ik (hr := fun hg => dn IB)) ?_; refine oa ?_; refine oa ?_; refine on ?_; obtain rfl := some_inj hM; refine aL (jQ (fun w hm => aW hm rfl))
def Y2 : Unit → Option Int := fun _ =>
  some (-1)
def RZ (l0 : List Str) (s0 : Str) (aQ : Nat → Option Int) : Nat → Option Int := fun aK =>
  if decide ((aK : Int) < (l0.length : Int)) then
    ((idx l0 (aK : Int)).bind fun x2 =>
    if decide (x2 = s0) then
      (some (aK : Int))
    else
      (bM (bP ((aK : Int) + 1)) <|
      aQ (aK + 1)))
  else
    (Y2 ())
def Fb (l0 : List Str) (s0 : Str) : Option Int :=
  iter (RZ l0 s0) FUEL 0
theorem Nb (S : bD) (w : World) (l0 : List Str) (aj : ak.R (List Str)) (s0 : Str) (y : Int) (hM : Fb l0 s0 = some y) (hS : sB S w) (dH : ak.ok S w aj l0) :
    Calls Tryz.prog 172 #[sL aj l0, .string s0.ba] w (bW w (vI y)) := by
 refine bR (args := [_, _]) Tryz.func172 rfl ((pre_nil hS).start |>.gQ (α := List Str) (r := aj) (x := l0) dH) rfl ?_; unfold Fb at hM; refine sr ?_; refine oa ?_; refine on ?_; refine aD fun K2 hK2 => ?_; refine sr ?_; refine oa ?_; refine on ?_; refine bf ?_; refine dF (γ := Nat × Nat × Unit) (env := fun (_, aK, _) => [(0, eS aj l0), (1, .v (.string s0.ba)), (5, eI (aK : Int))]) (mem := fun (_, aK, _) => [iL l0 aj]) (R := fun g => iter (RZ l0 s0) g.1 g.2.1 = some y) (μ := fun g => g.1) (FUEL, 0, ()) hM ⟨rfl, rfl, rfl, trivial⟩ rI ?_; clear hM; intro g hM gy hL1; obtain ⟨bJ, aK, ⟨⟩⟩ := g; dsimp only at hM ⊢; obtain ⟨bJ, aQ, rfl, dz, hM⟩ := dL hM; dsimp only [RZ] at hM; refine aD fun K4 hK4 => ?_; refine sr ?_; refine om ?_; refine om ?_; refine oe bE ?_; refine oe bN ?_; refine on ?_; refine cc rfl hM (fun hc1 hM => ?_) (fun hc1 hM => ?_)
 · refine aM (hK4 _ _ ?_); clear hK4; refine aD fun K6 cK => ?_; refine bf ?_; refine sr ?_; refine om ?_; refine om ?_; obtain ⟨x2, hx3, hM⟩ := bind_some hM; refine oe (bA (xs := l0) 1 (kG l0 aj) (iS hx3)) ?_; refine oe (cZ (i := (aK : Int)) (xs := l0) (y := x2) 0 (kG l0 aj) (fun _ => hx3)) ?_; refine om ?_; refine oe qo ?_; refine on ?_; refine cc rfl hM (fun hc4 hM => ?_) (fun hc4 hM => ?_)
   · refine sr ?_; refine om ?_; refine oa ?_; refine on ?_; obtain rfl := some_inj hM; refine aL (aZ (fun w hm => aW hm rfl))
   refine aM (cK _ _ ?_); clear cK; refine aR ?_; refine om ?_; obtain ⟨Bv, hM⟩ := bO hM; refine oe (dh (hr := fun hg => dn Bv)) ?_; refine oa ?_; refine aU (hL1 (bJ, (aK + 1), ()) _ _ (eqc dz hM) (Nat.lt_succ_self _) ⟨rfl, rfl, rfl, trivial⟩ rI)
 refine dD (hK2 _ _ ?_); clear hK2; dsimp only [Y2] at hM; refine sr ?_; refine oa ?_; refine on ?_; obtain rfl := some_inj hM; refine aL (aZ (fun w hm => aW hm rfl))
def Nc (l0 : Layout) (mM : Word) (y3 : Int × Bool) (y7 : Int × Bool) (dP : Int × Bool) : Int → Option (Int × (List Section)) := fun yM =>
  bM (decide ((l0.Sections.length + ([(Section.mk mM.Text y3.1 y7.1 dP.1 yM)] : List Section).length) * 48 ≤ 140737488355328)) <|
  some (0, (l0.Sections ++ ([(Section.mk mM.Text y3.1 y7.1 dP.1 yM)] : List Section)))
def R5 (l0 : Layout) (p1 : List Word) : Option (Int × (List Section)) :=
  (idx p1 2).bind fun x1 =>
  (J4 x1.Text).bind fun y3 =>
  (idx p1 3).bind fun x5 =>
  (J4 x5.Text).bind fun y7 =>
  (idx p1 4).bind fun x9 =>
  (J4 x9.Text).bind fun dP =>
  (dV ((!(((!y3.2) || (!y7.2)) || (!dP.2))) && decide ((p1.length : Int) = 7)) default (idx p1 5)).bind fun jK =>
  if ((((!y3.2) || (!y7.2)) || (!dP.2)) || (decide ((p1.length : Int) = 7) && (!decide (jK.Text = (⟨[97, 116]⟩ : Str))))) then
    (some (2, l0.Sections))
  else
    ((idx p1 1).bind fun mM =>
    if decide ((p1.length : Int) = 7) then
      ((idx p1 6).bind fun x23 =>
      (Fb l0.aX x23.Text).bind fun y25 =>
      if decide (y25 < 0) then
        (some (3, l0.Sections))
      else
        (Nc l0 mM y3 y7 dP y25))
    else
      (Nc l0 mM y3 y7 dP (-1)))
theorem agu (S : bD) (w : World) (iG : Nat) (l0 : Layout) (aj : ak.R Layout) (p1 : List Word) (eO : ak.R (List Word)) (y : Int × (List Section)) (hM : R5 l0 p1 = some y) (hP : Pre S [own iG 26 (bK l0 aj), aO 9 aj.1 l0.aX, aO 9 aj.2.1 l0.bF, aO 81 aj.2.2.1 l0.Sections, aO 183 aj.2.2.2 l0.Links] w) (IZ : ak.ok S w eO p1) :
    Calls Tryz.prog 131 #[vP iG, sL eO p1] w (Post (β := (SR (ak.R Section))) S [own iG 26 (bK l0 aj), aO 9 aj.1 l0.aX, aO 9 aj.2.1 l0.bF, aO 81 aj.2.2.1 l0.Sections, aO 183 aj.2.2.2 l0.Links] (fun g => vI y.1) (fun g => [own iG 26 [sL aj.1 l0.aX, sL aj.2.1 l0.bF, sL g y.2, sL aj.2.2.2 l0.Links], aO 9 aj.1 l0.aX, aO 9 aj.2.1 l0.bF, aO 81 g y.2, aO 183 aj.2.2.2 l0.Links]) w) := by
 refine bR (args := [_, _]) Tryz.func131 rfl (hP.start |>.gQ (α := List Word) (r := eO) (x := p1) IZ) rfl ?_; unfold R5 at hM; refine sr ?_; refine oa ?_; refine on ?_; refine sr ?_; refine om ?_; obtain ⟨x1, hx2, hM⟩ := bind_some hM; refine oe (bA (xs := p1) 3 (kG p1 eO) (iS hx2)) ?_; refine oe (ay 0) ?_; refine oe (cZ (i := 2) (xs := p1) (y := x1) 0 (kG p1 eO) (fun _ => hx2)) ?_; obtain ⟨y3, hy4, hM⟩ := bind_some hM; refine aF (bg (fun w hm => let ⟨S, hs⟩ := hm; RV _ w x1.Text y3 hy4 (aT hs) ) ?_); refine om ?_; refine oe (gF (vs := [vI y3.1, .bool y3.2])) ?_; refine oe (gF (vs := [vI y3.1, .bool y3.2])) ?_; refine oa ?_; refine oa ?_; refine on ?_; refine sr ?_; refine om ?_; obtain ⟨x5, hx6, hM⟩ := bind_some hM; refine oe (bA (xs := p1) 3 (kG p1 eO) (iS hx6)) ?_; refine oe (ay 0) ?_; refine oe (cZ (i := 3) (xs := p1) (y := x5) 0 (kG p1 eO) (fun _ => hx6)) ?_; obtain ⟨y7, BL, hM⟩ := bind_some hM; refine aF (bg (fun w hm => let ⟨S, hs⟩ := hm; RV _ w x5.Text y7 BL (aT hs) ) ?_)
 refine om ?_; refine oe (gF (vs := [vI y7.1, .bool y7.2])) ?_; refine oe (gF (vs := [vI y7.1, .bool y7.2])) ?_; refine oa ?_; refine oa ?_; refine on ?_; refine sr ?_; refine om ?_; obtain ⟨x9, kR, hM⟩ := bind_some hM; refine oe (bA (xs := p1) 3 (kG p1 eO) (iS kR)) ?_; refine oe (ay 0) ?_; refine oe (cZ (i := 4) (xs := p1) (y := x9) 0 (kG p1 eO) (fun _ => kR)) ?_; obtain ⟨dP, qA, hM⟩ := bind_some hM; refine aF (bg (fun w hm => let ⟨S, hs⟩ := hm; RV _ w x9.Text dP qA (aT hs) ) ?_); refine om ?_; refine oe (gF (vs := [vI dP.1, .bool dP.2])) ?_; refine oe (gF (vs := [vI dP.1, .bool dP.2])) ?_; refine oa ?_; refine oa ?_; refine on ?_; refine aD fun K5 cu => ?_; refine sr ?_; refine om ?_; refine oe dN ?_; refine om ?_; refine av rfl aG ?_; refine av rfl dN ?_; refine oe dw ?_; refine om ?_; refine av rfl aG ?_; refine av rfl dN ?_; refine oe dw ?_; refine om ?_; refine av rfl aG ?_; refine av rfl bE ?_; refine av rfl dS ?_; refine av rfl aG ?_; refine av rfl aG ?_; obtain ⟨jK, qV, hM⟩ := bind_some hM
 refine av rfl (bA (xs := p1) 3 (kG p1 eO) (fun hg => let h := lg (dM qV hg); ⟨h.1, h.2.1⟩)) ?_; refine av rfl (ay 0) ?_; refine av rfl (cZ (i := 5) (xs := p1) (y := jK) 0 (kG p1 eO) (fun hg => dM qV hg)) ?_; refine av rfl Im ?_; refine av rfl cO ?_; refine oe dw ?_; refine on ?_; refine cc rfl hM (fun qy hM => ?_) (fun qy hM => ?_)
 · refine sr ?_; refine oa ?_; refine on ?_; obtain rfl := some_inj hM; refine aL (aZ (fun w hm => fO aj.2.2.1 hm rfl))
 refine aM (cu _ _ ?_); clear cu; refine sr ?_; refine om ?_; obtain ⟨mM, Jg, hM⟩ := bind_some hM; refine oe (bA (xs := p1) 3 (kG p1 eO) (iS Jg)) ?_; refine oe (ay 0) ?_; refine oe (cZ (i := 1) (xs := p1) (y := mM) 0 (kG p1 eO) (fun _ => Jg)) ?_; refine om ?_; refine om ?_; refine om ?_; refine oe (jE [.string mM.Text.ba, vI y3.1, vI y7.1, vI dP.1, vI (-1)]) ?_; refine aF (bQ rfl (k := fun b18 => ?_)); refine aF (bI (b := b18) (vs := [.string mM.Text.ba, vI y3.1, vI y7.1, vI dP.1, vI (-1)]) (k := ?_)); refine on ?_; refine iH (γ := Int × Unit) (env := fun (yM, _) => [(0, eP iG), (11, eP b18)]) (mem := fun (yM, _) => [aO 9 aj.1 l0.aX, aO 9 aj.2.1 l0.bF, aO 81 aj.2.2.1 l0.Sections, aO 183 aj.2.2.2 l0.Links, own iG 26 (bK l0 aj), own b18 81 [.string mM.Text.ba, vI y3.1, vI y7.1, vI dP.1, vI yM]]) (R := fun g => Nc l0 mM y3 y7 dP g.1 = some y) ?_ ?_
 · intro wm eY; refine sr ?_; refine om ?_; refine oe bE ?_; refine oe dS ?_; refine on ?_; refine cc rfl hM (fun hc22 hM => ?_) (fun hc22 hM => ?_)
   · refine aD fun uq iU => ?_; refine nY [own b18 81 [.string mM.Text.ba, vI y3.1, vI y7.1, vI dP.1, vI (-1)], iL p1 eO, own iG 26 (bK l0 aj), aO 9 aj.1 l0.aX, aO 9 aj.2.1 l0.bF, aO 81 aj.2.2.1 l0.Sections, aO 183 aj.2.2.2 l0.Links] 10 ?_; refine aP 0 rfl aG ?_; refine aP 1 rfl jU ?_; refine aP 2 rfl (ay 0) ?_; refine aP 3 rfl (aC (b := iG)) ?_; refine aP 4 rfl aG ?_; obtain ⟨x23, hx24, hM⟩ := bind_some hM; refine aP 5 rfl (bA (xs := p1) 3 (kG p1 eO) (iS hx24)) ?_; refine aP 6 rfl (ay 0) ?_; refine aP 7 rfl (cZ (i := 6) (xs := p1) (y := x23) 0 (kG p1 eO) (fun _ => hx24)) ?_; obtain ⟨y25, BK, hM⟩ := bind_some hM; refine kF 8 rfl (bg (fun w hm => let ⟨S, hs⟩ := hm; Nb _ w l0.aX aj.1 x23.Text y25 BK (aT hs) (kT hs)) ⟨rI, ?_⟩); refine aP 9 rfl (ay 4) ?_; refine nW rfl (qh (b := b18) (l' := [.string mM.Text.ba, vI y3.1, vI y7.1, vI dP.1, vI y25]) (k := ?_)); refine nV (iU _ _ ?_); clear iU; refine sr ?_; refine oe (ay 4) ?_
     refine oe (aC (b := b18)) ?_; refine oe bN ?_; refine on ?_; refine cc rfl hM (fun hc27 hM => ?_) (fun hc27 hM => ?_)
     · refine sr ?_; refine oa ?_; refine on ?_; obtain rfl := some_inj hM; refine aL (aZ (fun w hm => fO aj.2.2.1 hm rfl))
     refine aM (eY (y25, ()) _ _ hM ⟨rfl, rfl, trivial⟩ rI)
   refine aM (eY ((-1), ()) _ _ hM ⟨rfl, rfl, trivial⟩ rI)
 clear hM; intro g hM; obtain ⟨yM, ⟨⟩⟩ := g; dsimp only at hM ⊢; dsimp only [Nc] at hM; refine aD fun K9 eZ => ?_; refine nY [aO 9 aj.1 l0.aX, aO 9 aj.2.1 l0.bF, aO 183 aj.2.2.2 l0.Links, own iG 26 (bK l0 aj), own b18 81 [.string mM.Text.ba, vI y3.1, vI y7.1, vI dP.1, vI yM]] 10 ?_; refine aP 0 rfl aG ?_; refine aP 1 rfl aG ?_; refine aP 2 rfl jU ?_; refine aP 3 rfl (ay 2) ?_; refine aP 4 rfl (aC (b := iG)) ?_; refine aP 5 rfl (bH (b := b18)) ?_; refine kF 6 rfl (kE (α := Section) 81 (fun _ => ()) ([(Section.mk mM.Text y3.1 y7.1 dP.1 yM)] : List Section) oF (fun uH => ⟨rI, ?_⟩)); obtain ⟨Qf, hM⟩ := bO hM; refine kF 7 rfl (ow (r := aj.2.2.1) (r2 := uH) uR (Kn.aO (e := 81) (r := uH) hA) oF (of_decide_eq_true Qf) (fun Ck => ⟨rI, ?_⟩)); refine aP 8 rfl jU ?_; refine aP 9 rfl (ay 2) ?_; refine nW rfl (qh (b := iG) (l' := [sL aj.1 l0.aX, sL aj.2.1 l0.bF, .slice Ck.a ((l0.Sections ++ ([(Section.mk mM.Text y3.1 y7.1 dP.1 yM)] : List Section)).length) Ck.cap, sL aj.2.2.2 l0.Links]) (k := ?_))
 refine nV (eZ _ _ ?_); clear eZ; refine sr ?_; refine oa ?_; refine on ?_; obtain rfl := some_inj hM; refine aL (aZ (fun w hm => fO Ck hm rfl))
def Nf (s0 : Str) : Option Int :=
  if decide (s0 = (⟨[65]⟩ : Str)) then
    (some 0)
  else
    (if decide (s0 = (⟨[66]⟩ : Str)) then
      (some 1)
    else
      (some (-1)))
theorem J7 (S : bD) (w : World) (s0 : Str) (y : Int) (hM : Nf s0 = some y) (hS : sB S w)  :
    Calls Tryz.prog 173 #[.string s0.ba] w (bW w (vI y)) := by
 refine bR (args := [_]) Tryz.func173 rfl ((pre_nil hS).start) rfl ?_; unfold Nf at hM; refine sr ?_; refine oa ?_; refine on ?_; refine aD fun K2 hK2 => ?_; refine sr ?_; refine om ?_; refine on ?_; refine bf ?_; refine sr ?_; refine oe qo ?_; refine oa ?_; refine on ?_; refine cc rfl hM (fun hc1 hM => ?_) (fun hc1 hM => ?_)
 · refine sr ?_; refine oa ?_; refine on ?_; obtain rfl := some_inj hM; refine aL (aZ (fun w hm => aW hm rfl))
 refine sr ?_; refine oe qo ?_; refine oa ?_; refine on ?_; refine cc rfl hM (fun hc2 hM => ?_) (fun hc2 hM => ?_)
 · refine sr ?_; refine oa ?_; refine on ?_; obtain rfl := some_inj hM; refine aL (aZ (fun w hm => aW hm rfl))
 refine aM (hK2 _ _ ?_); clear hK2; refine sr ?_; refine oa ?_; refine on ?_; obtain rfl := some_inj hM; refine aL (aZ (fun w hm => aW hm rfl))
def J5 (l0 : Layout) (y13 : Int) (lY : Int) (mo : Int) (lZ : Int) : (Int × Int) → Option (Int × (List Link)) := fun (xV, xW) =>
  bM (decide ((l0.Links.length + ([(Link.mk y13 lY mo lZ xV xW)] : List Link).length) * 48 ≤ 140737488355328)) <|
  some (0, (l0.Links ++ ([(Link.mk y13 lY mo lZ xV xW)] : List Link)))
def R3 (p1 : List Word) (l0 : Layout) : (Int × Int) → Option (Int × (List Link)) := fun (lY, lZ) =>
  (dV ((!(decide (lY < 0) || decide (lZ < 0))) && decide ((p1.length : Int) = 7)) default (idx p1 6)).bind fun x1 =>
  (dV ((!(decide (lY < 0) || decide (lZ < 0))) && (decide ((p1.length : Int) = 7) && (!decide (x1.Text = (⟨[48]⟩ : Str))))) default (idx p1 6)).bind fun x3 =>
  if ((decide (lY < 0) || decide (lZ < 0)) || ((decide ((p1.length : Int) = 7) && (!decide (x1.Text = (⟨[48]⟩ : Str)))) && (!decide (x3.Text = (⟨[49]⟩ : Str))))) then
    (some (2, l0.Links))
  else
    ((Fw l0).bind fun y6 =>
    (idx p1 1).bind fun x9 =>
    (idx p1 3).bind fun Om =>
    (Fb y6 x9.Text).bind fun y13 =>
    (Fb y6 Om.Text).bind fun mo =>
    if (decide (y13 < 0) || decide (mo < 0)) then
      (some (3, l0.Links))
    else
      (if decide ((p1.length : Int) = 7) then
        ((idx p1 5).bind fun jL =>
        (Fb l0.bF jL.Text).bind fun y24 =>
        if decide (y24 < 0) then
          (some (3, l0.Links))
        else
          ((idx p1 6).bind fun x27 =>
          if decide (x27.Text = (⟨[49]⟩ : Str)) then
            (J5 l0 y13 lY mo lZ (y24, 1))
          else
            (J5 l0 y13 lY mo lZ (y24, 0))))
      else
        (J5 l0 y13 lY mo lZ ((-1), 0))))
def R4 (l0 : Layout) (p1 : List Word) : Option (Int × (List Link)) :=
  (idx p1 2).bind fun x30 =>
  (idx p1 4).bind fun x32 =>
  (Nf x30.Text).bind fun y34 =>
  (Nf x32.Text).bind fun nD =>
  R3 p1 l0 (y34, nD)
theorem agt (S : bD) (w : World) (iG : Nat) (l0 : Layout) (aj : ak.R Layout) (p1 : List Word) (eO : ak.R (List Word)) (y : Int × (List Link)) (hM : R4 l0 p1 = some y) (hP : Pre S [own iG 26 (bK l0 aj), aO 9 aj.1 l0.aX, aO 9 aj.2.1 l0.bF, aO 81 aj.2.2.1 l0.Sections, aO 183 aj.2.2.2 l0.Links] w) (IZ : ak.ok S w eO p1) :
    Calls Tryz.prog 132 #[vP iG, sL eO p1] w (Post (β := (SR (ak.R Link))) S [own iG 26 (bK l0 aj), aO 9 aj.1 l0.aX, aO 9 aj.2.1 l0.bF, aO 81 aj.2.2.1 l0.Sections, aO 183 aj.2.2.2 l0.Links] (fun g => vI y.1) (fun g => [own iG 26 [sL aj.1 l0.aX, sL aj.2.1 l0.bF, sL aj.2.2.1 l0.Sections, sL g y.2], aO 9 aj.1 l0.aX, aO 9 aj.2.1 l0.bF, aO 81 aj.2.2.1 l0.Sections, aO 183 g y.2]) w) := by
 refine bR (args := [_, _]) Tryz.func132 rfl (hP.start |>.gQ (α := List Word) (r := eO) (x := p1) IZ) rfl ?_; unfold R4 at hM; refine sr ?_; refine oa ?_; refine on ?_; refine iH (γ := (Int × Int) × Nat) (env := fun ((lY, lZ), nX) => [(0, eP iG), (1, eS eO p1), (5, eP nX)]) (mem := fun ((lY, lZ), nX) => [aO 9 aj.1 l0.aX, aO 9 aj.2.1 l0.bF, aO 81 aj.2.2.1 l0.Sections, aO 183 aj.2.2.2 l0.Links, own iG 26 (bK l0 aj), iL p1 eO, own nX 183 [vI 0, vI lY, vI 0, vI lZ, vI (-1), vI 0]]) (R := fun g => R3 p1 l0 g.1 = some y) ?_ ?_
 · intro wm eY; refine fA _ (List.Sublist.refl _) ?_; refine au 0 rfl aG ?_; obtain ⟨x30, hx31, hM⟩ := bind_some hM; refine au 1 rfl (bA (xs := p1) 3 (kG p1 eO) (iS hx31)) ?_; refine au 2 rfl (ay 0) ?_; refine au 3 rfl (cZ (i := 2) (xs := p1) (y := x30) 0 (kG p1 eO) (fun _ => hx31)) ?_; refine au 5 rfl aG ?_; obtain ⟨x32, BH, hM⟩ := bind_some hM; refine au 6 rfl (bA (xs := p1) 3 (kG p1 eO) (iS BH)) ?_; refine au 7 rfl (ay 0) ?_; refine au 8 rfl (cZ (i := 4) (xs := p1) (y := x32) 0 (kG p1 eO) (fun _ => BH)) ?_; obtain ⟨y34, WO, hM⟩ := bind_some hM; refine mO 4 11 (⟨_, rfl, rfl, bg (fun w hm => let ⟨S, hs⟩ := hm; J7 _ w x30.Text y34 WO (aT hs) ) ⟨rI, ?_⟩⟩) (⟨_, rfl, rfl, bQ rfl (k := fun HV => ⟨rI, ?_⟩)⟩)
   · obtain ⟨nD, hy38, hM⟩ := bind_some hM; refine mO 9 11 (⟨_, rfl, rfl, bg (fun w hm => let ⟨S, hs⟩ := hm; J7 _ w x32.Text nD hy38 (aT hs) ) ⟨rI, ?_⟩⟩) (⟨_, rfl, rfl, bQ rfl (k := fun zo => ⟨rI, ?_⟩)⟩)
     · refine au 10 rfl (jE [vI 0, vI y34, vI 0, vI nD, vI (-1), vI 0]) ?_; refine bB 11 rfl (bQ rfl (k := fun wu => ⟨rI, ?_⟩)); refine bB 12 rfl (bI (b := wu) (vs := [vI 0, vI y34, vI 0, vI nD, vI (-1), vI 0]) (k := ⟨rI, ?_⟩)); refine dG (eY ((y34, nD), wu) _ _ hM ⟨rfl, rfl, rfl, trivial⟩ rI)
     refine bB 9 rfl (bg (fun w hm => let ⟨S, hs⟩ := hm; J7 _ w x32.Text nD hy38 (aT hs) ) ⟨rI, ?_⟩); refine au 10 rfl (jE [vI 0, vI y34, vI 0, vI nD, vI (-1), vI 0]) ?_; refine bB 12 rfl (bI (b := zo) (vs := [vI 0, vI y34, vI 0, vI nD, vI (-1), vI 0]) (k := ⟨rI, ?_⟩)); refine dG (eY ((y34, nD), zo) _ _ hM ⟨rfl, rfl, rfl, trivial⟩ rI)
   refine bB 4 rfl (bg (fun w hm => let ⟨S, hs⟩ := hm; J7 _ w x30.Text y34 WO (aT hs) ) ⟨rI, ?_⟩); obtain ⟨Ou, aev, hM⟩ := bind_some hM; refine bB 9 rfl (bg (fun w hm => let ⟨S, hs⟩ := hm; J7 _ w x32.Text Ou aev (aT hs) ) ⟨rI, ?_⟩); refine au 10 rfl (jE [vI 0, vI y34, vI 0, vI Ou, vI (-1), vI 0]) ?_; refine bB 12 rfl (bI (b := HV) (vs := [vI 0, vI y34, vI 0, vI Ou, vI (-1), vI 0]) (k := ⟨rI, ?_⟩)); refine dG (eY ((y34, Ou), HV) _ _ hM ⟨rfl, rfl, rfl, trivial⟩ rI)
 clear hM; intro g hM; obtain ⟨⟨lY, lZ⟩, nX⟩ := g; dsimp only at hM ⊢; dsimp only [R3] at hM; refine aD fun K2 hK2 => ?_; refine sr ?_; refine oe (ay 1) ?_; refine oe (aC (b := nX)) ?_; refine oe bN ?_; refine om ?_; refine av rfl (ay 3) ?_; refine av rfl (aC (b := nX)) ?_; refine av rfl bN ?_; refine oe dw ?_; refine om ?_; refine av rfl aG ?_; refine av rfl bE ?_; refine av rfl dS ?_; refine av rfl aG ?_; refine av rfl aG ?_; obtain ⟨x1, hx2, hM⟩ := bind_some hM; refine av rfl (bA (xs := p1) 3 (kG p1 eO) (fun hg => let h := lg (dM hx2 hg); ⟨h.1, h.2.1⟩)) ?_; refine av rfl (ay 0) ?_; refine av rfl (cZ (i := 6) (xs := p1) (y := x1) 0 (kG p1 eO) (fun hg => dM hx2 hg)) ?_; refine av rfl Im ?_; refine av rfl cO ?_; refine av rfl aG ?_; refine av rfl aG ?_; obtain ⟨x3, hx4, hM⟩ := bind_some hM; refine av rfl (bA (xs := p1) 3 (kG p1 eO) (fun hg => let h := lg (dM hx4 hg); ⟨h.1, h.2.1⟩)) ?_; refine av rfl (ay 0) ?_; refine av rfl (cZ (i := 6) (xs := p1) (y := x3) 0 (kG p1 eO) (fun hg => dM hx4 hg)) ?_; refine av rfl Im ?_; refine av rfl cO ?_
 refine oe dw ?_; refine on ?_; refine cc rfl hM (fun gX hM => ?_) (fun gX hM => ?_)
 · refine sr ?_; refine oa ?_; refine on ?_; obtain rfl := some_inj hM; refine aL (aZ (fun w hm => fO aj.2.2.2 hm rfl))
 refine aM (hK2 _ _ ?_); clear hK2; refine sr ?_; refine om ?_; refine oe jU ?_; refine oe (bH (b := iG)) ?_; obtain ⟨y6, qC, hM⟩ := bind_some hM; refine aF (mK iQ.nil (fun S w hs hP => Y9 _ w l0 aj y6 qC (aT hs) ⟨(kT hs), (kT hs), (kT hs), (kT hs)⟩) pJ (fun r8 => ?_)); dsimp only [List.cons_append, List.nil_append]; refine oa ?_; refine on ?_; refine aD fun K6 cK => ?_; refine fA [aO 9 r8 y6, aO 9 aj.1 l0.aX, aO 9 aj.2.1 l0.bF, aO 81 aj.2.2.1 l0.Sections, aO 183 aj.2.2.2 l0.Links, own iG 26 (bK l0 aj), iL p1 eO] (by repeat (first | exact List.Sublist.refl _ | apply List.Sublist.cons_cons | apply List.Sublist.cons)) ?_; refine au 0 rfl aG ?_; refine au 1 rfl aG ?_; obtain ⟨x9, kR, hM⟩ := bind_some hM; refine au 2 rfl (bA (xs := p1) 3 (kG p1 eO) (iS kR)) ?_; refine au 3 rfl (ay 0) ?_; refine au 4 rfl (cZ (i := 1) (xs := p1) (y := x9) 0 (kG p1 eO) (fun _ => kR)) ?_; refine au 6 rfl aG ?_; refine au 7 rfl aG ?_; obtain ⟨Om, QD, hM⟩ := bind_some hM; refine au 8 rfl (bA (xs := p1) 3 (kG p1 eO) (iS QD)) ?_
 refine au 9 rfl (ay 0) ?_; refine au 10 rfl (cZ (i := 3) (xs := p1) (y := Om) 0 (kG p1 eO) (fun _ => QD)) ?_; obtain ⟨y13, sI, hM⟩ := bind_some hM; refine bB 5 rfl (bg (fun w hm => let ⟨S, hs⟩ := hm; Nb _ w y6 r8 x9.Text y13 sI (aT hs) (kT hs)) ⟨rI, ?_⟩); refine au 12 rfl (ay 0) ?_; obtain ⟨mo, QG, hM⟩ := bind_some hM; refine bB 11 rfl (bg (fun w hm => let ⟨S, hs⟩ := hm; Nb _ w y6 r8 Om.Text mo QG (aT hs) (kT hs)) ⟨rI, ?_⟩); refine bB 13 rfl (qh (b := nX) (l' := [vI y13, vI lY, vI 0, vI lZ, vI (-1), vI 0]) (k := ⟨rI, ?_⟩)); refine au 14 rfl (ay 2) ?_; refine bB 15 rfl (qh (b := nX) (l' := [vI y13, vI lY, vI mo, vI lZ, vI (-1), vI 0]) (k := ⟨rI, ?_⟩)); refine dG (cK _ _ ?_); clear cK; refine aD fun K7 dI => ?_; refine sr ?_; refine oe (ay 0) ?_; refine oe (aC (b := nX)) ?_; refine oe bN ?_; refine om ?_; refine av rfl (ay 2) ?_; refine av rfl (aC (b := nX)) ?_; refine av rfl bN ?_; refine oe dw ?_; refine on ?_; refine cc rfl hM (fun hc17 hM => ?_) (fun hc17 hM => ?_)
 · refine sr ?_; refine oa ?_; refine on ?_; obtain rfl := some_inj hM; refine aL (aZ (fun w hm => fO aj.2.2.2 hm rfl))
 refine aM (dI _ _ ?_); clear dI; refine iH (γ := (Int × Int) × Unit) (env := fun ((xV, xW), _) => [(0, eP iG), (5, eP nX)]) (mem := fun ((xV, xW), _) => [aO 9 aj.1 l0.aX, aO 9 aj.2.1 l0.bF, aO 81 aj.2.2.1 l0.Sections, aO 183 aj.2.2.2 l0.Links, own iG 26 (bK l0 aj), own nX 183 [vI y13, vI lY, vI mo, vI lZ, vI xV, vI xW]]) (R := fun g => J5 l0 y13 lY mo lZ g.1 = some y) ?_ ?_
 · intro uO hJ2; refine sr ?_; refine om ?_; refine oe bE ?_; refine oe dS ?_; refine on ?_; refine cc rfl hM (fun hc21 hM => ?_) (fun hc21 hM => ?_)
   · refine aD fun uM jr => ?_; refine nY [aO 9 r8 y6, aO 9 aj.1 l0.aX, aO 9 aj.2.1 l0.bF, aO 81 aj.2.2.1 l0.Sections, aO 183 aj.2.2.2 l0.Links, own iG 26 (bK l0 aj), iL p1 eO, own nX 183 [vI y13, vI lY, vI mo, vI lZ, vI (-1), vI 0]] 10 ?_; refine aP 0 rfl aG ?_; refine aP 1 rfl jU ?_; refine aP 2 rfl (ay 1) ?_; refine aP 3 rfl (aC (b := iG)) ?_; refine aP 4 rfl aG ?_; obtain ⟨jL, zT, hM⟩ := bind_some hM; refine aP 5 rfl (bA (xs := p1) 3 (kG p1 eO) (iS zT)) ?_; refine aP 6 rfl (ay 0) ?_; refine aP 7 rfl (cZ (i := 5) (xs := p1) (y := jL) 0 (kG p1 eO) (fun _ => zT)) ?_; obtain ⟨y24, hy25, hM⟩ := bind_some hM; refine kF 8 rfl (bg (fun w hm => let ⟨S, hs⟩ := hm; Nb _ w l0.bF aj.2.1 jL.Text y24 hy25 (aT hs) (kT hs)) ⟨rI, ?_⟩); refine aP 9 rfl (ay 4) ?_; refine nW rfl (qh (b := nX) (l' := [vI y13, vI lY, vI mo, vI lZ, vI y24, vI 0]) (k := ?_)); refine nV (jr _ _ ?_); clear jr; refine aD fun uN jv => ?_; refine aD fun wh jN => ?_
     refine aR ?_; refine oe (ay 4) ?_; refine oe (aC (b := nX)) ?_; refine oe bN ?_; refine aU (jN _ _ ?_); clear jN; refine cc rfl hM (fun Qh hM => ?_) (fun Qh hM => ?_)
     · refine sr ?_; refine oa ?_; refine on ?_; obtain rfl := some_inj hM; refine aL (aZ (fun w hm => fO aj.2.2.2 hm rfl))
     refine aM (jv _ _ ?_); clear jv; refine sr ?_; refine om ?_; obtain ⟨x27, hx28, hM⟩ := bind_some hM; refine oe (bA (xs := p1) 3 (kG p1 eO) (iS hx28)) ?_; refine oe (ay 0) ?_; refine oe (cZ (i := 6) (xs := p1) (y := x27) 0 (kG p1 eO) (fun _ => hx28)) ?_; refine oe qo ?_; refine on ?_; refine cc rfl hM (fun hc29 hM => ?_) (fun hc29 hM => ?_)
     · refine aR ?_; refine oe (ay 5) ?_; refine aF (qh (b := nX) (l' := [vI y13, vI lY, vI mo, vI lZ, vI y24, vI 1]) (k := ?_)); refine aU (hJ2 ((y24, 1), ()) _ _ hM ⟨rfl, rfl, trivial⟩ rI)
     refine aM (hJ2 ((y24, 0), ()) _ _ hM ⟨rfl, rfl, trivial⟩ rI)
   refine aM (hJ2 (((-1), 0), ()) _ _ hM ⟨rfl, rfl, trivial⟩ rI)
 clear hM; intro g hM; obtain ⟨⟨xV, xW⟩, ⟨⟩⟩ := g; dsimp only at hM ⊢; dsimp only [J5] at hM; refine aD fun pE gu => ?_; refine nY [aO 9 aj.1 l0.aX, aO 9 aj.2.1 l0.bF, aO 81 aj.2.2.1 l0.Sections, own iG 26 (bK l0 aj), own nX 183 [vI y13, vI lY, vI mo, vI lZ, vI xV, vI xW]] 10 ?_; refine aP 0 rfl aG ?_; refine aP 1 rfl aG ?_; refine aP 2 rfl jU ?_; refine aP 3 rfl (ay 3) ?_; refine aP 4 rfl (aC (b := iG)) ?_; refine aP 5 rfl (bH (b := nX)) ?_; refine kF 6 rfl (kE (α := Link) 183 (fun _ => ()) ([(Link.mk y13 lY mo lZ xV xW)] : List Link) oF (fun YK => ⟨rI, ?_⟩)); obtain ⟨Qe, hM⟩ := bO hM; refine kF 7 rfl (ow (r := aj.2.2.2) (r2 := YK) uR (Kn.aO (e := 183) (r := YK) hA) oF (of_decide_eq_true Qe) (fun uH => ⟨rI, ?_⟩)); refine aP 8 rfl jU ?_; refine aP 9 rfl (ay 3) ?_; refine nW rfl (qh (b := iG) (l' := [sL aj.1 l0.aX, sL aj.2.1 l0.bF, sL aj.2.2.1 l0.Sections, .slice uH.a ((l0.Links ++ ([(Link.mk y13 lY mo lZ xV xW)] : List Link)).length) uH.cap]) (k := ?_))
 refine nV (gu _ _ ?_); clear gu; refine sr ?_; refine oa ?_; refine on ?_; obtain rfl := some_inj hM; refine aL (aZ (fun w hm => fO uH hm rfl))
def R6 (l0 : Layout) (p1 : List Word) : Option (Int × (List Str) × (List Str) × (List Section) × (List Link)) :=
  (dV (decide ((p1.length : Int) = 2)) default (idx p1 0)).bind fun x1 =>
  if (decide ((p1.length : Int) = 2) && decide (x1.Text = (⟨[115, 116, 97, 116, 105, 111, 110]⟩ : Str))) then
    ((idx p1 1).bind fun x4 =>
    bM (decide ((l0.aX.length + ([x4.Text] : List Str).length) * 16 ≤ 140737488355328)) <|
    some (0, (l0.aX ++ ([x4.Text] : List Str)), l0.bF, l0.Sections, l0.Links))
  else
    ((dV (decide ((p1.length : Int) = 2)) default (idx p1 0)).bind fun x9 =>
    if (decide ((p1.length : Int) = 2) && decide (x9.Text = (⟨[112, 111, 105, 110, 116]⟩ : Str))) then
      ((idx p1 1).bind fun jf =>
      bM (decide ((l0.bF.length + ([jf.Text] : List Str).length) * 16 ≤ 140737488355328)) <|
      some (0, l0.aX, (l0.bF ++ ([jf.Text] : List Str)), l0.Sections, l0.Links))
    else
      ((dV (decide ((p1.length : Int) = 5) || decide ((p1.length : Int) = 7)) default (idx p1 0)).bind fun iM =>
      if ((decide ((p1.length : Int) = 5) || decide ((p1.length : Int) = 7)) && decide (iM.Text = (⟨[115, 101, 99, 116, 105, 111, 110]⟩ : Str))) then
        ((R5 l0 p1).bind fun y20 =>
        some (y20.1, l0.aX, l0.bF, y20.2, l0.Links))
      else
        ((dV (decide ((p1.length : Int) = 5) || decide ((p1.length : Int) = 7)) default (idx p1 0)).bind fun x23 =>
        if ((decide ((p1.length : Int) = 5) || decide ((p1.length : Int) = 7)) && decide (x23.Text = (⟨[108, 105, 110, 107]⟩ : Str))) then
          ((R4 l0 p1).bind fun ko =>
          some (ko.1, l0.aX, l0.bF, l0.Sections, ko.2))
        else
          (some (2, l0.aX, l0.bF, l0.Sections, l0.Links)))))
theorem agv (S : bD) (w : World) (iG : Nat) (l0 : Layout) (aj : ak.R Layout) (p1 : List Word) (eO : ak.R (List Word)) (y : Int × (List Str) × (List Str) × (List Section) × (List Link)) (hM : R6 l0 p1 = some y) (hP : Pre S [own iG 26 (bK l0 aj), aO 9 aj.1 l0.aX, aO 9 aj.2.1 l0.bF, aO 81 aj.2.2.1 l0.Sections, aO 183 aj.2.2.2 l0.Links] w) (IZ : ak.ok S w eO p1) :
    Calls Tryz.prog 71 #[vP iG, sL eO p1] w (Post (β := (SR (ak.R Str)) × (SR (ak.R Str)) × (SR (ak.R Section)) × (SR (ak.R Link))) S [own iG 26 (bK l0 aj), aO 9 aj.1 l0.aX, aO 9 aj.2.1 l0.bF, aO 81 aj.2.2.1 l0.Sections, aO 183 aj.2.2.2 l0.Links] (fun g => vI y.1) (fun g => [own iG 26 [sL g.1 y.2.1, sL g.2.1 y.2.2.1, sL g.2.2.1 y.2.2.2.1, sL g.2.2.2 y.2.2.2.2], aO 9 g.1 y.2.1, aO 9 g.2.1 y.2.2.1, aO 81 g.2.2.1 y.2.2.2.1, aO 183 g.2.2.2 y.2.2.2.2]) w) := by
 refine bR (args := [_, _]) Tryz.func71 rfl (hP.start |>.gQ (α := List Word) (r := eO) (x := p1) IZ) rfl ?_; unfold R6 at hM; refine sr ?_; refine oa ?_; refine on ?_; refine aD fun K2 hK2 => ?_; refine bf ?_; refine sr ?_; refine om ?_; refine oe bE ?_; refine oe dS ?_; refine om ?_; refine av rfl aG ?_; obtain ⟨x1, hx2, hM⟩ := bind_some hM; refine av rfl (bA (xs := p1) 3 (kG p1 eO) (fun hg => let h := lg (dM hx2 hg); ⟨h.1, h.2.1⟩)) ?_; refine av rfl (ay 0) ?_; refine av rfl (cZ (i := 0) (xs := p1) (y := x1) 0 (kG p1 eO) (fun hg => dM hx2 hg)) ?_; refine av rfl qo ?_; refine oe cO ?_; refine oa ?_; refine on ?_; refine cc rfl hM (fun hc3 hM => ?_) (fun hc3 hM => ?_)
 · refine aD fun K4 hK4 => ?_; refine nY [iL p1 eO, own iG 26 (bK l0 aj), aO 9 aj.2.1 l0.bF, aO 81 aj.2.2.1 l0.Sections, aO 183 aj.2.2.2 l0.Links] 13 ?_; refine aP 0 rfl aG ?_; refine aP 1 rfl aG ?_; refine aP 2 rfl jU ?_; refine aP 3 rfl (ay 0) ?_; refine aP 4 rfl (aC (b := iG)) ?_; refine aP 5 rfl aG ?_; obtain ⟨x4, hx5, hM⟩ := bind_some hM; refine aP 6 rfl (bA (xs := p1) 3 (kG p1 eO) (iS hx5)) ?_; refine aP 7 rfl (ay 0) ?_; refine aP 8 rfl (cZ (i := 1) (xs := p1) (y := x4) 0 (kG p1 eO) (fun _ => hx5)) ?_; refine kF 9 rfl (kE (α := Str) 9 (fun _ => ()) ([x4.Text] : List Str) oF (fun r6 => ⟨rI, ?_⟩)); obtain ⟨Qg, hM⟩ := bO hM; refine kF 10 rfl (ow (r := aj.1) (r2 := r6) uR (Kn.aO (e := 9) (r := r6) hA) oF (of_decide_eq_true Qg) (fun r7 => ⟨rI, ?_⟩)); refine aP 11 rfl jU ?_; refine aP 12 rfl (ay 0) ?_; refine nW rfl (qh (b := iG) (l' := [.slice r7.a ((l0.aX ++ ([x4.Text] : List Str)).length) r7.cap, sL aj.2.1 l0.bF, sL aj.2.2.1 l0.Sections, sL aj.2.2.2 l0.Links]) (k := ?_))
   refine nV (hK4 _ _ ?_); clear hK4; refine sr ?_; refine oa ?_; refine on ?_; obtain rfl := some_inj hM; refine aL (aZ (fun w hm => fO (r7, aj.2.1, aj.2.2.1, aj.2.2.2) hm rfl))
 refine sr ?_; refine om ?_; refine oe bE ?_; refine oe dS ?_; refine om ?_; refine av rfl aG ?_; obtain ⟨x9, kR, hM⟩ := bind_some hM; refine av rfl (bA (xs := p1) 3 (kG p1 eO) (fun hg => let h := lg (dM kR hg); ⟨h.1, h.2.1⟩)) ?_; refine av rfl (ay 0) ?_; refine av rfl (cZ (i := 0) (xs := p1) (y := x9) 0 (kG p1 eO) (fun hg => dM kR hg)) ?_; refine av rfl qo ?_; refine oe cO ?_; refine oa ?_; refine on ?_; refine cc rfl hM (fun su hM => ?_) (fun su hM => ?_)
 · refine aD fun K7 dI => ?_; refine nY [iL p1 eO, own iG 26 (bK l0 aj), aO 9 aj.1 l0.aX, aO 81 aj.2.2.1 l0.Sections, aO 183 aj.2.2.2 l0.Links] 13 ?_; refine aP 0 rfl aG ?_; refine aP 1 rfl aG ?_; refine aP 2 rfl jU ?_; refine aP 3 rfl (ay 1) ?_; refine aP 4 rfl (aC (b := iG)) ?_; refine aP 5 rfl aG ?_; obtain ⟨jf, zR, hM⟩ := bind_some hM; refine aP 6 rfl (bA (xs := p1) 3 (kG p1 eO) (iS zR)) ?_; refine aP 7 rfl (ay 0) ?_; refine aP 8 rfl (cZ (i := 1) (xs := p1) (y := jf) 0 (kG p1 eO) (fun _ => zR)) ?_; refine kF 9 rfl (kE (α := Str) 9 (fun _ => ()) ([jf.Text] : List Str) oF (fun MX => ⟨rI, ?_⟩)); obtain ⟨acg, hM⟩ := bO hM; refine kF 10 rfl (ow (r := aj.2.1) (r2 := MX) uR (Kn.aO (e := 9) (r := MX) hA) oF (of_decide_eq_true acg) (fun yx => ⟨rI, ?_⟩)); refine aP 11 rfl jU ?_; refine aP 12 rfl (ay 1) ?_; refine nW rfl (qh (b := iG) (l' := [sL aj.1 l0.aX, .slice yx.a ((l0.bF ++ ([jf.Text] : List Str)).length) yx.cap, sL aj.2.2.1 l0.Sections, sL aj.2.2.2 l0.Links]) (k := ?_))
   refine nV (dI _ _ ?_); clear dI; refine sr ?_; refine oa ?_; refine on ?_; obtain rfl := some_inj hM; refine aL (aZ (fun w hm => fO (aj.1, yx, aj.2.2.1, aj.2.2.2) hm rfl))
 refine sr ?_; refine om ?_; refine oe bE ?_; refine oe dS ?_; refine om ?_; refine av rfl aG ?_; refine av rfl bE ?_; refine av rfl dS ?_; refine oe dw ?_; refine om ?_; refine av rfl aG ?_; obtain ⟨iM, sG, hM⟩ := bind_some hM; refine av rfl (bA (xs := p1) 3 (kG p1 eO) (fun hg => let h := lg (dM sG hg); ⟨h.1, h.2.1⟩)) ?_; refine av rfl (ay 0) ?_; refine av rfl (cZ (i := 0) (xs := p1) (y := iM) 0 (kG p1 eO) (fun hg => dM sG hg)) ?_; refine av rfl qo ?_; refine oe cO ?_; refine oa ?_; refine on ?_; refine cc rfl hM (fun hc19 hM => ?_) (fun hc19 hM => ?_)
 · refine sr ?_; refine om ?_; refine om ?_; obtain ⟨y20, vB, hM⟩ := bind_some hM; refine aF (mK sA (fun S w hs hP => agu _ w iG l0 aj p1 eO y20 vB hP (kM hs)) pJ (fun tN => ?_)); dsimp only [List.cons_append, List.nil_append]; refine oa ?_; refine on ?_; obtain rfl := some_inj hM; refine aL (aZ (fun w hm => fO (aj.1, aj.2.1, tN, aj.2.2.2) hm rfl))
 refine sr ?_; refine om ?_; refine oe bE ?_; refine oe dS ?_; refine om ?_; refine av rfl aG ?_; refine av rfl bE ?_; refine av rfl dS ?_; refine oe dw ?_; refine om ?_; refine av rfl aG ?_; obtain ⟨x23, hx24, hM⟩ := bind_some hM; refine av rfl (bA (xs := p1) 3 (kG p1 eO) (fun hg => let h := lg (dM hx24 hg); ⟨h.1, h.2.1⟩)) ?_; refine av rfl (ay 0) ?_; refine av rfl (cZ (i := 0) (xs := p1) (y := x23) 0 (kG p1 eO) (fun hg => dM hx24 hg)) ?_; refine av rfl qo ?_; refine oe cO ?_; refine oa ?_; refine on ?_; refine cc rfl hM (fun hc25 hM => ?_) (fun hc25 hM => ?_)
 · refine sr ?_; refine om ?_; refine om ?_; obtain ⟨ko, hy27, hM⟩ := bind_some hM; refine aF (mK sA (fun S w hs hP => agt _ w iG l0 aj p1 eO ko hy27 hP (kM hs)) pJ (fun RG => ?_)); dsimp only [List.cons_append, List.nil_append]; refine oa ?_; refine on ?_; obtain rfl := some_inj hM; refine aL (aZ (fun w hm => fO (aj.1, aj.2.1, aj.2.2.1, RG) hm rfl))
 refine aM (hK2 _ _ ?_); clear hK2; refine sr ?_; refine oa ?_; refine on ?_; obtain rfl := some_inj hM; refine aL (aZ (fun w hm => fO (aj.1, aj.2.1, aj.2.2.1, aj.2.2.2) hm rfl))
end Go.Proofs.YtcalibhfgdncaaaGreatDoor
