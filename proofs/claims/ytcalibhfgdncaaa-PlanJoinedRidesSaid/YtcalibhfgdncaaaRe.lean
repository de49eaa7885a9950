/- Models of functions, and that the code computes them. -/
import Derived.Test.YtcalibhfgdncaaaRd
set_option linter.all false
namespace Go.Proofs.Ytcalibhfgdncaaa
open Go.Dc Go.RowKit
set_option maxRecDepth 10000
def M4 (x0 : Int) (p1 : Int) : Option (Int × Int) :=
  some ((IntKind.u64.wrap ((IntKind.u64.wrap ((IntKind.u64.wrap ((yx .u64 x0 32) * (yx .u64 p1 32))) + (yx .u64 (IntKind.u64.wrap ((IntKind.u64.wrap ((yx .u64 x0 32) * (yP .u64 p1 4294967295))) + (yx .u64 (IntKind.u64.wrap ((yP .u64 x0 4294967295) * (yP .u64 p1 4294967295))) 32))) 32))) + (yx .u64 (IntKind.u64.wrap ((yP .u64 (IntKind.u64.wrap ((IntKind.u64.wrap ((yx .u64 x0 32) * (yP .u64 p1 4294967295))) + (yx .u64 (IntKind.u64.wrap ((yP .u64 x0 4294967295) * (yP .u64 p1 4294967295))) 32))) 4294967295) + (IntKind.u64.wrap ((yP .u64 x0 4294967295) * (yx .u64 p1 32))))) 32))), (IntKind.u64.wrap (x0 * p1)))
theorem X9 (S : bU) (w : World) (x0 : Int) (p1 : Int) (y : Int × Int) (hM : M4 x0 p1 = some y) (hS : sB S w)  :
    Calls Try.prog 99 #[.int .u64 x0, .int .u64 p1] w (dQ w (.tuple #[.int .u64 y.1, .int .u64 y.2])) := by
 refine dH (args := [_, _]) Try.func99 rfl ((pre_nil hS).start) rfl ?_; unfold M4 at hM; refine sr ?_; refine oa ?_; refine oa ?_; refine on ?_; refine sr ?_; refine om ?_; refine oe Nh ?_; refine oa ?_; refine on ?_; refine sr ?_; refine om ?_; refine oe (Gv (q := 32) (fun _ => by decide)) ?_; refine oa ?_; refine on ?_; refine sr ?_; refine om ?_; refine oe Nh ?_; refine oa ?_; refine on ?_; refine sr ?_; refine om ?_; refine oe (Gv (q := 32) (fun _ => by decide)) ?_; refine oa ?_; refine on ?_; refine sr ?_; refine om ?_; refine om ?_; refine oe DR ?_; refine oa ?_; refine on ?_; refine sr ?_; refine om ?_; refine om ?_; refine oe DR ?_; refine om ?_; refine oe (Gv (q := 32) (fun _ => by decide)) ?_; refine oe Gs ?_; refine oa ?_; refine on ?_; refine sr ?_; refine om ?_; refine oe Nh ?_; refine oa ?_
 refine on ?_; refine sr ?_; refine om ?_; refine oe (Gv (q := 32) (fun _ => by decide)) ?_; refine oa ?_; refine on ?_; refine sr ?_; refine om ?_; refine om ?_; refine om ?_; refine oe DR ?_; refine oe Gs ?_; refine oa ?_; refine on ?_; refine sr ?_; refine om ?_; refine om ?_; refine oe DR ?_; refine om ?_; refine oe Gs ?_; refine om ?_; refine oe (Gv (q := 32) (fun _ => by decide)) ?_; refine oe Gs ?_; refine oa ?_; refine on ?_; refine sr ?_; refine om ?_; refine om ?_; refine oe DR ?_; refine oa ?_; refine on ?_; obtain rfl := some_inj hM; refine bn (lF (fun w hm => bQ hm rfl))
def J3 (x0 : Int) (p1 : Int) : Option (Int × Int) :=
  (M4 x0 p1).bind fun y1 =>
  some (y1.1, y1.2)
theorem Ya (S : bU) (w : World) (x0 : Int) (p1 : Int) (y : Int × Int) (hM : J3 x0 p1 = some y) (hS : sB S w)  :
    Calls Try.prog 97 #[.int .u64 x0, .int .u64 p1] w (dQ w (.tuple #[.int .u64 y.1, .int .u64 y.2])) := by
 refine dH (args := [_, _]) Try.func97 rfl ((pre_nil hS).start) rfl ?_; unfold J3 at hM; refine sr ?_; refine oa ?_; refine oa ?_; refine on ?_; refine aO fun K2 hK2 => ?_; refine M9 rfl rfl ?_; refine bA (hK2 _ _ ?_); clear hK2; refine sr ?_; refine om ?_; refine om ?_; obtain ⟨y1, hy2, hM⟩ := bind_some hM; refine aM (bJ (fun w hm => let ⟨S, hs⟩ := hm; X9 _ w x0 p1 y1 hy2 (bB hs) ) ?_); refine om ?_; refine oe (jA (vs := [.int .u64 y1.1, .int .u64 y1.2])) ?_; refine oe (jA (vs := [.int .u64 y1.1, .int .u64 y1.2])) ?_; refine oa ?_; refine oa ?_; refine on ?_; refine sr ?_; refine om ?_; refine om ?_; refine oa ?_; refine oa ?_; refine on ?_; obtain rfl := some_inj hM; refine bn (lF (fun w hm => bQ hm rfl))
def WK (rJ : List Cell) : Unit → Option (List Cell) := fun _ =>
  some rJ
def Jv (bI : ((List Cell) × Int) → Option (List Cell)) : ((List Cell) × Int) → Option (List Cell) := fun (rJ, jO) =>
  if decide (jO < (rJ.length : Int)) then
    ((sub rJ jO (rJ.length : Int)).bind fun l9 =>
    (sub rJ 0 jO).bind fun Ep =>
    (xE rJ (jO.toNat) l9.length Ep).bind fun vE =>
    bq (bP (jO + ((Nat.min Ep.length l9.length : Nat) : Int))) <|
    bI (vE, (jO + ((Nat.min Ep.length l9.length : Nat) : Int))))
  else
    (WK rJ ())
def Mf (y1 : Int × Int) (x0 : List Cell) : Unit → Option (List Cell) := fun _ =>
  (mk (α := Cell) (Cell.mk 0 0) (IntKind.i64.wrap y1.2)).bind fun m3 =>
  (xE m3 0 m3.length x0).bind fun l6 =>
  iter (Jv) FUEL (l6, ((Nat.min x0.length m3.length : Nat) : Int))
def Me (x0 : List Cell) (xC : Int) : Unit → Option (List Cell) := fun _ =>
  (J3 (IntKind.u64.wrap (x0.length : Int)) (IntKind.u64.wrap xC)).bind fun y1 =>
  if (decide (0 < y1.1) || decide (9223372036854775807 < y1.2)) then
    (none)
  else
    (Mf y1 x0 ())
def Jw (x0 : List Cell) (xC : Int) : Option (List Cell) :=
  if decide (xC < 0) then
    (none)
  else
    (Me x0 xC ())
theorem aeh (S : bU) (w : World) (x0 : List Cell) (AP : aj.R (List Cell)) (xC : Int) (y : (List Cell)) (hM : Jw x0 xC = some y) (hS : sB S w) (ZT : aj.ok S w AP x0) :
    Calls Try.prog 94 #[sL AP x0, vI xC] w (Post (β := (aj.R (List Cell))) S [] (fun g => sL g y) (fun g => [ah 172 g y]) w) := by
 refine dH (args := [_, _]) Try.func94 rfl ((pre_nil hS).start |>.gU (α := List Cell) (r := AP) (x := x0) ZT) rfl ?_; unfold Jw at hM; refine sr ?_; refine oa ?_; refine on ?_; refine kL (γ := Unit × Unit) (env := fun (_, _) => [(0, eS AP x0), (1, eI xC)]) (mem := fun (_, _) => [iL x0 AP]) (R := fun g => Me x0 xC g.1 = some y) ?_ ?_
 · intro vT eF; refine sr ?_; refine om ?_; refine oe dJ ?_; refine on ?_; refine cc rfl hM (fun hc19 hM => ?_) (fun hc19 hM => ?_)
   · refine bE ?_; cases hM
   refine bA (eF ((), ()) _ _ hM ⟨rfl, rfl, trivial⟩ rI)
 clear hM; intro g hM; obtain ⟨⟨⟩, ⟨⟩⟩ := g; dsimp only at hM ⊢; dsimp only [Me] at hM; refine sr ?_; refine om ?_; refine oe bR ?_; refine oe (z8 .u64) ?_; refine om ?_; refine oe (z8 .u64) ?_; obtain ⟨y1, hy2, hM⟩ := bind_some hM; refine aM (bJ (fun w hm => let ⟨S, hs⟩ := hm; Ya _ w (IntKind.u64.wrap (x0.length : Int)) (IntKind.u64.wrap xC) y1 hy2 (bB hs) ) ?_); refine om ?_; refine oe (jA (vs := [.int .u64 y1.1, .int .u64 y1.2])) ?_; refine oe (jA (vs := [.int .u64 y1.1, .int .u64 y1.2])) ?_; refine oa ?_; refine oa ?_; refine on ?_; refine kL (γ := Unit × Unit) (env := fun (_, _) => [(0, eS AP x0), (6, .v (.int .u64 y1.2))]) (mem := fun (_, _) => [iL x0 AP]) (R := fun g => Mf y1 x0 g.1 = some y) ?_ ?_
 · intro zR hJ2; refine sr ?_; refine om ?_; refine oe iH ?_; refine om ?_; refine aF rfl aL ?_; refine aF rfl iH ?_; refine oe eu ?_; refine on ?_; refine cc rfl hM (fun hc18 hM => ?_) (fun hc18 hM => ?_)
   · refine bE ?_; cases hM
   refine bA (hJ2 ((), ()) _ _ hM ⟨rfl, rfl, trivial⟩ rI)
 clear hM; intro g hM; obtain ⟨⟨⟩, ⟨⟩⟩ := g; dsimp only at hM ⊢; dsimp only [Mf] at hM; refine sr ?_; refine om ?_; refine oe (z8 .i64) ?_; obtain ⟨m3, hm4, hM⟩ := bind_some hM; refine aM (WS (α := Cell) (e := 172) (Cell.mk 0 0) () hm4 (fun _ _ => trivial) (fun r5 hr5 => ?_)); refine oa ?_; refine on ?_; refine sr ?_; refine om ?_; refine om ?_; obtain ⟨l6, KG, hM⟩ := bind_some hM; refine aM (WR (r := r5) (xs := m3) uA (kG x0 AP) KG From.all (fun _ _ _ _ => trivial) (fun _ _ _ => rfl) ?_); refine Pz 30 (v' := sL r5 l6) rfl (by simp only [BI KG, List.length_set, eS, sL]) ?_; refine Pz 7 (v' := sL r5 l6) rfl (by simp only [BI KG, List.length_set, eS, sL]) ?_; refine Pz 31 (v' := sL r5 l6) rfl (by simp only [BI KG, List.length_set, eS, sL]) ?_; refine oa ?_; refine on ?_; refine aO fun K5 dW => ?_; refine bX ?_; refine fM (γ := Nat × ((List Cell) × Int) × Unit) (env := fun (_, (rJ, jO), _) => [(7, eS r5 rJ), (8, eI jO)]) (mem := fun (_, (rJ, jO), _) => [ah 172 r5 rJ]) (R := fun g => iter (Jv) g.1 g.2.1 = some y) (μ := fun g => g.1) (FUEL, (l6, ((Nat.min x0.length m3.length : Nat) : Int)), ()) hM ⟨rfl, rfl, trivial⟩ rI ?_
 clear hM; intro g hM jw hL1; obtain ⟨dx, ⟨rJ, jO⟩, ⟨⟩⟩ := g; dsimp only at hM ⊢; obtain ⟨dx, bI, rfl, eH, hM⟩ := gG hM; dsimp only [Jv] at hM; refine aO fun K6 dM => ?_; refine sr ?_; refine om ?_; refine om ?_; refine oe bR ?_; refine oe dJ ?_; refine on ?_; refine cc rfl hM (fun hc8 hM => ?_) (fun hc8 hM => ?_)
 · refine bA (dM _ _ ?_); clear dM; refine bX ?_; refine jh [] (by repeat (first | exact List.Sublist.refl _ | apply List.Sublist.cons_cons | apply List.Sublist.cons)) ?_; refine aJ 0 rfl aL ?_; refine aJ 1 rfl aL ?_; refine aJ 2 rfl aL ?_; obtain ⟨l9, aa3, hM⟩ := bind_some hM; refine MZ (fun w hm => Kn.SS (Kn.ah (e := 172) (r := r5) hA) hm) fun aaU => ?_; refine aJ 3 rfl (Tt (xs := rJ) (ol := some (.i64, jO)) (oh := none) aaU (fun _ => aa3)) ?_; refine aJ 4 rfl aL ?_; refine aJ 5 rfl aL ?_; obtain ⟨Ep, Ua, hM⟩ := bind_some hM; refine MZ (fun w hm => Kn.SS (Kn.ah (e := 172) (r := r5) hA) hm) fun aaV => ?_; refine aJ 6 rfl (Tt (xs := rJ) (ol := none) (oh := some (.i64, jO)) aaV (fun _ => Ua)) ?_; obtain ⟨vE, Ib, hM⟩ := bind_some hM; refine bO 7 rfl (WR (r := r5) (xs := rJ) uA (Kn.aer (Kn.ah (e := 172) (r := r5) hA) Ua) Ib From.sub (fun _ _ _ _ => trivial) (fun _ _ _ => rfl) ⟨rI, ?_⟩); refine JX 7 (v' := sL r5 vE) rfl (by simp only [BI Ib, List.length_set, eS, sL]) ?_; refine JX 35 (v' := sL r5 vE) rfl (by simp only [BI Ib, List.length_set, eS, sL]) ?_; refine JX 39 (v' := sL r5 vE) rfl (by simp only [BI Ib, List.length_set, eS, sL]) ?_; refine JX 42 (v' := sL r5 vE) rfl (by simp only [BI Ib, List.length_set, eS, sL]) ?_; obtain ⟨GL, hM⟩ := bC hM; refine aJ 8 rfl (dh (hr := fun hg => bS GL)) ?_
   refine aJ 9 rfl d9 ?_; refine eT (hL1 (dx, (vE, (jO + ((Nat.min Ep.length l9.length : Nat) : Int))), ()) _ _ (eqc eH hM) (Nat.lt_succ_self _) ⟨rfl, rfl, trivial⟩ rI)
 refine fI (dW _ _ ?_); clear dW; dsimp only [WK] at hM; refine sr ?_; refine om ?_; refine oa ?_; refine on ?_; obtain rfl := some_inj hM; refine bn (bT (fun w hm => fK r5 hm rfl))
def A9 (je : Section) (qw : List Cell) (bI : ((List Cell) × Nat) → Option ((List Cell) × Int × Int)) (tT : Nat) : Int → Option ((List Cell) × Int × Int) := fun BH =>
  (Jw ([(Cell.mk je.Limit BH)] : List Cell) je.Length).bind fun y22 =>
  bq (decide ((qw.length + y22.length) * 16 ≤ 140737488355328)) <|
  bI ((qw ++ y22), tT + 1)
def QH (qw : List Cell) (r0 : aI) (l0 : Layout) : Unit → Option ((List Cell) × Int × Int) := fun _ =>
  if decide (4000 < (qw.length : Int)) then
    (some (([] : List Cell), 0, 7))
  else
    ((idx r0.Steps 0).bind fun x31 =>
    (idx l0.Sections x31.Section).bind fun ak =>
    some (qw, ak.Length, 0))
def Fy (l8 : List Step) (l0 : Layout) (r0 : aI) (bI : ((List Cell) × Nat) → Option ((List Cell) × Int × Int)) : ((List Cell) × Nat) → Option ((List Cell) × Int × Int) := fun (qw, tT) =>
  if decide ((tT : Int) < (l8.length : Int)) then
    ((idx l8 (tT : Int)).bind fun sJ =>
    (idx l0.Sections sJ.Section).bind fun je =>
    if decide (sJ.Dir = 1) then
      (bq (bP (-je.jT)) <|
      A9 je qw bI tT (-je.jT))
    else
      (A9 je qw bI tT je.jT))
  else
    (QH qw r0 l0 ())
def Je (l0 : Layout) (r0 : aI) : Option ((List Cell) × Int × Int) :=
  (Fz l0 r0).bind fun y3 =>
  if decide (y3 ≠ 0) then
    (some (([] : List Cell), 0, y3))
  else
    (bq (bP ((r0.Steps.length : Int) - r0.Overlap)) <|
    (sub r0.Steps 0 ((r0.Steps.length : Int) - r0.Overlap)).bind fun l8 =>
    iter (Fy l8 l0 r0) FUEL (([] : List Cell), 0))
theorem adG (S : bU) (w : World) (l0 : Layout) (aG : aj.R Layout) (r0 : aI) (dX : aj.R aI) (y : (List Cell) × Int × Int) (hM : Je l0 r0 = some y) (hS : sB S w) (fJ : aj.ok S w aG l0) (sj : aj.ok S w dX r0) :
    Calls Try.prog 85 #[.agg (kX l0 aG), .agg (sM r0 dX)] w (Post (β := (aj.R (List Cell))) S [] (fun g => .tuple #[sL g y.1, vI y.2.1, vI y.2.2]) (fun g => [ah 172 g y.1]) w) := by
 refine dH (args := [_, _]) Try.func85 rfl ((pre_nil hS).start |>.nX fJ|>.gU (α := List Step) (r := dX) (x := r0.Steps) sj) rfl ?_; unfold Je at hM; refine sr ?_; refine aM (dU (l := (fq l0 aG)) (k := fun b1 => ?_)); refine aM (dU (l := (mY r0 dX)) (k := fun b2 => ?_)); refine oa ?_; refine oa ?_; refine oa ?_; refine on ?_; refine aO fun K2 hK2 => ?_; refine sr ?_; refine oe (cu (b := b1)) ?_; refine oe (cu (b := b2)) ?_; obtain ⟨y3, hy4, hM⟩ := bind_some hM; refine aM (bJ (fun w hm => let ⟨S, hs⟩ := hm; Wj _ w l0 aG r0 dX y3 hy4 (bB hs) ⟨(kM hs), (kM hs), (kM hs), (kM hs)⟩ (kM hs)) ?_); refine oa ?_; refine on ?_; refine sr ?_; refine om ?_; refine oe jo ?_; refine on ?_
 refine cc rfl hM (fun mP hM => ?_) (fun mP hM => ?_)
 · refine sr ?_; refine om ?_; refine oa ?_; refine oa ?_; refine oa ?_; refine on ?_; refine cK (fun w hm => hm.dL (α := Cell) 172 (fun _ => ())) ?_; obtain rfl := some_inj hM; refine bn (wF (fun w hm => fK (⟨none, 0, (fun _ => ())⟩ : SR (aj.R Cell) ) hm rfl))
 refine bA (hK2 _ _ ?_); clear hK2; refine sr ?_; refine oa ?_; refine on ?_; refine aO fun K7 eZ => ?_; refine sr ?_; refine oe (aH 0) ?_; refine oe (aN (b := b2)) ?_; refine oe (aH 0) ?_; refine oe (aN (b := b2)) ?_; refine oe bR ?_; refine oe (aH 1) ?_; refine oe (aN (b := b2)) ?_; obtain ⟨NS, hM⟩ := bC hM; refine oe (iy (hr := fun hg => bS NS)) ?_; obtain ⟨l8, hl9, hM⟩ := bind_some hM; refine aM (Dh (r := dX) (xs := r0.Steps) (ol := none) (oh := some (.i64, ((r0.Steps.length : Int) - r0.Overlap))) (Sk.eB (α := List Step) (r := dX) (x := r0.Steps) hA) hl9 (fun CF => ?_)); refine mZ (fun w hm => Kn.len (kG l8 CF) hm) fun aa5 => ?_; refine oe bR ?_; refine om ?_; refine on ?_; refine bX ?_; refine cK (fun w hm => hm.dL (α := Cell) 172 (fun _ => ())) ?_; refine fM (γ := Nat × ((List Cell) × Nat) × (SR (aj.R Cell))) (env := fun (_, (qw, tT), AQ) => [(2, eP b1), (3, eP b2), (8, eS AQ qw), (27, eS CF l8), (28, eI (l8.length : Int)), (29, eI (tT : Int))]) (mem := fun (_, (qw, tT), AQ) => [iL l0.aQ aG.1, iL l0.aR aG.2.1, iL l0.Sections aG.2.2.1, iL l0.Links aG.2.2.2, own b1 27 (fq l0 aG), iL r0.Steps dX, own b2 74 (mY r0 dX), ah 172 AQ qw, iL l8 CF]) (R := fun g => iter (Fy l8 l0 r0) g.1 g.2.1 = some y) (μ := fun g => g.1) (FUEL, (([] : List Cell), 0), (⟨none, 0, (fun _ => ())⟩ : SR (aj.R Cell)  )) hM ⟨rfl, rfl, rfl, rfl, rfl, rfl, trivial⟩ rI ?_
 clear hM; intro g hM jw hL1; obtain ⟨dx, ⟨qw, tT⟩, AQ⟩ := g; dsimp only at hM ⊢; obtain ⟨dx, bI, rfl, eH, hM⟩ := gG hM; dsimp only [Fy] at hM; refine sr ?_; refine oe dJ ?_; refine on ?_; refine aO fun rW iA => ?_; refine cc rfl hM (fun Ah hM => ?_) (fun Ah hM => ?_)
 · have aeH := of_decide_eq_true Ah; refine bA (iA _ _ ?_); clear iA; refine aO fun rX ig => ?_; refine bX ?_; refine sr ?_; obtain ⟨sJ, DX, hM⟩ := bind_some hM; refine oe (bK (xs := l8) 2 (kG l8 CF) (iS DX)) ?_; refine oe (jm (m := 2) (i := (tT : Int)) (xs := l8) (y := sJ) (l := (qW sJ)) 0 (kG l8 CF) (fun _ => DX)) ?_; refine aM (cO rfl (k := fun b16 => ?_)); refine aM (bY (b := b16) (vs := (qW sJ)) (k := ?_)); refine on ?_; refine sr ?_; refine oe (aH 2) ?_; refine oe (aN (b := b1)) ?_; refine oe (aH 0) ?_; refine oe (aN (b := b16)) ?_; obtain ⟨je, su, hM⟩ := bind_some hM; refine oe (bK (xs := l0.Sections) 5 (kG l0.Sections aG.2.2.1) (iS su)) ?_; refine oe (jm (m := 5) (i := sJ.Section) (xs := l0.Sections) (y := je) (l := (zi je)) 0 (kG l0.Sections aG.2.2.1) (fun _ => su)) ?_; refine aM (cO rfl (k := fun b19 => ?_)); refine aM (bY (b := b19) (vs := (zi je)) (k := ?_))
   refine on ?_; refine sr ?_; refine oe (aH 2) ?_; refine oe (aN (b := b19)) ?_; refine oe (aH 3) ?_; refine oe (aN (b := b19)) ?_; refine oe (fU [vI je.Limit, vI je.jT]) ?_; refine aM (cO rfl (k := fun b20 => ?_)); refine aM (bY (b := b20) (vs := [vI je.Limit, vI je.jT]) (k := ?_)); refine on ?_; refine kL (γ := Int × Unit) (env := fun (BH, _) => [(2, eP b1), (3, eP b2), (8, eS AQ qw), (11, eP b19), (12, eP b20), (27, eS CF l8), (28, eI (l8.length : Int)), (29, eI (tT : Int))]) (mem := fun (BH, _) => [iL l0.aQ aG.1, iL l0.aR aG.2.1, iL l0.Sections aG.2.2.1, iL l0.Links aG.2.2.2, own b1 27 (fq l0 aG), iL r0.Steps dX, own b2 74 (mY r0 dX), ah 172 AQ qw, own b19 66 (zi je), own b20 172 [vI je.Limit, vI BH], iL l8 CF]) (R := fun g => A9 je qw bI tT g.1 = some y) ?_ ?_
   · intro zR hJ2; refine sr ?_; refine oe (aH 1) ?_; refine oe (aN (b := b16)) ?_; refine oe eX ?_; refine on ?_; refine cc rfl hM (fun hc27 hM => ?_) (fun hc27 hM => ?_)
     · refine bE ?_; refine oe (aH 1) ?_; refine oe (aN (b := b20)) ?_; obtain ⟨Zl, hM⟩ := bC hM; refine oe (Tm (hr := fun hg => bS Zl)) ?_; refine oe (aH 1) ?_; refine aM (gK (b := b20) (l' := [vI je.Limit, vI (-je.jT)]) (k := ?_)); refine bF (hJ2 ((-je.jT), ()) _ _ hM ⟨rfl, rfl, rfl, rfl, rfl, rfl, rfl, rfl, trivial⟩ rI)
     refine bA (hJ2 (je.jT, ()) _ _ hM ⟨rfl, rfl, rfl, rfl, rfl, rfl, rfl, rfl, trivial⟩ rI)
   clear hM; intro g hM; obtain ⟨BH, ⟨⟩⟩ := g; dsimp only at hM ⊢; dsimp only [A9] at hM; refine bE ?_; refine om ?_; refine oe (cu (b := b20)) ?_; refine aM (gq (α := Cell) 172 (fun _ => ()) ([(Cell.mk je.Limit BH)] : List Cell) oF (fun AB => ?_)); refine oe (aH 1) ?_; refine oe (aN (b := b19)) ?_; obtain ⟨y22, uz, hM⟩ := bind_some hM; refine aM (fD jF.nil (fun S w hs hP => aeh _ w ([(Cell.mk je.Limit BH)] : List Cell) AB je.Length y22 uz (bB hs) (kT hs)) fC (fun oK => ?_)); dsimp only [List.cons_append, List.nil_append]; obtain ⟨aad, hM⟩ := bC hM; refine aM (iQ (r := AQ) (r2 := oK) uR (Kn.ah (e := 172) (r := oK) hA) oF (of_decide_eq_true aad) (fun AL => ?_)); refine oa ?_; refine bF (ig _ _ ?_); clear ig; refine bE ?_; refine oe (dh (hr := fun _ => by unfold gy; omega)) ?_; refine om ?_; refine bF (hL1 (dx, ((qw ++ y22), tT + 1), AL) _ _ (eqc eH hM) (Nat.lt_succ_self _) ⟨rfl, rfl, rfl, rfl, rfl, rfl, trivial⟩ rI)
 refine fI (eZ _ _ ?_); clear eZ; dsimp only [QH] at hM; refine aO fun zQ mO => ?_; refine sr ?_; refine om ?_; refine oe bR ?_; refine oe iH ?_; refine on ?_; refine cc rfl hM (fun hc29 hM => ?_) (fun hc29 hM => ?_)
 · refine sr ?_; refine oa ?_; refine oa ?_; refine oa ?_; refine on ?_; refine cK (fun w hm => hm.dL (α := Cell) 172 (fun _ => ())) ?_; obtain rfl := some_inj hM; refine bn (wF (fun w hm => fK (⟨none, 0, (fun _ => ())⟩ : SR (aj.R Cell)       ) hm rfl))
 refine bA (mO _ _ ?_); clear mO; refine aO fun F5 qK => ?_; refine jh _ (List.Sublist.refl _) ?_; refine aJ 0 rfl aL ?_; refine aJ 1 rfl (aH 2) ?_; refine aJ 2 rfl (aN (b := b1)) ?_; refine aJ 3 rfl (aH 0) ?_; refine aJ 4 rfl (aN (b := b2)) ?_; obtain ⟨x31, hx32, hM⟩ := bind_some hM; refine aJ 5 rfl (bK (xs := r0.Steps) 2 (kG r0.Steps dX) (iS hx32)) ?_; refine aJ 6 rfl (aH 0) ?_; refine aJ 7 rfl (dn (i := 0) (xs := r0.Steps) (y := x31) 0 (kG r0.Steps dX) (fun _ => hx32)) ?_; obtain ⟨ak, hx34, hM⟩ := bind_some hM; refine aJ 8 rfl (bK (xs := l0.Sections) 5 (kG l0.Sections aG.2.2.1) (iS hx34)) ?_; refine aJ 9 rfl (aH 1) ?_; refine aJ 10 rfl (dn (i := x31.Section) (xs := l0.Sections) (y := ak) 1 (kG l0.Sections aG.2.2.1) (fun _ => hx34)) ?_; refine aJ 11 rfl d9 ?_; refine aJ 12 rfl d9 ?_; refine aJ 13 rfl d9 ?_; refine eT (qK _ _ ?_); clear qK; obtain rfl := some_inj hM; refine bn (wF (fun w hm => fK AQ hm rfl))
end Go.Proofs.Ytcalibhfgdncaaa
