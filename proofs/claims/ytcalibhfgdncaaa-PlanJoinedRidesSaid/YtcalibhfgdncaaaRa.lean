/- Models of functions, and that the code computes them. -/
import Derived.Test.YtcalibhfgdncaaaR0
set_option linter.all false
namespace Go.Proofs.Ytcalibhfgdncaaa
open Go.Dc Go.RowKit
set_option maxRecDepth 10000
def LH (c0 : Int) : Option Bool :=
  some ((decide (33 ≤ c0) && decide (c0 ≤ 126)) && decide (c0 ≠ 35))
theorem V7 (S : bU) (w : World) (c0 : Int) (y : Bool) (hM : LH c0 = some y) (hS : sB S w)  :
    Calls Try.prog 87 #[.int .u8 c0] w (dQ w (.bool y)) := by
 refine dH (args := [_]) Try.func87 rfl ((pre_nil hS).start) rfl ?_; unfold LH at hM; refine sr ?_; refine oa ?_; refine on ?_; refine sr ?_; refine om ?_; refine oe iM ?_; refine om ?_; refine aF rfl aL ?_; refine aF rfl nG ?_; refine oe dO ?_; refine om ?_; refine aF rfl aL ?_; refine aF rfl jo ?_; refine oe dO ?_; refine oa ?_; refine on ?_; obtain rfl := some_inj hM; refine bn (bT (fun w hm => bQ hm rfl))
def Jb (bN : Nat) (bI : ((List Word) × Nat) → Option ((List Word) × Int)) : (List Word) → Option ((List Word) × Int) := fun Cg =>
  bq (bP ((bN : Int) + 1)) <|
  bI (Cg, bN + 1)
def V6 (lG : List Word) : Unit → Option ((List Word) × Int) := fun _ =>
  if decide (64 < (lG.length : Int)) then
    (some (([] : List Word), 7))
  else
    (some (lG, 0))
def QD (s0 : Str) (dP : Int) (bI : ((List Word) × Nat) → Option ((List Word) × Int)) : ((List Word) × Nat) → Option ((List Word) × Int) := fun (lG, bN) =>
  (fP (decide ((bN : Int) < (s0.l.length : Int))) 0 (nP s0 (bN : Int))).bind fun c2 =>
  if (decide ((bN : Int) < (s0.l.length : Int)) && decide (c2 ≠ 35)) then
    ((nP s0 (bN : Int)).bind fun c6 =>
    (fP (!(decide (c6 = 32))) 0 (nP s0 (bN : Int))).bind fun c8 =>
    if (decide (c6 = 32) || decide (c8 = 9)) then
      (Jb bN bI lG)
    else
      ((nP s0 (bN : Int)).bind fun c11 =>
      (LH c11).bind fun y13 =>
      if (!y13) then
        (some (([] : List Word), 2))
      else
        (bq (!(decide (0 < (bN : Int))) || bP ((bN : Int) - 1)) <|
        (fP (decide (0 < (bN : Int))) 0 (nP s0 ((bN : Int) - 1))).bind fun c18 =>
        (fP (decide (0 < (bN : Int))) default (LH c18)).bind fun y20 =>
        if (decide (0 < (bN : Int)) && y20) then
          (bq (bP ((lG.length : Int) - 1)) <|
          (idx lG ((lG.length : Int) - 1)).bind fun x24 =>
          bq (bP ((bN : Int) + 1)) <|
          (Bf s0 (bN : Int) ((bN : Int) + 1)).bind fun Vv =>
          (Jz x24.Text Vv).bind fun Fa =>
          (idx lG ((lG.length : Int) - 1)).bind fun x31 =>
          Jb bN bI (lG.set ((lG.length : Int) - 1).toNat (Word.mk Fa x31.Line x31.Col)))
        else
          (bq (bP ((bN : Int) + 1)) <|
          (Bf s0 (bN : Int) ((bN : Int) + 1)).bind fun Fb =>
          bq (bP ((bN : Int) + 1)) <|
          bq (decide ((lG.length + ([(Word.mk Fb dP ((bN : Int) + 1))] : List Word).length) * 32 ≤ 140737488355328)) <|
          Jb bN bI (lG ++ ([(Word.mk Fb dP ((bN : Int) + 1))] : List Word))))))
  else
    (V6 lG ())
def QE (s0 : Str) (dP : Int) : Option ((List Word) × Int) :=
  iter (QD s0 dP) FUEL (([] : List Word), 0)
theorem adA (S : bU) (w : World) (s0 : Str) (dP : Int) (y : (List Word) × Int) (hM : QE s0 dP = some y) (hS : sB S w)  :
    Calls Try.prog 76 #[.string s0.ba, vI dP] w (Post (β := (aj.R (List Word))) S [] (fun g => .tuple #[sL g y.1, vI y.2]) (fun g => [ah 132 g y.1]) w) := by
 refine dH (args := [_, _]) Try.func76 rfl ((pre_nil hS).start) rfl ?_; unfold QE at hM; refine sr ?_; refine oa ?_; refine oa ?_; refine on ?_; refine sr ?_; refine oa ?_; refine on ?_; refine aO fun K3 hK3 => ?_; refine sr ?_; refine oa ?_; refine on ?_; refine bX ?_; refine cK (fun w hm => hm.dL (α := Word) 132 (fun _ => ())) ?_; refine fM (γ := Nat × ((List Word) × Nat) × (SR (aj.R Word))) (env := fun (_, (lG, bN), uP) => [(0, .v (.string s0.ba)), (1, eI dP), (6, eS uP lG), (7, eI (bN : Int))]) (mem := fun (_, (lG, bN), uP) => [ah 132 uP lG]) (R := fun g => iter (QD s0 dP) g.1 g.2.1 = some y) (μ := fun g => g.1) (FUEL, (([] : List Word), 0), (⟨none, 0, (fun _ => ())⟩ : SR (aj.R Word) )) hM ⟨rfl, rfl, rfl, rfl, trivial⟩ rI ?_; clear hM; intro g hM jw hL1; obtain ⟨dx, ⟨lG, bN⟩, uP⟩ := g; dsimp only at hM ⊢; obtain ⟨dx, bI, rfl, eH, hM⟩ := gG hM; dsimp only [QD] at hM; refine aO fun K5 dW => ?_; refine sr ?_; refine om ?_; refine om ?_; refine oe rY ?_; refine oe dJ ?_; refine om ?_; refine aF rfl aL ?_; refine aF rfl aL ?_; obtain ⟨c2, aaR, hM⟩ := bind_some hM
 refine aF rfl (qo (eG aaR)) ?_; refine aF rfl jo ?_; refine oe dO ?_; refine on ?_; refine cc rfl hM (fun hc4 hM => ?_) (fun hc4 hM => ?_)
 · refine bA (dW _ _ ?_); clear dW; refine kL (γ := (List Word) × (SR (aj.R Word))) (env := fun (Cg, Jc) => [(0, .v (.string s0.ba)), (1, eI dP), (6, eS Jc Cg), (7, eI (bN : Int))]) (mem := fun (Cg, Jc) => [ah 132 Jc Cg]) (R := fun g => Jb bN bI g.1 = some y) ?_ ?_
   · intro zR hJ2; refine bX ?_; refine aO fun K7 eZ => ?_; refine sr ?_; refine om ?_; refine om ?_; obtain ⟨c6, aaS, hM⟩ := bind_some hM; refine oe (qo (fun _ => aaS)) ?_; refine oe eX ?_; refine om ?_; refine aF rfl aL ?_; refine aF rfl aL ?_; obtain ⟨c8, Oi, hM⟩ := bind_some hM; refine aF rfl (qo (eG Oi)) ?_; refine aF rfl eX ?_; refine oe eu ?_; refine on ?_; refine cc rfl hM (fun vv hM => ?_) (fun vv hM => ?_)
     · refine fI (hJ2 (lG, uP) _ _ hM ⟨rfl, rfl, rfl, rfl, trivial⟩ rI)
     refine bA (eZ _ _ ?_); clear eZ; refine aO fun K9 gJ => ?_; refine sr ?_; refine om ?_; refine om ?_; obtain ⟨c11, Hu, hM⟩ := bind_some hM; refine oe (qo (fun _ => Hu)) ?_; obtain ⟨y13, BQ, hM⟩ := bind_some hM; refine aM (bJ (fun w hm => let ⟨S, hs⟩ := hm; V7 _ w c11 y13 BQ (bB hs) ) ?_); refine oe gB ?_; refine on ?_; refine cc rfl hM (fun xL hM => ?_) (fun xL hM => ?_)
     · refine sr ?_; refine oa ?_; refine oa ?_; refine on ?_; refine cK (fun w hm => hm.dL (α := Word) 132 (fun _ => ())) ?_; obtain rfl := some_inj hM; refine bn (lF (fun w hm => fK (⟨none, 0, (fun _ => ())⟩ : SR (aj.R Word)               ) hm rfl))
     refine bA (gJ _ _ ?_); clear gJ; refine sr ?_; refine om ?_; refine oe iH ?_; refine om ?_; refine aF rfl aL ?_; refine aF rfl aL ?_; obtain ⟨GL, hM⟩ := bC hM; refine aF rfl (iy (hr := fun hg => bS (DT GL hg))) ?_; obtain ⟨c18, aaQ, hM⟩ := bind_some hM; refine aF rfl (qo (eG aaQ)) ?_; obtain ⟨y20, BR, hM⟩ := bind_some hM; refine nW rfl (fun hg w hm => let ⟨S, hs⟩ := hm; V7 _ w c18 y20 (eG BR hg) (bB hs) ) ?_; refine oe dO ?_; refine on ?_; refine cc rfl hM (fun hc22 hM => ?_) (fun hc22 hM => ?_)
     · refine sr ?_; refine om ?_; refine oe bR ?_; obtain ⟨ND, hM⟩ := bC hM; refine oe (iy (hr := fun hg => bS ND)) ?_; refine oa ?_; refine on ?_; refine iI [ah 132 uP lG] 15 ?_; refine aK 0 rfl aL ?_; refine aK 1 rfl aL ?_; refine aK 2 rfl aL ?_; refine aK 3 rfl aL ?_; obtain ⟨x24, hx25, hM⟩ := bind_some hM; refine aK 4 rfl (bK (xs := lG) 3 (Kn.ah (e := 132) (r := uP) hA) (iS hx25)) ?_; refine aK 5 rfl (aH 0) ?_; refine aK 6 rfl (dn (i := ((lG.length : Int) - 1)) (xs := lG) (y := x24) 0 (Kn.ah (e := 132) (r := uP) hA) (fun _ => hx25)) ?_; refine aK 7 rfl aL ?_; refine aK 8 rfl aL ?_; refine aK 9 rfl aL ?_; obtain ⟨NG, hM⟩ := bC hM; refine aK 10 rfl (dh (hr := fun hg => bS NG)) ?_; obtain ⟨Vv, abg, hM⟩ := bind_some hM; refine aK 11 rfl (Gw (ol := some (.i64, (bN : Int))) (oh := some (.i64, ((bN : Int) + 1))) (fun _ => abg)) ?_; obtain ⟨Fa, abh, hM⟩ := bind_some hM; refine aK 12 rfl (Tq (fun _ => abh)) ?_; obtain ⟨x31, hx32, hM⟩ := bind_some hM; refine aK 13 rfl (bK (xs := lG) 3 (Kn.ah (e := 132) (r := uP) hA) (iS hx32)) ?_; refine aK 14 rfl (aH 0) ?_; refine iG rfl (wS (r := uP) (i := ((lG.length : Int) - 1)) (xs := lG) (u := x31) (vs := [.string Fa.ba]) 0 (Word.mk Fa x31.Line x31.Col) hx32 rfl (fun _ _ h => h) uA ?_); have BN := jM (u := (Word.mk Fa x31.Line x31.Col)) hx32
       refine iE (hJ2 ((lG.set ((lG.length : Int) - 1).toNat (Word.mk Fa x31.Line x31.Col)), uP) _ _ hM ⟨rfl, rfl, (by simp only [List.length_set, eS, sL]; rfl), rfl, trivial⟩ rI)
     refine bE ?_; refine om ?_; refine om ?_; refine om ?_; refine om ?_; obtain ⟨GQ, hM⟩ := bC hM; refine oe (dh (hr := fun hg => bS GQ)) ?_; obtain ⟨Fb, abj, hM⟩ := bind_some hM; refine oe (Gw (ol := some (.i64, (bN : Int))) (oh := some (.i64, ((bN : Int) + 1))) (fun _ => abj)) ?_; refine om ?_; refine om ?_; obtain ⟨vW, hM⟩ := bC hM; refine oe (dh (hr := fun hg => bS vW)) ?_; refine oe (fU [.string Fb.ba, vI dP, vI ((bN : Int) + 1)]) ?_; refine aM (gq (α := Word) 132 (fun _ => ()) ([(Word.mk Fb dP ((bN : Int) + 1))] : List Word) oF (fun CG => ?_)); obtain ⟨N8, hM⟩ := bC hM; refine aM (iQ (r := uP) (r2 := CG) uR (Kn.ah (e := 132) (r := CG) hA) oF (of_decide_eq_true N8) (fun IZ => ?_)); refine oa ?_; refine bF (hJ2 ((lG ++ ([(Word.mk Fb dP ((bN : Int) + 1))] : List Word)), IZ) _ _ hM ⟨rfl, rfl, rfl, rfl, trivial⟩ rI)
   clear hM; intro g hM; obtain ⟨Cg, Jc⟩ := g; dsimp only at hM ⊢; dsimp only [Jb] at hM; refine bE ?_; refine om ?_; obtain ⟨vX, hM⟩ := bC hM; refine oe (dh (hr := fun hg => bS vX)) ?_; refine oa ?_; refine bF (hL1 (dx, (Cg, bN + 1), Jc) _ _ (eqc eH hM) (Nat.lt_succ_self _) ⟨rfl, rfl, rfl, rfl, trivial⟩ rI)
 refine fI (hK3 _ _ ?_); clear hK3; dsimp only [V6] at hM; refine aO fun yI lM => ?_; refine sr ?_; refine om ?_; refine oe bR ?_; refine oe iH ?_; refine on ?_; refine cc rfl hM (fun aaz hM => ?_) (fun aaz hM => ?_)
 · refine sr ?_; refine oa ?_; refine oa ?_; refine on ?_; refine cK (fun w hm => hm.dL (α := Word) 132 (fun _ => ())) ?_; obtain rfl := some_inj hM; refine bn (lF (fun w hm => fK (⟨none, 0, (fun _ => ())⟩ : SR (aj.R Word)                ) hm rfl))
 refine bA (lM _ _ ?_); clear lM; refine sr ?_; refine om ?_; refine oa ?_; refine oa ?_; refine on ?_; obtain rfl := some_inj hM; refine bn (lF (fun w hm => fK uP hm rfl))
def VP (nT : Nat) (bI : ((List (List Word)) × Nat × Int) → Option ((List (List Word)) × Int × Int)) (zh : List (List Word)) (nH : Int) : Unit → Option ((List (List Word)) × Int × Int) := fun _ =>
  bq (bP ((nT : Int) + 1)) <|
  bI (zh, nT + 1, (nH + 1))
def Ls (nH : Int) (nT : Nat) (bI : ((List (List Word)) × Nat × Int) → Option ((List (List Word)) × Int × Int)) : (List (List Word)) → Option ((List (List Word)) × Int × Int) := fun zh =>
  bq (bP (nH + 1)) <|
  VP nT bI zh nH ()
def VQ (mU : Str) (bN : Int) (nH : Int) (nT : Nat) (kR : List (List Word)) (bI : ((List (List Word)) × Nat × Int) → Option ((List (List Word)) × Int × Int)) : Unit → Option ((List (List Word)) × Int × Int) := fun _ =>
  (Bf mU bN nH).bind fun q9 =>
  (QE q9 (nT : Int)).bind fun fF =>
  if decide (fF.2 ≠ 0) then
    (some (([] : List (List Word)), (nT : Int), fF.2))
  else
    (if decide (0 < (fF.1.length : Int)) then
      (bq (decide ((kR.length + ([fF.1] : List (List Word)).length) * 24 ≤ 140737488355328)) <|
      Ls nH nT bI (kR ++ ([fF.1] : List (List Word))))
    else
      (Ls nH nT bI kR))
def Qj (mU : Str) (bN : Int) (nT : Nat) (kR : List (List Word)) (bI : ((List (List Word)) × Nat × Int) → Option ((List (List Word)) × Int × Int)) (gZ : Int → Option ((List (List Word)) × Int × Int)) : Int → Option ((List (List Word)) × Int × Int) := fun nH =>
  (fP (decide (nH < (mU.l.length : Int))) 0 (nP mU nH)).bind fun c5 =>
  if (decide (nH < (mU.l.length : Int)) && decide (c5 ≠ 10)) then
    (bq (bP (nH + 1)) <|
    gZ (nH + 1))
  else
    (VQ mU bN nH nT kR bI ())
def VO (kR : List (List Word)) : Unit → Option ((List (List Word)) × Int × Int) := fun _ =>
  some (kR, 0, 0)
def Qi (mU : Str) (bI : ((List (List Word)) × Nat × Int) → Option ((List (List Word)) × Int × Int)) : ((List (List Word)) × Nat × Int) → Option ((List (List Word)) × Int × Int) := fun (kR, nT, bN) =>
  if decide (bN < (mU.l.length : Int)) then
    (iter (Qj mU bN nT kR bI) FUEL bN)
  else
    (VO kR ())
def Qk (mU : Str) : Option ((List (List Word)) × Int × Int) :=
  if decide (65536 < (mU.l.length : Int)) then
    (some (([] : List (List Word)), 0, 7))
  else
    (iter (Qi mU) FUEL (([] : List (List Word)), 1, 0))
theorem adt (S : bU) (w : World) (mU : Str) (y : (List (List Word)) × Int × Int) (hM : Qk mU = some y) (hS : sB S w)  :
    Calls Try.prog 65 #[.string mU.ba] w (Post (β := (aj.R (List (List Word)))) S [] (fun g => .tuple #[sL g y.1, vI y.2.1, vI y.2.2]) (fun g => [ah 130 g y.1]) w) := by
 refine dH (args := [_]) Try.func65 rfl ((pre_nil hS).start) rfl ?_; unfold Qk at hM; refine sr ?_; refine oa ?_; refine oa ?_; refine oa ?_; refine on ?_; refine aO fun K2 hK2 => ?_; refine sr ?_; refine om ?_; refine oe rY ?_; refine oe iH ?_; refine on ?_; refine cc rfl hM (fun hc1 hM => ?_) (fun hc1 hM => ?_)
 · refine sr ?_; refine oa ?_; refine oa ?_; refine oa ?_; refine on ?_; refine cK (fun w hm => hm.dL (α := List Word) 130 (fun _ => (⟨none, 0, (fun _ => ())⟩ : SR (aj.R Word)))) ?_; obtain rfl := some_inj hM; refine bn (wF (fun w hm => fK (⟨none, 0, (fun _ => (⟨none, 0, (fun _ => ())⟩ : SR (aj.R Word)))⟩ : SR (aj.R (List Word)) ) hm rfl))
 refine bA (hK2 _ _ ?_); clear hK2; refine sr ?_; refine oa ?_; refine on ?_; refine sr ?_; refine oa ?_; refine on ?_; refine aO fun K7 eZ => ?_; refine sr ?_; refine oa ?_; refine on ?_; refine bX ?_; refine cK (fun w hm => hm.dL (α := List Word) 130 (fun _ => (⟨none, 0, (fun _ => ())⟩ : SR (aj.R Word)))) ?_; refine fM (γ := Nat × ((List (List Word)) × Nat × Int) × (SR (aj.R (List Word)))) (env := fun (_, (kR, nT, bN), rQ) => [(0, .v (.string mU.ba)), (5, eS rQ kR), (6, eI (nT : Int)), (7, eI bN)]) (mem := fun (_, (kR, nT, bN), rQ) => [ah 130 rQ kR]) (R := fun g => iter (Qi mU) g.1 g.2.1 = some y) (μ := fun g => g.1) (FUEL, (([] : List (List Word)), 1, 0), (⟨none, 0, (fun _ => (⟨none, 0, (fun _ => ())⟩ : SR (aj.R Word)))⟩ : SR (aj.R (List Word))  )) hM ⟨rfl, rfl, rfl, rfl, trivial⟩ rI ?_; clear hM; intro g hM jw hL1; obtain ⟨dx, ⟨kR, nT, bN⟩, rQ⟩ := g; dsimp only at hM ⊢; obtain ⟨dx, bI, rfl, eH, hM⟩ := gG hM; dsimp only [Qi] at hM; refine aO fun K9 gJ => ?_; refine sr ?_; refine om ?_; refine om ?_; refine oe rY ?_; refine oe dJ ?_
 refine on ?_; refine cc rfl hM (fun hc4 hM => ?_) (fun hc4 hM => ?_)
 · refine bA (gJ _ _ ?_); clear gJ; refine aO fun rX ig => ?_; refine bX ?_; refine sr ?_; refine om ?_; refine oa ?_; refine on ?_; refine aO fun zP mM => ?_; refine bX ?_; refine fM (γ := Nat × Int × Unit) (env := fun (_, nH, _) => [(0, .v (.string mU.ba)), (5, eS rQ kR), (6, eI (nT : Int)), (7, eI bN), (8, eI nH)]) (mem := fun (_, nH, _) => [ah 130 rQ kR]) (R := fun g => iter (Qj mU bN nT kR bI) g.1 g.2.1 = some y) (μ := fun g => g.1) (FUEL, bN, ()) hM ⟨rfl, rfl, rfl, rfl, rfl, trivial⟩ rI ?_; clear hM; intro g hM xk hL2; obtain ⟨lS, nH, ⟨⟩⟩ := g; dsimp only at hM ⊢; obtain ⟨lS, gZ, rfl, pO, hM⟩ := gG hM; dsimp only [Qj] at hM; refine aO fun yI lM => ?_; refine sr ?_; refine om ?_; refine om ?_; refine oe rY ?_; refine oe dJ ?_; refine om ?_; refine aF rfl aL ?_; refine aF rfl aL ?_; obtain ⟨c5, Oh, hM⟩ := bind_some hM; refine aF rfl (qo (eG Oh)) ?_; refine aF rfl jo ?_; refine oe dO ?_; refine on ?_; refine cc rfl hM (fun oq hM => ?_) (fun oq hM => ?_)
   · refine bA (lM _ _ ?_); clear lM; refine bX ?_; refine bE ?_; refine om ?_; obtain ⟨vY, hM⟩ := bC hM; refine oe (dh (hr := fun hg => bS vY)) ?_; refine oa ?_; refine bF (hL2 (lS, (nH + 1), ()) _ _ (eqc pO hM) (Nat.lt_succ_self _) ⟨rfl, rfl, rfl, rfl, rfl, trivial⟩ rI)
   refine fI (mM _ _ ?_); clear mM; dsimp only [VQ] at hM; refine sr ?_; refine om ?_; refine om ?_; refine om ?_; obtain ⟨q9, abe, hM⟩ := bind_some hM; refine oe (Gw (ol := some (.i64, bN)) (oh := some (.i64, nH)) (fun _ => abe)) ?_; refine om ?_; obtain ⟨fF, uw, hM⟩ := bind_some hM; refine aM (fD jF.nil (fun S w hs hP => adA _ w q9 (nT : Int) fF uw (bB hs) ) fC (fun sH => ?_)); dsimp only [List.cons_append, List.nil_append]; refine om ?_; refine oe (jA (vs := [sL sH fF.1, vI fF.2])) ?_; refine oe (jA (vs := [sL sH fF.1, vI fF.2])) ?_; refine oa ?_; refine oa ?_; refine on ?_; refine aO fun JO sS => ?_; refine sr ?_; refine om ?_; refine oe jo ?_; refine on ?_; refine cc rfl hM (fun yV hM => ?_) (fun yV hM => ?_)
   · refine sr ?_; refine om ?_; refine om ?_; refine oa ?_; refine oa ?_; refine oa ?_; refine on ?_; refine cK (fun w hm => hm.dL (α := List Word) 130 (fun _ => (⟨none, 0, (fun _ => ())⟩ : SR (aj.R Word)))) ?_; obtain rfl := some_inj hM; refine bn (wF (fun w hm => fK (⟨none, 0, (fun _ => (⟨none, 0, (fun _ => ())⟩ : SR (aj.R Word)))⟩ : SR (aj.R (List Word))                   ) hm rfl))
   refine bA (sS _ _ ?_); clear sS; refine kL (γ := (List (List Word)) × (SR (aj.R (List Word)))) (env := fun (zh, Jd) => [(0, .v (.string mU.ba)), (5, eS Jd zh), (6, eI (nT : Int)), (8, eI nH)]) (mem := fun (zh, Jd) => [ah 130 Jd zh]) (R := fun g => Ls nH nT bI g.1 = some y) ?_ ?_
   · intro Ru Ac; refine sr ?_; refine om ?_; refine oe bR ?_; refine oe iH ?_; refine on ?_; refine cc rfl hM (fun hc18 hM => ?_) (fun hc18 hM => ?_)
     · refine bE ?_; refine om ?_; refine om ?_; refine mH (fun w hm => hm.freeze (r := sH) uA) ?_; refine aM (gq (α := List Word) 130 (fun _ => sH) ([fF.1] : List (List Word)) (mh.cons (fun S w hs => (kI hs)) mh.nil) (fun uN => ?_)); obtain ⟨Hf, hM⟩ := bC hM; refine aM (iQ (r := rQ) (r2 := uN) uR (Kn.ah (e := 130) (r := uN) hA) (mh.row (e := 130) (r := uN) hA) (of_decide_eq_true Hf) (fun bG => ?_)); refine oa ?_; refine bF (Ac ((kR ++ ([fF.1] : List (List Word))), bG) _ _ hM ⟨rfl, rfl, rfl, rfl, trivial⟩ rI)
     refine bA (Ac (kR, rQ) _ _ hM ⟨rfl, rfl, rfl, rfl, trivial⟩ rI)
   clear hM; intro g hM; obtain ⟨zh, Jd⟩ := g; dsimp only at hM ⊢; dsimp only [Ls] at hM; refine bE ?_; refine om ?_; obtain ⟨Nz, hM⟩ := bC hM; refine oe (dh (hr := fun hg => bS Nz)) ?_; refine oa ?_; refine bF (ig _ _ ?_); clear ig; dsimp only [VP] at hM; refine bE ?_; refine om ?_; obtain ⟨GL, hM⟩ := bC hM; refine oe (dh (hr := fun hg => bS GL)) ?_; refine oa ?_; refine bF (hL1 (dx, (zh, nT + 1, (nH + 1)), Jd) _ _ (eqc eH hM) (Nat.lt_succ_self _) ⟨rfl, rfl, rfl, rfl, trivial⟩ rI)
 refine fI (eZ _ _ ?_); clear eZ; dsimp only [VO] at hM; refine sr ?_; refine om ?_; refine oa ?_; refine oa ?_; refine oa ?_; refine on ?_; obtain rfl := some_inj hM; refine bn (wF (fun w hm => fK rQ hm rfl))
def VT (jO : Int) (uS : Int) : Unit → Option (Int × Bool) := fun _ =>
  if decide (1099511627776 < jO) then
    (some (0, false))
  else
    (bq (bP (uS * jO)) <|
    some ((uS * jO), true))
def Qn (q8 : Str) (uS : Int) (bI : (Int × Nat) → Option (Int × Bool)) : (Int × Nat) → Option (Int × Bool) := fun (jO, bN) =>
  if decide ((bN : Int) < (q8.l.length : Int)) then
    ((nP q8 (bN : Int)).bind fun c5 =>
    (LA c5).bind fun y7 =>
    if (!y7) then
      (some (0, false))
    else
      (bq (bP (10 * jO)) <|
      (nP q8 (bN : Int)).bind fun c11 =>
      bq (bP ((10 * jO) + (IntKind.i64.wrap (IntKind.u8.wrap (c11 - 48))))) <|
      bq (bP ((bN : Int) + 1)) <|
      bI (((10 * jO) + (IntKind.i64.wrap (IntKind.u8.wrap (c11 - 48)))), bN + 1)))
  else
    (VT jO uS ())
def Lu : (Str × Int) → Option (Int × Bool) := fun (q8, uS) =>
  (fP (!(decide ((q8.l.length : Int) < 1) || decide (13 < (q8.l.length : Int)))) 0 (nP q8 0)).bind fun c1 =>
  if ((decide ((q8.l.length : Int) < 1) || decide (13 < (q8.l.length : Int))) || (decide (c1 = 48) && (decide (1 < (q8.l.length : Int)) || decide (uS < 0)))) then
    (some (0, false))
  else
    (iter (Qn q8 uS) FUEL (0, 0))
def I6 (s0 : Str) : Option (Int × Bool) :=
  (fP (decide (0 < (s0.l.length : Int))) 0 (nP s0 0)).bind fun c17 =>
  if (decide (0 < (s0.l.length : Int)) && decide (c17 = 45)) then
    ((Bf s0 1 (s0.l.length : Int)).bind fun PW =>
    Lu (PW, (-1)))
  else
    (Lu (s0, 1))
theorem Qo (S : bU) (w : World) (s0 : Str) (y : Int × Bool) (hM : I6 s0 = some y) (hS : sB S w)  :
    Calls Try.prog 88 #[.string s0.ba] w (dQ w (.tuple #[vI y.1, .bool y.2])) := by
 refine dH (args := [_]) Try.func88 rfl ((pre_nil hS).start) rfl ?_; unfold I6 at hM; refine sr ?_; refine oa ?_; refine oa ?_; refine on ?_; refine sr ?_; refine om ?_; refine oa ?_; refine oa ?_; refine on ?_; refine kL (γ := (Str × Int) × Unit) (env := fun ((q8, uS), _) => [(4, .v (.string q8.ba)), (5, eI uS)]) (mem := fun ((q8, uS), _) => []) (R := fun g => Lu g.1 = some y) ?_ ?_
 · intro vT eF; refine sr ?_; refine om ?_; refine oe rY ?_; refine oe iH ?_; refine om ?_; refine aF rfl aL ?_; obtain ⟨c17, aaP, hM⟩ := bind_some hM; refine aF rfl (qo (eG aaP)) ?_; refine aF rfl eX ?_; refine oe dO ?_; refine on ?_; refine cc rfl hM (fun hc19 hM => ?_) (fun hc19 hM => ?_)
   · refine bE ?_; refine om ?_; obtain ⟨PW, abf, hM⟩ := bind_some hM; refine oe (Gw (ol := some (.i64, 1)) (oh := none) (fun _ => abf)) ?_; refine oa ?_; refine oa ?_; refine bF (eF ((PW, (-1)), ()) _ _ hM ⟨rfl, rfl, trivial⟩ rI)
   refine bA (eF ((s0, 1), ()) _ _ hM ⟨rfl, rfl, trivial⟩ rI)
 clear hM; intro g hM; obtain ⟨⟨q8, uS⟩, ⟨⟩⟩ := g; dsimp only at hM ⊢; dsimp only [Lu] at hM; refine aO fun K3 hK3 => ?_; refine sr ?_; refine om ?_; refine oe rY ?_; refine oe dJ ?_; refine om ?_; refine aF rfl aL ?_; refine aF rfl rY ?_; refine aF rfl iH ?_; refine oe eu ?_; refine om ?_; refine aF rfl aL ?_; obtain ⟨c1, Hw, hM⟩ := bind_some hM; refine aF rfl (qo (eG Hw)) ?_; refine aF rfl eX ?_; refine aF rfl aL ?_; refine aF rfl aL ?_; refine aF rfl rY ?_; refine aF rfl iH ?_; refine aF rfl aL ?_; refine aF rfl aL ?_; refine aF rfl dJ ?_; refine aF rfl eu ?_; refine aF rfl dO ?_; refine oe eu ?_; refine on ?_; refine cc rfl hM (fun hc3 hM => ?_) (fun hc3 hM => ?_)
 · refine sr ?_; refine oa ?_; refine oa ?_; refine on ?_; obtain rfl := some_inj hM; refine bn (lF (fun w hm => bQ hm rfl))
 refine bA (hK3 _ _ ?_); clear hK3; refine sr ?_; refine oa ?_; refine on ?_; refine aO fun K7 eZ => ?_; refine sr ?_; refine oa ?_; refine on ?_; refine bX ?_; refine fM (γ := Nat × (Int × Nat) × Unit) (env := fun (_, (jO, bN), _) => [(4, .v (.string q8.ba)), (5, eI uS), (6, eI jO), (7, eI (bN : Int))]) (mem := fun (_, (jO, bN), _) => []) (R := fun g => iter (Qn q8 uS) g.1 g.2.1 = some y) (μ := fun g => g.1) (FUEL, (0, 0), ()) hM ⟨rfl, rfl, rfl, rfl, trivial⟩ rI ?_; clear hM; intro g hM jw hL1; obtain ⟨dx, ⟨jO, bN⟩, ⟨⟩⟩ := g; dsimp only at hM ⊢; obtain ⟨dx, bI, rfl, eH, hM⟩ := gG hM; dsimp only [Qn] at hM; refine aO fun K9 gJ => ?_; refine sr ?_; refine om ?_; refine om ?_; refine oe rY ?_; refine oe dJ ?_; refine on ?_; refine cc rfl hM (fun hc4 hM => ?_) (fun hc4 hM => ?_)
 · refine bA (gJ _ _ ?_); clear gJ; refine aO fun rX ig => ?_; refine bX ?_; refine aO fun yH lK => ?_; refine sr ?_; refine om ?_; refine om ?_; obtain ⟨c5, Oh, hM⟩ := bind_some hM; refine oe (qo (fun _ => Oh)) ?_; obtain ⟨y7, wu, hM⟩ := bind_some hM; refine aM (bJ (fun w hm => let ⟨S, hs⟩ := hm; VX _ w c5 y7 wu (bB hs) ) ?_); refine oe gB ?_; refine on ?_; refine cc rfl hM (fun sU hM => ?_) (fun sU hM => ?_)
   · refine sr ?_; refine oa ?_; refine oa ?_; refine on ?_; obtain rfl := some_inj hM; refine bn (lF (fun w hm => bQ hm rfl))
   refine bA (lK _ _ ?_); clear lK; refine bE ?_; refine om ?_; obtain ⟨Ns, hM⟩ := bC hM; refine oe (pJ (hr := fun hg => bS Ns)) ?_; refine om ?_; refine om ?_; obtain ⟨c11, Hu, hM⟩ := bind_some hM; refine oe (qo (fun _ => Hu)) ?_; refine oe Tv ?_; refine oe (z8 .i64) ?_; obtain ⟨Nw, hM⟩ := bC hM; refine oe (dh (hr := fun hg => bS Nw)) ?_; refine oa ?_; refine bF (ig _ _ ?_); clear ig; refine bE ?_; refine om ?_; obtain ⟨GK, hM⟩ := bC hM; refine oe (dh (hr := fun hg => bS GK)) ?_; refine oa ?_; refine bF (hL1 (dx, (((10 * jO) + (IntKind.i64.wrap (IntKind.u8.wrap (c11 - 48)))), bN + 1), ()) _ _ (eqc eH hM) (Nat.lt_succ_self _) ⟨rfl, rfl, rfl, rfl, trivial⟩ rI)
 refine fI (eZ _ _ ?_); clear eZ; dsimp only [VT] at hM; refine aO fun yJ lN => ?_; refine sr ?_; refine om ?_; refine oe iH ?_; refine on ?_; refine cc rfl hM (fun xL hM => ?_) (fun xL hM => ?_)
 · refine sr ?_; refine oa ?_; refine oa ?_; refine on ?_; obtain rfl := some_inj hM; refine bn (lF (fun w hm => bQ hm rfl))
 refine bA (lN _ _ ?_); clear lN; refine sr ?_; refine om ?_; refine om ?_; obtain ⟨Nz, hM⟩ := bC hM; refine oe (pJ (hr := fun hg => bS Nz)) ?_; refine oa ?_; refine oa ?_; refine on ?_; obtain rfl := some_inj hM; refine bn (lF (fun w hm => bQ hm rfl))
def VW : Unit → Option Int := fun _ =>
  some (-1)
def Qr (l0 : List Str) (s0 : Str) (bI : Nat → Option Int) : Nat → Option Int := fun bN =>
  if decide ((bN : Int) < (l0.length : Int)) then
    ((idx l0 (bN : Int)).bind fun x2 =>
    if decide (x2 = s0) then
      (some (bN : Int))
    else
      (bq (bP ((bN : Int) + 1)) <|
      bI (bN + 1)))
  else
    (VW ())
def Fv (l0 : List Str) (s0 : Str) : Option Int :=
  iter (Qr l0 s0) FUEL 0
theorem Lv (S : bU) (w : World) (l0 : List Str) (aG : aj.R (List Str)) (s0 : Str) (y : Int) (hM : Fv l0 s0 = some y) (hS : sB S w) (fJ : aj.ok S w aG l0) :
    Calls Try.prog 89 #[sL aG l0, .string s0.ba] w (dQ w (vI y)) := by
 refine dH (args := [_, _]) Try.func89 rfl ((pre_nil hS).start |>.gU (α := List Str) (r := aG) (x := l0) fJ) rfl ?_; unfold Fv at hM; refine sr ?_; refine oa ?_; refine on ?_; refine aO fun K2 hK2 => ?_; refine sr ?_; refine oa ?_; refine on ?_; refine bX ?_; refine fM (γ := Nat × Nat × Unit) (env := fun (_, bN, _) => [(0, eS aG l0), (1, .v (.string s0.ba)), (5, eI (bN : Int))]) (mem := fun (_, bN, _) => [iL l0 aG]) (R := fun g => iter (Qr l0 s0) g.1 g.2.1 = some y) (μ := fun g => g.1) (FUEL, 0, ()) hM ⟨rfl, rfl, rfl, trivial⟩ rI ?_; clear hM; intro g hM jw hL1; obtain ⟨dx, bN, ⟨⟩⟩ := g; dsimp only at hM ⊢; obtain ⟨dx, bI, rfl, eH, hM⟩ := gG hM; dsimp only [Qr] at hM; refine aO fun K4 hK4 => ?_; refine sr ?_; refine om ?_; refine om ?_; refine oe bR ?_; refine oe dJ ?_; refine on ?_; refine cc rfl hM (fun hc1 hM => ?_) (fun hc1 hM => ?_)
 · refine bA (hK4 _ _ ?_); clear hK4; refine aO fun K6 dM => ?_; refine bX ?_; refine sr ?_; refine om ?_; refine om ?_; obtain ⟨x2, hx3, hM⟩ := bind_some hM; refine oe (bK (xs := l0) 1 (kG l0 aG) (iS hx3)) ?_; refine oe (dn (i := (bN : Int)) (xs := l0) (y := x2) 0 (kG l0 aG) (fun _ => hx3)) ?_; refine om ?_; refine oe vk ?_; refine on ?_; refine cc rfl hM (fun hc4 hM => ?_) (fun hc4 hM => ?_)
   · refine sr ?_; refine om ?_; refine oa ?_; refine on ?_; obtain rfl := some_inj hM; refine bn (bT (fun w hm => bQ hm rfl))
   refine bA (dM _ _ ?_); clear dM; refine bE ?_; refine om ?_; obtain ⟨vX, hM⟩ := bC hM; refine oe (dh (hr := fun hg => bS vX)) ?_; refine oa ?_; refine bF (hL1 (dx, (bN + 1), ()) _ _ (eqc eH hM) (Nat.lt_succ_self _) ⟨rfl, rfl, rfl, trivial⟩ rI)
 refine fI (hK2 _ _ ?_); clear hK2; dsimp only [VW] at hM; refine sr ?_; refine oa ?_; refine on ?_; obtain rfl := some_inj hM; refine bn (bT (fun w hm => bQ hm rfl))
def Lx (l0 : Layout) (mW : Word) (y3 : Int × Bool) (y7 : Int × Bool) (fF : Int × Bool) : Int → Option (Int × (List Section)) := fun zx =>
  bq (decide ((l0.Sections.length + ([(Section.mk mW.Text y3.1 y7.1 fF.1 zx)] : List Section).length) * 48 ≤ 140737488355328)) <|
  some (0, (l0.Sections ++ ([(Section.mk mW.Text y3.1 y7.1 fF.1 zx)] : List Section)))
def Qu (l0 : Layout) (p1 : List Word) : Option (Int × (List Section)) :=
  (idx p1 2).bind fun x1 =>
  (I6 x1.Text).bind fun y3 =>
  (idx p1 3).bind fun x5 =>
  (I6 x5.Text).bind fun y7 =>
  (idx p1 4).bind fun x9 =>
  (I6 x9.Text).bind fun fF =>
  (fP ((!(((!y3.2) || (!y7.2)) || (!fF.2))) && decide ((p1.length : Int) = 7)) default (idx p1 5)).bind fun pz =>
  if ((((!y3.2) || (!y7.2)) || (!fF.2)) || (decide ((p1.length : Int) = 7) && (!decide (pz.Text = (⟨[97, 116]⟩ : Str))))) then
    (some (2, l0.Sections))
  else
    ((idx p1 1).bind fun mW =>
    if decide ((p1.length : Int) = 7) then
      ((idx p1 6).bind fun x23 =>
      (Fv l0.aQ x23.Text).bind fun y25 =>
      if decide (y25 < 0) then
        (some (3, l0.Sections))
      else
        (Lx l0 mW y3 y7 fF y25))
    else
      (Lx l0 mW y3 y7 fF (-1)))
theorem adx (S : bU) (w : World) (jg : Nat) (l0 : Layout) (aG : aj.R Layout) (p1 : List Word) (fT : aj.R (List Word)) (y : Int × (List Section)) (hM : Qu l0 p1 = some y) (hP : Pre S [own jg 27 (fq l0 aG), ah 9 aG.1 l0.aQ, ah 9 aG.2.1 l0.aR, ah 66 aG.2.2.1 l0.Sections, ah 112 aG.2.2.2 l0.Links] w) (G9 : aj.ok S w fT p1) :
    Calls Try.prog 77 #[vP jg, sL fT p1] w (Post (β := (SR (aj.R Section))) S [own jg 27 (fq l0 aG), ah 9 aG.1 l0.aQ, ah 9 aG.2.1 l0.aR, ah 66 aG.2.2.1 l0.Sections, ah 112 aG.2.2.2 l0.Links] (fun g => vI y.1) (fun g => [own jg 27 [sL aG.1 l0.aQ, sL aG.2.1 l0.aR, sL g y.2, sL aG.2.2.2 l0.Links], ah 9 aG.1 l0.aQ, ah 9 aG.2.1 l0.aR, ah 66 g y.2, ah 112 aG.2.2.2 l0.Links]) w) := by
 refine dH (args := [_, _]) Try.func77 rfl (hP.start |>.gU (α := List Word) (r := fT) (x := p1) G9) rfl ?_; unfold Qu at hM; refine sr ?_; refine oa ?_; refine on ?_; refine sr ?_; refine om ?_; obtain ⟨x1, hx2, hM⟩ := bind_some hM; refine oe (bK (xs := p1) 3 (kG p1 fT) (iS hx2)) ?_; refine oe (aH 0) ?_; refine oe (dn (i := 2) (xs := p1) (y := x1) 0 (kG p1 fT) (fun _ => hx2)) ?_; obtain ⟨y3, hy4, hM⟩ := bind_some hM; refine aM (bJ (fun w hm => let ⟨S, hs⟩ := hm; Qo _ w x1.Text y3 hy4 (bB hs) ) ?_); refine om ?_; refine oe (jA (vs := [vI y3.1, .bool y3.2])) ?_; refine oe (jA (vs := [vI y3.1, .bool y3.2])) ?_; refine oa ?_; refine oa ?_; refine on ?_; refine sr ?_; refine om ?_; obtain ⟨x5, hx6, hM⟩ := bind_some hM; refine oe (bK (xs := p1) 3 (kG p1 fT) (iS hx6)) ?_; refine oe (aH 0) ?_; refine oe (dn (i := 3) (xs := p1) (y := x5) 0 (kG p1 fT) (fun _ => hx6)) ?_; obtain ⟨y7, wu, hM⟩ := bind_some hM; refine aM (bJ (fun w hm => let ⟨S, hs⟩ := hm; Qo _ w x5.Text y7 wu (bB hs) ) ?_)
 refine om ?_; refine oe (jA (vs := [vI y7.1, .bool y7.2])) ?_; refine oe (jA (vs := [vI y7.1, .bool y7.2])) ?_; refine oa ?_; refine oa ?_; refine on ?_; refine sr ?_; refine om ?_; obtain ⟨x9, kY, hM⟩ := bind_some hM; refine oe (bK (xs := p1) 3 (kG p1 fT) (iS kY)) ?_; refine oe (aH 0) ?_; refine oe (dn (i := 4) (xs := p1) (y := x9) 0 (kG p1 fT) (fun _ => kY)) ?_; obtain ⟨fF, uw, hM⟩ := bind_some hM; refine aM (bJ (fun w hm => let ⟨S, hs⟩ := hm; Qo _ w x9.Text fF uw (bB hs) ) ?_); refine om ?_; refine oe (jA (vs := [vI fF.1, .bool fF.2])) ?_; refine oe (jA (vs := [vI fF.1, .bool fF.2])) ?_; refine oa ?_; refine oa ?_; refine on ?_; refine aO fun K5 dW => ?_; refine sr ?_; refine om ?_; refine oe gB ?_; refine om ?_; refine aF rfl aL ?_; refine aF rfl gB ?_; refine oe eu ?_; refine om ?_; refine aF rfl aL ?_; refine aF rfl gB ?_; refine oe eu ?_; refine om ?_; refine aF rfl aL ?_; refine aF rfl bR ?_; refine aF rfl eX ?_; refine aF rfl aL ?_; refine aF rfl aL ?_; obtain ⟨pz, vB, hM⟩ := bind_some hM
 refine aF rfl (bK (xs := p1) 3 (kG p1 fT) (fun hg => let h := kZ (eG vB hg); ⟨h.1, h.2.1⟩)) ?_; refine aF rfl (aH 0) ?_; refine aF rfl (dn (i := 5) (xs := p1) (y := pz) 0 (kG p1 fT) (fun hg => eG vB hg)) ?_; refine aF rfl Ka ?_; refine aF rfl dO ?_; refine oe eu ?_; refine on ?_; refine cc rfl hM (fun xL hM => ?_) (fun xL hM => ?_)
 · refine sr ?_; refine oa ?_; refine on ?_; obtain rfl := some_inj hM; refine bn (bT (fun w hm => fK aG.2.2.1 hm rfl))
 refine bA (dW _ _ ?_); clear dW; refine sr ?_; refine om ?_; obtain ⟨mW, xO, hM⟩ := bind_some hM; refine oe (bK (xs := p1) 3 (kG p1 fT) (iS xO)) ?_; refine oe (aH 0) ?_; refine oe (dn (i := 1) (xs := p1) (y := mW) 0 (kG p1 fT) (fun _ => xO)) ?_; refine om ?_; refine om ?_; refine om ?_; refine oe (fU [.string mW.Text.ba, vI y3.1, vI y7.1, vI fF.1, vI (-1)]) ?_; refine aM (cO rfl (k := fun b18 => ?_)); refine aM (bY (b := b18) (vs := [.string mW.Text.ba, vI y3.1, vI y7.1, vI fF.1, vI (-1)]) (k := ?_)); refine on ?_; refine kL (γ := Int × Unit) (env := fun (zx, _) => [(0, eP jg), (11, eP b18)]) (mem := fun (zx, _) => [ah 9 aG.1 l0.aQ, ah 9 aG.2.1 l0.aR, ah 66 aG.2.2.1 l0.Sections, ah 112 aG.2.2.2 l0.Links, own jg 27 (fq l0 aG), own b18 66 [.string mW.Text.ba, vI y3.1, vI y7.1, vI fF.1, vI zx]]) (R := fun g => Lx l0 mW y3 y7 fF g.1 = some y) ?_ ?_
 · intro vT eF; refine sr ?_; refine om ?_; refine oe bR ?_; refine oe eX ?_; refine on ?_; refine cc rfl hM (fun hc22 hM => ?_) (fun hc22 hM => ?_)
   · refine aO fun yH lK => ?_; refine iI [own b18 66 [.string mW.Text.ba, vI y3.1, vI y7.1, vI fF.1, vI (-1)], iL p1 fT, own jg 27 (fq l0 aG), ah 9 aG.1 l0.aQ, ah 9 aG.2.1 l0.aR, ah 66 aG.2.2.1 l0.Sections, ah 112 aG.2.2.2 l0.Links] 10 ?_; refine aK 0 rfl aL ?_; refine aK 1 rfl fG ?_; refine aK 2 rfl (aH 0) ?_; refine aK 3 rfl (aN (b := jg)) ?_; refine aK 4 rfl aL ?_; obtain ⟨x23, hx24, hM⟩ := bind_some hM; refine aK 5 rfl (bK (xs := p1) 3 (kG p1 fT) (iS hx24)) ?_; refine aK 6 rfl (aH 0) ?_; refine aK 7 rfl (dn (i := 6) (xs := p1) (y := x23) 0 (kG p1 fT) (fun _ => hx24)) ?_; obtain ⟨y25, H8, hM⟩ := bind_some hM; refine dI 8 rfl (bJ (fun w hm => let ⟨S, hs⟩ := hm; Lv _ w l0.aQ aG.1 x23.Text y25 H8 (bB hs) (kT hs)) ⟨rI, ?_⟩); refine aK 9 rfl (aH 4) ?_; refine iG rfl (gK (b := b18) (l' := [.string mW.Text.ba, vI y3.1, vI y7.1, vI fF.1, vI y25]) (k := ?_)); refine iE (lK _ _ ?_); clear lK; refine sr ?_; refine oe (aH 4) ?_
     refine oe (aN (b := b18)) ?_; refine oe dJ ?_; refine on ?_; refine cc rfl hM (fun hc27 hM => ?_) (fun hc27 hM => ?_)
     · refine sr ?_; refine oa ?_; refine on ?_; obtain rfl := some_inj hM; refine bn (bT (fun w hm => fK aG.2.2.1 hm rfl))
     refine bA (eF (y25, ()) _ _ hM ⟨rfl, rfl, trivial⟩ rI)
   refine bA (eF ((-1), ()) _ _ hM ⟨rfl, rfl, trivial⟩ rI)
 clear hM; intro g hM; obtain ⟨zx, ⟨⟩⟩ := g; dsimp only at hM ⊢; dsimp only [Lx] at hM; refine aO fun K9 gJ => ?_; refine iI [ah 9 aG.1 l0.aQ, ah 9 aG.2.1 l0.aR, ah 112 aG.2.2.2 l0.Links, own jg 27 (fq l0 aG), own b18 66 [.string mW.Text.ba, vI y3.1, vI y7.1, vI fF.1, vI zx]] 10 ?_; refine aK 0 rfl aL ?_; refine aK 1 rfl aL ?_; refine aK 2 rfl fG ?_; refine aK 3 rfl (aH 2) ?_; refine aK 4 rfl (aN (b := jg)) ?_; refine aK 5 rfl (cu (b := b18)) ?_; refine dI 6 rfl (gq (α := Section) 66 (fun _ => ()) ([(Section.mk mW.Text y3.1 y7.1 fF.1 zx)] : List Section) oF (fun uN => ⟨rI, ?_⟩)); obtain ⟨Hf, hM⟩ := bC hM; refine dI 7 rfl (iQ (r := aG.2.2.1) (r2 := uN) uR (Kn.ah (e := 66) (r := uN) hA) oF (of_decide_eq_true Hf) (fun bG => ⟨rI, ?_⟩)); refine aK 8 rfl fG ?_; refine aK 9 rfl (aH 2) ?_; refine iG rfl (gK (b := jg) (l' := [sL aG.1 l0.aQ, sL aG.2.1 l0.aR, .slice bG.a ((l0.Sections ++ ([(Section.mk mW.Text y3.1 y7.1 fF.1 zx)] : List Section)).length) bG.cap, sL aG.2.2.2 l0.Links]) (k := ?_))
 refine iE (gJ _ _ ?_); clear gJ; refine sr ?_; refine oa ?_; refine on ?_; obtain rfl := some_inj hM; refine bn (bT (fun w hm => fK bG hm rfl))
def LD (s0 : Str) : Option Int :=
  if decide (s0 = (⟨[65]⟩ : Str)) then
    (some 0)
  else
    (if decide (s0 = (⟨[66]⟩ : Str)) then
      (some 1)
    else
      (some (-1)))
theorem I9 (S : bU) (w : World) (s0 : Str) (y : Int) (hM : LD s0 = some y) (hS : sB S w)  :
    Calls Try.prog 90 #[.string s0.ba] w (dQ w (vI y)) := by
 refine dH (args := [_]) Try.func90 rfl ((pre_nil hS).start) rfl ?_; unfold LD at hM; refine sr ?_; refine oa ?_; refine on ?_; refine aO fun K2 hK2 => ?_; refine sr ?_; refine om ?_; refine on ?_; refine bX ?_; refine sr ?_; refine oe vk ?_; refine oa ?_; refine on ?_; refine cc rfl hM (fun hc1 hM => ?_) (fun hc1 hM => ?_)
 · refine sr ?_; refine oa ?_; refine on ?_; obtain rfl := some_inj hM; refine bn (bT (fun w hm => bQ hm rfl))
 refine sr ?_; refine oe vk ?_; refine oa ?_; refine on ?_; refine cc rfl hM (fun hc2 hM => ?_) (fun hc2 hM => ?_)
 · refine sr ?_; refine oa ?_; refine on ?_; obtain rfl := some_inj hM; refine bn (bT (fun w hm => bQ hm rfl))
 refine bA (hK2 _ _ ?_); clear hK2; refine sr ?_; refine oa ?_; refine on ?_; obtain rfl := some_inj hM; refine bn (bT (fun w hm => bQ hm rfl))
def I7 (l0 : Layout) (y13 : Int) (nQ : Int) (nA : Int) (nR : Int) : (Int × Int) → Option (Int × (List Link)) := fun (za, ze) =>
  bq (decide ((l0.Links.length + ([(Link.mk y13 nQ nA nR za ze)] : List Link).length) * 48 ≤ 140737488355328)) <|
  some (0, (l0.Links ++ ([(Link.mk y13 nQ nA nR za ze)] : List Link)))
def Qs (p1 : List Word) (l0 : Layout) : (Int × Int) → Option (Int × (List Link)) := fun (nQ, nR) =>
  (fP ((!(decide (nQ < 0) || decide (nR < 0))) && decide ((p1.length : Int) = 7)) default (idx p1 6)).bind fun x1 =>
  (fP ((!(decide (nQ < 0) || decide (nR < 0))) && (decide ((p1.length : Int) = 7) && (!decide (x1.Text = (⟨[48]⟩ : Str))))) default (idx p1 6)).bind fun x3 =>
  if ((decide (nQ < 0) || decide (nR < 0)) || ((decide ((p1.length : Int) = 7) && (!decide (x1.Text = (⟨[48]⟩ : Str)))) && (!decide (x3.Text = (⟨[49]⟩ : Str))))) then
    (some (2, l0.Links))
  else
    ((LJ l0).bind fun y6 =>
    (idx p1 1).bind fun x9 =>
    (idx p1 3).bind fun lU =>
    (Fv y6 x9.Text).bind fun y13 =>
    (Fv y6 lU.Text).bind fun nA =>
    if (decide (y13 < 0) || decide (nA < 0)) then
      (some (3, l0.Links))
    else
      (if decide ((p1.length : Int) = 7) then
        ((idx p1 5).bind fun yC =>
        (Fv l0.aR yC.Text).bind fun y24 =>
        if decide (y24 < 0) then
          (some (3, l0.Links))
        else
          ((idx p1 6).bind fun x27 =>
          if decide (x27.Text = (⟨[49]⟩ : Str)) then
            (I7 l0 y13 nQ nA nR (y24, 1))
          else
            (I7 l0 y13 nQ nA nR (y24, 0))))
      else
        (I7 l0 y13 nQ nA nR ((-1), 0))))
def Qt (l0 : Layout) (p1 : List Word) : Option (Int × (List Link)) :=
  (idx p1 2).bind fun x30 =>
  (idx p1 4).bind fun x32 =>
  (LD x30.Text).bind fun y34 =>
  (LD x32.Text).bind fun yD =>
  Qs p1 l0 (y34, yD)
theorem adw (S : bU) (w : World) (jg : Nat) (l0 : Layout) (aG : aj.R Layout) (p1 : List Word) (fT : aj.R (List Word)) (y : Int × (List Link)) (hM : Qt l0 p1 = some y) (hP : Pre S [own jg 27 (fq l0 aG), ah 9 aG.1 l0.aQ, ah 9 aG.2.1 l0.aR, ah 66 aG.2.2.1 l0.Sections, ah 112 aG.2.2.2 l0.Links] w) (G9 : aj.ok S w fT p1) :
    Calls Try.prog 78 #[vP jg, sL fT p1] w (Post (β := (SR (aj.R Link))) S [own jg 27 (fq l0 aG), ah 9 aG.1 l0.aQ, ah 9 aG.2.1 l0.aR, ah 66 aG.2.2.1 l0.Sections, ah 112 aG.2.2.2 l0.Links] (fun g => vI y.1) (fun g => [own jg 27 [sL aG.1 l0.aQ, sL aG.2.1 l0.aR, sL aG.2.2.1 l0.Sections, sL g y.2], ah 9 aG.1 l0.aQ, ah 9 aG.2.1 l0.aR, ah 66 aG.2.2.1 l0.Sections, ah 112 g y.2]) w) := by
 refine dH (args := [_, _]) Try.func78 rfl (hP.start |>.gU (α := List Word) (r := fT) (x := p1) G9) rfl ?_; unfold Qt at hM; refine sr ?_; refine oa ?_; refine on ?_; refine kL (γ := (Int × Int) × Nat) (env := fun ((nQ, nR), ql) => [(0, eP jg), (1, eS fT p1), (5, eP ql)]) (mem := fun ((nQ, nR), ql) => [ah 9 aG.1 l0.aQ, ah 9 aG.2.1 l0.aR, ah 66 aG.2.2.1 l0.Sections, ah 112 aG.2.2.2 l0.Links, own jg 27 (fq l0 aG), iL p1 fT, own ql 112 [vI 0, vI nQ, vI 0, vI nR, vI (-1), vI 0]]) (R := fun g => Qs p1 l0 g.1 = some y) ?_ ?_
 · intro vT eF; refine jh _ (List.Sublist.refl _) ?_; refine aJ 0 rfl aL ?_; obtain ⟨x30, hx31, hM⟩ := bind_some hM; refine aJ 1 rfl (bK (xs := p1) 3 (kG p1 fT) (iS hx31)) ?_; refine aJ 2 rfl (aH 0) ?_; refine aJ 3 rfl (dn (i := 2) (xs := p1) (y := x30) 0 (kG p1 fT) (fun _ => hx31)) ?_; refine aJ 5 rfl aL ?_; obtain ⟨x32, BN, hM⟩ := bind_some hM; refine aJ 6 rfl (bK (xs := p1) 3 (kG p1 fT) (iS BN)) ?_; refine aJ 7 rfl (aH 0) ?_; refine aJ 8 rfl (dn (i := 4) (xs := p1) (y := x32) 0 (kG p1 fT) (fun _ => BN)) ?_; obtain ⟨y34, xP, hM⟩ := bind_some hM; refine kD 4 11 (⟨_, rfl, rfl, bJ (fun w hm => let ⟨S, hs⟩ := hm; I9 _ w x30.Text y34 xP (bB hs) ) ⟨rI, ?_⟩⟩) (⟨_, rfl, rfl, cO rfl (k := fun Gd => ⟨rI, ?_⟩)⟩)
   · obtain ⟨yD, hy38, hM⟩ := bind_some hM; refine kD 9 11 (⟨_, rfl, rfl, bJ (fun w hm => let ⟨S, hs⟩ := hm; I9 _ w x32.Text yD hy38 (bB hs) ) ⟨rI, ?_⟩⟩) (⟨_, rfl, rfl, cO rfl (k := fun Gg => ⟨rI, ?_⟩)⟩)
     · refine aJ 10 rfl (fU [vI 0, vI y34, vI 0, vI yD, vI (-1), vI 0]) ?_; refine bO 11 rfl (cO rfl (k := fun Gh => ⟨rI, ?_⟩)); refine bO 12 rfl (bY (b := Gh) (vs := [vI 0, vI y34, vI 0, vI yD, vI (-1), vI 0]) (k := ⟨rI, ?_⟩)); refine eT (eF ((y34, yD), Gh) _ _ hM ⟨rfl, rfl, rfl, trivial⟩ rI)
     refine bO 9 rfl (bJ (fun w hm => let ⟨S, hs⟩ := hm; I9 _ w x32.Text yD hy38 (bB hs) ) ⟨rI, ?_⟩); refine aJ 10 rfl (fU [vI 0, vI y34, vI 0, vI yD, vI (-1), vI 0]) ?_; refine bO 12 rfl (bY (b := Gg) (vs := [vI 0, vI y34, vI 0, vI yD, vI (-1), vI 0]) (k := ⟨rI, ?_⟩)); refine eT (eF ((y34, yD), Gg) _ _ hM ⟨rfl, rfl, rfl, trivial⟩ rI)
   refine bO 4 rfl (bJ (fun w hm => let ⟨S, hs⟩ := hm; I9 _ w x30.Text y34 xP (bB hs) ) ⟨rI, ?_⟩); obtain ⟨Mv, abI, hM⟩ := bind_some hM; refine bO 9 rfl (bJ (fun w hm => let ⟨S, hs⟩ := hm; I9 _ w x32.Text Mv abI (bB hs) ) ⟨rI, ?_⟩); refine aJ 10 rfl (fU [vI 0, vI y34, vI 0, vI Mv, vI (-1), vI 0]) ?_; refine bO 12 rfl (bY (b := Gd) (vs := [vI 0, vI y34, vI 0, vI Mv, vI (-1), vI 0]) (k := ⟨rI, ?_⟩)); refine eT (eF ((y34, Mv), Gd) _ _ hM ⟨rfl, rfl, rfl, trivial⟩ rI)
 clear hM; intro g hM; obtain ⟨⟨nQ, nR⟩, ql⟩ := g; dsimp only at hM ⊢; dsimp only [Qs] at hM; refine aO fun K2 hK2 => ?_; refine sr ?_; refine oe (aH 1) ?_; refine oe (aN (b := ql)) ?_; refine oe dJ ?_; refine om ?_; refine aF rfl (aH 3) ?_; refine aF rfl (aN (b := ql)) ?_; refine aF rfl dJ ?_; refine oe eu ?_; refine om ?_; refine aF rfl aL ?_; refine aF rfl bR ?_; refine aF rfl eX ?_; refine aF rfl aL ?_; refine aF rfl aL ?_; obtain ⟨x1, hx2, hM⟩ := bind_some hM; refine aF rfl (bK (xs := p1) 3 (kG p1 fT) (fun hg => let h := kZ (eG hx2 hg); ⟨h.1, h.2.1⟩)) ?_; refine aF rfl (aH 0) ?_; refine aF rfl (dn (i := 6) (xs := p1) (y := x1) 0 (kG p1 fT) (fun hg => eG hx2 hg)) ?_; refine aF rfl Ka ?_; refine aF rfl dO ?_; refine aF rfl aL ?_; refine aF rfl aL ?_; obtain ⟨x3, hx4, hM⟩ := bind_some hM; refine aF rfl (bK (xs := p1) 3 (kG p1 fT) (fun hg => let h := kZ (eG hx4 hg); ⟨h.1, h.2.1⟩)) ?_; refine aF rfl (aH 0) ?_; refine aF rfl (dn (i := 6) (xs := p1) (y := x3) 0 (kG p1 fT) (fun hg => eG hx4 hg)) ?_; refine aF rfl Ka ?_; refine aF rfl dO ?_
 refine oe eu ?_; refine on ?_; refine cc rfl hM (fun mP hM => ?_) (fun mP hM => ?_)
 · refine sr ?_; refine oa ?_; refine on ?_; obtain rfl := some_inj hM; refine bn (bT (fun w hm => fK aG.2.2.2 hm rfl))
 refine bA (hK2 _ _ ?_); clear hK2; refine sr ?_; refine om ?_; refine oe fG ?_; refine oe (cu (b := jg)) ?_; obtain ⟨y6, uD, hM⟩ := bind_some hM; refine aM (fD jF.nil (fun S w hs hP => V9 _ w l0 aG y6 uD (bB hs) ⟨(kT hs), (kT hs), (kT hs), (kT hs)⟩) fC (fun r8 => ?_)); dsimp only [List.cons_append, List.nil_append]; refine oa ?_; refine on ?_; refine aO fun K6 dM => ?_; refine jh [ah 9 r8 y6, ah 9 aG.1 l0.aQ, ah 9 aG.2.1 l0.aR, ah 66 aG.2.2.1 l0.Sections, ah 112 aG.2.2.2 l0.Links, own jg 27 (fq l0 aG), iL p1 fT] (by repeat (first | exact List.Sublist.refl _ | apply List.Sublist.cons_cons | apply List.Sublist.cons)) ?_; refine aJ 0 rfl aL ?_; refine aJ 1 rfl aL ?_; obtain ⟨x9, kY, hM⟩ := bind_some hM; refine aJ 2 rfl (bK (xs := p1) 3 (kG p1 fT) (iS kY)) ?_; refine aJ 3 rfl (aH 0) ?_; refine aJ 4 rfl (dn (i := 1) (xs := p1) (y := x9) 0 (kG p1 fT) (fun _ => kY)) ?_; refine aJ 6 rfl aL ?_; refine aJ 7 rfl aL ?_; obtain ⟨lU, DW, hM⟩ := bind_some hM; refine aJ 8 rfl (bK (xs := p1) 3 (kG p1 fT) (iS DW)) ?_
 refine aJ 9 rfl (aH 0) ?_; refine aJ 10 rfl (dn (i := 3) (xs := p1) (y := lU) 0 (kG p1 fT) (fun _ => DW)) ?_; obtain ⟨y13, BQ, hM⟩ := bind_some hM; refine bO 5 rfl (bJ (fun w hm => let ⟨S, hs⟩ := hm; Lv _ w y6 r8 x9.Text y13 BQ (bB hs) (kT hs)) ⟨rI, ?_⟩); refine aJ 12 rfl (aH 0) ?_; obtain ⟨nA, OO, hM⟩ := bind_some hM; refine bO 11 rfl (bJ (fun w hm => let ⟨S, hs⟩ := hm; Lv _ w y6 r8 lU.Text nA OO (bB hs) (kT hs)) ⟨rI, ?_⟩); refine bO 13 rfl (gK (b := ql) (l' := [vI y13, vI nQ, vI 0, vI nR, vI (-1), vI 0]) (k := ⟨rI, ?_⟩)); refine aJ 14 rfl (aH 2) ?_; refine bO 15 rfl (gK (b := ql) (l' := [vI y13, vI nQ, vI nA, vI nR, vI (-1), vI 0]) (k := ⟨rI, ?_⟩)); refine eT (dM _ _ ?_); clear dM; refine aO fun K7 eZ => ?_; refine sr ?_; refine oe (aH 0) ?_; refine oe (aN (b := ql)) ?_; refine oe dJ ?_; refine om ?_; refine aF rfl (aH 2) ?_; refine aF rfl (aN (b := ql)) ?_; refine aF rfl dJ ?_; refine oe eu ?_; refine on ?_; refine cc rfl hM (fun hc17 hM => ?_) (fun hc17 hM => ?_)
 · refine sr ?_; refine oa ?_; refine on ?_; obtain rfl := some_inj hM; refine bn (bT (fun w hm => fK aG.2.2.2 hm rfl))
 refine bA (eZ _ _ ?_); clear eZ; refine kL (γ := (Int × Int) × Unit) (env := fun ((za, ze), _) => [(0, eP jg), (5, eP ql)]) (mem := fun ((za, ze), _) => [ah 9 aG.1 l0.aQ, ah 9 aG.2.1 l0.aR, ah 66 aG.2.2.1 l0.Sections, ah 112 aG.2.2.2 l0.Links, own jg 27 (fq l0 aG), own ql 112 [vI y13, vI nQ, vI nA, vI nR, vI za, vI ze]]) (R := fun g => I7 l0 y13 nQ nA nR g.1 = some y) ?_ ?_
 · intro zR hJ2; refine sr ?_; refine om ?_; refine oe bR ?_; refine oe eX ?_; refine on ?_; refine cc rfl hM (fun hc21 hM => ?_) (fun hc21 hM => ?_)
   · refine aO fun zP mM => ?_; refine iI [ah 9 r8 y6, ah 9 aG.1 l0.aQ, ah 9 aG.2.1 l0.aR, ah 66 aG.2.2.1 l0.Sections, ah 112 aG.2.2.2 l0.Links, own jg 27 (fq l0 aG), iL p1 fT, own ql 112 [vI y13, vI nQ, vI nA, vI nR, vI (-1), vI 0]] 10 ?_; refine aK 0 rfl aL ?_; refine aK 1 rfl fG ?_; refine aK 2 rfl (aH 1) ?_; refine aK 3 rfl (aN (b := jg)) ?_; refine aK 4 rfl aL ?_; obtain ⟨yC, HZ, hM⟩ := bind_some hM; refine aK 5 rfl (bK (xs := p1) 3 (kG p1 fT) (iS HZ)) ?_; refine aK 6 rfl (aH 0) ?_; refine aK 7 rfl (dn (i := 5) (xs := p1) (y := yC) 0 (kG p1 fT) (fun _ => HZ)) ?_; obtain ⟨y24, hy25, hM⟩ := bind_some hM; refine dI 8 rfl (bJ (fun w hm => let ⟨S, hs⟩ := hm; Lv _ w l0.aR aG.2.1 yC.Text y24 hy25 (bB hs) (kT hs)) ⟨rI, ?_⟩); refine aK 9 rfl (aH 4) ?_; refine iG rfl (gK (b := ql) (l' := [vI y13, vI nQ, vI nA, vI nR, vI y24, vI 0]) (k := ?_)); refine iE (mM _ _ ?_); clear mM; refine aO fun yI lM => ?_; refine aO fun yJ lN => ?_
     refine bE ?_; refine oe (aH 4) ?_; refine oe (aN (b := ql)) ?_; refine oe dJ ?_; refine bF (lN _ _ ?_); clear lN; refine cc rfl hM (fun Ho hM => ?_) (fun Ho hM => ?_)
     · refine sr ?_; refine oa ?_; refine on ?_; obtain rfl := some_inj hM; refine bn (bT (fun w hm => fK aG.2.2.2 hm rfl))
     refine bA (lM _ _ ?_); clear lM; refine sr ?_; refine om ?_; obtain ⟨x27, hx28, hM⟩ := bind_some hM; refine oe (bK (xs := p1) 3 (kG p1 fT) (iS hx28)) ?_; refine oe (aH 0) ?_; refine oe (dn (i := 6) (xs := p1) (y := x27) 0 (kG p1 fT) (fun _ => hx28)) ?_; refine oe vk ?_; refine on ?_; refine cc rfl hM (fun hc29 hM => ?_) (fun hc29 hM => ?_)
     · refine bE ?_; refine oe (aH 5) ?_; refine aM (gK (b := ql) (l' := [vI y13, vI nQ, vI nA, vI nR, vI y24, vI 1]) (k := ?_)); refine bF (hJ2 ((y24, 1), ()) _ _ hM ⟨rfl, rfl, trivial⟩ rI)
     refine bA (hJ2 ((y24, 0), ()) _ _ hM ⟨rfl, rfl, trivial⟩ rI)
   refine bA (hJ2 (((-1), 0), ()) _ _ hM ⟨rfl, rfl, trivial⟩ rI)
 clear hM; intro g hM; obtain ⟨⟨za, ze⟩, ⟨⟩⟩ := g; dsimp only at hM ⊢; dsimp only [I7] at hM; refine aO fun rW iA => ?_; refine iI [ah 9 aG.1 l0.aQ, ah 9 aG.2.1 l0.aR, ah 66 aG.2.2.1 l0.Sections, own jg 27 (fq l0 aG), own ql 112 [vI y13, vI nQ, vI nA, vI nR, vI za, vI ze]] 10 ?_; refine aK 0 rfl aL ?_; refine aK 1 rfl aL ?_; refine aK 2 rfl fG ?_; refine aK 3 rfl (aH 3) ?_; refine aK 4 rfl (aN (b := jg)) ?_; refine aK 5 rfl (cu (b := ql)) ?_; refine dI 6 rfl (gq (α := Link) 112 (fun _ => ()) ([(Link.mk y13 nQ nA nR za ze)] : List Link) oF (fun Li => ⟨rI, ?_⟩)); obtain ⟨Z8, hM⟩ := bC hM; refine dI 7 rfl (iQ (r := aG.2.2.2) (r2 := Li) uR (Kn.ah (e := 112) (r := Li) hA) oF (of_decide_eq_true Z8) (fun uN => ⟨rI, ?_⟩)); refine aK 8 rfl fG ?_; refine aK 9 rfl (aH 3) ?_; refine iG rfl (gK (b := jg) (l' := [sL aG.1 l0.aQ, sL aG.2.1 l0.aR, sL aG.2.2.1 l0.Sections, .slice uN.a ((l0.Links ++ ([(Link.mk y13 nQ nA nR za ze)] : List Link)).length) uN.cap]) (k := ?_))
 refine iE (iA _ _ ?_); clear iA; refine sr ?_; refine oa ?_; refine on ?_; obtain rfl := some_inj hM; refine bn (bT (fun w hm => fK uN hm rfl))
def Qv (l0 : Layout) (p1 : List Word) : Option (Int × (List Str) × (List Str) × (List Section) × (List Link)) :=
  (fP (decide ((p1.length : Int) = 2)) default (idx p1 0)).bind fun x1 =>
  if (decide ((p1.length : Int) = 2) && decide (x1.Text = (⟨[115, 116, 97, 116, 105, 111, 110]⟩ : Str))) then
    ((idx p1 1).bind fun x4 =>
    bq (decide ((l0.aQ.length + ([x4.Text] : List Str).length) * 16 ≤ 140737488355328)) <|
    some (0, (l0.aQ ++ ([x4.Text] : List Str)), l0.aR, l0.Sections, l0.Links))
  else
    ((fP (decide ((p1.length : Int) = 2)) default (idx p1 0)).bind fun x9 =>
    if (decide ((p1.length : Int) = 2) && decide (x9.Text = (⟨[112, 111, 105, 110, 116]⟩ : Str))) then
      ((idx p1 1).bind fun tY =>
      bq (decide ((l0.aR.length + ([tY.Text] : List Str).length) * 16 ≤ 140737488355328)) <|
      some (0, l0.aQ, (l0.aR ++ ([tY.Text] : List Str)), l0.Sections, l0.Links))
    else
      ((fP (decide ((p1.length : Int) = 5) || decide ((p1.length : Int) = 7)) default (idx p1 0)).bind fun je =>
      if ((decide ((p1.length : Int) = 5) || decide ((p1.length : Int) = 7)) && decide (je.Text = (⟨[115, 101, 99, 116, 105, 111, 110]⟩ : Str))) then
        ((Qu l0 p1).bind fun y20 =>
        some (y20.1, l0.aQ, l0.aR, y20.2, l0.Links))
      else
        ((fP (decide ((p1.length : Int) = 5) || decide ((p1.length : Int) = 7)) default (idx p1 0)).bind fun x23 =>
        if ((decide ((p1.length : Int) = 5) || decide ((p1.length : Int) = 7)) && decide (x23.Text = (⟨[108, 105, 110, 107]⟩ : Str))) then
          ((Qt l0 p1).bind fun aD =>
          some (aD.1, l0.aQ, l0.aR, l0.Sections, aD.2))
        else
          (some (2, l0.aQ, l0.aR, l0.Sections, l0.Links)))))
theorem ady (S : bU) (w : World) (jg : Nat) (l0 : Layout) (aG : aj.R Layout) (p1 : List Word) (fT : aj.R (List Word)) (y : Int × (List Str) × (List Str) × (List Section) × (List Link)) (hM : Qv l0 p1 = some y) (hP : Pre S [own jg 27 (fq l0 aG), ah 9 aG.1 l0.aQ, ah 9 aG.2.1 l0.aR, ah 66 aG.2.2.1 l0.Sections, ah 112 aG.2.2.2 l0.Links] w) (G9 : aj.ok S w fT p1) :
    Calls Try.prog 66 #[vP jg, sL fT p1] w (Post (β := (SR (aj.R Str)) × (SR (aj.R Str)) × (SR (aj.R Section)) × (SR (aj.R Link))) S [own jg 27 (fq l0 aG), ah 9 aG.1 l0.aQ, ah 9 aG.2.1 l0.aR, ah 66 aG.2.2.1 l0.Sections, ah 112 aG.2.2.2 l0.Links] (fun g => vI y.1) (fun g => [own jg 27 [sL g.1 y.2.1, sL g.2.1 y.2.2.1, sL g.2.2.1 y.2.2.2.1, sL g.2.2.2 y.2.2.2.2], ah 9 g.1 y.2.1, ah 9 g.2.1 y.2.2.1, ah 66 g.2.2.1 y.2.2.2.1, ah 112 g.2.2.2 y.2.2.2.2]) w) := by
 refine dH (args := [_, _]) Try.func66 rfl (hP.start |>.gU (α := List Word) (r := fT) (x := p1) G9) rfl ?_; unfold Qv at hM; refine sr ?_; refine oa ?_; refine on ?_; refine aO fun K2 hK2 => ?_; refine bX ?_; refine sr ?_; refine om ?_; refine oe bR ?_; refine oe eX ?_; refine om ?_; refine aF rfl aL ?_; obtain ⟨x1, hx2, hM⟩ := bind_some hM; refine aF rfl (bK (xs := p1) 3 (kG p1 fT) (fun hg => let h := kZ (eG hx2 hg); ⟨h.1, h.2.1⟩)) ?_; refine aF rfl (aH 0) ?_; refine aF rfl (dn (i := 0) (xs := p1) (y := x1) 0 (kG p1 fT) (fun hg => eG hx2 hg)) ?_; refine aF rfl vk ?_; refine oe dO ?_; refine oa ?_; refine on ?_; refine cc rfl hM (fun hc3 hM => ?_) (fun hc3 hM => ?_)
 · refine aO fun K4 hK4 => ?_; refine iI [iL p1 fT, own jg 27 (fq l0 aG), ah 9 aG.2.1 l0.aR, ah 66 aG.2.2.1 l0.Sections, ah 112 aG.2.2.2 l0.Links] 13 ?_; refine aK 0 rfl aL ?_; refine aK 1 rfl aL ?_; refine aK 2 rfl fG ?_; refine aK 3 rfl (aH 0) ?_; refine aK 4 rfl (aN (b := jg)) ?_; refine aK 5 rfl aL ?_; obtain ⟨x4, hx5, hM⟩ := bind_some hM; refine aK 6 rfl (bK (xs := p1) 3 (kG p1 fT) (iS hx5)) ?_; refine aK 7 rfl (aH 0) ?_; refine aK 8 rfl (dn (i := 1) (xs := p1) (y := x4) 0 (kG p1 fT) (fun _ => hx5)) ?_; refine dI 9 rfl (gq (α := Str) 9 (fun _ => ()) ([x4.Text] : List Str) oF (fun r6 => ⟨rI, ?_⟩)); obtain ⟨Oa, hM⟩ := bC hM; refine dI 10 rfl (iQ (r := aG.1) (r2 := r6) uR (Kn.ah (e := 9) (r := r6) hA) oF (of_decide_eq_true Oa) (fun r7 => ⟨rI, ?_⟩)); refine aK 11 rfl fG ?_; refine aK 12 rfl (aH 0) ?_; refine iG rfl (gK (b := jg) (l' := [.slice r7.a ((l0.aQ ++ ([x4.Text] : List Str)).length) r7.cap, sL aG.2.1 l0.aR, sL aG.2.2.1 l0.Sections, sL aG.2.2.2 l0.Links]) (k := ?_))
   refine iE (hK4 _ _ ?_); clear hK4; refine sr ?_; refine oa ?_; refine on ?_; obtain rfl := some_inj hM; refine bn (bT (fun w hm => fK (r7, aG.2.1, aG.2.2.1, aG.2.2.2) hm rfl))
 refine sr ?_; refine om ?_; refine oe bR ?_; refine oe eX ?_; refine om ?_; refine aF rfl aL ?_; obtain ⟨x9, kY, hM⟩ := bind_some hM; refine aF rfl (bK (xs := p1) 3 (kG p1 fT) (fun hg => let h := kZ (eG kY hg); ⟨h.1, h.2.1⟩)) ?_; refine aF rfl (aH 0) ?_; refine aF rfl (dn (i := 0) (xs := p1) (y := x9) 0 (kG p1 fT) (fun hg => eG kY hg)) ?_; refine aF rfl vk ?_; refine oe dO ?_; refine oa ?_; refine on ?_; refine cc rfl hM (fun yU hM => ?_) (fun yU hM => ?_)
 · refine aO fun K7 eZ => ?_; refine iI [iL p1 fT, own jg 27 (fq l0 aG), ah 9 aG.1 l0.aQ, ah 66 aG.2.2.1 l0.Sections, ah 112 aG.2.2.2 l0.Links] 13 ?_; refine aK 0 rfl aL ?_; refine aK 1 rfl aL ?_; refine aK 2 rfl fG ?_; refine aK 3 rfl (aH 1) ?_; refine aK 4 rfl (aN (b := jg)) ?_; refine aK 5 rfl aL ?_; obtain ⟨tY, HV, hM⟩ := bind_some hM; refine aK 6 rfl (bK (xs := p1) 3 (kG p1 fT) (iS HV)) ?_; refine aK 7 rfl (aH 0) ?_; refine aK 8 rfl (dn (i := 1) (xs := p1) (y := tY) 0 (kG p1 fT) (fun _ => HV)) ?_; refine dI 9 rfl (gq (α := Str) 9 (fun _ => ()) ([tY.Text] : List Str) oF (fun bH => ⟨rI, ?_⟩)); obtain ⟨Z4, hM⟩ := bC hM; refine dI 10 rfl (iQ (r := aG.2.1) (r2 := bH) uR (Kn.ah (e := 9) (r := bH) hA) oF (of_decide_eq_true Z4) (fun IX => ⟨rI, ?_⟩)); refine aK 11 rfl fG ?_; refine aK 12 rfl (aH 1) ?_; refine iG rfl (gK (b := jg) (l' := [sL aG.1 l0.aQ, .slice IX.a ((l0.aR ++ ([tY.Text] : List Str)).length) IX.cap, sL aG.2.2.1 l0.Sections, sL aG.2.2.2 l0.Links]) (k := ?_))
   refine iE (eZ _ _ ?_); clear eZ; refine sr ?_; refine oa ?_; refine on ?_; obtain rfl := some_inj hM; refine bn (bT (fun w hm => fK (aG.1, IX, aG.2.2.1, aG.2.2.2) hm rfl))
 refine sr ?_; refine om ?_; refine oe bR ?_; refine oe eX ?_; refine om ?_; refine aF rfl aL ?_; refine aF rfl bR ?_; refine aF rfl eX ?_; refine oe eu ?_; refine om ?_; refine aF rfl aL ?_; obtain ⟨je, su, hM⟩ := bind_some hM; refine aF rfl (bK (xs := p1) 3 (kG p1 fT) (fun hg => let h := kZ (eG su hg); ⟨h.1, h.2.1⟩)) ?_; refine aF rfl (aH 0) ?_; refine aF rfl (dn (i := 0) (xs := p1) (y := je) 0 (kG p1 fT) (fun hg => eG su hg)) ?_; refine aF rfl vk ?_; refine oe dO ?_; refine oa ?_; refine on ?_; refine cc rfl hM (fun hc19 hM => ?_) (fun hc19 hM => ?_)
 · refine sr ?_; refine om ?_; refine om ?_; obtain ⟨y20, BR, hM⟩ := bind_some hM; refine aM (fD sA (fun S w hs hP => adx _ w jg l0 aG p1 fT y20 BR hP (kM hs)) fC (fun AJ => ?_)); dsimp only [List.cons_append, List.nil_append]; refine oa ?_; refine on ?_; obtain rfl := some_inj hM; refine bn (bT (fun w hm => fK (aG.1, aG.2.1, AJ, aG.2.2.2) hm rfl))
 refine sr ?_; refine om ?_; refine oe bR ?_; refine oe eX ?_; refine om ?_; refine aF rfl aL ?_; refine aF rfl bR ?_; refine aF rfl eX ?_; refine oe eu ?_; refine om ?_; refine aF rfl aL ?_; obtain ⟨x23, hx24, hM⟩ := bind_some hM; refine aF rfl (bK (xs := p1) 3 (kG p1 fT) (fun hg => let h := kZ (eG hx24 hg); ⟨h.1, h.2.1⟩)) ?_; refine aF rfl (aH 0) ?_; refine aF rfl (dn (i := 0) (xs := p1) (y := x23) 0 (kG p1 fT) (fun hg => eG hx24 hg)) ?_; refine aF rfl vk ?_; refine oe dO ?_; refine oa ?_; refine on ?_; refine cc rfl hM (fun hc25 hM => ?_) (fun hc25 hM => ?_)
 · refine sr ?_; refine om ?_; refine om ?_; obtain ⟨aD, hy27, hM⟩ := bind_some hM; refine aM (fD sA (fun S w hs hP => adw _ w jg l0 aG p1 fT aD hy27 hP (kM hs)) fC (fun IY => ?_)); dsimp only [List.cons_append, List.nil_append]; refine oa ?_; refine on ?_; obtain rfl := some_inj hM; refine bn (bT (fun w hm => fK (aG.1, aG.2.1, aG.2.2.1, IY) hm rfl))
 refine bA (hK2 _ _ ?_); clear hK2; refine sr ?_; refine oa ?_; refine on ?_; obtain rfl := some_inj hM; refine bn (bT (fun w hm => fK (aG.1, aG.2.1, aG.2.2.1, aG.2.2.2) hm rfl))
end Go.Proofs.Ytcalibhfgdncaaa
