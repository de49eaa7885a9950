/- Models of functions, and that the code computes them. -/
import Derived.Test.YtcalibhfgdncaaaGreatDoorPs
import Derived.Test.YtcalibhfgdncaaaGreatDoorRc
set_option linter.all false
namespace Go.Proofs.YtcalibhfgdncaaaGreatDoor
open Go.Dc Go.RowKit
set_option maxRecDepth 10000
def Ju  : Option Bool :=
  (Jv).bind fun y1 =>
  (BZ y1 (Plan.mk 0 ([] : List bL) ([] : List aV) ([] : List Line) ([] : List Change) ([] : List Turn) ([] : List Sync) ([] : List oD))).bind fun dP =>
  some (decide (dP = 4))
theorem afd (S : bD) (w : World)  (y : Bool) (hM : Ju  = some y) (hS : sB S w)  :
    Calls Tryz.prog 9 #[] w (bW w (.bool y)) := by
 refine bR (args := []) Tryz.func9 rfl ((pre_nil hS).start) rfl ?_; unfold Ju at hM; refine sr ?_; refine oa ?_; refine on ?_; refine sr ?_; obtain ⟨y1, hy2, hM⟩ := bind_some hM; refine aF (mK iQ.nil (fun S w hs hP => Xe _ w  y1 hy2 (aT hs) ) pJ (fun r3 => ?_)); dsimp only [List.cons_append, List.nil_append]; refine oe (jE [vI 0, .slice none 0 0, .slice none 0 0, .slice none 0 0, .slice none 0 0, .slice none 0 0, .slice none 0 0, .slice none 0 0]) ?_; refine p9 (fun w hm => hm.fF (α := bL) 71 (fun _ => ())) ?_; refine p9 (fun w hm => hm.fF (α := aV) 90 (fun _ => (⟨none, 0, (fun _ => ())⟩ : SR (ak.R Step)))) ?_; refine p9 (fun w hm => hm.fF (α := Line) 56 (fun _ => (⟨none, 0, (fun _ => ())⟩ : SR (ak.R fV)))) ?_; refine p9 (fun w hm => hm.fF (α := Change) 79 (fun _ => ())) ?_; refine p9 (fun w hm => hm.fF (α := Turn) 94 (fun _ => ())) ?_; refine p9 (fun w hm => hm.fF (α := Sync) 84 (fun _ => ())) ?_; refine p9 (fun w hm => hm.fF (α := oD) 86 (fun _ => ())) ?_; obtain ⟨dP, qA, hM⟩ := bind_some hM; refine aF (bg (fun w hm => let ⟨S, hs⟩ := hm; Rc _ w y1 r3 (Plan.mk 0 ([] : List bL) ([] : List aV) ([] : List Line) ([] : List Change) ([] : List Turn) ([] : List Sync) ([] : List oD)) ((⟨none, 0, (fun _ => ())⟩ : SR (ak.R bL) ), (⟨none, 0, (fun _ => (⟨none, 0, (fun _ => ())⟩ : SR (ak.R Step)))⟩ : SR (ak.R aV)  ), (⟨none, 0, (fun _ => (⟨none, 0, (fun _ => ())⟩ : SR (ak.R fV)))⟩ : SR (ak.R Line)   ), (⟨none, 0, (fun _ => ())⟩ : SR (ak.R Change)    ), (⟨none, 0, (fun _ => ())⟩ : SR (ak.R Turn)     ), (⟨none, 0, (fun _ => ())⟩ : SR (ak.R Sync)      ), (⟨none, 0, (fun _ => ())⟩ : SR (ak.R oD)       )) dP qA (aT hs) ⟨(kT hs), (kT hs), (kT hs), (kT hs)⟩ ⟨(kT hs), (kT hs), (kT hs), (kT hs), (kT hs), (kT hs), (kT hs)⟩) ?_)
 refine oe dS ?_; refine oa ?_; refine on ?_; obtain rfl := some_inj hM; refine aL (aZ (fun w hm => aW hm rfl))
end Go.Proofs.YtcalibhfgdncaaaGreatDoor
