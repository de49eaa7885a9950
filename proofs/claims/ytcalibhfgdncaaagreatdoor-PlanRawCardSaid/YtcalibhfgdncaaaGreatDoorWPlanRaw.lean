/- Models of functions, and that the code computes them. -/
import Derived.Test.YtcalibhfgdncaaaGreatDoorPt
import Derived.Test.YtcalibhfgdncaaaGreatDoorYg
set_option linter.all false
namespace Go.Proofs.YtcalibhfgdncaaaGreatDoor
open Go.Dc Go.RowKit
set_option maxRecDepth 10000
def MK (l0 : Layout) (p0 : Plan) : Option Bool :=
  (Ju).bind fun y3 =>
  (dV y3 default (DU l0 p0)).bind fun y5 =>
  if (y3 && y5) then
  ((Jv).bind fun y8 =>
  (DU y8 p0).bind fun dP =>
  some ((y3 && y5) && dP))
  else
  (some false)
theorem afc (S : bD) (w : World) (l0 : Layout) (aj : ak.R Layout) (p0 : Plan) (ah : ak.R Plan) (y : Bool) (hM : MK l0 p0 = some y) (hS : sB S w) (dH : ak.ok S w aj l0) (eu : ak.ok S w ah p0) (sD : (eG 3 fC).φ S w) :
    Calls Tryz.prog 3 #[.agg (iy l0 aj), .agg (jT p0 ah)] w (bW w (.bool y)) := by
 refine bR (args := [_, _]) Tryz.func3 rfl ((pre_nil hS).start |>.jw dH|>.kD eu|>.Bp (c := eG 3 fC) (fun _ h => False.elim h) sD) rfl ?_; unfold MK at hM; refine sr ?_; refine aF (bU (l := (bK l0 aj)) (k := fun b1 => ?_)); refine aF (bU (l := (dO p0 ah)) (k := fun b2 => ?_))
 refine oa ?_; refine on ?_; refine aD fun K2 hK2 => ?_; refine fA _ (List.Sublist.refl _) ?_; obtain ⟨y3, hy4, hM⟩ := bind_some hM; refine bB 0 rfl (bg (fun w hm => let ⟨S, hs⟩ := hm; afd _ w  y3 hy4 (aT hs) ) ⟨rI, ?_⟩); refine au 1 rfl aG ?_; refine dQ 2 rfl rfl (bH (b := b1)) ?_; refine dQ 3 rfl rfl (bH (b := b2)) ?_; obtain ⟨y5, mQ, hM⟩ := bind_some hM; refine Hu 4 rfl rfl (fun hg w hm => let ⟨S, hs⟩ := hm; Xd _ w l0 aj p0 ah y5 (dM mQ hg) (aT hs) ⟨(kM hs), (kM hs), (kM hs), (kM hs)⟩ ⟨(kM hs), (kM hs), (kM hs), (kM hs), (kM hs), (kM hs), (kM hs)⟩ (Chunk.mono _ _ _ _ (fun _ h => .inl h) ((hA : Has _ (eG 3 fC)).φ hs))) ?_; refine au 5 rfl cO ?_; refine au 6 rfl aG ?_; refine dQ 8 rfl rfl (bH (b := b2)) ?_; refine UG (y3 && y5) (fun j6 => ?_) (fun j6 => ?_)
 · replace hM := iT j6 hM; refine CY 13 j6 rfl ?_; obtain ⟨y8, nM, hM⟩ := bind_some hM; refine LX 7 rfl rfl j6 (mK iQ.nil (fun S w hs hP => Xe _ w  y8 nM (aT hs) ) pJ (fun yw => ⟨rI, ?_⟩)); dsimp only [List.cons_append, List.nil_append]; obtain ⟨dP, qA, hM⟩ := bind_some hM; refine LX 9 rfl rfl j6 (bg (fun w hm => let ⟨S, hs⟩ := hm; Xd _ w y8 yw p0 ah dP qA (aT hs) ⟨(kT hs), (kT hs), (kT hs), (kT hs)⟩ ⟨(kM hs), (kM hs), (kM hs), (kM hs), (kM hs), (kM hs), (kM hs)⟩ (Chunk.mono _ _ _ _ (fun _ h => .inl h) ((hA : Has _ (eG 3 fC)).φ hs))) ⟨rI, ?_⟩); refine au 10 rfl cO ?_; refine au 11 rfl bX ?_; refine dG (hK2 _ _ ?_); clear hK2; obtain rfl := some_inj hM; refine aL (aZ (fun w hm => aW hm rfl))
 replace hM := iF j6 hM; refine nU 7 rfl rfl j6 ?_; refine nU 9 rfl rfl j6 ?_; refine au 10 rfl (Mj j6) ?_; refine au 11 rfl bX ?_; refine dG (hK2 _ _ ?_); clear hK2; obtain rfl := some_inj hM; refine aL (aZ (fun w hm => aW hm rfl))
end Go.Proofs.YtcalibhfgdncaaaGreatDoor
