/- Models of functions, and that the code computes them. -/
import Derived.Test.YtcalibhfgdncaaaGreatDoorYd
import Derived.Test.YtcalibhfgdncaaaGreatDoorYx
set_option linter.all false
namespace Go.Proofs.YtcalibhfgdncaaaGreatDoor
open Go.Dc Go.RowKit
set_option maxRecDepth 10000
def DU (l0 : Layout) (p0 : Plan) : Option Bool :=
  (JJ l0 p0).bind fun y3 =>
  (Kq l0 p0).bind fun y5 =>
  (BZ l0 p0).bind fun y7 =>
  (FI l0 p0).bind fun y9 =>
  some ((decide (y7 = y9) && decide (y3.1 = y5.1)) && decide (y3.2 = y5.2))
theorem Xd (S : bD) (w : World) (l0 : Layout) (aj : ak.R Layout) (p0 : Plan) (ah : ak.R Plan) (y : Bool) (hM : DU l0 p0 = some y) (hS : sB S w) (dH : ak.ok S w aj l0) (eu : ak.ok S w ah p0) (sD : (eG 3 fC).φ S w) :
    Calls Tryz.prog 10 #[.agg (iy l0 aj), .agg (jT p0 ah)] w (bW w (.bool y)) := by
 refine bR (args := [_, _]) Tryz.func10 rfl ((pre_nil hS).start |>.jw dH|>.kD eu|>.Bp (c := eG 3 fC) (fun _ h => False.elim h) sD) rfl ?_; unfold DU at hM; refine sr ?_; refine aF (bU (l := (bK l0 aj)) (k := fun b1 => ?_)); refine aF (bU (l := (dO p0 ah)) (k := fun b2 => ?_))
 refine oa ?_; refine on ?_; refine sr ?_; refine oe (bH (b := b1)) ?_; refine oe (bH (b := b2)) ?_; obtain ⟨y3, hy4, hM⟩ := bind_some hM; refine aF (bg (fun w hm => let ⟨S, hs⟩ := hm; af2 _ w l0 aj p0 ah y3 hy4 (aT hs) ⟨(kM hs), (kM hs), (kM hs), (kM hs)⟩ ⟨(kM hs), (kM hs), (kM hs), (kM hs), (kM hs), (kM hs), (kM hs)⟩ (Chunk.mono _ _ _ _ (fun _ h => .inl h) ((hA : Has _ (eG 3 fC)).φ hs))) ?_); refine om ?_; refine oe (gF (vs := [.string y3.1.ba, vI y3.2])) ?_; refine oe (gF (vs := [.string y3.1.ba, vI y3.2])) ?_; refine oa ?_; refine oa ?_; refine on ?_; refine sr ?_; refine oe (bH (b := b1)) ?_; refine oe (bH (b := b2)) ?_; obtain ⟨y5, mQ, hM⟩ := bind_some hM; refine aF (bg (fun w hm => let ⟨S, hs⟩ := hm; agA _ w l0 aj p0 ah y5 mQ (aT hs) ⟨(kM hs), (kM hs), (kM hs), (kM hs)⟩ ⟨(kM hs), (kM hs), (kM hs), (kM hs), (kM hs), (kM hs), (kM hs)⟩) ?_); refine om ?_; refine oe (gF (vs := [.string y5.1.ba, vI y5.2])) ?_; refine oe (gF (vs := [.string y5.1.ba, vI y5.2])) ?_; refine oa ?_; refine oa ?_; refine on ?_; refine aD fun K4 hK4 => ?_; refine fA _ (List.Sublist.refl _) ?_; refine au 0 rfl (bH (b := b1)) ?_
 refine au 1 rfl (bH (b := b2)) ?_; refine au 3 rfl (bH (b := b1)) ?_; refine au 4 rfl (bH (b := b2)) ?_; obtain ⟨y7, BL, hM⟩ := bind_some hM; refine bB 2 rfl (bg (fun w hm => let ⟨S, hs⟩ := hm; Rc _ w l0 aj p0 ah y7 BL (aT hs) ⟨(kM hs), (kM hs), (kM hs), (kM hs)⟩ ⟨(kM hs), (kM hs), (kM hs), (kM hs), (kM hs), (kM hs), (kM hs)⟩) ⟨rI, ?_⟩); obtain ⟨y9, vw, hM⟩ := bind_some hM; refine bB 5 rfl (bg (fun w hm => let ⟨S, hs⟩ := hm; Zg _ w l0 aj p0 ah y9 vw (aT hs) ⟨(kM hs), (kM hs), (kM hs), (kM hs)⟩ ⟨(kM hs), (kM hs), (kM hs), (kM hs), (kM hs), (kM hs), (kM hs)⟩) ⟨rI, ?_⟩); refine au 6 rfl dS ?_; refine au 7 rfl aG ?_; refine dQ 8 rfl rfl aG ?_; refine dQ 9 rfl rfl aG ?_; refine dQ 10 rfl rfl qo ?_; refine au 11 rfl cO ?_; refine au 12 rfl aG ?_; refine dQ 13 rfl rfl aG ?_; refine dQ 14 rfl rfl aG ?_; refine dQ 15 rfl rfl dS ?_; refine au 16 rfl cO ?_; refine au 17 rfl bX ?_; refine dG (hK4 _ _ ?_); clear hK4; obtain rfl := some_inj hM; refine aL (aZ (fun w hm => aW hm rfl))
end Go.Proofs.YtcalibhfgdncaaaGreatDoor
