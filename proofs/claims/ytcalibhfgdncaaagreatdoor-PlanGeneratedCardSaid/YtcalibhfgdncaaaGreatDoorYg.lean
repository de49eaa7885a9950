/- Models of functions, and that the code computes them. -/
import Derived.Test.YtcalibhfgdncaaaGreatDoorYd
import Derived.Test.YtcalibhfgdncaaaGreatDoorYx
set_option linter.all false
namespace Go.Proofs.YtcalibhfgdncaaaGreatDoor
open Go.Dc Go.RowKit
set_option maxRecDepth 10000
def MO(l0:Layout)(p0:Plan):Option Bool:=
 (RS l0 p0).bind fun y3=>
 (Ti l0 p0).bind fun y5=>
 (Ho l0 p0).bind fun y7=>
 (N7 l0 p0).bind fun y9=>
 some ((decide (y7=y9)&&decide (y3.1=y5.1))&&decide (y3.2=y5.2))
theorem afq(S:bO)(w:World)(l0:Layout)(ay:aC.R Layout)(p0:Plan)(ah:aC.R Plan)(y:Bool)(hM:MO l0 p0=some y)(hS:sB S w)(dZ:aC.ok S w ay l0)(fT:aC.ok S w ah p0)(zP:(gN 3 ig).φ S w):
  Calls Tryz.prog 10 #[.agg (jN l0 ay),.agg (iV p0 ah)] w (dz w (.bool y)):=by
 refine cu (args:=[_,_]) Tryz.func10 rfl ((pre_nil hS).start |>.lY dZ|>.nS fT|>.Jr (c:=gN 3 ig) (fun _ h=>False.elim h) zP) rfl ?_;unfold MO at hM;refine sr ?_;refine oB (cK l0 ay) fun b1=>?_;refine oB (dh p0 ah) fun b2=>?_
 refine aT ?_;refine sr ?_;refine oe (bR (b:=b1)) ?_;refine oe (bR (b:=b2)) ?_;obtain⟨y3,hy4,hM⟩:=bind_some hM;refine cv (fun hs=>apP _ _ l0 ay p0 ah y3 hy4 (bf hs) ⟨(kM hs),(kM hs),(kM hs),(kM hs)⟩ ⟨(kM hs),(kM hs),(kM hs),(kM hs),(kM hs),(kM hs),(kM hs)⟩ (Chunk.mono _ _ _ _ (fun _ h=> .inl h) ((hA:Has _ (gN 3 ig)).φ hs))) ?_;refine om ?_;refine oe (jv (vs:=[.string y3.1.ba,vI y3.2])) ?_;refine oe (jv (vs:=[.string y3.1.ba,vI y3.2])) ?_;refine oa ?_;refine aT ?_;refine sr ?_;refine oe (bR (b:=b1)) ?_;refine oe (bR (b:=b2)) ?_;obtain⟨y5,ug,hM⟩:=bind_some hM;refine cv (fun hs=>aqm _ _ l0 ay p0 ah y5 ug (bf hs) ⟨(kM hs),(kM hs),(kM hs),(kM hs)⟩ ⟨(kM hs),(kM hs),(kM hs),(kM hs),(kM hs),(kM hs),(kM hs)⟩) ?_;refine om ?_;refine oe (jv (vs:=[.string y5.1.ba,vI y5.2])) ?_;refine oe (jv (vs:=[.string y5.1.ba,vI y5.2])) ?_;refine oa ?_;refine aT ?_;refine aK fun K4 hK4=>?_;refine gy _ (List.Sublist.refl _) ?_;refine ak 0 rfl (bR (b:=b1)) ?_
 refine ak 1 rfl (bR (b:=b2)) ?_;refine ak 3 rfl (bR (b:=b1)) ?_;refine ak 4 rfl (bR (b:=b2)) ?_;obtain⟨y7,Fz,hM⟩:=bind_some hM;refine dH 2 rfl (sV (fun hs=>V6 _ _ l0 ay p0 ah y7 Fz (bf hs) ⟨(kM hs),(kM hs),(kM hs),(kM hs)⟩ ⟨(kM hs),(kM hs),(kM hs),(kM hs),(kM hs),(kM hs),(kM hs)⟩) ⟨rI,?_⟩);obtain⟨y9,zR,hM⟩:=bind_some hM;refine dH 5 rfl (sV (fun hs=>ahl _ _ l0 ay p0 ah y9 zR (bf hs) ⟨(kM hs),(kM hs),(kM hs),(kM hs)⟩ ⟨(kM hs),(kM hs),(kM hs),(kM hs),(kM hs),(kM hs),(kM hs)⟩) ⟨rI,?_⟩);refine ak 6 rfl dU ?_;refine ak 7 rfl aL ?_;refine dO 8 rfl rfl aL ?_;refine dO 9 rfl rfl aL ?_;refine dO 10 rfl rfl xJ ?_;refine ak 11 rfl dG ?_;refine ak 12 rfl aL ?_;refine dO 13 rfl rfl aL ?_;refine dO 14 rfl rfl aL ?_;refine dO 15 rfl rfl dU ?_;refine ak 16 rfl dG ?_;refine ak 17 rfl dD ?_;refine dP (hK4 _ _ ?_);clear hK4;exact aY (bQ hM)
end Go.Proofs.YtcalibhfgdncaaaGreatDoor
