/- Models of functions, and that the code computes them. -/
import Derived.Test.YtcalibhfgdncaaaGreatDoorPt
import Derived.Test.YtcalibhfgdncaaaGreatDoorYg
import Derived.Test.YtcalibhfgdncaaaGreatDoorPy
import Derived.Test.YtcalibhfgdncaaaGreatDoorPv
set_option linter.all false
namespace Go.Proofs.YtcalibhfgdncaaaGreatDoor
open Go.Dc Go.RowKit
set_option maxRecDepth 10000
def VW(l0:List Int)(Cm:Int)(zF:Int)(v0:Int):Option Bool:=
 (Q0 l0).bind fun y1=>
 (VX).bind fun y6=>
 (fK y6 default (Ho y1.1 y1.2)).bind fun y8=>
 (fK (y6&&decide (y8=0)) default (MO y1.1 y1.2)).bind fun jd=>
 if ((y6&&decide (y8=0))&&jd) then
 ((QZ y1.2 Cm zF v0).bind fun y13=>
 (MO y1.1 y13).bind fun qw=>
 some (((y6&&decide (y8=0))&&jd)&&qw))
 else
 (some false)
theorem aoY(S:bO)(w:World)(l0:List Int)(ay:aC.R (List Int))(Cm:Int)(zF:Int)(v0:Int)(y:Bool)(hM:VW l0 Cm zF v0=some y)(hS:sB S w)(dZ:aC.ok S w ay l0)(zP:(gN 3 ig).φ S w):
   Calls Tryz.prog 4 #[sL ay l0,vI Cm,vI zF,vI v0] w (dz w (.bool y)):=by
 refine cu (args:=[_,_,_,_]) Tryz.func4 rfl ((pre_nil hS).start |>.gW (α:=List Int) (r:=ay) (x:=l0) dZ|>.Jr (c:=gN 3 ig) (fun _ h=>False.elim h) zP) rfl ?_;unfold VW at hM;refine bI ?_;refine aW ?_;obtain⟨y1,hy2,hM⟩:=bind_some hM;refine bM (nT jM.nil (fun S w hs hP=>aoP _ w l0 ay y1 hy2 hs.lt (kI hs)) (fun r3=>?_));dsimp only[cA,nA];refine om ?_;refine oe (jv (vs:=[.agg (jN y1.1 r3.1),.agg (iV y1.2 r3.2)])) ?_;refine oe (jv (vs:=[.agg (jN y1.1 r3.1),.agg (iV y1.2 r3.2)])) ?_
 refine oA rfl fun b4=>?_;refine oA rfl fun b5=>?_;refine oS b4 (cK y1.1 r3.1) ?_;refine oS b5 (dh y1.2 r3.2) ?_;refine on ?_;refine aK fun K3 hK3=>?_;refine gy _ (List.Sublist.refl _) ?_;obtain⟨y6,qh,hM⟩:=bind_some hM;refine dH 0 rfl (sV (fun hs=>aoZ _ _ y6 qh (bf hs)) ⟨rI,?_⟩);refine ak 1 rfl aL ?_;refine dO 2 rfl rfl (bR (b:=b4)) ?_;refine dO 3 rfl rfl (bR (b:=b5)) ?_;obtain⟨y8,uh,hM⟩:=bind_some hM;refine LJ 4 rfl rfl (fun hg w hm=>let ⟨S,hs⟩:=hm;V6 _ w y1.1 r3.1 y1.2 r3.2 y8 (eF uh hg) (bf hs) ⟨(kM hs),(kM hs),(kM hs),(kM hs)⟩ ⟨(kM hs),(kM hs),(kM hs),(kM hs),(kM hs),(kM hs),(kM hs)⟩) ?_
 refine dO 5 rfl rfl dU ?_;refine ak 6 rfl dG ?_;refine ak 7 rfl aL ?_;refine dO 8 rfl rfl (bR (b:=b4)) ?_;refine dO 9 rfl rfl (bR (b:=b5)) ?_;obtain⟨jd,tZ,hM⟩:=bind_some hM;refine LJ 10 rfl rfl (fun hg w hm=>let ⟨S,hs⟩:=hm;afq _ w y1.1 r3.1 y1.2 r3.2 jd (eF tZ hg) (bf hs) ⟨(kM hs),(kM hs),(kM hs),(kM hs)⟩ ⟨(kM hs),(kM hs),(kM hs),(kM hs),(kM hs),(kM hs),(kM hs)⟩ (Chunk.mono _ _ _ _ (fun _ h=> .inl h) ((hA:Has _ (gN 3 ig)).φ hs))) ?_;refine ak 11 rfl dG ?_;refine ak 12 rfl aL ?_;refine dO 13 rfl rfl (bR (b:=b4)) ?_;refine dO 14 rfl rfl (bR (b:=b5)) ?_;refine dO 15 rfl rfl aL ?_;refine dO 16 rfl rfl aL ?_;refine dO 17 rfl rfl aL ?_;refine YF ((y6&&decide (y8=0))&&jd) (fun zO=>?_) (fun zO=>?_)
 ·replace hM:=iT zO hM;refine rU 29 zO rfl ?_;refine rU 30 zO rfl ?_;refine rU 31 zO rfl ?_;refine rU 32 zO rfl ?_;refine rU 33 zO rfl ?_;obtain⟨y13,xS,hM⟩:=bind_some hM;refine LK 18 rfl rfl zO (nT jM.nil (fun S w hs hP=>aoO _ w y1.2 r3.2 Cm zF v0 y13 xS hs.lt ⟨(kI hs),(kI hs),(kI hs),(kI hs),(kI hs),(kI hs),(kI hs)⟩) (fun Ai=>⟨rI,?_⟩));dsimp only[cA,nA];obtain⟨qw,Fw,hM⟩:=bind_some hM;refine LK 19 rfl rfl zO (sV (fun hs=>afq _ _ y1.1 r3.1 y13 Ai qw Fw (bf hs) ⟨(kM hs),(kM hs),(kM hs),(kM hs)⟩ ⟨(kM hs),(kM hs),(kM hs),(kM hs),(kM hs),(kM hs),(kM hs)⟩ (Chunk.mono _ _ _ _ (fun _ h=> .inl h) ((hA:Has _ (gN 3 ig)).φ hs))) ⟨rI,?_⟩);refine ak 20 rfl dG ?_;refine ak 21 rfl dD ?_;refine dP (hK3 _ _ ?_);clear hK3;exact aY (bQ hM)
 replace hM:=iF zO hM;refine oG 18 rfl rfl zO ?_;refine oG 19 rfl rfl zO ?_;refine ak 20 rfl (P5 zO) ?_;refine ak 21 rfl dD ?_;refine dP (hK3 _ _ ?_);clear hK3;exact aY (bQ hM)
end Go.Proofs.YtcalibhfgdncaaaGreatDoor
