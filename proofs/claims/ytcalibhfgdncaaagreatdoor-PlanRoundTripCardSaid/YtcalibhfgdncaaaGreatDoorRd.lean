/- Models of functions, and that the code computes them. -/
import Derived.Test.YtcalibhfgdncaaaGreatDoorLm
set_option linter.all false
namespace Go.Proofs.YtcalibhfgdncaaaGreatDoor
open Go.Dc Go.RowKit
set_option maxRecDepth 10000
def QK(s0:Step):Option Step:=
 if decide (s0.Dir=0) then
  (some (Step.mk s0.Section 1))
 else
  (some (Step.mk s0.Section 0))
theorem Ch(S:bB)(w:World)(s0:Step)(y:Step)(hM:QK s0=some y)(hS:sB S w):
   Calls Tryz.prog 192 #[.agg (KO s0)] w (cu w (.agg (KO y))):=by
 refine bP (args:=[_]) Tryz.func192 rfl ((pre_nil hS).start) rfl ?_;unfold QK at hM;refine sr ?_;refine oB (qU s0) fun b1=>?_;refine oA rfl fun b2=>?_;refine on ?_;refine aG fun K2 hK2=>?_;refine sr ?_;refine oe (aD 1) ?_;refine oe (aJ (b:=b1)) ?_;refine oe eu ?_;refine on ?_;refine cc rfl hM (fun hc3 hM=>?_) (fun hc3 hM=>?_)
 ·refine sr ?_;refine oe (aD 0) ?_;refine oe (aJ (b:=b1)) ?_;refine oe (fT [vI s0.Section,vI 1]) ?_;refine oS b2 [vI s0.Section,vI 1] ?_;refine on ?_;exact aW (bN hM)
 refine aX (hK2 _ _ ?_);clear hK2;refine sr ?_;refine oe (aD 0) ?_;refine oe (aJ (b:=b1)) ?_;refine oe (fT [vI s0.Section,vI 0]) ?_;refine oS b2 [vI s0.Section,vI 0] ?_;refine on ?_;exact aW (bN hM)
def Wi(l0:Layout)(s0:Step):Option Bool:=
 some ((decide (0≤s0.Section)&&decide (s0.Section<(l0.Sections.length:Int)))&&(decide (s0.Dir=0)||decide (s0.Dir=1)))
theorem aoq(S:bB)(w:World)(l0:Layout)(aC:ak.R Layout)(s0:Step)(y:Bool)(hM:Wi l0 s0=some y)(hS:sB S w)(fG:ak.ok S w aC l0):
  Calls Tryz.prog 174 #[.agg (lC l0 aC),.agg (KO s0)] w (cu w (.bool y)):=by
 refine bP (args:=[_,_]) Tryz.func174 rfl ((pre_nil hS).start |>.lS fG) rfl ?_;unfold Wi at hM;refine sr ?_;refine oB (dP l0 aC) fun b1=>?_;refine oB (qU s0) fun b2=>?_;refine aP ?_;refine sr ?_;refine oe (aD 0) ?_;refine oe (aJ (b:=b2)) ?_;refine oe jf ?_;refine om ?_;refine av rfl (aD 0) ?_;refine av rfl (aJ (b:=b2)) ?_;refine av rfl (aD 2) ?_;refine av rfl (aJ (b:=b1)) ?_;refine av rfl bJ ?_;refine av rfl cO ?_;refine oe dI ?_;refine om ?_;refine av rfl (aD 1) ?_;refine av rfl (aJ (b:=b2)) ?_;refine av rfl eu ?_;refine av rfl aH ?_;refine av rfl (aD 1) ?_;refine av rfl (aJ (b:=b2)) ?_;refine av rfl eu ?_
 refine av rfl eT ?_;refine oe dI ?_;refine aP ?_;exact aW (bN hM)
def Nw(s0:Step):Option lK:=
 if decide (s0.Dir=0) then
  (some (lK.mk s0.Section 1))
 else
  (some (lK.mk s0.Section 0))
theorem qc(S:bB)(w:World)(s0:Step)(y:lK)(hM:Nw s0=some y)(hS:sB S w):
   Calls Tryz.prog 191 #[.agg (KO s0)] w (cu w (.agg (ahH y))):=by
 refine bP (args:=[_]) Tryz.func191 rfl ((pre_nil hS).start) rfl ?_;unfold Nw at hM;refine sr ?_;refine oB (qU s0) fun b1=>?_;refine oA rfl fun b2=>?_;refine on ?_;refine aG fun K2 hK2=>?_;refine sr ?_;refine oe (aD 1) ?_;refine oe (aJ (b:=b1)) ?_;refine oe eu ?_;refine on ?_;refine cc rfl hM (fun hc3 hM=>?_) (fun hc3 hM=>?_)
 ·refine sr ?_;refine oe (aD 0) ?_;refine oe (aJ (b:=b1)) ?_;refine oe (fT [vI s0.Section,vI 1]) ?_;refine oS b2 [vI s0.Section,vI 1] ?_;refine on ?_;exact aW (bN hM)
 refine aX (hK2 _ _ ?_);clear hK2;refine sr ?_;refine oe (aD 0) ?_;refine oe (aJ (b:=b1)) ?_;refine oe (fT [vI s0.Section,vI 0]) ?_;refine oS b2 [vI s0.Section,vI 0] ?_;refine on ?_;exact aW (bN hM)
def abg(x6:Link)(xq:Int)(xu:Int)(xW:Int)(xX:Int)(aY:Nat→Option (Int×Bool))(Br:Nat):Unit→Option (Int×Bool):=fun _=>
 if ((decide ((lK.mk x6.A x6.lg)=(lK.mk xq xu))&&decide ((lK.mk x6.B x6.lu)=(lK.mk xW xX)))||(decide ((lK.mk x6.A x6.lg)=(lK.mk xW xX))&&decide ((lK.mk x6.B x6.lu)=(lK.mk xq xu)))) then
  (some (x6.Point,true))
 else
  (aY (Br+1))
def af0:Unit→Option (Int×Bool):=fun _=>
 some (0,false)
def SA(l0:Layout)(xq:Int)(xu:Int)(xW:Int)(xX:Int)(aY:Nat→Option (Int×Bool)):Nat→Option (Int×Bool):=fun Br=>
 if decide ((Br:Int)<(l0.Links.length:Int)) then
  ((idx l0.Links (Br:Int)).bind fun x6=>
  abg x6 xq xu xW xX aY Br ())
 else
  (af0 ())
def Wn(l0:Layout):(Int×Int×Int×Int)→Option (Int×Bool):=fun (xq,xu,xW,xX)=>
 iter (SA l0 xq xu xW xX) FUEL 0
def SB(l0:Layout)(s0:Step)(t0:Step):Option (Int×Bool):=
 (Nw s0).bind fun dN=>
 (QK t0).bind fun jV=>
 (Nw jV).bind fun y22=>
 Wn l0 (dN.tH,dN.side,y22.tH,y22.side)
theorem aot(S:bB)(w:World)(l0:Layout)(aC:ak.R Layout)(s0:Step)(t0:Step)(y:Int×Bool)(hM:SB l0 s0 t0=some y)(hS:sB S w)(fG:ak.ok S w aC l0):
   Calls Tryz.prog 175 #[.agg (lC l0 aC),.agg (KO s0),.agg (KO t0)] w (cu w (.tuple #[vI y.1,.bool y.2])):=by
 refine bP (args:=[_,_,_]) Tryz.func175 rfl ((pre_nil hS).start |>.lS fG) rfl ?_;unfold SB at hM;refine sr ?_;refine oB (dP l0 aC) fun b1=>?_;refine oB (qU s0) fun b2=>?_;refine oB (qU t0) fun b3=>?_;refine oa ?_;refine aP ?_;refine jn (Nat×Nat) y (k:=Wn l0) (fun (xq,xu,xW,xX) (Db,Df)=>[(3,eP b1),(8,eP Db),(9,eP Df)]) (fun (xq,xu,xW,xX) (Db,Df)=>[iL l0.aM aC.1,iL l0.aV aC.2.1,iL l0.Sections aC.2.2.1,iL l0.Links aC.2.2.2,own b1 26 (dP l0 aC),own Db 256 [vI xq,vI xu],own Df 256 [vI xW,vI xX]]) ?_ ?_
 ·intro wX fB;refine iD _ (List.Sublist.refl _) ?_;refine ay 0 rfl (bX (b:=b2)) ?_;refine ay 2 rfl (bX (b:=b3)) ?_;obtain⟨dN,rJ,hM⟩:=bind_some hM;refine Da 1 5 6 (⟨_,rfl,rfl,jO (fun w hm=>let ⟨S,hs⟩:=hm;qc _ w s0 dN rJ (bC hs)) ⟨rI,?_⟩⟩) (⟨_,rfl,rfl,gF rfl (k:=fun b16=>⟨rI,?_⟩)⟩) (⟨_,rfl,rfl,gF rfl (k:=fun b17=>⟨rI,?_⟩)⟩)
  · obtain⟨jV,xD,hM⟩:=bind_some hM;refine Da 3 5 6 (⟨_,rfl,rfl,jO (fun w hm=>let ⟨S,hs⟩:=hm;Ch _ w t0 jV xD (bC hs)) ⟨rI,?_⟩⟩) (⟨_,rfl,rfl,gF rfl (k:=fun b20=>⟨rI,?_⟩)⟩) (⟨_,rfl,rfl,gF rfl (k:=fun KQ=>⟨rI,?_⟩)⟩)
    ·obtain⟨y22,xE,hM⟩:=bind_some hM;refine Da 4 5 6 (⟨_,rfl,rfl,jO (fun w hm=>let ⟨S,hs⟩:=hm;qc _ w jV y22 xE (bC hs)) ⟨rI,?_⟩⟩) (⟨_,rfl,rfl,gF rfl (k:=fun BI=>⟨rI,?_⟩)⟩) (⟨_,rfl,rfl,gF rfl (k:=fun I4=>⟨rI,?_⟩)⟩)
     ·refine lM 5 6 (⟨_,rfl,rfl,gF rfl (k:=fun b26=>⟨rI,?_⟩)⟩) (⟨_,rfl,rfl,gF rfl (k:=fun KR=>⟨rI,?_⟩)⟩)
      ·refine aA 6 rfl rfl fun b28=>?_;refine aS 7 rfl b26 (jH dN) ?_;refine aS 8 rfl b28 (jH y22) ?_;refine dY (fB (b26,b28) hM sS rI)
      refine aA 5 rfl rfl fun b29=>?_;refine aS 7 rfl b29 (jH dN) ?_;refine aS 8 rfl KR (jH y22) ?_;refine dY (fB (b29,KR) hM sS rI)
     ·refine lM 4 6 (⟨_,rfl,rfl,jO (fun w hm=>let ⟨S,hs⟩:=hm;qc _ w jV y22 xE (bC hs)) ⟨rI,?_⟩⟩) (⟨_,rfl,rfl,gF rfl (k:=fun b30=>⟨rI,?_⟩)⟩)
      ·refine aA 6 rfl rfl fun b31=>?_;refine aS 7 rfl BI (jH dN) ?_;refine aS 8 rfl b31 (jH y22) ?_;refine dY (fB (BI,b31) hM sS rI)
      refine eD 4 rfl (sV (fun hs=>qc _ _ jV y22 xE (bC hs)) ⟨rI,?_⟩);refine aS 7 rfl BI (jH dN) ?_;refine aS 8 rfl b30 (jH y22) ?_;refine dY (fB (BI,b30) hM sS rI)
     refine lM 4 5 (⟨_,rfl,rfl,jO (fun w hm=>let ⟨S,hs⟩:=hm;qc _ w jV y22 xE (bC hs)) ⟨rI,?_⟩⟩) (⟨_,rfl,rfl,gF rfl (k:=fun b32=>⟨rI,?_⟩)⟩)
     ·refine aA 5 rfl rfl fun Eo=>?_;refine aS 7 rfl Eo (jH dN) ?_;refine aS 8 rfl I4 (jH y22) ?_;refine dY (fB (Eo,I4) hM sS rI)
     refine eD 4 rfl (sV (fun hs=>qc _ _ jV y22 xE (bC hs)) ⟨rI,?_⟩);refine aS 7 rfl b32 (jH dN) ?_;refine aS 8 rfl I4 (jH y22) ?_;refine dY (fB (b32,I4) hM sS rI)
    ·refine lM 3 6 (⟨_,rfl,rfl,jO (fun w hm=>let ⟨S,hs⟩:=hm;Ch _ w t0 jV xD (bC hs)) ⟨rI,?_⟩⟩) (⟨_,rfl,rfl,gF rfl (k:=fun b34=>⟨rI,?_⟩)⟩)
     ·obtain⟨Ah,Lx,hM⟩:=bind_some hM;refine lM 4 6 (⟨_,rfl,rfl,jO (fun w hm=>let ⟨S,hs⟩:=hm;qc _ w jV Ah Lx (bC hs)) ⟨rI,?_⟩⟩) (⟨_,rfl,rfl,gF rfl (k:=fun Ou=>⟨rI,?_⟩)⟩)
      ·refine aA 6 rfl rfl fun Gh=>?_;refine aS 7 rfl b20 (jH dN) ?_;refine aS 8 rfl Gh (jH Ah) ?_;refine dY (fB (b20,Gh) hM sS rI)
      refine eD 4 rfl (sV (fun hs=>qc _ _ jV Ah Lx (bC hs)) ⟨rI,?_⟩);refine aS 7 rfl b20 (jH dN) ?_;refine aS 8 rfl Ou (jH Ah) ?_;refine dY (fB (b20,Ou) hM sS rI)
     refine eD 3 rfl (sV (fun hs=>Ch _ _ t0 jV xD (bC hs)) ⟨rI,?_⟩);obtain⟨y39,ak9,hM⟩:=bind_some hM;refine eD 4 rfl (sV (fun hs=>qc _ _ jV y39 ak9 (bC hs)) ⟨rI,?_⟩);refine aS 7 rfl b20 (jH dN) ?_;refine aS 8 rfl b34 (jH y39) ?_;refine dY (fB (b20,b34) hM sS rI)
    refine lM 3 5 (⟨_,rfl,rfl,jO (fun w hm=>let ⟨S,hs⟩:=hm;Ch _ w t0 jV xD (bC hs)) ⟨rI,?_⟩⟩) (⟨_,rfl,rfl,gF rfl (k:=fun Ox=>⟨rI,?_⟩)⟩)
    ·obtain⟨ig,LA,hM⟩:=bind_some hM;refine lM 4 5 (⟨_,rfl,rfl,jO (fun w hm=>let ⟨S,hs⟩:=hm;qc _ w jV ig LA (bC hs)) ⟨rI,?_⟩⟩) (⟨_,rfl,rfl,gF rfl (k:=fun Ao=>⟨rI,?_⟩)⟩)
     ·refine aA 5 rfl rfl fun b45=>?_;refine aS 7 rfl b45 (jH dN) ?_;refine aS 8 rfl KQ (jH ig) ?_;refine dY (fB (b45,KQ) hM sS rI)
     refine eD 4 rfl (sV (fun hs=>qc _ _ jV ig LA (bC hs)) ⟨rI,?_⟩);refine aS 7 rfl Ao (jH dN) ?_;refine aS 8 rfl KQ (jH ig) ?_;refine dY (fB (Ao,KQ) hM sS rI)
    refine eD 3 rfl (sV (fun hs=>Ch _ _ t0 jV xD (bC hs)) ⟨rI,?_⟩);obtain⟨sK,hy47,hM⟩:=bind_some hM;refine eD 4 rfl (sV (fun hs=>qc _ _ jV sK hy47 (bC hs)) ⟨rI,?_⟩);refine aS 7 rfl Ox (jH dN) ?_;refine aS 8 rfl KQ (jH sK) ?_;refine dY (fB (Ox,KQ) hM sS rI)
  · refine lM 1 6 (⟨_,rfl,rfl,jO (fun w hm=>let ⟨S,hs⟩:=hm;qc _ w s0 dN rJ (bC hs)) ⟨rI,?_⟩⟩) (⟨_,rfl,rfl,gF rfl (k:=fun b48=>⟨rI,?_⟩)⟩)
    ·obtain⟨FZ,U0,hM⟩:=bind_some hM;refine lM 3 6 (⟨_,rfl,rfl,jO (fun w hm=>let ⟨S,hs⟩:=hm;Ch _ w t0 FZ U0 (bC hs)) ⟨rI,?_⟩⟩) (⟨_,rfl,rfl,gF rfl (k:=fun b51=>⟨rI,?_⟩)⟩)
     ·obtain⟨XG,ad4,hM⟩:=bind_some hM;refine lM 4 6 (⟨_,rfl,rfl,jO (fun w hm=>let ⟨S,hs⟩:=hm;qc _ w FZ XG ad4 (bC hs)) ⟨rI,?_⟩⟩) (⟨_,rfl,rfl,gF rfl (k:=fun b54=>⟨rI,?_⟩)⟩)
      ·refine aA 6 rfl rfl fun b55=>?_;refine aS 7 rfl b16 (jH dN) ?_;refine aS 8 rfl b55 (jH XG) ?_;refine dY (fB (b16,b55) hM sS rI)
      refine eD 4 rfl (sV (fun hs=>qc _ _ FZ XG ad4 (bC hs)) ⟨rI,?_⟩);refine aS 7 rfl b16 (jH dN) ?_;refine aS 8 rfl b54 (jH XG) ?_;refine dY (fB (b16,b54) hM sS rI)
     refine eD 3 rfl (sV (fun hs=>Ch _ _ t0 FZ U0 (bC hs)) ⟨rI,?_⟩);obtain⟨y56,ald,hM⟩:=bind_some hM;refine eD 4 rfl (sV (fun hs=>qc _ _ FZ y56 ald (bC hs)) ⟨rI,?_⟩);refine aS 7 rfl b16 (jH dN) ?_;refine aS 8 rfl b51 (jH y56) ?_;refine dY (fB (b16,b51) hM sS rI)
    refine eD 1 rfl (sV (fun hs=>qc _ _ s0 dN rJ (bC hs)) ⟨rI,?_⟩);obtain⟨KG,ZA,hM⟩:=bind_some hM;refine eD 3 rfl (sV (fun hs=>Ch _ _ t0 KG ZA (bC hs)) ⟨rI,?_⟩);obtain⟨F3,ZB,hM⟩:=bind_some hM;refine eD 4 rfl (sV (fun hs=>qc _ _ KG F3 ZB (bC hs)) ⟨rI,?_⟩);refine aS 7 rfl b16 (jH dN) ?_;refine aS 8 rfl b48 (jH F3) ?_;refine dY (fB (b16,b48) hM sS rI)
  refine lM 1 5 (⟨_,rfl,rfl,jO (fun w hm=>let ⟨S,hs⟩:=hm;qc _ w s0 dN rJ (bC hs)) ⟨rI,?_⟩⟩) (⟨_,rfl,rfl,gF rfl (k:=fun b62=>⟨rI,?_⟩)⟩)
  · obtain⟨rU,U1,hM⟩:=bind_some hM;refine lM 3 5 (⟨_,rfl,rfl,jO (fun w hm=>let ⟨S,hs⟩:=hm;Ch _ w t0 rU U1 (bC hs)) ⟨rI,?_⟩⟩) (⟨_,rfl,rfl,gF rfl (k:=fun b65=>⟨rI,?_⟩)⟩)
    ·obtain⟨tO,U2,hM⟩:=bind_some hM;refine lM 4 5 (⟨_,rfl,rfl,jO (fun w hm=>let ⟨S,hs⟩:=hm;qc _ w rU tO U2 (bC hs)) ⟨rI,?_⟩⟩) (⟨_,rfl,rfl,gF rfl (k:=fun Yd=>⟨rI,?_⟩)⟩)
     ·refine aA 5 rfl rfl fun b69=>?_;refine aS 7 rfl b69 (jH dN) ?_;refine aS 8 rfl b17 (jH tO) ?_;refine dY (fB (b69,b17) hM sS rI)
     refine eD 4 rfl (sV (fun hs=>qc _ _ rU tO U2 (bC hs)) ⟨rI,?_⟩);refine aS 7 rfl Yd (jH dN) ?_;refine aS 8 rfl b17 (jH tO) ?_;refine dY (fB (Yd,b17) hM sS rI)
    refine eD 3 rfl (sV (fun hs=>Ch _ _ t0 rU U1 (bC hs)) ⟨rI,?_⟩);obtain⟨y70,alg,hM⟩:=bind_some hM;refine eD 4 rfl (sV (fun hs=>qc _ _ rU y70 alg (bC hs)) ⟨rI,?_⟩);refine aS 7 rfl b65 (jH dN) ?_;refine aS 8 rfl b17 (jH y70) ?_;refine dY (fB (b65,b17) hM sS rI)
  refine eD 1 rfl (sV (fun hs=>qc _ _ s0 dN rJ (bC hs)) ⟨rI,?_⟩);obtain⟨Aj,ZF,hM⟩:=bind_some hM;refine eD 3 rfl (sV (fun hs=>Ch _ _ t0 Aj ZF (bC hs)) ⟨rI,?_⟩);obtain⟨wV,P7,hM⟩:=bind_some hM;refine eD 4 rfl (sV (fun hs=>qc _ _ Aj wV P7 (bC hs)) ⟨rI,?_⟩);refine aS 7 rfl b62 (jH dN) ?_;refine aS 8 rfl b17 (jH wV) ?_;refine dY (fB (b62,b17) hM sS rI)
 clear hM;rintro⟨xq,xu,xW,xX⟩ ⟨Db,Df⟩ hM;dsimp only[Wn] at hM ⊢;refine aG fun K2 hK2=>?_;refine sr ?_;refine oe (aD 3) ?_;refine oe (aJ (b:=b1)) ?_;refine iO (fun w hm=>Kn.len (kG l0.Links aC.2.2.2) hm) fun hl4=>?_;refine oe bJ ?_;refine om ?_;refine on ?_;refine bF ?_;refine lq hM (fun Br=>[(8,eP Db),(9,eP Df),(20,eS aC.2.2.2 l0.Links),(21,eI (l0.Links.length:Int)),(22,eI (Br:Int))]) (fun Br=>[own Db 256 [vI xq,vI xu],own Df 256 [vI xW,vI xX],iL l0.Links aC.2.2.2]) sS rI ?_;clear hM;rintro aY Br hM gu hL1;dsimp only[SA] at hM ⊢;refine sr ?_;refine oe cO ?_;refine on ?_;refine aG fun K5 bS=>?_;refine cc rfl hM (fun jA hM=>?_) (fun jA hM=>?_)
 ·have adx:=of_decide_eq_true jA;refine aX (bS _ _ ?_);clear bS;refine aG fun K6 bZ=>?_;refine bF ?_;refine sr ?_;obtain⟨x6,hx7,hM⟩:=bind_some hM;refine oe (bI (xs:=l0.Links) 6 (kG l0.Links aC.2.2.2) (iS hx7)) ?_;refine oe (fO (m:=6) (i:=(Br:Int)) (xs:=l0.Links) (y:=x6) (l:=(wF x6)) 0 (kG l0.Links aC.2.2.2) (fun _=>hx7)) ?_;refine oA rfl fun b8=>?_;refine oS b8 (wF x6) ?_;refine on ?_;refine jn (Nat×Nat) y (k:=abg x6 xq xu xW xX aY Br) (fun _ (KU,KV)=>[(8,eP Db),(9,eP Df),(11,eP b8),(12,eP KU),(13,eP KV),(20,eS aC.2.2.2 l0.Links),(21,eI (l0.Links.length:Int)),(22,eI (Br:Int))]) (fun _ (KU,KV)=>[own Db 256 [vI xq,vI xu],own Df 256 [vI xW,vI xX],own b8 183 (wF x6),own KU 256 [vI x6.A,vI x6.lg],own KV 256 [vI x6.B,vI x6.lu],iL l0.Links aC.2.2.2]) ?_ ?_
  · intro Og hJ3;refine iD _ (List.Sublist.refl _) ?_;refine ay 0 rfl (aD 0) ?_;refine ay 1 rfl (aJ (b:=b8)) ?_;refine ay 2 rfl (aD 1) ?_;refine ay 3 rfl (aJ (b:=b8)) ?_;refine ay 4 rfl (fT [vI x6.A,vI x6.lg]) ?_;refine ay 5 rfl (aD 2) ?_;refine ay 6 rfl (aJ (b:=b8)) ?_;refine ay 7 rfl (aD 3) ?_;refine ay 8 rfl (aJ (b:=b8)) ?_;refine ay 9 rfl (fT [vI x6.B,vI x6.lu]) ?_;refine lM 10 11 (⟨_,rfl,rfl,gF rfl (k:=fun b10=>⟨rI,?_⟩)⟩) (⟨_,rfl,rfl,gF rfl (k:=fun b11=>⟨rI,?_⟩)⟩)
    ·refine aA 11 rfl rfl fun b12=>?_;refine aS 12 rfl b10 [vI x6.A,vI x6.lg] ?_;refine aS 13 rfl b12 [vI x6.B,vI x6.lu] ?_;refine dY (hJ3 (b10,b12) hM sS rI)
    refine aA 10 rfl rfl fun b13=>?_;refine aS 12 rfl b13 [vI x6.A,vI x6.lg] ?_;refine aS 13 rfl b11 [vI x6.B,vI x6.lu] ?_;refine dY (hJ3 (b13,b11) hM sS rI)
  clear hM;rintro⟨⟩ ⟨KU,KV⟩ hM;dsimp only[abg] at hM ⊢;refine sr ?_;refine oe (bX (b:=KU)) ?_;refine oe (bX (b:=Db)) ?_;refine oe (O1 [.int .i64,.int .i64] (decide ((lK.mk x6.A x6.lg)=(lK.mk xq xu))) (Ua _ _)) ?_;refine om ?_;refine av rfl (bX (b:=KV)) ?_;refine av rfl (bX (b:=Df)) ?_;refine av rfl (O1 [.int .i64,.int .i64] (decide ((lK.mk x6.B x6.lu)=(lK.mk xW xX))) (Ua _ _)) ?_;refine oe dI ?_;refine om ?_;refine av rfl (bX (b:=KU)) ?_;refine av rfl (bX (b:=Df)) ?_;refine av rfl (O1 [.int .i64,.int .i64] (decide ((lK.mk x6.A x6.lg)=(lK.mk xW xX))) (Ua _ _)) ?_;refine av rfl aH ?_;refine av rfl (bX (b:=KV)) ?_;refine av rfl (bX (b:=Db)) ?_;refine av rfl (O1 [.int .i64,.int .i64] (decide ((lK.mk x6.B x6.lu)=(lK.mk xq xu))) (Ua _ _)) ?_;refine av rfl dI ?_;refine oe eT ?_;refine on ?_;refine cc rfl hM (fun uV hM=>?_) (fun uV hM=>?_)
  · refine sr ?_;refine oe (aD 4) ?_;refine oe (aJ (b:=b8)) ?_;refine oa ?_;refine aP ?_;exact aW (vH hM)
  refine aX (bZ _ _ ?_);clear bZ;refine aZ ?_;refine oe (dH (hr:=fun _=>by unfold d9;omega)) ?_;refine om ?_;refine bf (hL1 hM sS rI)
 refine dL (hK2 _ _ ?_);clear hK2;dsimp only[af0] at hM;refine sr ?_;refine oa ?_;refine aP ?_;exact aW (vH hM)
def abf(Dw:List Int):Unit→Option ((List Int)×Int):=fun _=>
 some (Dw,0)
def Sv(zx:List Step)(r0:aQ)(l0:Layout)(nO:((List Int)×Nat)→Option ((List Int)×Int)):((List Int)×Nat)→Option ((List Int)×Int):=fun (Dw,D8)=>
 if decide ((D8:Int)<(zx.length:Int)) then
  ((idx zx (D8:Int)).bind fun x41=>
  (idx r0.Steps (D8:Int)).bind fun TY=>
  (SB l0 TY x41).bind fun sK=>
  if (!sK.2) then
   (some (([]:List Int),11))
  else
   (bG (decide ((Dw.length+([sK.1]:List Int).length)*8≤140737488355328))<|
   nO ((Dw++([sK.1]:List Int)),D8+1)))
 else
  (abf Dw ())
def Wm(r0:aQ)(l0:Layout):Unit→Option ((List Int)×Int):=fun _=>
 (sub r0.Steps 1 (r0.Steps.length:Int)).bind fun zx=>
 iter (Sv zx r0 l0) FUEL (([]:List Int),0)
def Sr(r0:aQ)(l0:Layout)(gN:((List Bool)×Nat)→Option ((List Int)×Int)):((List Bool)×Nat)→Option ((List Int)×Int):=fun (AP,II)=>
 if decide ((II:Int)<(r0.Steps.length:Int)) then
  ((idx r0.Steps (II:Int)).bind fun x25=>
  (idx AP x25.Section).bind fun x28=>
  if x28 then
   (some (([]:List Int),5))
  else
   ((idx AP x25.Section).bind fun x32=>
   gN ((AP.set x25.Section.toNat true),II+1)))
 else
  (Wm r0 l0 ())
def Wj(l0:Layout)(r0:aQ):Unit→Option ((List Int)×Int):=fun _=>
 (mk (α:=Bool) false (l0.Sections.length:Int)).bind fun m20=>
 iter (Sr r0 l0) FUEL (m20,0)
def Sq(r0:aQ)(l0:Layout)(aY:Nat→Option ((List Int)×Int)):Nat→Option ((List Int)×Int):=fun IC=>
 if decide ((IC:Int)<(r0.Steps.length:Int)) then
  ((idx r0.Steps (IC:Int)).bind fun kN=>
  (Wi l0 kN).bind fun IU=>
  if (!IU) then
   (some (([]:List Int),4))
  else
   (aY (IC+1)))
 else
  (Wj l0 r0 ())
def Sw(r0:aQ)(l0:Layout):Bool→Option ((List Int)×Int):=fun Tz=>
 if Tz then
  (some (([]:List Int),4))
 else
  (iter (Sq r0 l0) FUEL 0)
def Ny(r0:aQ)(l0:Layout):Bool→Option ((List Int)×Int):=fun Tx=>
 if Tx then
  (some (([]:List Int),7))
 else
  (if decide (r0.Overlap<0) then
   (Sw r0 l0 (decide (r0.Overlap<0)))
  else
   (bG (bW ((r0.Steps.length:Int)-r0.Overlap))<|
   Sw r0 l0 (decide (((r0.Steps.length:Int)-r0.Overlap)<2))))
def Sy(l0:Layout)(r0:aQ):Option ((List Int)×Int):=
 (LY l0).bind fun y3=>
 if decide (y3≠0) then
  (some (([]:List Int),1))
 else
  (if decide (24<(r0.Steps.length:Int)) then
   (Ny r0 l0 (decide (24<(r0.Steps.length:Int))))
  else
   (Ny r0 l0 (decide (2<r0.Overlap))))
theorem aos(S:bB)(w:World)(l0:Layout)(aC:ak.R Layout)(r0:aQ)(aj:ak.R aQ)(y:(List Int)×Int)(hM:Sy l0 r0=some y)(hS:sB S w)(fG:ak.ok S w aC l0)(uT:ak.ok S w aj r0):
   Calls Tryz.prog 137 #[.agg (lC l0 aC),.agg (C9 r0 aj)] w (Post (β:=(ak.R (List Int))) S [] (fun g=> .tuple #[sL g y.1,vI y.2]) (fun g=>[ah 3 g y.1]) w):=by
 refine bP (args:=[_,_]) Tryz.func137 rfl ((pre_nil hS).start |>.lS fG|>.bU (α:=List Step) (r:=aj) (x:=r0.Steps) uT) rfl ?_;unfold Sy at hM;refine sr ?_;refine oB (dP l0 aC) fun b1=>?_;refine oB (nU r0 aj) fun b2=>?_;refine oa ?_;refine aP ?_;refine aG fun K2 hK2=>?_;refine bF ?_;refine sr ?_;refine oe (bX (b:=b1)) ?_;obtain⟨y3,hy4,hM⟩:=bind_some hM;refine cv (fun hs=>aaj _ _ l0 aC y3 hy4 (bC hs) ⟨(kM hs),(kM hs),(kM hs),(kM hs)⟩) ?_;refine oe iy ?_;refine aP ?_;refine cc rfl hM (fun jA hM=>?_) (fun jA hM=>?_)
 ·refine sr ?_;refine oa ?_;refine aP ?_;refine bQ (fun w hm=>hm.bV (α:=Int) 3 (fun _=>())) ?_;obtain rfl:=some_inj hM;refine aW (qO (fun w hm=>dO AY hm rfl))
 refine jm y (k:=Ny r0 l0) (fun Tx=>[(2,eP b1),(3,eP b2),(20,.v (.bool Tx))]) (fun Tx=>[iL l0.aM aC.1,iL l0.aV aC.2.1,iL l0.Sections aC.2.2.1,iL l0.Links aC.2.2.2,own b1 26 (dP l0 aC),iL r0.Steps aj,own b2 90 (nU r0 aj)]) ?_ ?_
 ·intro wX fB;refine sr ?_;refine oe (aD 0) ?_;refine oe (aJ (b:=b2)) ?_;refine oe bJ ?_;refine oe iw ?_;refine aP ?_;refine cc rfl hM (fun akf hM=>?_) (fun akf hM=>?_)
  · refine aX (fB hM sS rI)
  refine aZ ?_;refine oe (aD 1) ?_;refine oe (aJ (b:=b2)) ?_;refine oe iw ?_;refine oa ?_;refine bf (fB hM sS rI)
 clear hM;rintro Tx hM;dsimp only[Ny] at hM ⊢;refine cc rfl hM (fun jR hM=>?_) (fun jR hM=>?_)
 ·refine sr ?_;refine oa ?_;refine aP ?_;refine bQ (fun w hm=>hm.bV (α:=Int) 3 (fun _=>())) ?_;obtain rfl:=some_inj hM;refine aW (qO (fun w hm=>dO AY hm rfl))
 refine jm y (k:=Sw r0 l0) (fun Tz=>[(2,eP b1),(3,eP b2),(28,.v (.bool Tz))]) (fun Tz=>[iL l0.aM aC.1,iL l0.aV aC.2.1,iL l0.Sections aC.2.2.1,iL l0.Links aC.2.2.2,own b1 26 (dP l0 aC),iL r0.Steps aj,own b2 90 (nU r0 aj)]) ?_ ?_
 ·intro za hJ2;refine sr ?_;refine oe (aD 1) ?_;refine oe (aJ (b:=b2)) ?_;refine oe cO ?_;refine aP ?_;refine cc rfl hM (fun ake hM=>?_) (fun ake hM=>?_)
  · refine aX (hJ2 hM sS rI)
  refine aZ ?_;refine oe (aD 0) ?_;refine oe (aJ (b:=b2)) ?_;refine oe bJ ?_;refine oe (aD 1) ?_;refine oe (aJ (b:=b2)) ?_;refine oN hM fun hM=>?_;refine oe cO ?_;refine oa ?_;refine bf (hJ2 hM sS rI)
 clear hM;rintro Tz hM;dsimp only[Sw] at hM ⊢;refine cc rfl hM (fun uV hM=>?_) (fun uV hM=>?_)
 ·refine sr ?_;refine oa ?_;refine aP ?_;refine bQ (fun w hm=>hm.bV (α:=Int) 3 (fun _=>())) ?_;obtain rfl:=some_inj hM;refine aW (qO (fun w hm=>dO AY hm rfl))
 refine aX (hK2 _ _ ?_);clear hK2;refine aG fun K7 dZ=>?_;refine sr ?_;refine oe (aD 0) ?_;refine oe (aJ (b:=b2)) ?_;refine iO (fun w hm=>Kn.len (kG r0.Steps aj) hm) fun akG=>?_;refine oe bJ ?_;refine om ?_;refine on ?_;refine bF ?_;refine lq hM (fun IC=>[(2,eP b1),(3,eP b2),(40,eS aj r0.Steps),(41,eI (r0.Steps.length:Int)),(42,eI (IC:Int))]) (fun IC=>[iL l0.aM aC.1,iL l0.aV aC.2.1,iL l0.Sections aC.2.2.1,iL l0.Links aC.2.2.2,own b1 26 (dP l0 aC),iL r0.Steps aj,own b2 90 (nU r0 aj)]) sS rI ?_;clear hM;rintro aY IC hM gu hL1;dsimp only[Sq] at hM ⊢;refine sr ?_;refine oe cO ?_;refine on ?_;refine aG fun uN gX=>?_;refine cc rfl hM (fun vX hM=>?_) (fun vX hM=>?_)
 ·have aqn:=of_decide_eq_true vX;refine aX (gX _ _ ?_);clear gX;refine aG fun o7 eH=>?_;refine bF ?_;refine sr ?_;obtain⟨kN,xA,hM⟩:=bind_some hM;refine oe (bI (xs:=r0.Steps) 2 (kG r0.Steps aj) (iS xA)) ?_;refine oe (fO (m:=2) (i:=(IC:Int)) (xs:=r0.Steps) (y:=kN) (l:=(qU kN)) 0 (kG r0.Steps aj) (fun _=>xA)) ?_;refine oA rfl fun b15=>?_;refine oS b15 (qU kN) ?_;refine on ?_;refine sr ?_;refine oe (bX (b:=b1)) ?_;refine oe (bX (b:=b15)) ?_;obtain⟨IU,Zv,hM⟩:=bind_some hM;refine cv (fun hs=>aoq _ _ l0 aC kN IU Zv (bC hs) ⟨(kM hs),(kM hs),(kM hs),(kM hs)⟩) ?_;refine oe fF ?_;refine on ?_;refine cc rfl hM (fun hc18 hM=>?_) (fun hc18 hM=>?_)
  · refine sr ?_;refine oa ?_;refine aP ?_;refine bQ (fun w hm=>hm.bV (α:=Int) 3 (fun _=>())) ?_;obtain rfl:=some_inj hM;refine aW (qO (fun w hm=>dO AY hm rfl))
  refine aX (eH _ _ ?_);clear eH;refine aZ ?_;refine oe (dH (hr:=fun _=>by unfold d9;omega)) ?_;refine om ?_;refine bf (hL1 hM sS rI)
 refine dL (dZ _ _ ?_);clear dZ;dsimp only[Wj] at hM;refine sr ?_;refine oe (aD 2) ?_;refine oe (aJ (b:=b1)) ?_;refine oe bJ ?_;obtain⟨m20,akI,hM⟩:=bind_some hM;refine bn (agH (α:=Bool) (e:=4) false () akI (fun _ _=>trivial) (fun xQ aqO=>?_));refine aP ?_;refine aG fun F6 oL=>?_;refine sr ?_;refine oe (aD 0) ?_;refine oe (aJ (b:=b2)) ?_;refine iO (fun w hm=>Kn.len (kG r0.Steps aj) hm) fun aqE=>?_;refine oe bJ ?_;refine om ?_;refine on ?_;refine bF ?_;refine lq hM (fun (AP,II)=>[(2,eP b1),(3,eP b2),(8,eS xQ AP),(56,eS aj r0.Steps),(57,eI (r0.Steps.length:Int)),(58,eI (II:Int))]) (fun (AP,II)=>[iL l0.aM aC.1,iL l0.aV aC.2.1,iL l0.Sections aC.2.2.1,iL l0.Links aC.2.2.2,own b1 26 (dP l0 aC),iL r0.Steps aj,own b2 90 (nU r0 aj),ah 4 xQ AP]) sS rI ?_
 clear hM;rintro gN ⟨AP,II⟩ hM BD hL2;dsimp only[Sr] at hM ⊢;refine sr ?_;refine oe cO ?_;refine on ?_;refine aG fun KJ rZ=>?_;refine cc rfl hM (fun hc24 hM=>?_) (fun hc24 hM=>?_)
 ·have aqs:=of_decide_eq_true hc24;refine aX (rZ _ _ ?_);clear rZ;refine aG fun IW qx=>?_;refine bF ?_;refine sr ?_;obtain⟨x25,GK,hM⟩:=bind_some hM;refine oe (bI (xs:=r0.Steps) 2 (kG r0.Steps aj) (iS GK)) ?_;refine oe (fO (m:=2) (i:=(II:Int)) (xs:=r0.Steps) (y:=x25) (l:=(qU x25)) 0 (kG r0.Steps aj) (fun _=>GK)) ?_;refine oA rfl fun KR=>?_;refine oS KR (qU x25) ?_;refine on ?_;refine aG fun Oe uS=>?_;refine aO ?_;refine oe (aD 0) ?_;refine oe (aJ (b:=KR)) ?_;obtain⟨x28,hx29,hM⟩:=bind_some hM;refine oe (bI (xs:=AP) 1 (Kn.ah (e:=4) (r:=xQ) hA) (iS hx29)) ?_;refine oe (dh (i:=x25.Section) (xs:=AP) (y:=x28) 0 (Kn.ah (e:=4) (r:=xQ) hA) (fun _=>hx29)) ?_;refine on ?_;refine cc rfl hM (fun GI hM=>?_) (fun GI hM=>?_)
  · refine sr ?_;refine oa ?_;refine aP ?_;refine bQ (fun w hm=>hm.bV (α:=Int) 3 (fun _=>())) ?_;obtain rfl:=some_inj hM;refine aW (qO (fun w hm=>dO AY hm rfl))
  refine aX (uS _ _ ?_);clear uS;refine aZ ?_;refine om ?_;refine oe (aD 0) ?_;refine oe (aJ (b:=KR)) ?_;obtain⟨x32,Jr,hM⟩:=bind_some hM;refine oe (bI (xs:=AP) 1 (Kn.ah (e:=4) (r:=xQ) hA) (iS Jr)) ?_;refine bn (Te (r:=xQ) (i:=x25.Section) (xs:=AP) (u:=x32) (vs:=[.bool true]) 0 true Jr rfl (fun _ _ h=>h) uA ?_);have hx34:=LB (u:=true) Jr;refine bf (qx _ _ ?_);clear qx;refine aZ ?_;refine oe (dH (hr:=fun _=>by unfold d9;omega)) ?_;refine om ?_;refine bf (hL2 hM ⟨rfl,rfl,(by simp only[List.length_set,eS,sL];rfl),rfl,rfl,rfl,trivial⟩ rI)
 refine dL (oL _ _ ?_);clear oL;dsimp only[Wm] at hM;refine bD ?_;refine aG fun XO BO=>?_;refine sr ?_;refine oe (aD 0) ?_;refine oe (aJ (b:=b2)) ?_;obtain⟨zx,akH,hM⟩:=bind_some hM;refine bn (NK (r:=aj) (xs:=r0.Steps) (ol:=some (.i64,1)) (oh:=none) (Sk.dW (α:=List Step) (r:=aj) (x:=r0.Steps) hA) akH (fun Ht=>?_));refine iO (fun w hm=>Kn.len (kG zx Ht) hm) fun aqH=>?_;refine oe bJ ?_;refine om ?_;refine on ?_;refine bF ?_;refine bQ (fun w hm=>hm.bV (α:=Int) 3 (fun _=>())) ?_;refine lp AY hM (fun (Dw,D8) Nu=>[(2,eP b1),(3,eP b2),(11,eS Nu Dw),(74,eS Ht zx),(75,eI (zx.length:Int)),(76,eI (D8:Int))]) (fun (Dw,D8) Nu=>[iL l0.aM aC.1,iL l0.aV aC.2.1,iL l0.Sections aC.2.2.1,iL l0.Links aC.2.2.2,own b1 26 (dP l0 aC),iL r0.Steps aj,own b2 90 (nU r0 aj),ah 3 Nu Dw,iL zx Ht]) sS rI ?_
 clear hM;rintro nO ⟨Dw,D8⟩ Nu hM Oh hL3;dsimp only[Sv] at hM ⊢;refine sr ?_;refine oe cO ?_;refine on ?_;refine aG fun XP BP=>?_;refine cc rfl hM (fun adw hM=>?_) (fun adw hM=>?_)
 ·have aqu:=of_decide_eq_true adw;refine aX (BP _ _ ?_);clear BP;refine aG fun K30 Gw=>?_;refine bF ?_;refine aO ?_;obtain⟨x41,adL,hM⟩:=bind_some hM;refine oe (bI (xs:=zx) 2 (kG zx Ht) (iS adL)) ?_;refine oe (fO (m:=2) (i:=(D8:Int)) (xs:=zx) (y:=x41) (l:=(qU x41)) 0 (kG zx Ht) (fun _=>adL)) ?_;refine oA rfl fun b43=>?_;refine oa ?_;refine oS b43 (qU x41) ?_;refine on ?_;refine aG fun K32 Pm=>?_;refine iD _ (List.Sublist.refl _) ?_;refine ay 0 rfl (bX (b:=b1)) ?_;refine ay 1 rfl (aD 0) ?_;refine ay 2 rfl (aJ (b:=b2)) ?_;refine ay 3 rfl aH ?_;obtain⟨TY,adM,hM⟩:=bind_some hM;refine ay 4 rfl (bI (xs:=r0.Steps) 2 (kG r0.Steps aj) (iS adM)) ?_;refine ay 5 rfl (fO (m:=2) (i:=(D8:Int)) (xs:=r0.Steps) (y:=TY) (l:=(qU TY)) 0 (kG r0.Steps aj) (fun _=>adM)) ?_;refine ay 6 rfl (bX (b:=b43)) ?_;obtain⟨sK,hy47,hM⟩:=bind_some hM;refine eD 7 rfl (sV (fun hs=>aot _ _ l0 aC TY x41 sK hy47 (bC hs) ⟨(kM hs),(kM hs),(kM hs),(kM hs)⟩) ⟨rI,?_⟩)
  refine ay 8 rfl aH ?_;refine ay 9 rfl (eO (vs:=[vI sK.1,.bool sK.2])) ?_;refine ay 10 rfl (eO (vs:=[vI sK.1,.bool sK.2])) ?_;refine ay 11 rfl dx ?_;refine ay 12 rfl dx ?_;refine dY (Pm _ _ ?_);clear Pm;refine aG fun K33 Gy=>?_;refine aO ?_;refine oe fF ?_;refine on ?_;refine cc rfl hM (fun UM hM=>?_) (fun UM hM=>?_)
  · refine sr ?_;refine oa ?_;refine aP ?_;refine bQ (fun w hm=>hm.bV (α:=Int) 3 (fun _=>())) ?_;obtain rfl:=some_inj hM;refine aW (qO (fun w hm=>dO AY hm rfl))
  refine aX (Gy _ _ ?_);clear Gy;refine aZ ?_;refine om ?_;refine om ?_;refine bn (eX (α:=Int) 3 (fun _=>()) ([sK.1]:List Int) oF (fun Nj=>?_));obtain⟨ajX,hM⟩:=dw hM;refine bn (iP (r:=Nu) (r2:=Nj) uR (Kn.ah (e:=3) (r:=Nj) hA) oF (of_decide_eq_true ajX) (fun r51=>?_));refine oa ?_;refine bf (Gw _ _ ?_);clear Gw;refine aZ ?_;refine oe (dH (hr:=fun _=>by unfold d9;omega)) ?_;refine om ?_;refine bf (hL3 r51 hM sS rI)
 refine dL (BO _ _ ?_);clear BO;dsimp only[abf] at hM;refine aO ?_;refine oa ?_;refine aP ?_;obtain rfl:=some_inj hM;refine aW (qO (fun w hm=>dO Nu hm rfl))
def Nv(l0:Layout)(r0:aQ):Option Int:=
 (Sy l0 r0).bind fun y3=>
 some y3.2
theorem afZ(S:bB)(w:World)(l0:Layout)(aC:ak.R Layout)(r0:aQ)(aj:ak.R aQ)(y:Int)(hM:Nv l0 r0=some y)(hS:sB S w)(fG:ak.ok S w aC l0)(uT:ak.ok S w aj r0):
  Calls Tryz.prog 82 #[.agg (lC l0 aC),.agg (C9 r0 aj)] w (cu w (vI y)):=by
 refine bP (args:=[_,_]) Tryz.func82 rfl ((pre_nil hS).start |>.lS fG|>.bU (α:=List Step) (r:=aj) (x:=r0.Steps) uT) rfl ?_;unfold Nv at hM;refine sr ?_;refine oB (dP l0 aC) fun b1=>?_;refine oB (nU r0 aj) fun b2=>?_;refine aP ?_;refine sr ?_;refine oe (bX (b:=b1)) ?_;refine oe (bX (b:=b2)) ?_;obtain⟨y3,hy4,hM⟩:=bind_some hM;refine bn (eU jw.nil (fun S w hs hP=>aos _ w l0 aC r0 aj y3 hy4 (bC hs) ⟨(kM hs),(kM hs),(kM hs),(kM hs)⟩ (kM hs)) fK (fun r5=>?_));dsimp only[cA,nA];refine om ?_;refine oe (eO (vs:=[sL r5 y3.1,vI y3.2])) ?_;refine oe (eO (vs:=[sL r5 y3.1,vI y3.2])) ?_;refine oa ?_
 refine aP ?_;refine aO ?_;refine aP ?_;exact aW (bN hM)
end Go.Proofs.YtcalibhfgdncaaaGreatDoor
