/- Functions: models, proved of the code. -/
import Derived.Test.YtcalibhfgdncaaaGreatDoorLm
namespace Go.Proofs.YtcalibhfgdncaaaGreatDoor
open Go.Dc Go.RowKit
attribute [local irreducible] CW OW AW AZ Ev
set_option maxHeartbeats 0
set_option maxRecDepth 10000
set_option linter.all false
def Ug(s0:Step):Option Step:=
 if decide (s0.Dir=0) then
  (some (Step.mk s0.Section 1))
 else
  (some (Step.mk s0.Section 0))
theorem DY(S:aW)(w:World)(s0:Step)(y:Step)(hM:Ug s0=some y)(hS:sB S w):
   Calls Tryz.prog 192 #[.agg (FU s0)] w (bM w (.agg (FU y))):=by
 refine bF (args:=[_]) Tryz.func192 rfl ((pre_nil hS).start) rfl ?_;unfold Ug at hM;refine sr ?_;refine oB (qd s0) fun b1=>?_;refine oA rfl fun b2=>?_;refine on ?_;refine au fun K2 hK2=>?_;refine go ?_;refine co hM (fun hc3 hM=>?_) (fun hc3 hM=>?_)
 ·refine sr ?_;refine fo 0 ?_;refine oe (dO [vI s0.Section,vI 1]) ?_;refine oS b2 [vI s0.Section,vI 1] ?_;refine on ?_;exact aF (aZ hM)
 refine cs hK2 ?_;refine sr ?_;refine fo 0 ?_;refine oe (dO [vI s0.Section,vI 0]) ?_;refine oS b2 [vI s0.Section,vI 0] ?_;refine on ?_;exact aF (aZ hM)
def aaA(l0:Layout)(s0:Step):Option Bool:=
 some ((decide (0≤s0.Section)&&decide (s0.Section<(l0.Sections.length:Int)))&&(decide (s0.Dir=0)||decide (s0.Dir=1)))
theorem avp(S:aW)(w:World)(l0:Layout)(aD:ah.R Layout)(s0:Step)(y:Bool)(hM:aaA l0 s0=some y)(hS:sB S w)(dQ:ah.ok S w aD l0):
  Calls Tryz.prog 174 #[.agg (jy l0 aD),.agg (FU s0)] w (bM w (.bool y)):=by
 refine bF (args:=[_,_]) Tryz.func174 rfl ((pre_nil hS).start |>.je dQ) rfl ?_;unfold aaA at hM;refine sr ?_;refine oB (iR l0 aD) fun b1=>?_;refine oB (qd s0) fun b2=>?_;refine go ?_;exact aF (aZ hM)
def QD(s0:Step):Option lW:=
 if decide (s0.Dir=0) then
  (some (lW.mk s0.Section 1))
 else
  (some (lW.mk s0.Section 0))
theorem qA(S:aW)(w:World)(s0:Step)(y:lW)(hM:QD s0=some y)(hS:sB S w):
   Calls Tryz.prog 191 #[.agg (FU s0)] w (bM w (.agg (amh y))):=by
 refine bF (args:=[_]) Tryz.func191 rfl ((pre_nil hS).start) rfl ?_;unfold QD at hM;refine sr ?_;refine oB (qd s0) fun b1=>?_;refine oA rfl fun b2=>?_;refine on ?_;refine au fun K2 hK2=>?_;refine go ?_;refine co hM (fun hc3 hM=>?_) (fun hc3 hM=>?_)
 ·refine sr ?_;refine fo 0 ?_;refine oe (dO [vI s0.Section,vI 1]) ?_;refine oS b2 [vI s0.Section,vI 1] ?_;refine on ?_;exact aF (aZ hM)
 refine cs hK2 ?_;refine sr ?_;refine fo 0 ?_;refine oe (dO [vI s0.Section,vI 0]) ?_;refine oS b2 [vI s0.Section,vI 0] ?_;refine on ?_;exact aF (aZ hM)
def afo(x6:Link)(Av:Int)(Aw:Int)(Bw:Int)(Bz:Int)(aK:Nat→Option (Int×Bool))(FC:Nat):Unit→Option (Int×Bool):=fun _=>
 if ((decide ((lW.mk x6.A x6.dD)=(lW.mk Av Aw))&&decide ((lW.mk x6.B x6.dN)=(lW.mk Bw Bz)))||(decide ((lW.mk x6.A x6.dD)=(lW.mk Bw Bz))&&decide ((lW.mk x6.B x6.dN)=(lW.mk Av Aw)))) then
  (some (x6.Point,true))
 else
  (aK (FC+1))
def akh:Unit→Option (Int×Bool):=fun _=>
 some (0,false)
def Wx(l0:Layout)(Av:Int)(Aw:Int)(Bw:Int)(Bz:Int)(aK:Nat→Option (Int×Bool)):Nat→Option (Int×Bool):=fun FC=>
 if decide ((FC:Int)<(l0.Links.length:Int)) then
  ((idx l0.Links (FC:Int)).bind fun x6=>
  afo x6 Av Aw Bw Bz aK FC ())
 else
  (akh ())
def aaD(l0:Layout):(Int×Int×Int×Int)→Option (Int×Bool):=fun (Av,Aw,Bw,Bz)=>
 iter (Wx l0 Av Aw Bw Bz) FUEL 0
def Wy(l0:Layout)(s0:Step)(t0:Step):Option (Int×Bool):=
 (QD s0).bind fun eZ=>
 (Ug t0).bind fun jc=>
 (QD jc).bind fun y22=>
 aaD l0 (eZ.sP,eZ.side,y22.sP,y22.side)
theorem avt(S:aW)(w:World)(l0:Layout)(aD:ah.R Layout)(s0:Step)(t0:Step)(y:Int×Bool)(hM:Wy l0 s0 t0=some y)(hS:sB S w)(dQ:ah.ok S w aD l0):
   Calls Tryz.prog 175 #[.agg (jy l0 aD),.agg (FU s0),.agg (FU t0)] w (bM w (.tuple #[vI y.1,.bool y.2])):=by
 refine bF (args:=[_,_,_]) Tryz.func175 rfl ((pre_nil hS).start |>.je dQ) rfl ?_;unfold Wy at hM;refine sr ?_;refine oB (iR l0 aD) fun b1=>?_;refine oB (qd s0) fun b2=>?_;refine oB (qd t0) fun b3=>?_;refine oa ?_;refine aN ?_;refine jk (Nat×Nat) y (k:=aaD l0) [3] (fun (Av,Aw,Bw,Bz) (XW,X5)=>[(8,eP XW),(9,eP X5)]) [0,0] (fun (Av,Aw,Bw,Bz) (XW,X5)=>[own XW 256 [vI Av,vI Aw],own X5 256 [vI Bw,vI Bz]]) ?_ ?_
 ·intro rM dK;refine dS _ (List.Sublist.refl _) ?_;refine ay 0 rfl fC ?_;refine ay 2 rfl fC ?_;obtain⟨eZ,uz,hM⟩:=bind_some hM;refine FX 1 5 6 (⟨_,rfl,rfl,jh (fun w hm=>let ⟨S,hs⟩:=hm;qA _ w s0 eZ uz (aM hs)) ⟨rI,?_⟩⟩) (⟨_,rfl,rfl,gU rfl (k:=fun b16=>⟨rI,?_⟩)⟩) (⟨_,rfl,rfl,gU rfl (k:=fun b17=>⟨rI,?_⟩)⟩)
  · obtain⟨jc,xL,hM⟩:=bind_some hM;refine FX 3 5 6 (⟨_,rfl,rfl,jh (fun w hm=>let ⟨S,hs⟩:=hm;DY _ w t0 jc xL (aM hs)) ⟨rI,?_⟩⟩) (⟨_,rfl,rfl,gU rfl (k:=fun b20=>⟨rI,?_⟩)⟩) (⟨_,rfl,rfl,gU rfl (k:=fun FY=>⟨rI,?_⟩)⟩)
    ·obtain⟨y22,uD,hM⟩:=bind_some hM;refine FX 4 5 6 (⟨_,rfl,rfl,jh (fun w hm=>let ⟨S,hs⟩:=hm;qA _ w jc y22 uD (aM hs)) ⟨rI,?_⟩⟩) (⟨_,rfl,rfl,gU rfl (k:=fun vo=>⟨rI,?_⟩)⟩) (⟨_,rfl,rfl,gU rfl (k:=fun KG=>⟨rI,?_⟩)⟩)
     ·refine jA 5 6 (⟨_,rfl,rfl,gU rfl (k:=fun b26=>⟨rI,?_⟩)⟩) (⟨_,rfl,rfl,gU rfl (k:=fun XH=>⟨rI,?_⟩)⟩)
      ·refine aA 6 rfl rfl fun Rn=>?_;refine aS 7 rfl b26 (jO eZ) ?_;refine aS 8 rfl Rn (jO y22) ?_;refine bS (dK (b26,Rn) hM sS rI)
      refine aA 5 rfl rfl fun Ii=>?_;refine aS 7 rfl Ii (jO eZ) ?_;refine aS 8 rfl XH (jO y22) ?_;refine bS (dK (Ii,XH) hM sS rI)
     ·refine jA 4 6 (⟨_,rfl,rfl,jh (fun w hm=>let ⟨S,hs⟩:=hm;qA _ w jc y22 uD (aM hs)) ⟨rI,?_⟩⟩) (⟨_,rfl,rfl,gU rfl (k:=fun b30=>⟨rI,?_⟩)⟩)
      ·refine aA 6 rfl rfl fun b31=>?_;refine aS 7 rfl vo (jO eZ) ?_;refine aS 8 rfl b31 (jO y22) ?_;refine bS (dK (vo,b31) hM sS rI)
      refine bT 4 rfl (sV (fun hs=>qA _ _ jc y22 uD (aM hs)) ⟨rI,?_⟩);refine aS 7 rfl vo (jO eZ) ?_;refine aS 8 rfl b30 (jO y22) ?_;refine bS (dK (vo,b30) hM sS rI)
     refine jA 4 5 (⟨_,rfl,rfl,jh (fun w hm=>let ⟨S,hs⟩:=hm;qA _ w jc y22 uD (aM hs)) ⟨rI,?_⟩⟩) (⟨_,rfl,rfl,gU rfl (k:=fun b32=>⟨rI,?_⟩)⟩)
     ·refine aA 5 rfl rfl fun Ro=>?_;refine aS 7 rfl Ro (jO eZ) ?_;refine aS 8 rfl KG (jO y22) ?_;refine bS (dK (Ro,KG) hM sS rI)
     refine bT 4 rfl (sV (fun hs=>qA _ _ jc y22 uD (aM hs)) ⟨rI,?_⟩);refine aS 7 rfl b32 (jO eZ) ?_;refine aS 8 rfl KG (jO y22) ?_;refine bS (dK (b32,KG) hM sS rI)
    ·refine jA 3 6 (⟨_,rfl,rfl,jh (fun w hm=>let ⟨S,hs⟩:=hm;DY _ w t0 jc xL (aM hs)) ⟨rI,?_⟩⟩) (⟨_,rfl,rfl,gU rfl (k:=fun b34=>⟨rI,?_⟩)⟩)
     ·obtain⟨BS,Ob,hM⟩:=bind_some hM;refine jA 4 6 (⟨_,rfl,rfl,jh (fun w hm=>let ⟨S,hs⟩:=hm;qA _ w jc BS Ob (aM hs)) ⟨rI,?_⟩⟩) (⟨_,rfl,rfl,gU rfl (k:=fun Ij=>⟨rI,?_⟩)⟩)
      ·refine aA 6 rfl rfl fun Dq=>?_;refine aS 7 rfl b20 (jO eZ) ?_;refine aS 8 rfl Dq (jO BS) ?_;refine bS (dK (b20,Dq) hM sS rI)
      refine bT 4 rfl (sV (fun hs=>qA _ _ jc BS Ob (aM hs)) ⟨rI,?_⟩);refine aS 7 rfl b20 (jO eZ) ?_;refine aS 8 rfl Ij (jO BS) ?_;refine bS (dK (b20,Ij) hM sS rI)
     refine bT 3 rfl (sV (fun hs=>DY _ _ t0 jc xL (aM hs)) ⟨rI,?_⟩);obtain⟨y39,Tf,hM⟩:=bind_some hM;refine bT 4 rfl (sV (fun hs=>qA _ _ jc y39 Tf (aM hs)) ⟨rI,?_⟩);refine aS 7 rfl b20 (jO eZ) ?_;refine aS 8 rfl b34 (jO y39) ?_;refine bS (dK (b20,b34) hM sS rI)
    refine jA 3 5 (⟨_,rfl,rfl,jh (fun w hm=>let ⟨S,hs⟩:=hm;DY _ w t0 jc xL (aM hs)) ⟨rI,?_⟩⟩) (⟨_,rfl,rfl,gU rfl (k:=fun KH=>⟨rI,?_⟩)⟩)
    ·obtain⟨fQ,I5,hM⟩:=bind_some hM;refine jA 4 5 (⟨_,rfl,rfl,jh (fun w hm=>let ⟨S,hs⟩:=hm;qA _ w jc fQ I5 (aM hs)) ⟨rI,?_⟩⟩) (⟨_,rfl,rfl,gU rfl (k:=fun XI=>⟨rI,?_⟩)⟩)
     ·refine aA 5 rfl rfl fun b45=>?_;refine aS 7 rfl b45 (jO eZ) ?_;refine aS 8 rfl FY (jO fQ) ?_;refine bS (dK (b45,FY) hM sS rI)
     refine bT 4 rfl (sV (fun hs=>qA _ _ jc fQ I5 (aM hs)) ⟨rI,?_⟩);refine aS 7 rfl XI (jO eZ) ?_;refine aS 8 rfl FY (jO fQ) ?_;refine bS (dK (XI,FY) hM sS rI)
    refine bT 3 rfl (sV (fun hs=>DY _ _ t0 jc xL (aM hs)) ⟨rI,?_⟩);obtain⟨BX,hy47,hM⟩:=bind_some hM;refine bT 4 rfl (sV (fun hs=>qA _ _ jc BX hy47 (aM hs)) ⟨rI,?_⟩);refine aS 7 rfl KH (jO eZ) ?_;refine aS 8 rfl FY (jO BX) ?_;refine bS (dK (KH,FY) hM sS rI)
  · refine jA 1 6 (⟨_,rfl,rfl,jh (fun w hm=>let ⟨S,hs⟩:=hm;qA _ w s0 eZ uz (aM hs)) ⟨rI,?_⟩⟩) (⟨_,rfl,rfl,gU rfl (k:=fun b48=>⟨rI,?_⟩)⟩)
    ·obtain⟨Xn,ahI,hM⟩:=bind_some hM;refine jA 3 6 (⟨_,rfl,rfl,jh (fun w hm=>let ⟨S,hs⟩:=hm;DY _ w t0 Xn ahI (aM hs)) ⟨rI,?_⟩⟩) (⟨_,rfl,rfl,gU rfl (k:=fun b51=>⟨rI,?_⟩)⟩)
     ·obtain⟨y52,ahJ,hM⟩:=bind_some hM;refine jA 4 6 (⟨_,rfl,rfl,jh (fun w hm=>let ⟨S,hs⟩:=hm;qA _ w Xn y52 ahJ (aM hs)) ⟨rI,?_⟩⟩) (⟨_,rfl,rfl,gU rfl (k:=fun b54=>⟨rI,?_⟩)⟩)
      ·refine aA 6 rfl rfl fun b55=>?_;refine aS 7 rfl b16 (jO eZ) ?_;refine aS 8 rfl b55 (jO y52) ?_;refine bS (dK (b16,b55) hM sS rI)
      refine bT 4 rfl (sV (fun hs=>qA _ _ Xn y52 ahJ (aM hs)) ⟨rI,?_⟩);refine aS 7 rfl b16 (jO eZ) ?_;refine aS 8 rfl b54 (jO y52) ?_;refine bS (dK (b16,b54) hM sS rI)
     refine bT 3 rfl (sV (fun hs=>DY _ _ t0 Xn ahI (aM hs)) ⟨rI,?_⟩);obtain⟨y56,aru,hM⟩:=bind_some hM;refine bT 4 rfl (sV (fun hs=>qA _ _ Xn y56 aru (aM hs)) ⟨rI,?_⟩);refine aS 7 rfl b16 (jO eZ) ?_;refine aS 8 rfl b51 (jO y56) ?_;refine bS (dK (b16,b51) hM sS rI)
    refine bT 1 rfl (sV (fun hs=>qA _ _ s0 eZ uz (aM hs)) ⟨rI,?_⟩);obtain⟨qB,Lx,hM⟩:=bind_some hM;refine bT 3 rfl (sV (fun hs=>DY _ _ t0 qB Lx (aM hs)) ⟨rI,?_⟩);obtain⟨HY,adp,hM⟩:=bind_some hM;refine bT 4 rfl (sV (fun hs=>qA _ _ qB HY adp (aM hs)) ⟨rI,?_⟩);refine aS 7 rfl b16 (jO eZ) ?_;refine aS 8 rfl b48 (jO HY) ?_;refine bS (dK (b16,b48) hM sS rI)
  refine jA 1 5 (⟨_,rfl,rfl,jh (fun w hm=>let ⟨S,hs⟩:=hm;qA _ w s0 eZ uz (aM hs)) ⟨rI,?_⟩⟩) (⟨_,rfl,rfl,gU rfl (k:=fun b62=>⟨rI,?_⟩)⟩)
  · obtain⟨xw,YU,hM⟩:=bind_some hM;refine jA 3 5 (⟨_,rfl,rfl,jh (fun w hm=>let ⟨S,hs⟩:=hm;DY _ w t0 xw YU (aM hs)) ⟨rI,?_⟩⟩) (⟨_,rfl,rfl,gU rfl (k:=fun b65=>⟨rI,?_⟩)⟩)
    ·obtain⟨zw,YV,hM⟩:=bind_some hM;refine jA 4 5 (⟨_,rfl,rfl,jh (fun w hm=>let ⟨S,hs⟩:=hm;qA _ w xw zw YV (aM hs)) ⟨rI,?_⟩⟩) (⟨_,rfl,rfl,gU rfl (k:=fun b68=>⟨rI,?_⟩)⟩)
     ·refine aA 5 rfl rfl fun b69=>?_;refine aS 7 rfl b69 (jO eZ) ?_;refine aS 8 rfl b17 (jO zw) ?_;refine bS (dK (b69,b17) hM sS rI)
     refine bT 4 rfl (sV (fun hs=>qA _ _ xw zw YV (aM hs)) ⟨rI,?_⟩);refine aS 7 rfl b68 (jO eZ) ?_;refine aS 8 rfl b17 (jO zw) ?_;refine bS (dK (b68,b17) hM sS rI)
    refine bT 3 rfl (sV (fun hs=>DY _ _ t0 xw YU (aM hs)) ⟨rI,?_⟩);obtain⟨y70,arA,hM⟩:=bind_some hM;refine bT 4 rfl (sV (fun hs=>qA _ _ xw y70 arA (aM hs)) ⟨rI,?_⟩);refine aS 7 rfl b65 (jO eZ) ?_;refine aS 8 rfl b17 (jO y70) ?_;refine bS (dK (b65,b17) hM sS rI)
  refine bT 1 rfl (sV (fun hs=>qA _ _ s0 eZ uz (aM hs)) ⟨rI,?_⟩);obtain⟨Ey,adt,hM⟩:=bind_some hM;refine bT 3 rfl (sV (fun hs=>DY _ _ t0 Ey adt (aM hs)) ⟨rI,?_⟩);obtain⟨zy,Tk,hM⟩:=bind_some hM;refine bT 4 rfl (sV (fun hs=>qA _ _ Ey zy Tk (aM hs)) ⟨rI,?_⟩);refine aS 7 rfl b62 (jO eZ) ?_;refine aS 8 rfl b17 (jO zy) ?_;refine bS (dK (b62,b17) hM sS rI)
 clear hM;rintro⟨Av,Aw,Bw,Bz⟩ ⟨XW,X5⟩ hM;dsimp only[aaD,cA,nA] at hM ⊢;refine au fun K2 hK2=>?_;refine sr ?_;refine fo 3 ?_;refine kK (fun w hm=>Kn.len (kG l0.Links aD.2.2.2) hm) fun hl4=>?_;refine go ?_;refine lk hM [8,9,20,21] (fun FC=>[(22,eI (FC:Int))]) [2,1,0,0] (fun FC=>[]) ?_;clear hM;rintro aK FC hM eO hL1;dsimp only[Wx,cA,nA] at hM ⊢;refine sr ?_;refine oe gq ?_;refine on ?_;refine au fun K5 dx=>?_;refine co hM (fun iH hM=>?_) (fun iH hM=>?_)
 ·have ao8:=of_decide_eq_true iH;refine cs dx ?_;refine au fun K6 dG=>?_;refine bI ?_;refine sr ?_;refine ixs 6 6 (fun x6=>(yU x6)) (kG l0.Links aD.2.2.2) hM fun x6 hx7 hM=>?_;refine oA rfl fun b8=>?_;refine oS b8 (yU x6) ?_;refine on ?_;refine jk (Nat×Nat) y (k:=afo x6 Av Aw Bw Bz aK FC) [8,9,11,20,21,22] (fun _ (XP,XT)=>[(12,eP XP),(13,eP XT)]) [] (fun _ (XP,XT)=>[own XP 256 [vI x6.A,vI x6.dD],own XT 256 [vI x6.B,vI x6.dN]]) ?_ ?_
  · intro FR hJ3;refine dS _ (List.Sublist.refl _) ?_;refine fa 0 0 ?_;refine fa 2 1 ?_;refine ay 4 rfl (dO [vI x6.A,vI x6.dD]) ?_;refine fa 5 2 ?_;refine fa 7 3 ?_;refine ay 9 rfl (dO [vI x6.B,vI x6.dN]) ?_;refine jA 10 11 (⟨_,rfl,rfl,gU rfl (k:=fun b10=>⟨rI,?_⟩)⟩) (⟨_,rfl,rfl,gU rfl (k:=fun b11=>⟨rI,?_⟩)⟩)
    ·refine aA 11 rfl rfl fun b12=>?_;refine aS 12 rfl b10 [vI x6.A,vI x6.dD] ?_;refine aS 13 rfl b12 [vI x6.B,vI x6.dN] ?_;refine bS (hJ3 (b10,b12) hM sS rI)
    refine aA 10 rfl rfl fun b13=>?_;refine aS 12 rfl b13 [vI x6.A,vI x6.dD] ?_;refine aS 13 rfl b11 [vI x6.B,vI x6.dN] ?_;refine bS (hJ3 (b13,b11) hM sS rI)
  clear hM;rintro⟨⟩ ⟨XP,XT⟩ hM;dsimp only[afo,cA,nA] at hM ⊢;refine go ?_;refine oe (NS [.int .i64,.int .i64] (decide ((lW.mk x6.A x6.dD)=(lW.mk Av Aw))) (Xv _ _)) ?_;refine go ?_;refine bY rfl (NS [.int .i64,.int .i64] (decide ((lW.mk x6.B x6.dN)=(lW.mk Bw Bz))) (Xv _ _)) ?_;refine go ?_;refine bY rfl (NS [.int .i64,.int .i64] (decide ((lW.mk x6.A x6.dD)=(lW.mk Bw Bz))) (Xv _ _)) ?_;refine go ?_;refine bY rfl (NS [.int .i64,.int .i64] (decide ((lW.mk x6.B x6.dN)=(lW.mk Av Aw))) (Xv _ _)) ?_;refine bY rfl rR ?_;refine oe rT ?_;refine oc hM (fun qY hM=>?_) (fun qY hM=>?_)
  · refine go ?_;exact aF (uS hM)
  refine cs dG ?_;refine bg ?_;refine oe (dP (hr:=fun _=>by unfold gN;omega)) ?_;refine om ?_;refine bq (hL1 hM sS rI)
 refine cx hK2 ?_;dsimp only[akh] at hM;refine sr ?_;refine oa ?_;refine aN ?_;exact aF (uS hM)
def afn(EX:List Int):Unit→Option ((List Int)×Int):=fun _=>
 some (EX,0)
def Wu(LX:List Step)(r0:aG)(l0:Layout)(kS:((List Int)×Nat)→Option ((List Int)×Int)):((List Int)×Nat)→Option ((List Int)×Int):=fun (EX,J9)=>
 if decide ((J9:Int)<(LX.length:Int)) then
  ((idx LX (J9:Int)).bind fun x41=>
  (idx r0.Steps (J9:Int)).bind fun Xl=>
  (Wy l0 Xl x41).bind fun BX=>
  if (!BX.2) then
   (some (([]:List Int),11))
  else
   (aO (decide ((EX.length+([BX.1]:List Int).length)*8≤140737488355328))<|
   kS ((EX++([BX.1]:List Int)),J9+1)))
 else
  (afn EX ())
def aaC(r0:aG)(l0:Layout):Unit→Option ((List Int)×Int):=fun _=>
 (sub r0.Steps 1 (r0.Steps.length:Int)).bind fun LX=>
 iter (Wu LX r0 l0) FUEL (([]:List Int),0)
def Wt(r0:aG)(l0:Layout)(eU:((List Bool)×Nat)→Option ((List Int)×Int)):((List Bool)×Nat)→Option ((List Int)×Int):=fun (Gw,Np)=>
 if decide ((Np:Int)<(r0.Steps.length:Int)) then
  ((idx r0.Steps (Np:Int)).bind fun x25=>
  (idx Gw x25.Section).bind fun x28=>
  if x28 then
   (some (([]:List Int),5))
  else
   ((idx Gw x25.Section).bind fun x32=>
   eU ((Gw.set x25.Section.toNat true),Np+1)))
 else
  (aaC r0 l0 ())
def aaB(l0:Layout)(r0:aG):Unit→Option ((List Int)×Int):=fun _=>
 (mk (α:=Bool) false (l0.Sections.length:Int)).bind fun m20=>
 iter (Wt r0 l0) FUEL (m20,0)
def Ws(r0:aG)(l0:Layout)(aK:Nat→Option ((List Int)×Int)):Nat→Option ((List Int)×Int):=fun Nl=>
 if decide ((Nl:Int)<(r0.Steps.length:Int)) then
  ((idx r0.Steps (Nl:Int)).bind fun gK=>
  (aaA l0 gK).bind fun fP=>
  if (!fP) then
   (some (([]:List Int),4))
  else
   (aK (Nl+1)))
 else
  (aaB l0 r0 ())
def Wv(r0:aG)(l0:Layout):Bool→Option ((List Int)×Int):=fun WX=>
 if WX then
  (some (([]:List Int),4))
 else
  (iter (Ws r0 l0) FUEL 0)
def QE(r0:aG)(l0:Layout):Bool→Option ((List Int)×Int):=fun WW=>
 if WW then
  (some (([]:List Int),7))
 else
  (if decide (r0.Overlap<0) then
   (Wv r0 l0 (decide (r0.Overlap<0)))
  else
   (aO (aX ((r0.Steps.length:Int)-r0.Overlap))<|
   Wv r0 l0 (decide (((r0.Steps.length:Int)-r0.Overlap)<2))))
def Ww(l0:Layout)(r0:aG):Option ((List Int)×Int):=
 (Oy l0).bind fun y3=>
 if decide (y3≠0) then
  (some (([]:List Int),1))
 else
  (if decide (24<(r0.Steps.length:Int)) then
   (QE r0 l0 (decide (24<(r0.Steps.length:Int))))
  else
   (QE r0 l0 (decide (2<r0.Overlap))))
theorem avr(S:aW)(w:World)(l0:Layout)(aD:ah.R Layout)(r0:aG)(ak:ah.R aG)(y:(List Int)×Int)(hM:Ww l0 r0=some y)(hS:sB S w)(dQ:ah.ok S w aD l0)(oL:ah.ok S w ak r0):
   Calls Tryz.prog 137 #[.agg (jy l0 aD),.agg (xC r0 ak)] w (Post (β:=(ah.R (List Int))) S [] (fun g=> .tuple #[sL g y.1,vI y.2]) (fun g=>[aj 3 g y.1]) w):=by
 refine bF (args:=[_,_]) Tryz.func137 rfl ((pre_nil hS).start |>.je dQ|>.bG oL) rfl ?_;unfold Ww at hM;refine sr ?_;refine oB (iR l0 aD) fun b1=>?_;refine oB (nV r0 ak) fun b2=>?_;refine oa ?_;refine aN ?_;refine au fun K2 hK2=>?_;refine go ?_;obtain⟨y3,hy4,hM⟩:=bind_some hM;refine cv (fun hs=>ad8 _ _ l0 aD y3 hy4 (aM hs) ⟨(kM hs),(kM hs),(kM hs),(kM hs)⟩) ?_;refine oe nQ ?_;refine aN ?_;refine co hM (fun iH hM=>?_) (fun iH hM=>?_)
 ·refine sr ?_;refine oa ?_;refine aN ?_;refine rn Int 3 (fun _=>()) ?_;obtain rfl:=some_inj hM;refine aF (qZ (fun w hm=>bR zV hm rfl))
 refine jl y (k:=QE r0 l0) [2,3] (fun WW=>[(20,.v (.bool WW))]) [] (fun WW=>[]) ?_ ?_
 ·intro rM dK;refine go ?_;refine co hM (fun Lg hM=>?_) (fun Lg hM=>?_)
  · refine gG (dK hM sS rI)
  refine bg ?_;refine go ?_;refine bq (dK hM sS rI)
 clear hM;rintro WW hM;dsimp only[QE,cA,nA] at hM ⊢;refine co hM (fun jr hM=>?_) (fun jr hM=>?_)
 ·refine sr ?_;refine oa ?_;refine aN ?_;refine rn Int 3 (fun _=>()) ?_;obtain rfl:=some_inj hM;refine aF (qZ (fun w hm=>bR zV hm rfl))
 refine jl y (k:=Wv r0 l0) [2,3] (fun WX=>[(28,.v (.bool WX))]) [] (fun WX=>[]) ?_ ?_
 ·intro zB hJ2;refine go ?_;refine co hM (fun ao4 hM=>?_) (fun ao4 hM=>?_)
  · refine gG (hJ2 hM sS rI)
  refine bg ?_;refine go ?_;refine oN hM fun hM=>?_;refine oe gq ?_;refine oa ?_;refine bq (hJ2 hM sS rI)
 clear hM;rintro WX hM;dsimp only[Wv,cA,nA] at hM ⊢;refine co hM (fun qY hM=>?_) (fun qY hM=>?_)
 ·refine sr ?_;refine oa ?_;refine aN ?_;refine rn Int 3 (fun _=>()) ?_;obtain rfl:=some_inj hM;refine aF (qZ (fun w hm=>bR zV hm rfl))
 refine cs hK2 ?_;refine au fun K7 gu=>?_;refine sr ?_;refine fo 0 ?_;refine kK (fun w hm=>Kn.len (kG r0.Steps ak) hm) fun apC=>?_;refine go ?_;refine lk hM [2,3,40,41] (fun Nl=>[(42,eI (Nl:Int))]) [] (fun Nl=>[]) ?_;clear hM;rintro aK Nl hM eO hL1;dsimp only[Ws,cA,nA] at hM ⊢;refine sr ?_;refine oe gq ?_;refine on ?_;refine au fun tC jC=>?_;refine co hM (fun mP hM=>?_) (fun mP hM=>?_)
 ·have axf:=of_decide_eq_true mP;refine cs jC ?_;refine au fun nG gH=>?_;refine bI ?_;refine sr ?_;refine ixs 2 2 (fun gK=>(qd gK)) (kG r0.Steps ak) hM fun gK uw hM=>?_;refine oA rfl fun b15=>?_;refine oS b15 (qd gK) ?_;refine go ?_;obtain⟨fP,yN,hM⟩:=bind_some hM;refine cv (fun hs=>avp _ _ l0 aD gK fP yN (aM hs) ⟨(kM hs),(kM hs),(kM hs),(kM hs)⟩) ?_;refine oe iC ?_;refine oc hM (fun hc18 hM=>?_) (fun hc18 hM=>?_)
  · refine sr ?_;refine oa ?_;refine aN ?_;refine rn Int 3 (fun _=>()) ?_;obtain rfl:=some_inj hM;refine aF (qZ (fun w hm=>bR zV hm rfl))
  refine cs gH ?_;refine bg ?_;refine oe (dP (hr:=fun _=>by unfold gN;omega)) ?_;refine om ?_;refine bq (hL1 hM sS rI)
 refine cx gu ?_;dsimp only[aaB] at hM;refine go ?_;obtain⟨m20,apG,hM⟩:=bind_some hM;refine bf (ak1 (α:=Bool) (e:=4) false () apG (fun _ _=>trivial) (fun Bg axz=>?_));refine aN ?_;refine au fun EB rU=>?_;refine sr ?_;refine fo 0 ?_;refine kK (fun w hm=>Kn.len (kG r0.Steps ak) hm) fun axv=>?_;refine go ?_;refine lk hM [2,3,56,57] (fun (Gw,Np)=>[(8,eS Bg Gw),(58,eI (Np:Int))]) [0] (fun (Gw,Np)=>[aj 4 Bg Gw]) ?_;clear hM;rintro eU ⟨Gw,Np⟩ hM xA hL2;dsimp only[Wt,cA,nA] at hM ⊢;refine sr ?_;refine oe gq ?_;refine on ?_;refine au fun Ca pY=>?_;refine co hM (fun hc24 hM=>?_) (fun hc24 hM=>?_)
 ·have axj:=of_decide_eq_true hc24;refine cs pY ?_;refine au fun EC rV=>?_;refine bI ?_;refine sr ?_;refine ixs 2 2 (fun x25=>(qd x25)) (kG r0.Steps ak) hM fun x25 Gl hM=>?_;refine oA rfl fun XH=>?_;refine oS XH (qd x25) ?_;refine on ?_;refine au fun Rc Dy=>?_;refine aR ?_;refine fo 0 ?_;refine zP 1 (Kn.aj (e:=4) (r:=Bg) hA) hM fun x28 hx29 hM=>?_;refine oc hM (fun Lf hM=>?_) (fun Lf hM=>?_)
  · refine sr ?_;refine oa ?_;refine aN ?_;refine rn Int 3 (fun _=>()) ?_;obtain rfl:=some_inj hM;refine aF (qZ (fun w hm=>bR zV hm rfl))
  refine cs Dy ?_;refine bg ?_;refine om ?_;refine fo 0 ?_;obtain⟨x32,IY,hM⟩:=bind_some hM;refine oe (dL 1 (Kn.aj (e:=4) (r:=Bg) hA) (iS IY)) ?_;refine bf (Nf (r:=Bg) (i:=x25.Section) (xs:=Gw) (u:=x32) (vs:=[.bool true]) 0 true IY rfl (fun _ _ h=>h) uA ?_);have hx34:=Gn (u:=true) IY;refine bq (rV _ _ ?_);refine bg ?_;refine oe (dP (hr:=fun _=>by unfold gN;omega)) ?_;refine om ?_;refine bq (hL2 hM ⟨(by simp only[List.length_set,eS,sL];rfl),rfl,rfl,rfl,rfl,rfl,trivial⟩ rI)
 refine cx rU ?_;dsimp only[aaC] at hM;refine aJ ?_;refine au fun Rf Dz=>?_;refine sr ?_;refine fo 0 ?_;obtain⟨LX,apE,hM⟩:=bind_some hM;refine bf (J3 (r:=ak) (xs:=r0.Steps) (ol:=some (.i64,1)) (oh:=none) (Sk.dw (α:=List Step) (r:=ak) (x:=r0.Steps) hA) apE (fun U2=>?_));refine kK (fun w hm=>Kn.len (kG LX U2) hm) fun axw=>?_;refine go ?_;refine rn Int 3 (fun _=>()) ?_;refine lr zV hM [2,3,74,75] (fun (EX,J9) QB=>[(11,eS QB EX),(76,eI (J9:Int))]) [0,1] (fun (EX,J9) QB=>[aj 3 QB EX]) ?_;clear hM;rintro kS ⟨EX,J9⟩ QB hM H8 hL3;dsimp only[Wu,cA,nA] at hM ⊢;refine sr ?_;refine oe gq ?_;refine on ?_;refine au fun NI Ay=>?_;refine co hM (fun YE hM=>?_) (fun YE hM=>?_)
 ·have axl:=of_decide_eq_true YE;refine cs Ay ?_;refine au fun Rh DC=>?_;refine bI ?_;refine aR ?_;refine ixs 2 2 (fun x41=>(qd x41)) (kG LX U2) hM fun x41 Lr hM=>?_;refine oA rfl fun b43=>?_;refine oa ?_;refine oS b43 (qd x41) ?_;refine on ?_;refine au fun K32 Si=>?_;refine dS _ (List.Sublist.refl _) ?_;refine ay 0 rfl fC ?_;refine fa 1 0 ?_;refine am 3 ?_;refine kH 4 2 2 (fun Xl=>(qd Xl)) (kG r0.Steps ak) hM fun Xl adi hM=>?_;refine ay 6 rfl fC ?_;obtain⟨BX,hy47,hM⟩:=bind_some hM;refine bT 7 rfl (sV (fun hs=>avt _ _ l0 aD Xl x41 BX hy47 (aM hs) ⟨(kM hs),(kM hs),(kM hs),(kM hs)⟩) ⟨rI,?_⟩);refine am 8 ?_;refine ay 9 rfl (bU (vs:=[vI BX.1,.bool BX.2])) ?_;refine ay 10 rfl (bU (vs:=[vI BX.1,.bool BX.2])) ?_;refine ay 11 rfl eX ?_;refine ay 12 rfl eX ?_;refine bS (Si _ _ ?_);refine au fun K33 IK=>?_;refine aR ?_;refine oe iC ?_;refine oc hM (fun acS hM=>?_) (fun acS hM=>?_)
  · refine sr ?_;refine oa ?_;refine aN ?_;refine rn Int 3 (fun _=>()) ?_;obtain rfl:=some_inj hM;refine aF (qZ (fun w hm=>bR zV hm rfl))
  refine cs IK ?_;refine bg ?_;refine om ?_;refine om ?_;refine bf (fI (α:=Int) 3 (fun _=>()) ([BX.1]:List Int) oF (fun Pw=>?_));obtain⟨aoM,hM⟩:=bQ hM;refine bf (iq (r:=QB) (r2:=Pw) uR (Kn.aj (e:=3) (r:=Pw) hA) oF (of_decide_eq_true aoM) (fun r51=>?_));refine oa ?_;refine bq (DC _ _ ?_);refine bg ?_;refine oe (dP (hr:=fun _=>by unfold gN;omega)) ?_;refine om ?_;refine bq (hL3 r51 hM sS rI)
 refine cx Dz ?_;dsimp only[afn] at hM;refine aR ?_;refine oa ?_;refine aN ?_;obtain rfl:=some_inj hM;refine aF (qZ (fun w hm=>bR QB hm rfl))
def QC(l0:Layout)(r0:aG):Option Int:=
 (Ww l0 r0).bind fun y3=>
 some y3.2
theorem akg(S:aW)(w:World)(l0:Layout)(aD:ah.R Layout)(r0:aG)(ak:ah.R aG)(y:Int)(hM:QC l0 r0=some y)(hS:sB S w)(dQ:ah.ok S w aD l0)(oL:ah.ok S w ak r0):
  Calls Tryz.prog 82 #[.agg (jy l0 aD),.agg (xC r0 ak)] w (bM w (vI y)):=by
 refine bF (args:=[_,_]) Tryz.func82 rfl ((pre_nil hS).start |>.je dQ|>.bG oL) rfl ?_;unfold QC at hM;refine sr ?_;refine oB (iR l0 aD) fun b1=>?_;refine oB (nV r0 ak) fun b2=>?_;refine go ?_;obtain⟨y3,hy4,hM⟩:=bind_some hM;refine bf (fu iO.nil (fun S w hs hP=>avr _ w l0 aD r0 ak y3 hy4 (aM hs) ⟨(kM hs),(kM hs),(kM hs),(kM hs)⟩ (kM hs)) fG (fun r5=>?_));dsimp only[cA,nA];refine om ?_;refine oe (bU (vs:=[sL r5 y3.1,vI y3.2])) ?_;refine oe (bU (vs:=[sL r5 y3.1,vI y3.2])) ?_;refine go ?_;exact aF (aZ hM)
end Go.Proofs.YtcalibhfgdncaaaGreatDoor
