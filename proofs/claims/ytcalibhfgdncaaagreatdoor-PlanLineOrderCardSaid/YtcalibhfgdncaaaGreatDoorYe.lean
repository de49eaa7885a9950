/- Functions: models, proved of the code. -/
import Derived.Test.YtcalibhfgdncaaaGreatDoorYc
import Derived.Test.YtcalibhfgdncaaaGreatDoorRa
namespace Go.Proofs.YtcalibhfgdncaaaGreatDoor
open Go.Dc Go.RowKit
attribute [local irreducible] CW OW AW AZ Ev
set_option maxHeartbeats 0
set_option maxRecDepth 10000
set_option linter.all false
def aj7:Unit→Option Int:=fun _=>
 some (-1)
def aap(x0:iN)(s0:Str)(aK:Nat→Option Int):Nat→Option Int:=fun aH=>
 if decide ((aH:Int)<(x0.l.Sections.length:Int)) then
  ((idx x0.l.Sections (aH:Int)).bind fun x2=>
  if decide (x2.Name=s0) then
   (some (aH:Int))
  else
   (aO (aX ((aH:Int)+1))<|
   aK (aH+1)))
 else
  (aj7 ())
def V5(x0:iN)(s0:Str):Option Int:=
 iter (aap x0 s0) FUEL 0
theorem auX(S:aW)(w:World)(eT:Nat)(x0:iN)(aC:ah.R iN)(s0:Str)(y:Int)(hM:V5 x0 s0=some y)(hS:sB S w)(SA:S eT∧w.heap[eT]?=some (.cells (vH x0 aC).toArray 158 (0,0)))(EP:ah.ok S w aC x0):
   Calls Tryz.prog 177 #[vP eT,.string s0.ba] w (bM w (vI y)):=by
 refine bF (args:=[_,_]) Tryz.func177 rfl ((pre_nil hS).start |>.mJ SA|>.je EP.1|>.jZ EP.2) rfl ?_;unfold V5 at hM;refine aJ ?_;refine au fun K2 hK2=>?_;refine aJ ?_;refine bI ?_;refine lk hM [0,1] (fun aH=>[(5,eI (aH:Int))]) [] (fun aH=>[]) ?_;clear hM;rintro aK aH hM eO hL1;dsimp only[aap,cA,nA] at hM ⊢;refine au fun K4 hK4=>?_;refine go ?_;refine oe (o7 (b:=eT)) ?_;refine oe jq ?_;refine oe gq ?_;refine oc hM (fun hc1 hM=>?_) (fun hc1 hM=>?_)
 ·refine cs hK4 ?_;refine au fun K6 dG=>?_;refine go ?_;refine oe (o7 (b:=eT)) ?_;refine om ?_;refine ix 5 0 (kG x0.l.Sections aC.1.2.2.1) hM fun x2 hx3 hM=>?_;refine om ?_;refine oe xI ?_;refine oc hM (fun hc4 hM=>?_) (fun hc4 hM=>?_)
  · refine aR ?_;refine aN ?_;exact aF (aZ hM)
  refine cs dG ?_;refine bg ?_;refine om ?_;refine oP hM fun hM=>?_;refine oa ?_;refine bq (hL1 hM sS rI)
 refine cx hK2 ?_;dsimp only[aj7] at hM;refine aJ ?_;exact aF (aZ hM)
def Qu(nU:List Step)(fP:Int)(gM:Int)(eU:((List Step)×Int)→Option (Int×(List aG))):Int→Option (Int×(List aG)):=fun Bu=>
 aO (decide ((nU.length+([(Step.mk fP Bu)]:List Step).length)*16≤140737488355328))<|
 aO (aX (gM+2))<|
 eU ((nU++([(Step.mk fP Bu)]:List Step)),(gM+2))
def afe(x0:iN)(nU:List Step)(xY:Int):Unit→Option (Int×(List aG)):=fun _=>
 aO (decide ((x0.p.Routes.length+([(aG.mk nU xY)]:List aG).length)*32≤140737488355328))<|
 some (0,(x0.p.Routes++([(aG.mk nU xY)]:List aG)))
def JD(zX:Int)(p1:List Word)(x0:iN)(xY:Int)(eU:((List Step)×Int)→Option (Int×(List aG))):((List Step)×Int)→Option (Int×(List aG)):=fun (nU,gM)=>
 if decide (gM<zX) then
  ((idx p1 gM).bind fun qm=>
  (V5 x0 qm.Text).bind fun fP=>
  if decide (fP<0) then
   (some (3,x0.p.Routes))
  else
   (aO (aX (gM+1))<|
   (idx p1 (gM+1)).bind fun x25=>
   if decide (x25.Text=(⟨[100,111,119,110]⟩:Str)) then
    (Qu nU fP gM eU 1)
   else
    (Qu nU fP gM eU 0)))
 else
  (afe x0 nU xY ())
def V3(zX:Int)(p1:List Word)(x0:iN)(xY:Int):Unit→Option (Int×(List aG)):=fun _=>
 iter (JD zX p1 x0 xY) FUEL (([]:List Step),1)
def JC(zX:Int)(p1:List Word)(x0:iN)(xY:Int)(aK:Int→Option (Int×(List aG))):Int→Option (Int×(List aG)):=fun aH=>
 if decide (aH<zX) then
  (aO (aX (aH+1))<|
  (idx p1 (aH+1)).bind fun x6=>
  aO (!(!decide (x6.Text=(⟨[117,112]⟩:Str)))||aX (aH+1))<|
  (dH (!decide (x6.Text=(⟨[117,112]⟩:Str))) default (idx p1 (aH+1))).bind fun x9=>
  if ((!decide (x6.Text=(⟨[117,112]⟩:Str)))&&(!decide (x9.Text=(⟨[100,111,119,110]⟩:Str)))) then
   (some (2,x0.p.Routes))
  else
   (aO (aX (aH+2))<|
   aK (aH+2)))
 else
  (V3 zX p1 x0 xY ())
def GR(x0:iN)(p1:List Word):(Int×Int)→Option (Int×(List aG)):=fun (zX,xY)=>
 if (decide (zX<3)||decide ((zX.tmod 2)=0)) then
  (some (2,x0.p.Routes))
 else
  (iter (JC zX p1 x0 xY) FUEL 1)
def V4(x0:iN)(p1:List Word):Option (Int×(List aG)):=
 aO (!(decide (((p1.length:Int).tmod 2)=1)&&decide (5≤(p1.length:Int)))||aX ((p1.length:Int)-2))<|
 (dH (decide (((p1.length:Int).tmod 2)=1)&&decide (5≤(p1.length:Int))) default (idx p1 ((p1.length:Int)-2))).bind fun x32=>
 if ((decide (((p1.length:Int).tmod 2)=1)&&decide (5≤(p1.length:Int)))&&decide (x32.Text=(⟨[111,118,101,114,108,97,112]⟩:Str))) then
  (aO (aX ((p1.length:Int)-1))<|
  (idx p1 ((p1.length:Int)-1)).bind fun zu=>
  (tT zu.Text).bind fun y38=>
  if y38.2 then
   (aO (aX ((p1.length:Int)-2))<|
   GR x0 p1 (((p1.length:Int)-2),y38.1))
  else
   (GR x0 p1 ((p1.length:Int),0)))
 else
  (GR x0 p1 ((p1.length:Int),0))
theorem auW(S:aW)(w:World)(eT:Nat)(x0:iN)(aC:ah.R iN)(p1:List Word)(cZ:ah.R (List Word))(y:Int×(List aG))(hM:V4 x0 p1=some y)(hP:Pre S [own eT 158 (vH x0 aC),aj 71 aC.2.1 x0.p.aP,aj 90 aC.2.2.1 x0.p.Routes,bP (fun _=>True) 56 58 aC.2.2.2.1 x0.p.Lines,aj 79 aC.2.2.2.2.1 x0.p.Changes,aj 94 aC.2.2.2.2.2.1 x0.p.Turns,aj 84 aC.2.2.2.2.2.2.1 x0.p.bB,aj 86 aC.2.2.2.2.2.2.2 x0.p.bA] w)(Az:ah.ok (α:=List Str) S w aC.1.1 x0.l.aT)(AA:ah.ok (α:=List Str) S w aC.1.2.1 x0.l.bE)(AB:ah.ok (α:=List Section) S w aC.1.2.2.1 x0.l.Sections)(AJ:ah.ok (α:=List Link) S w aC.1.2.2.2 x0.l.Links)(um:ah.ok S w cZ p1):
   Calls Tryz.prog 141 #[vP eT,sL cZ p1] w (Post (β:=(SR (ah.R aG))) S [own eT 158 (vH x0 aC),aj 71 aC.2.1 x0.p.aP,aj 90 aC.2.2.1 x0.p.Routes,bP (fun _=>True) 56 58 aC.2.2.2.1 x0.p.Lines,aj 79 aC.2.2.2.2.1 x0.p.Changes,aj 94 aC.2.2.2.2.2.1 x0.p.Turns,aj 84 aC.2.2.2.2.2.2.1 x0.p.bB,aj 86 aC.2.2.2.2.2.2.2 x0.p.bA] (fun g=>vI y.1) (fun g=>[own eT 158 [sL aC.1.1 x0.l.aT,sL aC.1.2.1 x0.l.bE,sL aC.1.2.2.1 x0.l.Sections,sL aC.1.2.2.2 x0.l.Links,vI x0.p.bJ,sL aC.2.1 x0.p.aP,sL g y.2,sL aC.2.2.2.1 x0.p.Lines,sL aC.2.2.2.2.1 x0.p.Changes,sL aC.2.2.2.2.2.1 x0.p.Turns,sL aC.2.2.2.2.2.2.1 x0.p.bB,sL aC.2.2.2.2.2.2.2 x0.p.bA,vI x0.periods],aj 71 aC.2.1 x0.p.aP,aj 90 g y.2,bP (fun _=>True) 56 58 aC.2.2.2.1 x0.p.Lines,aj 79 aC.2.2.2.2.1 x0.p.Changes,aj 94 aC.2.2.2.2.2.1 x0.p.Turns,aj 84 aC.2.2.2.2.2.2.1 x0.p.bB,aj 86 aC.2.2.2.2.2.2.2 x0.p.bA]) w):=by
 refine bF (args:=[_,_]) Tryz.func141 rfl (hP.start |>.bG Az|>.bG AA|>.bG AB|>.bG AJ|>.bG um) rfl ?_;unfold V4 at hM;refine go ?_;refine oe (dO [z0,vI 0]) ?_;refine oA rfl fun b1=>?_;refine oS b1 [z0,vI 0] ?_;refine on ?_;refine jl y (k:=GR x0 p1) [0,1,6] (fun (zX,xY)=>[(5,eI zX)]) [0] (fun (zX,xY)=>[own b1 90 [z0,vI xY]]) ?_ ?_
 ·intro rM dK;refine aR ?_;refine oe Au ?_;refine go ?_;obtain⟨anV,hM⟩:=bQ hM;refine bY rfl (pW (hr:=fun hg=>dU (yJ anV hg))) ?_;obtain⟨x32,IY,hM⟩:=bind_some hM;refine bY rfl (dL 3 (kG p1 cZ) (fun hg=>let h:=jX (cu IY hg);⟨h.1,h.2.1⟩)) ?_;refine bY rfl (aY 0) ?_;refine bY rfl (dY 0 (kG p1 cZ) (fun hg=>cu IY hg)) ?_;refine go ?_;refine co hM (fun hc34 hM=>?_) (fun hc34 hM=>?_)
  · refine aR ?_;refine om ?_;refine oN hM fun hM=>?_;refine ix 3 0 (kG p1 cZ) hM fun zu ahG hM=>?_;obtain⟨y38,hy39,hM⟩:=bind_some hM;refine cv (fun hs=>yc _ _ zu.Text y38 hy39 (aM hs)) ?_;refine om ?_;refine oe (bU (vs:=[vI y38.1,.bool y38.2])) ?_;refine oe (bU (vs:=[vI y38.1,.bool y38.2])) ?_;refine oa ?_;refine aN ?_;refine aR ?_;refine oc hM (fun YE hM=>?_) (fun YE hM=>?_)
    ·refine aR ?_;refine oe (aY 1) ?_;refine kY ?_;refine on ?_;refine bg ?_;refine om ?_;refine oN hM fun hM=>?_;refine oa ?_;refine bq (dK hM sS rI)
    refine gG (dK hM sS rI)
  refine gG (dK hM sS rI)
 clear hM;rintro⟨zX,xY⟩ hM;dsimp only[GR,cA,nA] at hM ⊢;refine au fun K4 hK4=>?_;refine go ?_;refine bY rfl Au ?_;refine bY rfl oK ?_;refine oe rT ?_;refine oc hM (fun hc2 hM=>?_) (fun hc2 hM=>?_)
 ·refine aJ ?_;obtain rfl:=some_inj hM;refine aF (eG (fun w hm=>bR aC.2.2.1 hm rfl))
 refine cs hK4 ?_;refine au fun K7 gu=>?_;refine aJ ?_;refine bI ?_;refine rn Step 92 (fun _=>()) ?_;refine lk hM [0,1,5,6] (fun aH=>[(9,eI aH)]) [] (fun aH=>[]) ?_;clear hM;rintro aK aH hM eO hL1;dsimp only[JC,cA,nA] at hM ⊢;refine au fun K9 fH=>?_;refine go ?_;refine co hM (fun hc4 hM=>?_) (fun hc4 hM=>?_)
 ·refine cs fH ?_;refine au fun nG gH=>?_;refine bI ?_;refine aR ?_;refine om ?_;refine oP hM fun hM=>?_;refine ix 3 0 (kG p1 cZ) hM fun x6 hx7 hM=>?_;refine go ?_;obtain⟨La,hM⟩:=bQ hM;refine bY rfl (dP (hr:=fun hg=>dU (yJ La hg))) ?_;obtain⟨x9,sj,hM⟩:=bind_some hM;refine bY rfl (dL 3 (kG p1 cZ) (fun hg=>let h:=jX (cu sj hg);⟨h.1,h.2.1⟩)) ?_;refine bY rfl (aY 0) ?_;refine bY rfl (dY 0 (kG p1 cZ) (fun hg=>cu sj hg)) ?_;refine go ?_;refine co hM (fun rY hM=>?_) (fun rY hM=>?_)
  · refine aJ ?_;obtain rfl:=some_inj hM;refine aF (eG (fun w hm=>bR aC.2.2.1 hm rfl))
  refine cs gH ?_;refine bg ?_;refine om ?_;refine oP hM fun hM=>?_;refine oa ?_;refine bq (hL1 hM sS rI)
 refine cx gu ?_;dsimp only[V3] at hM;refine au fun yu mX=>?_;refine aJ ?_;refine bI ?_;refine lr uF hM [0,1,5,6] (fun (nU,gM) Af=>[(10,eI gM)]) [0,0] (fun (nU,gM) Af=>[aj 92 Af nU,own b1 90 [sL Af nU,vI xY]]) ?_;clear hM;rintro eU ⟨nU,gM⟩ Af hM xA hL2;dsimp only[JD,cA,nA] at hM ⊢;refine au fun EB rU=>?_;refine go ?_;refine co hM (fun zM hM=>?_) (fun zM hM=>?_)
 ·refine cs rU ?_;refine au fun H7 wo=>?_;refine go ?_;refine ix 3 0 (kG p1 cZ) hM fun qm Lm hM=>?_;obtain⟨fP,yN,hM⟩:=bind_some hM;refine cv (fun hs=>auX _ _ eT x0 aC qm.Text fP yN (aM hs) (lQ hA hs) ⟨⟨(kM hs),(kM hs),(kM hs),(kM hs)⟩,⟨(kT hs),(kT hs),(Kn.lend (Kn.bP (e:=56) (e2:=58) (r:=aC.2.2.2.1) hA) hs),(kT hs),(kT hs),(kT hs),(kT hs)⟩⟩) ?_;refine oe (dO [vI fP,vI 0]) ?_;refine oA rfl fun b18=>?_;refine oS b18 [vI fP,vI 0] ?_;refine on ?_;refine au fun EC rV=>?_;refine go ?_;refine co hM (fun hc19 hM=>?_) (fun hc19 hM=>?_)
  · refine aJ ?_;obtain rfl:=some_inj hM;refine aF (eG (fun w hm=>bR aC.2.2.1 hm rfl))
  refine cs rV ?_;refine jl y (k:=Qu nU fP gM eU) [0,1,5,6,10,11] (fun Bu=>[]) [0] (fun Bu=>[own b18 92 [vI fP,vI Bu]]) ?_ ?_
  · intro Xq yK;refine aR ?_;refine om ?_;refine oP hM fun hM=>?_;refine ix 3 0 (kG p1 cZ) hM fun x25 Gl hM=>?_;refine oe xI ?_;refine oc hM (fun hc27 hM=>?_) (fun hc27 hM=>?_)
    ·refine bg ?_;refine oe (aY 1) ?_;refine kY ?_;refine bq (yK hM sS rI)
    refine gG (yK hM sS rI)
  clear hM;rintro Bu hM;dsimp only[Qu,cA,nA] at hM ⊢;refine bg ?_;refine fo 0 ?_;refine oe fC ?_;refine bf (fI (α:=Step) 92 (fun _=>()) ([(Step.mk fP Bu)]:List Step) oF (fun za=>?_));obtain⟨Sr,hM⟩:=bQ hM;refine bf (iq (r:=Af) (r2:=za) uR (Kn.aj (e:=92) (r:=za) hA) oF (of_decide_eq_true Sr) (fun ze=>?_));refine oe (aY 0) ?_;refine kY ?_;refine bq (wo _ _ ?_);refine bg ?_;refine om ?_;refine oP hM fun hM=>?_;refine oa ?_;refine bq (hL2 ze hM sS rI)
 refine cx mX ?_;dsimp only[afe] at hM;refine au fun Xo Gg=>?_;refine kZ [0,8] 12 ?_;refine zm 0 ?_;refine zm 1 ?_;refine aI 2 rfl dF ?_;refine aI 3 rfl (aY 4) ?_;refine fz 4 2 ?_;refine aI 6 rfl fC ?_;refine vg (fun w hm=>hm.freeze (r:=Af) uA) ?_;refine cK 7 rfl (fI (α:=aG) 90 (fun _=>Af) ([(aG.mk nU xY)]:List aG) (jV.cons (fun S w hs=>(kI hs)) jV.nil) (fun Jr=>⟨rI,?_⟩));obtain⟨acM,hM⟩:=bQ hM;refine cK 8 rfl (iq (r:=aC.2.2.1) (r2:=Jr) uR (Kn.aj (e:=90) (r:=Jr) hA) (jV.row (e:=90) (r:=Jr) hA) (of_decide_eq_true acM) (fun U1=>⟨rI,?_⟩));refine aI 9 rfl dF ?_;refine aI 10 rfl (aY 4) ?_;refine aI 11 rfl (aY 2) ?_;refine iX rfl (sO ?_);refine iW (Gg _ _ ?_);refine aJ ?_;obtain rfl:=some_inj hM;refine aF (eG (fun w hm=>bR U1 hm rfl))
def afd(kV:List Int):Unit→Option ((List Int)×Bool):=fun _=>
 some (kV,true)
def VU(p0:List Word)(aK:((List Int)×Nat)→Option ((List Int)×Bool)):((List Int)×Nat)→Option ((List Int)×Bool):=fun (kV,aH)=>
 if decide ((aH:Int)<(p0.length:Int)) then
  ((idx p0 (aH:Int)).bind fun x3=>
  (tT x3.Text).bind fun y5=>
  if (!y5.2) then
   (some (([]:List Int),false))
  else
   (aO (decide ((kV.length+([y5.1]:List Int).length)*8≤140737488355328))<|
   aO (aX ((aH:Int)+1))<|
   aK ((kV++([y5.1]:List Int)),aH+1)))
 else
  (afd kV ())
def Qs(p0:List Word):Option ((List Int)×Bool):=
 iter (VU p0) FUEL (([]:List Int),0)
theorem aj5(S:aW)(w:World)(p0:List Word)(av:ah.R (List Word))(y:(List Int)×Bool)(hM:Qs p0=some y)(hS:sB S w)(eF:ah.ok S w av p0):
   Calls Tryz.prog 178 #[sL av p0] w (Post (β:=(ah.R (List Int))) S [] (fun g=> .tuple #[sL g y.1,.bool y.2]) (fun g=>[aj 3 g y.1]) w):=by
 refine bF (args:=[_]) Tryz.func178 rfl ((pre_nil hS).start |>.bG eF) rfl ?_;unfold Qs at hM;refine go ?_;refine au fun K3 hK3=>?_;refine aJ ?_;refine bI ?_;refine rn Int 3 (fun _=>()) ?_;refine lr zV hM [0] (fun (kV,aH) sM=>[(4,eS sM kV),(5,eI (aH:Int))]) [0] (fun (kV,aH) sM=>[aj 3 sM kV]) ?_;clear hM;rintro aK ⟨kV,aH⟩ sM hM eO hL1;dsimp only[VU,cA,nA] at hM ⊢;refine au fun K5 dx=>?_;refine go ?_;refine co hM (fun hc2 hM=>?_) (fun hc2 hM=>?_)
 ·refine cs dx ?_;refine au fun K7 gu=>?_;refine bI ?_;refine aR ?_;refine om ?_;refine ix 3 0 (kG p0 av) hM fun x3 hx4 hM=>?_;obtain⟨y5,jW,hM⟩:=bind_some hM;refine cv (fun hs=>yc _ _ x3.Text y5 jW (aM hs)) ?_;refine om ?_;refine oe (bU (vs:=[vI y5.1,.bool y5.2])) ?_;refine oe (bU (vs:=[vI y5.1,.bool y5.2])) ?_;refine oa ?_;refine aN ?_;refine au fun K9 fH=>?_;refine aR ?_;refine oe iC ?_;refine oc hM (fun jr hM=>?_) (fun jr hM=>?_)
  · refine sr ?_;refine oa ?_;refine aN ?_;refine rn Int 3 (fun _=>()) ?_;obtain rfl:=some_inj hM;refine aF (qZ (fun w hm=>bR zV hm rfl))
  refine cs fH ?_;refine bg ?_;refine om ?_;refine om ?_;refine bf (fI (α:=Int) 3 (fun _=>()) ([y5.1]:List Int) oF (fun r9=>?_));obtain⟨aox,hM⟩:=bQ hM;refine bf (iq (r:=sM) (r2:=r9) uR (Kn.aj (e:=3) (r:=r9) hA) oF (of_decide_eq_true aox) (fun MB=>?_));refine oa ?_;refine bq (gu _ _ ?_);refine bg ?_;refine om ?_;refine oP hM fun hM=>?_;refine oa ?_;refine bq (hL1 MB hM sS rI)
 refine cx hK3 ?_;dsimp only[afd] at hM;refine aR ?_;refine oa ?_;refine aN ?_;obtain rfl:=some_inj hM;refine aF (qZ (fun w hm=>bR sM hm rfl))
def aeT:Unit→Option (Int×Int×Bool):=fun _=>
 some (0,0,false)
def ML(s0:Str)(aK:Nat→Option (Int×Int×Bool)):Nat→Option (Int×Int×Bool):=fun aH=>
 aO (aX ((aH:Int)+1))<|
 if decide (((aH:Int)+1)<(s0.l.length:Int)) then
  ((kD s0 (aH:Int)).bind fun c3=>
  aO (!(decide (c3=46))||aX ((aH:Int)+1))<|
  (dH (decide (c3=46)) 0 (kD s0 ((aH:Int)+1))).bind fun c6=>
  if (decide (c3=46)&&decide (c6=46)) then
   ((ji s0 0 (aH:Int)).bind fun q9=>
   (tT q9).bind fun dR=>
   aO (aX ((aH:Int)+2))<|
   (ji s0 ((aH:Int)+2) (s0.l.length:Int)).bind fun q14=>
   (tT q14).bind fun fP=>
   if (((!dR.2)||(!fP.2))||decide (fP.1<dR.1)) then
    (some (0,0,false))
   else
    (some (dR.1,fP.1,true)))
  else
   (aO (aX ((aH:Int)+1))<|
   aK (aH+1)))
 else
  (aeT ())
def P7(s0:Str):Option (Int×Int×Bool):=
 iter (ML s0) FUEL 0
theorem aeU(S:aW)(w:World)(s0:Str)(y:Int×Int×Bool)(hM:P7 s0=some y)(hS:sB S w):
   Calls Tryz.prog 179 #[.string s0.ba] w (bM w (.tuple #[vI y.1,vI y.2.1,.bool y.2.2])):=by
 refine bF (args:=[_]) Tryz.func179 rfl ((pre_nil hS).start) rfl ?_;unfold P7 at hM;refine go ?_;refine au fun K2 hK2=>?_;refine aJ ?_;refine bI ?_;refine lk hM [0] (fun aH=>[(5,eI (aH:Int))]) [] (fun aH=>[]) ?_;clear hM;rintro aK aH hM eO hL1;dsimp only[ML,cA,nA] at hM ⊢;refine au fun K4 hK4=>?_;refine aR ?_;refine oP hM fun hM=>?_;refine go ?_;refine co hM (fun hc2 hM=>?_) (fun hc2 hM=>?_)
 ·refine cs hK4 ?_;refine au fun K6 dG=>?_;refine bI ?_;refine aR ?_;refine om ?_;obtain⟨c3,acV,hM⟩:=bind_some hM;refine oe (pV (fun _=>acV)) ?_;refine go ?_;obtain⟨hI5,hM⟩:=bQ hM;refine bY rfl (dP (hr:=fun hg=>dU (yJ hI5 hg))) ?_;obtain⟨c6,SK,hM⟩:=bind_some hM;refine bY rfl (pV (cu SK)) ?_;refine go ?_;refine co hM (fun hc8 hM=>?_) (fun hc8 hM=>?_)
  · refine aR ?_;refine om ?_;obtain⟨q9,Lj,hM⟩:=bind_some hM;refine oe (vZ (ol:=none) (oh:=some (.i64,(aH:Int))) (fun _=>Lj)) ?_;obtain⟨dR,uy,hM⟩:=bind_some hM;refine cv (fun hs=>yc _ _ q9 dR uy (aM hs)) ?_;refine om ?_;refine oe (bU (vs:=[vI dR.1,.bool dR.2])) ?_;refine oe (bU (vs:=[vI dR.1,.bool dR.2])) ?_;refine go ?_;refine oP hM fun hM=>?_;obtain⟨q14,apZ,hM⟩:=bind_some hM;refine oe (vZ (ol:=some (.i64,((aH:Int)+2))) (oh:=none) (fun _=>apZ)) ?_;obtain⟨fP,yN,hM⟩:=bind_some hM;refine cv (fun hs=>yc _ _ q14 fP yN (aM hs)) ?_;refine om ?_;refine oe (bU (vs:=[vI fP.1,.bool fP.2])) ?_;refine oe (bU (vs:=[vI fP.1,.bool fP.2])) ?_;refine oa ?_;refine aN ?_;refine au fun tC jC=>?_;refine go ?_;refine co hM (fun hc18 hM=>?_) (fun hc18 hM=>?_)
    ·refine go ?_;exact aF (JO hM)
    refine cs jC ?_;refine go ?_;exact aF (JO hM)
  refine cs dG ?_;refine bg ?_;refine om ?_;refine oP hM fun hM=>?_;refine oa ?_;refine bq (hL1 hM sS rI)
 refine cx hK2 ?_;dsimp only[aeT] at hM;refine go ?_;exact aF (JO hM)
def Qt(x0:iN)(x9:Int)(ow:Int):(Int×Int)→Option (Int×(List Line)):=fun (Bh,Bj)=>
 aO (aX ((x0.p.Lines.length:Int)-1))<|
 (idx x0.p.Lines ((x0.p.Lines.length:Int)-1)).bind fun ny=>
 aO (decide ((ny.bD.length+([(bW.mk x9 ow Bh Bj)]:List bW).length)*32≤140737488355328))<|
 (idx x0.p.Lines ((x0.p.Lines.length:Int)-1)).bind fun x20=>
 some (0,(x0.p.Lines.set ((x0.p.Lines.length:Int)-1).toNat (Line.mk x20.Name x20.aQ x20.Weight (ny.bD++([(bW.mk x9 ow Bh Bj)]:List bW)))))
def VZ(x0:iN)(p1:List Word):Option (Int×(List Line)):=
 if ((decide ((p1.length:Int)≠3)&&decide ((p1.length:Int)≠4))||decide ((x0.p.Lines.length:Int)=0)) then
  (some (2,x0.p.Lines))
 else
  ((sub p1 1 3).bind fun l2=>
  (Qs l2).bind fun y5=>
  if (!y5.2) then
   (some (2,x0.p.Lines))
  else
   ((idx y5.1 0).bind fun x9=>
   (idx y5.1 1).bind fun ow=>
   if decide ((p1.length:Int)=4) then
    ((idx p1 3).bind fun x23=>
    (P7 x23.Text).bind fun y25=>
    if (!y25.2.2) then
     (some (2,x0.p.Lines))
    else
     (Qt x0 x9 ow (y25.1,y25.2.1)))
   else
    (Qt x0 x9 ow (0,0))))
theorem auV(S:aW)(w:World)(eT:Nat)(x0:iN)(aC:ah.R iN)(p1:List Word)(cZ:ah.R (List Word))(y:Int×(List Line))(hM:VZ x0 p1=some y)(hP:Pre S [own eT 158 (vH x0 aC),aj 71 aC.2.1 x0.p.aP,aj 90 aC.2.2.1 x0.p.Routes,bP (fun _=>True) 56 58 aC.2.2.2.1 x0.p.Lines,aj 79 aC.2.2.2.2.1 x0.p.Changes,aj 94 aC.2.2.2.2.2.1 x0.p.Turns,aj 84 aC.2.2.2.2.2.2.1 x0.p.bB,aj 86 aC.2.2.2.2.2.2.2 x0.p.bA] w)(Az:ah.ok (α:=List Str) S w aC.1.1 x0.l.aT)(AA:ah.ok (α:=List Str) S w aC.1.2.1 x0.l.bE)(AB:ah.ok (α:=List Section) S w aC.1.2.2.1 x0.l.Sections)(AJ:ah.ok (α:=List Link) S w aC.1.2.2.2 x0.l.Links)(um:ah.ok S w cZ p1):
   Calls Tryz.prog 142 #[vP eT,sL cZ p1] w (Post (β:=(SR (ah.R Line))) S [own eT 158 (vH x0 aC),aj 71 aC.2.1 x0.p.aP,aj 90 aC.2.2.1 x0.p.Routes,bP (fun _=>True) 56 58 aC.2.2.2.1 x0.p.Lines,aj 79 aC.2.2.2.2.1 x0.p.Changes,aj 94 aC.2.2.2.2.2.1 x0.p.Turns,aj 84 aC.2.2.2.2.2.2.1 x0.p.bB,aj 86 aC.2.2.2.2.2.2.2 x0.p.bA] (fun g=>vI y.1) (fun g=>[own eT 158 [sL aC.1.1 x0.l.aT,sL aC.1.2.1 x0.l.bE,sL aC.1.2.2.1 x0.l.Sections,sL aC.1.2.2.2 x0.l.Links,vI x0.p.bJ,sL aC.2.1 x0.p.aP,sL aC.2.2.1 x0.p.Routes,sL g y.2,sL aC.2.2.2.2.1 x0.p.Changes,sL aC.2.2.2.2.2.1 x0.p.Turns,sL aC.2.2.2.2.2.2.1 x0.p.bB,sL aC.2.2.2.2.2.2.2 x0.p.bA,vI x0.periods],aj 71 aC.2.1 x0.p.aP,aj 90 aC.2.2.1 x0.p.Routes,bP (fun _=>True) 56 58 g y.2,aj 79 aC.2.2.2.2.1 x0.p.Changes,aj 94 aC.2.2.2.2.2.1 x0.p.Turns,aj 84 aC.2.2.2.2.2.2.1 x0.p.bB,aj 86 aC.2.2.2.2.2.2.2 x0.p.bA]) w):=by
 refine bF (args:=[_,_]) Tryz.func142 rfl (hP.start |>.bG Az|>.bG AA|>.bG AB|>.bG AJ|>.bG um) rfl ?_;unfold VZ at hM;refine aJ ?_;refine au fun K2 hK2=>?_;refine go ?_;refine co hM (fun hc1 hM=>?_) (fun hc1 hM=>?_)
 ·refine aJ ?_;obtain rfl:=some_inj hM;refine aF (eG (fun w hm=>bR aC.2.2.2.1 hm rfl))
 refine cs hK2 ?_;refine aR ?_;obtain⟨l2,hl3,hM⟩:=bind_some hM;refine bf (J3 (r:=cZ) (xs:=p1) (ol:=some (.i64,1)) (oh:=some (.i64,3)) (Sk.dw (α:=List Word) (r:=cZ) (x:=p1) hA) hl3 (fun r4=>?_));obtain⟨y5,jW,hM⟩:=bind_some hM;refine bf (fu iO.nil (fun S w hs hP=>aj5 _ w l2 r4 y5 jW (aM hs) (kM hs)) fG (fun r7=>?_));dsimp only[cA,nA];refine om ?_;refine oe (bU (vs:=[sL r7 y5.1,.bool y5.2])) ?_;refine oe (bU (vs:=[sL r7 y5.1,.bool y5.2])) ?_;refine oa ?_;refine aN ?_;refine au fun K6 dG=>?_;refine aR ?_;refine oe iC ?_;refine oc hM (fun hc8 hM=>?_) (fun hc8 hM=>?_)
 ·refine aJ ?_;obtain rfl:=some_inj hM;refine aF (eG (fun w hm=>bR aC.2.2.2.1 hm rfl))
 refine cs dG ?_;refine au fun K9 fH=>?_;refine dS _ (List.Sublist.refl _) ?_;refine am 0 ?_;refine ET 1 1 (Kn.aj (e:=3) (r:=r7) hA) hM fun x9 sj hM=>?_;refine am 3 ?_;refine ET 4 1 (Kn.aj (e:=3) (r:=r7) hA) hM fun ow IX hM=>?_;refine ay 6 rfl (dO [vI x9,vI ow,vI 0,vI 0]) ?_;refine aA 7 rfl rfl fun b13=>?_;refine aS 8 rfl b13 [vI x9,vI ow,vI 0,vI 0] ?_;refine bS (fH _ _ ?_);refine jl y (k:=Qt x0 x9 ow) [0,7] (fun (Bh,Bj)=>[]) [0,0,0,0] (fun (Bh,Bj)=>[own b13 58 [vI x9,vI ow,vI Bh,vI Bj]]) ?_ ?_
 ·intro rM dK;refine go ?_;refine co hM (fun hc22 hM=>?_) (fun hc22 hM=>?_)
  · refine aR ?_;refine ix 3 0 (kG p1 cZ) hM fun x23 hx24 hM=>?_;obtain⟨y25,yP,hM⟩:=bind_some hM;refine cv (fun hs=>aeU _ _ x23.Text y25 yP (aM hs)) ?_;refine om ?_;refine oe (bU (vs:=[vI y25.1,vI y25.2.1,.bool y25.2.2])) ?_;refine oe (bU (vs:=[vI y25.1,vI y25.2.1,.bool y25.2.2])) ?_;refine oe (bU (vs:=[vI y25.1,vI y25.2.1,.bool y25.2.2])) ?_;refine oa ?_;refine oa ?_;refine aN ?_;refine au fun Dn qF=>?_;refine aR ?_;refine oe iC ?_;refine oc hM (fun hc27 hM=>?_) (fun hc27 hM=>?_)
    ·refine aJ ?_;obtain rfl:=some_inj hM;refine aF (eG (fun w hm=>bR aC.2.2.2.1 hm rfl))
    refine cs qF ?_;refine bg ?_;refine go ?_;refine kY ?_;refine oe (aY 3) ?_;refine kY ?_;refine bq (dK hM sS rI)
  refine gG (dK hM sS rI)
 clear hM;rintro⟨Bh,Bj⟩ hM;dsimp only[Qt,cA,nA] at hM ⊢;refine go ?_;refine oN hM fun hM=>?_;refine aN ?_;refine au fun nG gH=>?_;refine Du [own b13 58 [vI x9,vI ow,vI Bh,vI Bj],iL x0.l.Links aC.1.2.2.2,iL x0.l.Sections aC.1.2.2.1,iL x0.l.bE aC.1.2.1,iL x0.l.aT aC.1.1,own eT 158 (vH x0 aC),aj 71 aC.2.1 x0.p.aP,aj 90 aC.2.2.1 x0.p.Routes,bP (fun _=>False) 56 58 aC.2.2.2.1 x0.p.Lines,aj 79 aC.2.2.2.2.1 x0.p.Changes,aj 94 aC.2.2.2.2.2.1 x0.p.Turns,aj 84 aC.2.2.2.2.2.2.1 x0.p.bB,aj 86 aC.2.2.2.2.2.2.2 x0.p.bA] 20 ?_;refine aI 0 rfl dJ ?_ (himp:=fun w hm=>(hm.nO (on':=fun _=>False) (r:=aC.2.2.2.1) (fun _ h=>h.elim) uA).jg);refine aI 1 rfl dF ?_ (himp:=fun w hm=>(hm.nO (on':=fun _=>False) (r:=aC.2.2.2.1) (fun _ h=>h.elim) uA).jg);refine aI 2 rfl (aY 4) ?_ (himp:=fun w hm=>(hm.nO (on':=fun _=>False) (r:=aC.2.2.2.1) (fun _ h=>h.elim) uA).jg);refine aI 3 rfl (aY 3) ?_ (himp:=fun w hm=>(hm.nO (on':=fun _=>False) (r:=aC.2.2.2.1) (fun _ h=>h.elim) uA).jg);refine aI 4 rfl gZ ?_ (himp:=fun w hm=>(hm.nO (on':=fun _=>False) (r:=aC.2.2.2.1) (fun _ h=>h.elim) uA).jg);refine aI 5 rfl dJ ?_ (himp:=fun w hm=>(hm.nO (on':=fun _=>False) (r:=aC.2.2.2.1) (fun _ h=>h.elim) uA).jg);refine aI 6 rfl dJ ?_ (himp:=fun w hm=>(hm.nO (on':=fun _=>False) (r:=aC.2.2.2.1) (fun _ h=>h.elim) uA).jg);refine aI 7 rfl dF ?_ (himp:=fun w hm=>(hm.nO (on':=fun _=>False) (r:=aC.2.2.2.1) (fun _ h=>h.elim) uA).jg);refine aI 8 rfl (aY 4) ?_ (himp:=fun w hm=>(hm.nO (on':=fun _=>False) (r:=aC.2.2.2.1) (fun _ h=>h.elim) uA).jg);refine aI 9 rfl (aY 3) ?_ (himp:=fun w hm=>(hm.nO (on':=fun _=>False) (r:=aC.2.2.2.1) (fun _ h=>h.elim) uA).jg);refine aI 10 rfl gZ ?_ (himp:=fun w hm=>(hm.nO (on':=fun _=>False) (r:=aC.2.2.2.1) (fun _ h=>h.elim) uA).jg);refine aI 11 rfl dJ ?_ (himp:=fun w hm=>(hm.nO (on':=fun _=>False) (r:=aC.2.2.2.1) (fun _ h=>h.elim) uA).jg);obtain⟨ny,hx16,hM⟩:=bind_some hM;refine aI 12 rfl (ab8 (xs:=x0.p.Lines) 4 (Cl.bP hA) (iS hx16)) ?_ (himp:=fun w hm=>(hm.nO (on':=fun _=>False) (r:=aC.2.2.2.1) (fun _ h=>h.elim) uA).jg);refine aI 13 rfl (aY 3) ?_ (himp:=fun w hm=>(hm.nO (on':=fun _=>False) (r:=aC.2.2.2.1) (fun _ h=>h.elim) uA).jg);refine aI 14 rfl (ag6 (r:=aC.2.2.2.1) (i:=((x0.p.Lines.length:Int)-1)) (xs:=x0.p.Lines) (y:=ny) 3 (Cl.bP hA) (fun _=>hx16) rfl) ?_ (himp:=fun w hm=>(hm.nO (on':=fun _=>False) (r:=aC.2.2.2.1) (fun _ h=>h.elim) uA).jg);refine aI 15 rfl fC ?_ (himp:=fun w hm=>(hm.nO (on':=fun _=>False) (r:=aC.2.2.2.1) (fun _ h=>h.elim) uA).jg);refine cK 16 rfl (fI (α:=bW) 58 (fun _=>()) ([(bW.mk x9 ow Bh Bj)]:List bW) oF (fun tQ=>⟨fun w hm=>(hm.nO (on':=fun _=>False) (r:=aC.2.2.2.1) (fun _ h=>h.elim) uA).jg,?_⟩));refine vg (fun w hm=>hm.aiD (e:=56) (e2:=58) (r:=aC.2.2.2.1) (xs:=x0.p.Lines) hx16 s1) ?_;obtain⟨acK,hM⟩:=bQ hM;refine cK 17 rfl (iq (r:=(aC.2.2.2.1.es ((x0.p.Lines.length:Int)-1).toNat)) (r2:=tQ) uR (Kn.aj (e:=58) (r:=tQ) hA) oF (of_decide_eq_true acK) (fun yZ=>⟨fun w hm=>(hm.nO (on':=fun _=>False) (r:=aC.2.2.2.1) (fun _ h=>h.elim) uA).jg,?_⟩));obtain⟨x20,DJ,hM⟩:=bind_some hM;refine aI 18 rfl (ab8 (xs:=x0.p.Lines) 4 (Cl.bP hA) (iS DJ)) ?_ (himp:=fun w hm=>(hm.nO (on':=fun _=>False) (r:=aC.2.2.2.1) (fun _ h=>h.elim) uA).jg);refine aI 19 rfl (aY 3) ?_ (himp:=fun w hm=>(hm.nO (on':=fun _=>False) (r:=aC.2.2.2.1) (fun _ h=>h.elim) uA).jg);refine iX rfl (ak3 (r:=aC.2.2.2.1) (xs:=x0.p.Lines) (i:=((x0.p.Lines.length:Int)-1)) (u:=x20) (vs:=[.slice yZ.a ((ny.bD++([(bW.mk x9 ow Bh Bj)]:List bW)).length) yZ.cap]) 3 (Line.mk x20.Name x20.aQ x20.Weight (ny.bD++([(bW.mk x9 ow Bh Bj)]:List bW))) yZ DJ rfl s1 ?_);refine vg (fun w hm=>hm.akI (e:=56) (e2:=58) (r:=(aC.2.2.2.1.put ((x0.p.Lines.length:Int)-1).toNat yZ)) (xs:=(x0.p.Lines.set ((x0.p.Lines.length:Int)-1).toNat (Line.mk x20.Name x20.aQ x20.Weight (ny.bD++([(bW.mk x9 ow Bh Bj)]:List bW))))) (q:=yZ) (u:=(ny.bD++([(bW.mk x9 ow Bh Bj)]:List bW))) (Gn (u:=(Line.mk x20.Name x20.aQ x20.Weight (ny.bD++([(bW.mk x9 ow Bh Bj)]:List bW)))) DJ) (SR.aiZ _ _ _) rfl s1 s1) ?_;refine iW (gH _ _ ?_);refine aJ ?_;obtain rfl:=some_inj hM;refine aF (eG (fun w hm=>by simp only[List.length_set,eS,sL];exact bR (aC.2.2.2.1.put ((x0.p.Lines.length:Int)-1).toNat yZ) hm rfl))
def aj6:Unit→Option Int:=fun _=>
 some (-1)
def aao(x0:iN)(s0:Str)(aK:Nat→Option Int):Nat→Option Int:=fun aH=>
 if decide ((aH:Int)<(x0.p.Lines.length:Int)) then
  ((idx x0.p.Lines (aH:Int)).bind fun x2=>
  if decide (x2.Name=s0) then
   (some (aH:Int))
  else
   (aO (aX ((aH:Int)+1))<|
   aK (aH+1)))
 else
  (aj6 ())
def Fq(x0:iN)(s0:Str):Option Int:=
 iter (aao x0 s0) FUEL 0
theorem zh(S:aW)(w:World)(eT:Nat)(x0:iN)(aC:ah.R iN)(s0:Str)(y:Int)(hM:Fq x0 s0=some y)(hS:sB S w)(SA:S eT∧w.heap[eT]?=some (.cells (vH x0 aC).toArray 158 (0,0)))(EP:ah.ok S w aC x0):
   Calls Tryz.prog 180 #[vP eT,.string s0.ba] w (bM w (vI y)):=by
 refine bF (args:=[_,_]) Tryz.func180 rfl ((pre_nil hS).start |>.mJ SA|>.je EP.1|>.jZ EP.2) rfl ?_;unfold Fq at hM;refine aJ ?_;refine au fun K2 hK2=>?_;refine aJ ?_;refine bI ?_;refine lk hM [0,1] (fun aH=>[(5,eI (aH:Int))]) [] (fun aH=>[]) ?_;clear hM;rintro aK aH hM eO hL1;dsimp only[aao,cA,nA] at hM ⊢;refine au fun K4 hK4=>?_;refine go ?_;refine oe (o7 (b:=eT)) ?_;refine oe jq ?_;refine oe gq ?_;refine oc hM (fun hc1 hM=>?_) (fun hc1 hM=>?_)
 ·refine cs hK4 ?_;refine au fun K6 dG=>?_;refine go ?_;refine oe (o7 (b:=eT)) ?_;refine om ?_;refine ix 4 0 (kG x0.p.Lines aC.2.2.2.1) hM fun x2 hx3 hM=>?_;refine om ?_;refine oe xI ?_;refine oc hM (fun hc4 hM=>?_) (fun hc4 hM=>?_)
  · refine aR ?_;refine aN ?_;exact aF (aZ hM)
  refine cs dG ?_;refine bg ?_;refine om ?_;refine oP hM fun hM=>?_;refine oa ?_;refine bq (hL1 hM sS rI)
 refine cx hK2 ?_;dsimp only[aj6] at hM;refine aJ ?_;exact aF (aZ hM)
def aan(x0:iN)(y4:Int×Bool)(y8:Int×Bool)(fB:Int×Int×Bool)(fP:Int×Bool):(Int×Int)→Option (Int×(List Change)):=fun (Im,Io)=>
 if (decide (Im<0)||decide (Io<0)) then
  (some (3,x0.p.Changes))
 else
  (aO (decide ((x0.p.Changes.length+([(Change.mk Im y4.1 Io y8.1 fB.1 fB.2.1 fP.1)]:List Change).length)*56≤140737488355328))<|
  some (0,(x0.p.Changes++([(Change.mk Im y4.1 Io y8.1 fB.1 fB.2.1 fP.1)]:List Change))))
def VW(x0:iN)(p1:List Word):Option (Int×(List Change)):=
 if decide ((p1.length:Int)≠7) then
  (some (2,x0.p.Changes))
 else
  ((idx p1 2).bind fun x2=>
  (tT x2.Text).bind fun y4=>
  (idx p1 4).bind fun x6=>
  (tT x6.Text).bind fun y8=>
  (idx p1 5).bind fun x10=>
  (P7 x10.Text).bind fun fB=>
  (idx p1 6).bind fun qm=>
  (tT qm.Text).bind fun fP=>
  if ((((!y4.2)||(!y8.2))||(!fB.2.2))||(!fP.2)) then
   (some (2,x0.p.Changes))
  else
   ((idx p1 1).bind fun x23=>
   (idx p1 3).bind fun x25=>
   (Fq x0 x23.Text).bind fun y27=>
   (Fq x0 x25.Text).bind fun lI=>
   aan x0 y4 y8 fB fP (y27,lI)))
theorem auS(S:aW)(w:World)(eT:Nat)(x0:iN)(aC:ah.R iN)(p1:List Word)(cZ:ah.R (List Word))(y:Int×(List Change))(hM:VW x0 p1=some y)(hP:Pre S [own eT 158 (vH x0 aC),aj 71 aC.2.1 x0.p.aP,aj 90 aC.2.2.1 x0.p.Routes,bP (fun _=>True) 56 58 aC.2.2.2.1 x0.p.Lines,aj 79 aC.2.2.2.2.1 x0.p.Changes,aj 94 aC.2.2.2.2.2.1 x0.p.Turns,aj 84 aC.2.2.2.2.2.2.1 x0.p.bB,aj 86 aC.2.2.2.2.2.2.2 x0.p.bA] w)(Az:ah.ok (α:=List Str) S w aC.1.1 x0.l.aT)(AA:ah.ok (α:=List Str) S w aC.1.2.1 x0.l.bE)(AB:ah.ok (α:=List Section) S w aC.1.2.2.1 x0.l.Sections)(AJ:ah.ok (α:=List Link) S w aC.1.2.2.2 x0.l.Links)(um:ah.ok S w cZ p1):
   Calls Tryz.prog 143 #[vP eT,sL cZ p1] w (Post (β:=(SR (ah.R Change))) S [own eT 158 (vH x0 aC),aj 71 aC.2.1 x0.p.aP,aj 90 aC.2.2.1 x0.p.Routes,bP (fun _=>True) 56 58 aC.2.2.2.1 x0.p.Lines,aj 79 aC.2.2.2.2.1 x0.p.Changes,aj 94 aC.2.2.2.2.2.1 x0.p.Turns,aj 84 aC.2.2.2.2.2.2.1 x0.p.bB,aj 86 aC.2.2.2.2.2.2.2 x0.p.bA] (fun g=>vI y.1) (fun g=>[own eT 158 [sL aC.1.1 x0.l.aT,sL aC.1.2.1 x0.l.bE,sL aC.1.2.2.1 x0.l.Sections,sL aC.1.2.2.2 x0.l.Links,vI x0.p.bJ,sL aC.2.1 x0.p.aP,sL aC.2.2.1 x0.p.Routes,sL aC.2.2.2.1 x0.p.Lines,sL g y.2,sL aC.2.2.2.2.2.1 x0.p.Turns,sL aC.2.2.2.2.2.2.1 x0.p.bB,sL aC.2.2.2.2.2.2.2 x0.p.bA,vI x0.periods],aj 71 aC.2.1 x0.p.aP,aj 90 aC.2.2.1 x0.p.Routes,bP (fun _=>True) 56 58 aC.2.2.2.1 x0.p.Lines,aj 79 g y.2,aj 94 aC.2.2.2.2.2.1 x0.p.Turns,aj 84 aC.2.2.2.2.2.2.1 x0.p.bB,aj 86 aC.2.2.2.2.2.2.2 x0.p.bA]) w):=by
 refine bF (args:=[_,_]) Tryz.func143 rfl (hP.start |>.bG Az|>.bG AA|>.bG AB|>.bG AJ|>.bG um) rfl ?_;unfold VW at hM;refine aJ ?_;refine au fun K2 hK2=>?_;refine go ?_;refine co hM (fun hc1 hM=>?_) (fun hc1 hM=>?_)
 ·refine aJ ?_;obtain rfl:=some_inj hM;refine aF (eG (fun w hm=>bR aC.2.2.2.2.1 hm rfl))
 refine cs hK2 ?_;refine aR ?_;refine ix 3 0 (kG p1 cZ) hM fun x2 hx3 hM=>?_;obtain⟨y4,sw,hM⟩:=bind_some hM;refine cv (fun hs=>yc _ _ x2.Text y4 sw (aM hs)) ?_;refine om ?_;refine oe (bU (vs:=[vI y4.1,.bool y4.2])) ?_;refine oe (bU (vs:=[vI y4.1,.bool y4.2])) ?_;refine oa ?_;refine aN ?_;refine aR ?_;refine ix 3 0 (kG p1 cZ) hM fun x6 hx7 hM=>?_;obtain⟨y8,nT,hM⟩:=bind_some hM;refine cv (fun hs=>yc _ _ x6.Text y8 nT (aM hs)) ?_;refine om ?_;refine oe (bU (vs:=[vI y8.1,.bool y8.2])) ?_;refine oe (bU (vs:=[vI y8.1,.bool y8.2])) ?_;refine oa ?_;refine aN ?_;refine aR ?_;refine ix 3 0 (kG p1 cZ) hM fun x10 AQ hM=>?_;obtain⟨fB,DN,hM⟩:=bind_some hM;refine cv (fun hs=>aeU _ _ x10.Text fB DN (aM hs)) ?_;refine om ?_;refine oe (bU (vs:=[vI fB.1,vI fB.2.1,.bool fB.2.2])) ?_;refine oe (bU (vs:=[vI fB.1,vI fB.2.1,.bool fB.2.2])) ?_;refine oe (bU (vs:=[vI fB.1,vI fB.2.1,.bool fB.2.2])) ?_;refine go ?_;refine ix 3 0 (kG p1 cZ) hM fun qm Lm hM=>?_;obtain⟨fP,yN,hM⟩:=bind_some hM;refine cv (fun hs=>yc _ _ qm.Text fP yN (aM hs)) ?_;refine om ?_;refine oe (bU (vs:=[vI fP.1,.bool fP.2])) ?_;refine oe (bU (vs:=[vI fP.1,.bool fP.2])) ?_;refine oa ?_;refine aN ?_;refine au fun K9 fH=>?_;refine go ?_;refine co hM (fun hc18 hM=>?_) (fun hc18 hM=>?_)
 ·refine aJ ?_;obtain rfl:=some_inj hM;refine aF (eG (fun w hm=>bR aC.2.2.2.2.1 hm rfl))
 refine cs fH ?_;refine jk Nat y (k:=aan x0 y4 y8 fB fP) [0] (fun (Im,Io) XU=>[(14,eP XU)]) [0] (fun (Im,Io) XU=>[own XU 79 [vI Im,vI y4.1,vI Io,vI y8.1,vI fB.1,vI fB.2.1,vI fP.1]]) ?_ ?_
 ·intro rM dK;refine dS _ (List.Sublist.refl _) ?_;refine am 0 ?_;refine am 1 ?_;refine iQ 2 3 0 (kG p1 cZ) hM fun x23 hx24 hM=>?_;refine am 6 ?_;refine am 7 ?_;refine am 8 ?_;refine iQ 9 3 0 (kG p1 cZ) hM fun x25 Gl hM=>?_;refine am 13 ?_;refine am 14 ?_;refine am 15 ?_;refine am 16 ?_;obtain⟨y27,hy28,hM⟩:=bind_some hM;refine jA 5 18 (⟨_,rfl,rfl,jh (fun w hm=>let ⟨S,hs⟩:=hm;zh _ w eT x0 aC x23.Text y27 hy28 (aM hs) (lQ hA hs) ⟨⟨(kM hs),(kM hs),(kM hs),(kM hs)⟩,⟨(kT hs),(kT hs),(Kn.lend (Kn.bP (e:=56) (e2:=58) (r:=aC.2.2.2.1) hA) hs),(kT hs),(kT hs),(kT hs),(kT hs)⟩⟩) ⟨rI,?_⟩⟩) (⟨_,rfl,rfl,gU rfl (k:=fun Ii=>⟨rI,?_⟩)⟩)
  · obtain⟨lI,hy31,hM⟩:=bind_some hM;refine jA 12 18 (⟨_,rfl,rfl,jh (fun w hm=>let ⟨S,hs⟩:=hm;zh _ w eT x0 aC x25.Text lI hy31 (aM hs) (lQ hA hs) ⟨⟨(kM hs),(kM hs),(kM hs),(kM hs)⟩,⟨(kT hs),(kT hs),(Kn.lend (Kn.bP (e:=56) (e2:=58) (r:=aC.2.2.2.1) hA) hs),(kT hs),(kT hs),(kT hs),(kT hs)⟩⟩) ⟨rI,?_⟩⟩) (⟨_,rfl,rfl,gU rfl (k:=fun b32=>⟨rI,?_⟩)⟩)
    ·refine ay 17 rfl (dO [vI y27,vI y4.1,vI lI,vI y8.1,vI fB.1,vI fB.2.1,vI fP.1]) ?_;refine aA 18 rfl rfl fun Ro=>?_;refine aS 19 rfl Ro [vI y27,vI y4.1,vI lI,vI y8.1,vI fB.1,vI fB.2.1,vI fP.1] ?_;refine bS (dK Ro hM sS rI)
    refine bT 12 rfl (sV (fun hs=>zh _ _ eT x0 aC x25.Text lI hy31 (aM hs) (lQ hA hs) ⟨⟨(kM hs),(kM hs),(kM hs),(kM hs)⟩,⟨(kT hs),(kT hs),(Kn.lend (Kn.bP (e:=56) (e2:=58) (r:=aC.2.2.2.1) hA) hs),(kT hs),(kT hs),(kT hs),(kT hs)⟩⟩) ⟨rI,?_⟩);refine ay 17 rfl (dO [vI y27,vI y4.1,vI lI,vI y8.1,vI fB.1,vI fB.2.1,vI fP.1]) ?_;refine aS 19 rfl b32 [vI y27,vI y4.1,vI lI,vI y8.1,vI fB.1,vI fB.2.1,vI fP.1] ?_;refine bS (dK b32 hM sS rI)
  refine bT 5 rfl (sV (fun hs=>zh _ _ eT x0 aC x23.Text y27 hy28 (aM hs) (lQ hA hs) ⟨⟨(kM hs),(kM hs),(kM hs),(kM hs)⟩,⟨(kT hs),(kT hs),(Kn.lend (Kn.bP (e:=56) (e2:=58) (r:=aC.2.2.2.1) hA) hs),(kT hs),(kT hs),(kT hs),(kT hs)⟩⟩) ⟨rI,?_⟩);obtain⟨y34,Cm,hM⟩:=bind_some hM;refine bT 12 rfl (sV (fun hs=>zh _ _ eT x0 aC x25.Text y34 Cm (aM hs) (lQ hA hs) ⟨⟨(kM hs),(kM hs),(kM hs),(kM hs)⟩,⟨(kT hs),(kT hs),(Kn.lend (Kn.bP (e:=56) (e2:=58) (r:=aC.2.2.2.1) hA) hs),(kT hs),(kT hs),(kT hs),(kT hs)⟩⟩) ⟨rI,?_⟩);refine ay 17 rfl (dO [vI y27,vI y4.1,vI y34,vI y8.1,vI fB.1,vI fB.2.1,vI fP.1]) ?_;refine aS 19 rfl Ii [vI y27,vI y4.1,vI y34,vI y8.1,vI fB.1,vI fB.2.1,vI fP.1] ?_;refine bS (dK Ii hM sS rI)
 clear hM;rintro⟨Im,Io⟩ XU hM;dsimp only[aan,cA,nA] at hM ⊢;refine au fun BZ pX=>?_;refine go ?_;refine co hM (fun hc19 hM=>?_) (fun hc19 hM=>?_)
 ·refine aJ ?_;obtain rfl:=some_inj hM;refine aF (eG (fun w hm=>bR aC.2.2.2.2.1 hm rfl))
 refine cs pX ?_;refine au fun Dn qF=>?_;refine kZ [9] 12 ?_;refine zm 0 ?_;refine zm 1 ?_;refine aI 2 rfl dF ?_;refine aI 3 rfl (aY 4) ?_;refine fz 4 4 ?_;refine aI 6 rfl fC ?_;refine cK 7 rfl (fI (α:=Change) 79 (fun _=>()) ([(Change.mk Im y4.1 Io y8.1 fB.1 fB.2.1 fP.1)]:List Change) oF (fun za=>⟨rI,?_⟩));obtain⟨Sr,hM⟩:=bQ hM;refine cK 8 rfl (iq (r:=aC.2.2.2.2.1) (r2:=za) uR (Kn.aj (e:=79) (r:=za) hA) oF (of_decide_eq_true Sr) (fun ze=>⟨rI,?_⟩));refine aI 9 rfl dF ?_;refine aI 10 rfl (aY 4) ?_;refine aI 11 rfl (aY 4) ?_;refine iX rfl (sO ?_);refine iW (qF _ _ ?_);refine aJ ?_;obtain rfl:=some_inj hM;refine aF (eG (fun w hm=>bR ze hm rfl))
def aas(x0:iN)(y4:Int×Int×Bool):(Int×Int)→Option (Int×(List Turn)):=fun (Kc,Ke)=>
 if (decide (Kc<0)||decide (Ke<0)) then
  (some (3,x0.p.Turns))
 else
  (aO (decide ((x0.p.Turns.length+([(Turn.mk Kc Ke y4.1 y4.2.1)]:List Turn).length)*32≤140737488355328))<|
  some (0,(x0.p.Turns++([(Turn.mk Kc Ke y4.1 y4.2.1)]:List Turn))))
def V8(x0:iN)(p1:List Word):Option (Int×(List Turn)):=
 if decide ((p1.length:Int)≠4) then
  (some (2,x0.p.Turns))
 else
  ((idx p1 3).bind fun x2=>
  (P7 x2.Text).bind fun y4=>
  if (!y4.2.2) then
   (some (2,x0.p.Turns))
  else
   ((idx p1 1).bind fun ow=>
   (idx p1 2).bind fun gK=>
   (Fq x0 ow.Text).bind fun mq=>
   (Fq x0 gK.Text).bind fun jc=>
   aas x0 y4 (mq,jc)))
theorem au0(S:aW)(w:World)(eT:Nat)(x0:iN)(aC:ah.R iN)(p1:List Word)(cZ:ah.R (List Word))(y:Int×(List Turn))(hM:V8 x0 p1=some y)(hP:Pre S [own eT 158 (vH x0 aC),aj 71 aC.2.1 x0.p.aP,aj 90 aC.2.2.1 x0.p.Routes,bP (fun _=>True) 56 58 aC.2.2.2.1 x0.p.Lines,aj 79 aC.2.2.2.2.1 x0.p.Changes,aj 94 aC.2.2.2.2.2.1 x0.p.Turns,aj 84 aC.2.2.2.2.2.2.1 x0.p.bB,aj 86 aC.2.2.2.2.2.2.2 x0.p.bA] w)(Az:ah.ok (α:=List Str) S w aC.1.1 x0.l.aT)(AA:ah.ok (α:=List Str) S w aC.1.2.1 x0.l.bE)(AB:ah.ok (α:=List Section) S w aC.1.2.2.1 x0.l.Sections)(AJ:ah.ok (α:=List Link) S w aC.1.2.2.2 x0.l.Links)(um:ah.ok S w cZ p1):
   Calls Tryz.prog 144 #[vP eT,sL cZ p1] w (Post (β:=(SR (ah.R Turn))) S [own eT 158 (vH x0 aC),aj 71 aC.2.1 x0.p.aP,aj 90 aC.2.2.1 x0.p.Routes,bP (fun _=>True) 56 58 aC.2.2.2.1 x0.p.Lines,aj 79 aC.2.2.2.2.1 x0.p.Changes,aj 94 aC.2.2.2.2.2.1 x0.p.Turns,aj 84 aC.2.2.2.2.2.2.1 x0.p.bB,aj 86 aC.2.2.2.2.2.2.2 x0.p.bA] (fun g=>vI y.1) (fun g=>[own eT 158 [sL aC.1.1 x0.l.aT,sL aC.1.2.1 x0.l.bE,sL aC.1.2.2.1 x0.l.Sections,sL aC.1.2.2.2 x0.l.Links,vI x0.p.bJ,sL aC.2.1 x0.p.aP,sL aC.2.2.1 x0.p.Routes,sL aC.2.2.2.1 x0.p.Lines,sL aC.2.2.2.2.1 x0.p.Changes,sL g y.2,sL aC.2.2.2.2.2.2.1 x0.p.bB,sL aC.2.2.2.2.2.2.2 x0.p.bA,vI x0.periods],aj 71 aC.2.1 x0.p.aP,aj 90 aC.2.2.1 x0.p.Routes,bP (fun _=>True) 56 58 aC.2.2.2.1 x0.p.Lines,aj 79 aC.2.2.2.2.1 x0.p.Changes,aj 94 g y.2,aj 84 aC.2.2.2.2.2.2.1 x0.p.bB,aj 86 aC.2.2.2.2.2.2.2 x0.p.bA]) w):=by
 refine bF (args:=[_,_]) Tryz.func144 rfl (hP.start |>.bG Az|>.bG AA|>.bG AB|>.bG AJ|>.bG um) rfl ?_;unfold V8 at hM;refine aJ ?_;refine au fun K2 hK2=>?_;refine go ?_;refine co hM (fun hc1 hM=>?_) (fun hc1 hM=>?_)
 ·refine aJ ?_;obtain rfl:=some_inj hM;refine aF (eG (fun w hm=>bR aC.2.2.2.2.2.1 hm rfl))
 refine cs hK2 ?_;refine aR ?_;refine ix 3 0 (kG p1 cZ) hM fun x2 hx3 hM=>?_;obtain⟨y4,sw,hM⟩:=bind_some hM;refine cv (fun hs=>aeU _ _ x2.Text y4 sw (aM hs)) ?_;refine om ?_;refine oe (bU (vs:=[vI y4.1,vI y4.2.1,.bool y4.2.2])) ?_;refine oe (bU (vs:=[vI y4.1,vI y4.2.1,.bool y4.2.2])) ?_;refine oe (bU (vs:=[vI y4.1,vI y4.2.1,.bool y4.2.2])) ?_;refine oa ?_;refine oa ?_;refine aN ?_;refine au fun K6 dG=>?_;refine aR ?_;refine oe iC ?_;refine oc hM (fun hc6 hM=>?_) (fun hc6 hM=>?_)
 ·refine aJ ?_;obtain rfl:=some_inj hM;refine aF (eG (fun w hm=>bR aC.2.2.2.2.2.1 hm rfl))
 refine cs dG ?_;refine jk Nat y (k:=aas x0 y4) [0] (fun (Kc,Ke) X4=>[(8,eP X4)]) [0] (fun (Kc,Ke) X4=>[own X4 94 [vI Kc,vI Ke,vI y4.1,vI y4.2.1]]) ?_ ?_
 ·intro rM dK;refine dS _ (List.Sublist.refl _) ?_;refine am 0 ?_;refine am 1 ?_;refine iQ 2 3 0 (kG p1 cZ) hM fun ow IX hM=>?_;refine am 6 ?_;refine am 7 ?_;refine iQ 8 3 0 (kG p1 cZ) hM fun gK uw hM=>?_;refine am 12 ?_;refine am 13 ?_;obtain⟨mq,I4,hM⟩:=bind_some hM;refine jA 5 15 (⟨_,rfl,rfl,jh (fun w hm=>let ⟨S,hs⟩:=hm;zh _ w eT x0 aC ow.Text mq I4 (aM hs) (lQ hA hs) ⟨⟨(kM hs),(kM hs),(kM hs),(kM hs)⟩,⟨(kT hs),(kT hs),(Kn.lend (Kn.bP (e:=56) (e2:=58) (r:=aC.2.2.2.1) hA) hs),(kT hs),(kT hs),(kT hs),(kT hs)⟩⟩) ⟨rI,?_⟩⟩) (⟨_,rfl,rfl,gU rfl (k:=fun b17=>⟨rI,?_⟩)⟩)
  · obtain⟨jc,xL,hM⟩:=bind_some hM;refine jA 11 15 (⟨_,rfl,rfl,jh (fun w hm=>let ⟨S,hs⟩:=hm;zh _ w eT x0 aC gK.Text jc xL (aM hs) (lQ hA hs) ⟨⟨(kM hs),(kM hs),(kM hs),(kM hs)⟩,⟨(kT hs),(kT hs),(Kn.lend (Kn.bP (e:=56) (e2:=58) (r:=aC.2.2.2.1) hA) hs),(kT hs),(kT hs),(kT hs),(kT hs)⟩⟩) ⟨rI,?_⟩⟩) (⟨_,rfl,rfl,gU rfl (k:=fun b20=>⟨rI,?_⟩)⟩)
    ·refine ay 14 rfl (dO [vI mq,vI jc,vI y4.1,vI y4.2.1]) ?_;refine aA 15 rfl rfl fun FY=>?_;refine aS 16 rfl FY [vI mq,vI jc,vI y4.1,vI y4.2.1] ?_;refine bS (dK FY hM sS rI)
    refine bT 11 rfl (sV (fun hs=>zh _ _ eT x0 aC gK.Text jc xL (aM hs) (lQ hA hs) ⟨⟨(kM hs),(kM hs),(kM hs),(kM hs)⟩,⟨(kT hs),(kT hs),(Kn.lend (Kn.bP (e:=56) (e2:=58) (r:=aC.2.2.2.1) hA) hs),(kT hs),(kT hs),(kT hs),(kT hs)⟩⟩) ⟨rI,?_⟩);refine ay 14 rfl (dO [vI mq,vI jc,vI y4.1,vI y4.2.1]) ?_;refine aS 16 rfl b20 [vI mq,vI jc,vI y4.1,vI y4.2.1] ?_;refine bS (dK b20 hM sS rI)
  refine bT 5 rfl (sV (fun hs=>zh _ _ eT x0 aC ow.Text mq I4 (aM hs) (lQ hA hs) ⟨⟨(kM hs),(kM hs),(kM hs),(kM hs)⟩,⟨(kT hs),(kT hs),(Kn.lend (Kn.bP (e:=56) (e2:=58) (r:=aC.2.2.2.1) hA) hs),(kT hs),(kT hs),(kT hs),(kT hs)⟩⟩) ⟨rI,?_⟩);obtain⟨y22,uD,hM⟩:=bind_some hM;refine bT 11 rfl (sV (fun hs=>zh _ _ eT x0 aC gK.Text y22 uD (aM hs) (lQ hA hs) ⟨⟨(kM hs),(kM hs),(kM hs),(kM hs)⟩,⟨(kT hs),(kT hs),(Kn.lend (Kn.bP (e:=56) (e2:=58) (r:=aC.2.2.2.1) hA) hs),(kT hs),(kT hs),(kT hs),(kT hs)⟩⟩) ⟨rI,?_⟩);refine ay 14 rfl (dO [vI mq,vI y22,vI y4.1,vI y4.2.1]) ?_;refine aS 16 rfl b17 [vI mq,vI y22,vI y4.1,vI y4.2.1] ?_;refine bS (dK b17 hM sS rI)
 clear hM;rintro⟨Kc,Ke⟩ X4 hM;dsimp only[aas,cA,nA] at hM ⊢;refine au fun K9 fH=>?_;refine go ?_;refine co hM (fun jr hM=>?_) (fun jr hM=>?_)
 ·refine aJ ?_;obtain rfl:=some_inj hM;refine aF (eG (fun w hm=>bR aC.2.2.2.2.2.1 hm rfl))
 refine cs fH ?_;refine au fun BZ pX=>?_;refine kZ [10] 12 ?_;refine zm 0 ?_;refine zm 1 ?_;refine aI 2 rfl dF ?_;refine aI 3 rfl (aY 4) ?_;refine fz 4 5 ?_;refine aI 6 rfl fC ?_;refine cK 7 rfl (fI (α:=Turn) 94 (fun _=>()) ([(Turn.mk Kc Ke y4.1 y4.2.1)]:List Turn) oF (fun r8=>⟨rI,?_⟩));obtain⟨aou,hM⟩:=bQ hM;refine cK 8 rfl (iq (r:=aC.2.2.2.2.2.1) (r2:=r8) uR (Kn.aj (e:=94) (r:=r8) hA) oF (of_decide_eq_true aou) (fun r9=>⟨rI,?_⟩));refine aI 9 rfl dF ?_;refine aI 10 rfl (aY 4) ?_;refine aI 11 rfl (aY 5) ?_;refine iX rfl (sO ?_);refine iW (pX _ _ ?_);refine aJ ?_;obtain rfl:=some_inj hM;refine aF (eG (fun w hm=>bR r9 hm rfl))
def aar(x0:iN)(y4:Int×Bool)(y8:Int×Bool)(fB:Int×Bool):(Int×Int)→Option (Int×(List Sync)):=fun (JY,JZ)=>
 if (decide (JY<0)||decide (JZ<0)) then
  (some (3,x0.p.bB))
 else
  (aO (decide ((x0.p.bB.length+([(Sync.mk JY y4.1 JZ y8.1 fB.1)]:List Sync).length)*40≤140737488355328))<|
  some (0,(x0.p.bB++([(Sync.mk JY y4.1 JZ y8.1 fB.1)]:List Sync))))
def V7(x0:iN)(p1:List Word):Option (Int×(List Sync)):=
 if decide ((p1.length:Int)≠6) then
  (some (2,x0.p.bB))
 else
  ((idx p1 2).bind fun x2=>
  (tT x2.Text).bind fun y4=>
  (idx p1 4).bind fun x6=>
  (tT x6.Text).bind fun y8=>
  (idx p1 5).bind fun x10=>
  (tT x10.Text).bind fun fB=>
  if (((!y4.2)||(!y8.2))||(!fB.2)) then
   (some (2,x0.p.bB))
  else
   ((idx p1 1).bind fun FM=>
   (idx p1 3).bind fun x21=>
   (Fq x0 FM.Text).bind fun y23=>
   (Fq x0 x21.Text).bind fun mW=>
   aar x0 y4 y8 fB (y23,mW)))
theorem auZ(S:aW)(w:World)(eT:Nat)(x0:iN)(aC:ah.R iN)(p1:List Word)(cZ:ah.R (List Word))(y:Int×(List Sync))(hM:V7 x0 p1=some y)(hP:Pre S [own eT 158 (vH x0 aC),aj 71 aC.2.1 x0.p.aP,aj 90 aC.2.2.1 x0.p.Routes,bP (fun _=>True) 56 58 aC.2.2.2.1 x0.p.Lines,aj 79 aC.2.2.2.2.1 x0.p.Changes,aj 94 aC.2.2.2.2.2.1 x0.p.Turns,aj 84 aC.2.2.2.2.2.2.1 x0.p.bB,aj 86 aC.2.2.2.2.2.2.2 x0.p.bA] w)(Az:ah.ok (α:=List Str) S w aC.1.1 x0.l.aT)(AA:ah.ok (α:=List Str) S w aC.1.2.1 x0.l.bE)(AB:ah.ok (α:=List Section) S w aC.1.2.2.1 x0.l.Sections)(AJ:ah.ok (α:=List Link) S w aC.1.2.2.2 x0.l.Links)(um:ah.ok S w cZ p1):
   Calls Tryz.prog 145 #[vP eT,sL cZ p1] w (Post (β:=(SR (ah.R Sync))) S [own eT 158 (vH x0 aC),aj 71 aC.2.1 x0.p.aP,aj 90 aC.2.2.1 x0.p.Routes,bP (fun _=>True) 56 58 aC.2.2.2.1 x0.p.Lines,aj 79 aC.2.2.2.2.1 x0.p.Changes,aj 94 aC.2.2.2.2.2.1 x0.p.Turns,aj 84 aC.2.2.2.2.2.2.1 x0.p.bB,aj 86 aC.2.2.2.2.2.2.2 x0.p.bA] (fun g=>vI y.1) (fun g=>[own eT 158 [sL aC.1.1 x0.l.aT,sL aC.1.2.1 x0.l.bE,sL aC.1.2.2.1 x0.l.Sections,sL aC.1.2.2.2 x0.l.Links,vI x0.p.bJ,sL aC.2.1 x0.p.aP,sL aC.2.2.1 x0.p.Routes,sL aC.2.2.2.1 x0.p.Lines,sL aC.2.2.2.2.1 x0.p.Changes,sL aC.2.2.2.2.2.1 x0.p.Turns,sL g y.2,sL aC.2.2.2.2.2.2.2 x0.p.bA,vI x0.periods],aj 71 aC.2.1 x0.p.aP,aj 90 aC.2.2.1 x0.p.Routes,bP (fun _=>True) 56 58 aC.2.2.2.1 x0.p.Lines,aj 79 aC.2.2.2.2.1 x0.p.Changes,aj 94 aC.2.2.2.2.2.1 x0.p.Turns,aj 84 g y.2,aj 86 aC.2.2.2.2.2.2.2 x0.p.bA]) w):=by
 refine bF (args:=[_,_]) Tryz.func145 rfl (hP.start |>.bG Az|>.bG AA|>.bG AB|>.bG AJ|>.bG um) rfl ?_;unfold V7 at hM;refine aJ ?_;refine au fun K2 hK2=>?_;refine go ?_;refine co hM (fun hc1 hM=>?_) (fun hc1 hM=>?_)
 ·refine aJ ?_;obtain rfl:=some_inj hM;refine aF (eG (fun w hm=>bR aC.2.2.2.2.2.2.1 hm rfl))
 refine cs hK2 ?_;refine aR ?_;refine ix 3 0 (kG p1 cZ) hM fun x2 hx3 hM=>?_;obtain⟨y4,sw,hM⟩:=bind_some hM;refine cv (fun hs=>yc _ _ x2.Text y4 sw (aM hs)) ?_;refine om ?_;refine oe (bU (vs:=[vI y4.1,.bool y4.2])) ?_;refine oe (bU (vs:=[vI y4.1,.bool y4.2])) ?_;refine oa ?_;refine aN ?_;refine aR ?_;refine ix 3 0 (kG p1 cZ) hM fun x6 hx7 hM=>?_;obtain⟨y8,nT,hM⟩:=bind_some hM;refine cv (fun hs=>yc _ _ x6.Text y8 nT (aM hs)) ?_;refine om ?_;refine oe (bU (vs:=[vI y8.1,.bool y8.2])) ?_;refine oe (bU (vs:=[vI y8.1,.bool y8.2])) ?_;refine oa ?_;refine aN ?_;refine aR ?_;refine ix 3 0 (kG p1 cZ) hM fun x10 AQ hM=>?_;obtain⟨fB,DN,hM⟩:=bind_some hM;refine cv (fun hs=>yc _ _ x10.Text fB DN (aM hs)) ?_;refine om ?_;refine oe (bU (vs:=[vI fB.1,.bool fB.2])) ?_;refine oe (bU (vs:=[vI fB.1,.bool fB.2])) ?_;refine oa ?_;refine aN ?_;refine au fun K8 gP=>?_;refine go ?_;refine co hM (fun yM hM=>?_) (fun yM hM=>?_)
 ·refine aJ ?_;obtain rfl:=some_inj hM;refine aF (eG (fun w hm=>bR aC.2.2.2.2.2.2.1 hm rfl))
 refine cs gP ?_;refine jk Nat y (k:=aar x0 y4 y8 fB) [0] (fun (JY,JZ) X3=>[(11,eP X3)]) [0] (fun (JY,JZ) X3=>[own X3 84 [vI JY,vI y4.1,vI JZ,vI y8.1,vI fB.1]]) ?_ ?_
 ·intro rM dK;refine dS _ (List.Sublist.refl _) ?_;refine am 0 ?_;refine am 1 ?_;refine iQ 2 3 0 (kG p1 cZ) hM fun FM adf hM=>?_;refine am 6 ?_;refine am 7 ?_;refine am 8 ?_;refine iQ 9 3 0 (kG p1 cZ) hM fun x21 adg hM=>?_;refine am 13 ?_;refine am 14 ?_;obtain⟨y23,hy24,hM⟩:=bind_some hM;refine jA 5 16 (⟨_,rfl,rfl,jh (fun w hm=>let ⟨S,hs⟩:=hm;zh _ w eT x0 aC FM.Text y23 hy24 (aM hs) (lQ hA hs) ⟨⟨(kM hs),(kM hs),(kM hs),(kM hs)⟩,⟨(kT hs),(kT hs),(Kn.lend (Kn.bP (e:=56) (e2:=58) (r:=aC.2.2.2.1) hA) hs),(kT hs),(kT hs),(kT hs),(kT hs)⟩⟩) ⟨rI,?_⟩⟩) (⟨_,rfl,rfl,gU rfl (k:=fun KG=>⟨rI,?_⟩)⟩)
  · obtain⟨mW,hy27,hM⟩:=bind_some hM;refine jA 12 16 (⟨_,rfl,rfl,jh (fun w hm=>let ⟨S,hs⟩:=hm;zh _ w eT x0 aC x21.Text mW hy27 (aM hs) (lQ hA hs) ⟨⟨(kM hs),(kM hs),(kM hs),(kM hs)⟩,⟨(kT hs),(kT hs),(Kn.lend (Kn.bP (e:=56) (e2:=58) (r:=aC.2.2.2.1) hA) hs),(kT hs),(kT hs),(kT hs),(kT hs)⟩⟩) ⟨rI,?_⟩⟩) (⟨_,rfl,rfl,gU rfl (k:=fun Rn=>⟨rI,?_⟩)⟩)
    ·refine ay 15 rfl (dO [vI y23,vI y4.1,vI mW,vI y8.1,vI fB.1]) ?_;refine aA 16 rfl rfl fun Ii=>?_;refine aS 17 rfl Ii [vI y23,vI y4.1,vI mW,vI y8.1,vI fB.1] ?_;refine bS (dK Ii hM sS rI)
    refine bT 12 rfl (sV (fun hs=>zh _ _ eT x0 aC x21.Text mW hy27 (aM hs) (lQ hA hs) ⟨⟨(kM hs),(kM hs),(kM hs),(kM hs)⟩,⟨(kT hs),(kT hs),(Kn.lend (Kn.bP (e:=56) (e2:=58) (r:=aC.2.2.2.1) hA) hs),(kT hs),(kT hs),(kT hs),(kT hs)⟩⟩) ⟨rI,?_⟩);refine ay 15 rfl (dO [vI y23,vI y4.1,vI mW,vI y8.1,vI fB.1]) ?_;refine aS 17 rfl Rn [vI y23,vI y4.1,vI mW,vI y8.1,vI fB.1] ?_;refine bS (dK Rn hM sS rI)
  refine bT 5 rfl (sV (fun hs=>zh _ _ eT x0 aC FM.Text y23 hy24 (aM hs) (lQ hA hs) ⟨⟨(kM hs),(kM hs),(kM hs),(kM hs)⟩,⟨(kT hs),(kT hs),(Kn.lend (Kn.bP (e:=56) (e2:=58) (r:=aC.2.2.2.1) hA) hs),(kT hs),(kT hs),(kT hs),(kT hs)⟩⟩) ⟨rI,?_⟩);obtain⟨lI,hy31,hM⟩:=bind_some hM;refine bT 12 rfl (sV (fun hs=>zh _ _ eT x0 aC x21.Text lI hy31 (aM hs) (lQ hA hs) ⟨⟨(kM hs),(kM hs),(kM hs),(kM hs)⟩,⟨(kT hs),(kT hs),(Kn.lend (Kn.bP (e:=56) (e2:=58) (r:=aC.2.2.2.1) hA) hs),(kT hs),(kT hs),(kT hs),(kT hs)⟩⟩) ⟨rI,?_⟩);refine ay 15 rfl (dO [vI y23,vI y4.1,vI lI,vI y8.1,vI fB.1]) ?_;refine aS 17 rfl KG [vI y23,vI y4.1,vI lI,vI y8.1,vI fB.1] ?_;refine bS (dK KG hM sS rI)
 clear hM;rintro⟨JY,JZ⟩ X3 hM;dsimp only[aar,cA,nA] at hM ⊢;refine au fun nG gH=>?_;refine go ?_;refine co hM (fun rZ hM=>?_) (fun rZ hM=>?_)
 ·refine aJ ?_;obtain rfl:=some_inj hM;refine aF (eG (fun w hm=>bR aC.2.2.2.2.2.2.1 hm rfl))
 refine cs gH ?_;refine au fun yu mX=>?_;refine kZ [11] 12 ?_;refine zm 0 ?_;refine zm 1 ?_;refine aI 2 rfl dF ?_;refine aI 3 rfl (aY 4) ?_;refine fz 4 6 ?_;refine aI 6 rfl fC ?_;refine cK 7 rfl (fI (α:=Sync) 84 (fun _=>()) ([(Sync.mk JY y4.1 JZ y8.1 fB.1)]:List Sync) oF (fun r16=>⟨rI,?_⟩));obtain⟨Sq,hM⟩:=bQ hM;refine cK 8 rfl (iq (r:=aC.2.2.2.2.2.2.1) (r2:=r16) uR (Kn.aj (e:=84) (r:=r16) hA) oF (of_decide_eq_true Sq) (fun tQ=>⟨rI,?_⟩));refine aI 9 rfl dF ?_;refine aI 10 rfl (aY 4) ?_;refine aI 11 rfl (aY 6) ?_;refine iX rfl (sO ?_);refine iW (mX _ _ ?_);refine aJ ?_;obtain rfl:=some_inj hM;refine aF (eG (fun w hm=>bR tQ hm rfl))
def aj8:Unit→Option Int:=fun _=>
 some (-1)
def aaq(x0:iN)(s0:Str)(aK:Nat→Option Int):Nat→Option Int:=fun aH=>
 if decide ((aH:Int)<(x0.p.aP.length:Int)) then
  ((idx x0.p.aP (aH:Int)).bind fun x2=>
  if decide (x2.Name=s0) then
   (some (aH:Int))
  else
   (aO (aX ((aH:Int)+1))<|
   aK (aH+1)))
 else
  (aj8 ())
def V6(x0:iN)(s0:Str):Option Int:=
 iter (aaq x0 s0) FUEL 0
theorem auY(S:aW)(w:World)(eT:Nat)(x0:iN)(aC:ah.R iN)(s0:Str)(y:Int)(hM:V6 x0 s0=some y)(hS:sB S w)(SA:S eT∧w.heap[eT]?=some (.cells (vH x0 aC).toArray 158 (0,0)))(EP:ah.ok S w aC x0):
   Calls Tryz.prog 181 #[vP eT,.string s0.ba] w (bM w (vI y)):=by
 refine bF (args:=[_,_]) Tryz.func181 rfl ((pre_nil hS).start |>.mJ SA|>.je EP.1|>.jZ EP.2) rfl ?_;unfold V6 at hM;refine aJ ?_;refine au fun K2 hK2=>?_;refine aJ ?_;refine bI ?_;refine lk hM [0,1] (fun aH=>[(5,eI (aH:Int))]) [] (fun aH=>[]) ?_;clear hM;rintro aK aH hM eO hL1;dsimp only[aaq,cA,nA] at hM ⊢;refine au fun K4 hK4=>?_;refine go ?_;refine oe (o7 (b:=eT)) ?_;refine oe jq ?_;refine oe gq ?_;refine oc hM (fun hc1 hM=>?_) (fun hc1 hM=>?_)
 ·refine cs hK4 ?_;refine au fun K6 dG=>?_;refine go ?_;refine oe (o7 (b:=eT)) ?_;refine om ?_;refine ix 5 0 (kG x0.p.aP aC.2.1) hM fun x2 hx3 hM=>?_;refine om ?_;refine oe xI ?_;refine oc hM (fun hc4 hM=>?_) (fun hc4 hM=>?_)
  · refine aR ?_;refine aN ?_;exact aF (aZ hM)
  refine cs dG ?_;refine bg ?_;refine om ?_;refine oP hM fun hM=>?_;refine oa ?_;refine bq (hL1 hM sS rI)
 refine cx hK2 ?_;dsimp only[aj8] at hM;refine aJ ?_;exact aF (aZ hM)
def VY(x0:iN)(p1:List Word):Option (Int×Int×(List aQ)×(List Line)×(List bZ)×Int):=
 (dH (decide ((p1.length:Int)=2)) default (idx p1 0)).bind fun x1=>
 if (decide ((p1.length:Int)=2)&&decide (x1.Text=(⟨[112,101,114,105,111,100]⟩:Str))) then
  ((idx p1 1).bind fun x4=>
  (tT x4.Text).bind fun y6=>
  if (!y6.2) then
   (some (2,x0.p.bJ,x0.p.aP,x0.p.Lines,x0.p.bA,x0.periods))
  else
   (aO (aX (x0.periods+1))<|
   if decide (1<(x0.periods+1)) then
    (some (5,x0.p.bJ,x0.p.aP,x0.p.Lines,x0.p.bA,(x0.periods+1)))
   else
    (some (0,y6.1,x0.p.aP,x0.p.Lines,x0.p.bA,(x0.periods+1)))))
 else
  ((dH (decide ((p1.length:Int)=6)) default (idx p1 0)).bind fun ow=>
  if (decide ((p1.length:Int)=6)&&decide (ow.Text=(⟨[115,116,111,99,107]⟩:Str))) then
   ((sub p1 2 (p1.length:Int)).bind fun Y7=>
   (Qs Y7).bind fun mD=>
   if (!mD.2) then
    (some (2,x0.p.bJ,x0.p.aP,x0.p.Lines,x0.p.bA,x0.periods))
   else
    ((idx p1 1).bind fun x21=>
    (idx mD.1 0).bind fun x23=>
    (idx mD.1 1).bind fun x25=>
    (idx mD.1 2).bind fun x27=>
    (idx mD.1 3).bind fun x29=>
    aO (decide ((x0.p.aP.length+([(aQ.mk x21.Text x23 x25 x27 x29)]:List aQ).length)*48≤140737488355328))<|
    some (0,x0.p.bJ,(x0.p.aP++([(aQ.mk x21.Text x23 x25 x27 x29)]:List aQ)),x0.p.Lines,x0.p.bA,x0.periods)))
  else
   ((dH (decide ((p1.length:Int)=4)) default (idx p1 0)).bind fun x34=>
   if (decide ((p1.length:Int)=4)&&decide (x34.Text=(⟨[108,105,110,101]⟩:Str))) then
    ((idx p1 3).bind fun Hz=>
    (tT Hz.Text).bind fun y39=>
    if (!y39.2) then
     (some (2,x0.p.bJ,x0.p.aP,x0.p.Lines,x0.p.bA,x0.periods))
    else
     ((idx p1 2).bind fun jQ=>
     (V6 x0 jQ.Text).bind fun jL=>
     if decide (jL<0) then
      (some (3,x0.p.bJ,x0.p.aP,x0.p.Lines,x0.p.bA,x0.periods))
     else
      ((idx p1 1).bind fun xu=>
      aO (decide ((x0.p.Lines.length+1)*56≤140737488355328))<|
      some (0,x0.p.bJ,x0.p.aP,(x0.p.Lines++[(Line.mk xu.Text jL y39.1 ([]:List bW))]),x0.p.bA,x0.periods))))
   else
    ((dH (decide ((p1.length:Int)=4)) default (idx p1 0)).bind fun Ny=>
    if (decide ((p1.length:Int)=4)&&decide (Ny.Text=(⟨[100,101,109,97,110,100]⟩:Str))) then
     ((idx p1 3).bind fun oV=>
     (tT oV.Text).bind fun qB=>
     if (!qB.2) then
      (some (2,x0.p.bJ,x0.p.aP,x0.p.Lines,x0.p.bA,x0.periods))
     else
      ((idx p1 1).bind fun Nz=>
      (idx p1 2).bind fun Q5=>
      (Fh x0.l.aT Nz.Text).bind fun qC=>
      (Fh x0.l.aT Q5.Text).bind fun ND=>
      if (decide (qC<0)||decide (ND<0)) then
       (some (3,x0.p.bJ,x0.p.aP,x0.p.Lines,x0.p.bA,x0.periods))
      else
       (aO (decide ((x0.p.bA.length+([(bZ.mk qC ND qB.1)]:List bZ).length)*24≤140737488355328))<|
       some (0,x0.p.bJ,x0.p.aP,x0.p.Lines,(x0.p.bA++([(bZ.mk qC ND qB.1)]:List bZ)),x0.periods))))
    else
     (some (2,x0.p.bJ,x0.p.aP,x0.p.Lines,x0.p.bA,x0.periods)))))
set_option maxHeartbeats 4000000 in
theorem auU(S:aW)(w:World)(eT:Nat)(x0:iN)(aC:ah.R iN)(p1:List Word)(cZ:ah.R (List Word))(y:Int×Int×(List aQ)×(List Line)×(List bZ)×Int)(hM:VY x0 p1=some y)(hP:Pre S [own eT 158 (vH x0 aC),aj 71 aC.2.1 x0.p.aP,aj 90 aC.2.2.1 x0.p.Routes,bP (fun _=>True) 56 58 aC.2.2.2.1 x0.p.Lines,aj 79 aC.2.2.2.2.1 x0.p.Changes,aj 94 aC.2.2.2.2.2.1 x0.p.Turns,aj 84 aC.2.2.2.2.2.2.1 x0.p.bB,aj 86 aC.2.2.2.2.2.2.2 x0.p.bA] w)(Az:ah.ok (α:=List Str) S w aC.1.1 x0.l.aT)(AA:ah.ok (α:=List Str) S w aC.1.2.1 x0.l.bE)(AB:ah.ok (α:=List Section) S w aC.1.2.2.1 x0.l.Sections)(AJ:ah.ok (α:=List Link) S w aC.1.2.2.2 x0.l.Links)(um:ah.ok S w cZ p1):
   Calls Tryz.prog 146 #[vP eT,sL cZ p1] w (Post (β:=(SR (ah.R aQ))×(SR (ah.R Line))×(SR (ah.R bZ))) S [own eT 158 (vH x0 aC),aj 71 aC.2.1 x0.p.aP,aj 90 aC.2.2.1 x0.p.Routes,bP (fun _=>True) 56 58 aC.2.2.2.1 x0.p.Lines,aj 79 aC.2.2.2.2.1 x0.p.Changes,aj 94 aC.2.2.2.2.2.1 x0.p.Turns,aj 84 aC.2.2.2.2.2.2.1 x0.p.bB,aj 86 aC.2.2.2.2.2.2.2 x0.p.bA] (fun g=>vI y.1) (fun g=>[own eT 158 [sL aC.1.1 x0.l.aT,sL aC.1.2.1 x0.l.bE,sL aC.1.2.2.1 x0.l.Sections,sL aC.1.2.2.2 x0.l.Links,vI y.2.1,sL g.1 y.2.2.1,sL aC.2.2.1 x0.p.Routes,sL g.2.1 y.2.2.2.1,sL aC.2.2.2.2.1 x0.p.Changes,sL aC.2.2.2.2.2.1 x0.p.Turns,sL aC.2.2.2.2.2.2.1 x0.p.bB,sL g.2.2 y.2.2.2.2.1,vI y.2.2.2.2.2],aj 71 g.1 y.2.2.1,aj 90 aC.2.2.1 x0.p.Routes,bP (fun _=>True) 56 58 g.2.1 y.2.2.2.1,aj 79 aC.2.2.2.2.1 x0.p.Changes,aj 94 aC.2.2.2.2.2.1 x0.p.Turns,aj 84 aC.2.2.2.2.2.2.1 x0.p.bB,aj 86 g.2.2 y.2.2.2.2.1]) w):=by
 refine bF (args:=[_,_]) Tryz.func146 rfl (hP.start |>.bG Az|>.bG AA|>.bG AB|>.bG AJ|>.bG um) rfl ?_;unfold VY at hM;refine aJ ?_;refine au fun K2 hK2=>?_;refine go ?_;obtain⟨x1,hx2,hM⟩:=bind_some hM;refine bY rfl (dL 3 (kG p1 cZ) (fun hg=>let h:=jX (cu hx2 hg);⟨h.1,h.2.1⟩)) ?_;refine bY rfl (aY 0) ?_;refine bY rfl (dY 0 (kG p1 cZ) (fun hg=>cu hx2 hg)) ?_;refine go ?_;refine co hM (fun hc3 hM=>?_) (fun hc3 hM=>?_)
 ·refine aR ?_;refine ix 3 0 (kG p1 cZ) hM fun x4 hx5 hM=>?_;obtain⟨y6,nS,hM⟩:=bind_some hM;refine cv (fun hs=>yc _ _ x4.Text y6 nS (aM hs)) ?_;refine om ?_;refine oe (bU (vs:=[vI y6.1,.bool y6.2])) ?_;refine oe (bU (vs:=[vI y6.1,.bool y6.2])) ?_;refine oa ?_;refine aN ?_;refine au fun K5 dx=>?_;refine aR ?_;refine oe iC ?_;refine oc hM (fun hc8 hM=>?_) (fun hc8 hM=>?_)
  · refine aJ ?_;obtain rfl:=some_inj hM;refine aF (eG (fun w hm=>bR (aC.2.1,aC.2.2.2.1,aC.2.2.2.2.2.2.2) hm rfl))
  refine cs dx ?_;refine go ?_;refine oP hM fun hM=>?_;refine go ?_;refine kY ?_;refine on ?_;refine au fun K9 fH=>?_;refine go ?_;refine co hM (fun tH hM=>?_) (fun tH hM=>?_)
  · refine aJ ?_;obtain rfl:=some_inj hM;refine aF (eG (fun w hm=>bR (aC.2.1,aC.2.2.2.1,aC.2.2.2.2.2.2.2) hm rfl))
  refine cs fH ?_;refine go ?_;refine kY ?_;refine on ?_;refine aJ ?_;obtain rfl:=some_inj hM;refine aF (eG (fun w hm=>bR (aC.2.1,aC.2.2.2.1,aC.2.2.2.2.2.2.2) hm rfl))
 refine go ?_;obtain⟨ow,IX,hM⟩:=bind_some hM;refine bY rfl (dL 3 (kG p1 cZ) (fun hg=>let h:=jX (cu IX hg);⟨h.1,h.2.1⟩)) ?_;refine bY rfl (aY 0) ?_;refine bY rfl (dY 0 (kG p1 cZ) (fun hg=>cu IX hg)) ?_;refine go ?_;refine co hM (fun zM hM=>?_) (fun zM hM=>?_)
 ·refine aR ?_;obtain⟨Y7,ahz,hM⟩:=bind_some hM;refine bf (J3 (r:=cZ) (xs:=p1) (ol:=some (.i64,2)) (oh:=none) (Sk.dw (α:=List Word) (r:=cZ) (x:=p1) hA) ahz (fun r16=>?_));obtain⟨mD,DR,hM⟩:=bind_some hM;refine bf (fu iO.nil (fun S w hs hP=>aj5 _ w Y7 r16 mD DR (aM hs) (kM hs)) fG (fun rF=>?_));dsimp only[cA,nA];refine om ?_;refine oe (bU (vs:=[sL rF mD.1,.bool mD.2])) ?_;refine oe (bU (vs:=[sL rF mD.1,.bool mD.2])) ?_;refine oa ?_;refine aN ?_;refine au fun EB rU=>?_;refine aR ?_;refine oe iC ?_;refine oc hM (fun zN hM=>?_) (fun zN hM=>?_)
  · refine aJ ?_;obtain rfl:=some_inj hM;refine aF (eG (fun w hm=>bR (aC.2.1,aC.2.2.2.1,aC.2.2.2.2.2.2.2) hm rfl))
  refine cs rU ?_;refine au fun Ca pY=>?_;refine kZ [8] 28 ?_;refine zm 0 ?_;refine zm 1 ?_;refine aI 2 rfl dF ?_;refine aI 3 rfl (aY 4) ?_;refine fz 4 1 ?_;refine zm 6 ?_;refine LB 7 3 0 (kG p1 cZ) hM fun x21 adg hM=>?_;refine zm 10 ?_;refine AX 11 1 (Kn.aj (e:=3) (r:=rF) hA) hM fun x23 hx24 hM=>?_;refine zm 13 ?_;refine AX 14 1 (Kn.aj (e:=3) (r:=rF) hA) hM fun x25 Gl hM=>?_;refine zm 16 ?_;refine AX 17 1 (Kn.aj (e:=3) (r:=rF) hA) hM fun x27 hx28 hM=>?_;refine zm 19 ?_;obtain⟨x29,adh,hM⟩:=bind_some hM;refine aI 20 rfl (dL 1 (Kn.aj (e:=3) (r:=rF) hA) (iS adh)) ?_;refine aI 21 rfl (dY 0 (Kn.aj (e:=3) (r:=rF) hA) (fun _=>adh)) ?_;refine aI 22 rfl (dO [.string x21.Text.ba,vI x23,vI x25,vI x27,vI x29]) ?_;refine cK 23 rfl (fI (α:=aQ) 71 (fun _=>()) ([(aQ.mk x21.Text x23 x25 x27 x29)]:List aQ) oF (fun MC=>⟨rI,?_⟩));obtain⟨aoI,hM⟩:=bQ hM;refine cK 24 rfl (iq (r:=aC.2.1) (r2:=MC) uR (Kn.aj (e:=71) (r:=MC) hA) oF (of_decide_eq_true aoI) (fun r32=>⟨rI,?_⟩));refine aI 25 rfl dF ?_;refine aI 26 rfl (aY 4) ?_;refine aI 27 rfl (aY 1) ?_;refine iX rfl (sO ?_);refine iW (pY _ _ ?_);refine aJ ?_;obtain rfl:=some_inj hM;refine aF (eG (fun w hm=>bR (r32,aC.2.2.2.1,aC.2.2.2.2.2.2.2) hm rfl))
 refine go ?_;obtain⟨x34,Ck,hM⟩:=bind_some hM;refine bY rfl (dL 3 (kG p1 cZ) (fun hg=>let h:=jX (cu Ck hg);⟨h.1,h.2.1⟩)) ?_;refine bY rfl (aY 0) ?_;refine bY rfl (dY 0 (kG p1 cZ) (fun hg=>cu Ck hg)) ?_;refine go ?_;refine co hM (fun acR hM=>?_) (fun acR hM=>?_)
 ·refine aR ?_;refine ix 3 0 (kG p1 cZ) hM fun Hz hx38 hM=>?_;obtain⟨y39,Tf,hM⟩:=bind_some hM;refine cv (fun hs=>yc _ _ Hz.Text y39 Tf (aM hs)) ?_;refine om ?_;refine oe (bU (vs:=[vI y39.1,.bool y39.2])) ?_;refine oe (bU (vs:=[vI y39.1,.bool y39.2])) ?_;refine oa ?_;refine aN ?_;refine au fun K23 IJ=>?_;refine aR ?_;refine oe iC ?_;refine oc hM (fun Ci hM=>?_) (fun Ci hM=>?_)
  · refine aJ ?_;obtain rfl:=some_inj hM;refine aF (eG (fun w hm=>bR (aC.2.1,aC.2.2.2.1,aC.2.2.2.2.2.2.2) hm rfl))
  refine cs IJ ?_;refine aR ?_;refine om ?_;refine ix 3 0 (kG p1 cZ) hM fun jQ IZ hM=>?_;obtain⟨jL,adn,hM⟩:=bind_some hM;refine cv (fun hs=>auY _ _ eT x0 aC jQ.Text jL adn (aM hs) (lQ hA hs) ⟨⟨(kM hs),(kM hs),(kM hs),(kM hs)⟩,⟨(kT hs),(kT hs),(Kn.lend (Kn.bP (e:=56) (e2:=58) (r:=aC.2.2.2.1) hA) hs),(kT hs),(kT hs),(kT hs),(kT hs)⟩⟩) ?_;refine aN ?_;refine au fun Xp Gh=>?_;refine aR ?_;refine oe gq ?_;refine oc hM (fun SG hM=>?_) (fun SG hM=>?_)
  · refine aJ ?_;obtain rfl:=some_inj hM;refine aF (eG (fun w hm=>bR (aC.2.1,aC.2.2.2.1,aC.2.2.2.2.2.2.2) hm rfl))
  refine cs Gh ?_;refine au fun Rh DC=>?_;refine kZ [8] 18 ?_;refine zm 0 ?_;refine zm 1 ?_;refine aI 2 rfl dF ?_;refine aI 3 rfl (aY 4) ?_;refine fz 4 3 ?_;refine zm 6 ?_;refine LB 7 3 0 (kG p1 cZ) hM fun xu N9 hM=>?_;refine zm 10 ?_;refine zm 11 ?_;refine aI 12 rfl (dO [.string xu.Text.ba,vI jL,vI y39.1,z0]) ?_;refine vg (fun w hm=>hm.sN (α:=bW) 58 (fun _=>())) ?_;refine vg (fun w hm=>hm.freeze (r:=l7) uA) ?_;refine cK 13 rfl (akX (α:=Line) 56 (fun _=>l7) ([(Line.mk xu.Text jL y39.1 ([]:List bW))]:List Line) (jV.cons (fun S w hs=>(kI hs)) jV.nil) (fun Pw aqQ=>⟨rI,?_⟩));obtain⟨acO,hM⟩:=bQ hM;refine cK 14 rfl (akV (r:=aC.2.2.2.1) (r2:=Pw) (xs:=x0.p.Lines) (u:=(Line.mk xu.Text jL y39.1 ([]:List bW))) l7 s1 hA aqQ rfl ⟨rfl,rfl⟩ (of_decide_eq_true acO) (fun ME=>⟨rI,?_⟩));refine aI 15 rfl dF ?_;refine aI 16 rfl (aY 4) ?_;refine aI 17 rfl (aY 3) ?_;refine iX rfl (sO ?_);refine iW (DC _ _ ?_);refine aJ ?_;obtain rfl:=some_inj hM;refine aF (eG (fun w hm=>bR (aC.2.1,ME,aC.2.2.2.2.2.2.2) hm rfl))
 refine go ?_;obtain⟨Ny,Ls,hM⟩:=bind_some hM;refine bY rfl (dL 3 (kG p1 cZ) (fun hg=>let h:=jX (cu Ls hg);⟨h.1,h.2.1⟩)) ?_;refine bY rfl (aY 0) ?_;refine bY rfl (dY 0 (kG p1 cZ) (fun hg=>cu Ls hg)) ?_;refine go ?_;refine co hM (fun Lg hM=>?_) (fun Lg hM=>?_)
 ·refine aR ?_;refine ix 3 0 (kG p1 cZ) hM fun oV zO hM=>?_;obtain⟨qB,Lx,hM⟩:=bind_some hM;refine cv (fun hs=>yc _ _ oV.Text qB Lx (aM hs)) ?_;refine om ?_;refine oe (bU (vs:=[vI qB.1,.bool qB.2])) ?_;refine oe (bU (vs:=[vI qB.1,.bool qB.2])) ?_;refine oa ?_;refine aN ?_;refine au fun K34 Sj=>?_;refine aR ?_;refine oe iC ?_;refine oc hM (fun acU hM=>?_) (fun acU hM=>?_)
  · refine aJ ?_;obtain rfl:=some_inj hM;refine aF (eG (fun w hm=>bR (aC.2.1,aC.2.2.2.1,aC.2.2.2.2.2.2.2) hm rfl))
  refine cs Sj ?_;refine au fun K37 Sm=>?_;refine dS _ (List.Sublist.refl _) ?_;refine am 0 ?_;refine ay 1 rfl dF ?_;refine ay 2 rfl (aY 0) ?_;refine fa 3 0 ?_;refine am 5 ?_;refine iQ 6 3 0 (kG p1 cZ) hM fun Nz aqY hM=>?_;refine am 10 ?_;refine ay 11 rfl dF ?_;refine ay 12 rfl (aY 0) ?_;refine fa 13 0 ?_;refine am 15 ?_;refine iQ 16 3 0 (kG p1 cZ) hM fun Q5 aqZ hM=>?_;obtain⟨qC,adr,hM⟩:=bind_some hM;refine bT 9 rfl (sV (fun hs=>P6 _ _ x0.l.aT aC.1.1 Nz.Text qC adr (aM hs) (kM hs)) ⟨rI,?_⟩);obtain⟨ND,arx,hM⟩:=bind_some hM;refine bT 19 rfl (sV (fun hs=>P6 _ _ x0.l.aT aC.1.1 Q5.Text ND arx (aM hs) (kM hs)) ⟨rI,?_⟩);refine ay 20 rfl eX ?_;refine ay 21 rfl eX ?_;refine bS (Sm _ _ ?_);refine au fun K38 acD=>?_;refine go ?_;refine co hM (fun apc hM=>?_) (fun apc hM=>?_)
  · refine aJ ?_;obtain rfl:=some_inj hM;refine aF (eG (fun w hm=>bR (aC.2.1,aC.2.2.2.1,aC.2.2.2.2.2.2.2) hm rfl))
  refine cs acD ?_;refine go ?_;refine oe (dO [vI qC,vI ND,vI qB.1]) ?_;refine bf (fI (α:=bZ) 86 (fun _=>()) ([(bZ.mk qC ND qB.1)]:List bZ) oF (fun r70=>?_));obtain⟨aoR,hM⟩:=bQ hM;refine bf (iq (r:=aC.2.2.2.2.2.2.2) (r2:=r70) uR (Kn.aj (e:=86) (r:=r70) hA) oF (of_decide_eq_true aoR) (fun r71=>?_));refine go ?_;refine kY ?_;refine on ?_;refine aJ ?_;obtain rfl:=some_inj hM;refine aF (eG (fun w hm=>bR (aC.2.1,aC.2.2.2.1,r71) hm rfl))
 refine cs hK2 ?_;refine aJ ?_;obtain rfl:=some_inj hM;refine aF (eG (fun w hm=>bR (aC.2.1,aC.2.2.2.1,aC.2.2.2.2.2.2.2) hm rfl))
def VX(x0:iN)(p1:List Word):Option (Int×Int×(List aQ)×(List aG)×(List Line)×(List Change)×(List Turn)×(List Sync)×(List bZ)×Int):=
 (idx p1 0).bind fun x1=>
 if decide (x1.Text=(⟨[114,111,117,116,101]⟩:Str)) then
  ((V4 x0 p1).bind fun y4=>
  some (y4.1,x0.p.bJ,x0.p.aP,y4.2,x0.p.Lines,x0.p.Changes,x0.p.Turns,x0.p.bB,x0.p.bA,x0.periods))
 else
  (if decide (x1.Text=(⟨[114,105,100,101]⟩:Str)) then
   ((VZ x0 p1).bind fun y8=>
   some (y8.1,x0.p.bJ,x0.p.aP,x0.p.Routes,y8.2,x0.p.Changes,x0.p.Turns,x0.p.bB,x0.p.bA,x0.periods))
  else
   (if decide (x1.Text=(⟨[99,104,97,110,103,101]⟩:Str)) then
    ((VW x0 p1).bind fun fB=>
    some (fB.1,x0.p.bJ,x0.p.aP,x0.p.Routes,x0.p.Lines,fB.2,x0.p.Turns,x0.p.bB,x0.p.bA,x0.periods))
   else
    (if decide (x1.Text=(⟨[116,117,114,110]⟩:Str)) then
     ((V8 x0 p1).bind fun fP=>
     some (fP.1,x0.p.bJ,x0.p.aP,x0.p.Routes,x0.p.Lines,x0.p.Changes,fP.2,x0.p.bB,x0.p.bA,x0.periods))
    else
     (if decide (x1.Text=(⟨[115,121,110,99]⟩:Str)) then
      ((V7 x0 p1).bind fun y20=>
      some (y20.1,x0.p.bJ,x0.p.aP,x0.p.Routes,x0.p.Lines,x0.p.Changes,x0.p.Turns,y20.2,x0.p.bA,x0.periods))
     else
      ((VY x0 p1).bind fun y23=>
      some (y23.1,y23.2.1,y23.2.2.1,x0.p.Routes,y23.2.2.2.1,x0.p.Changes,x0.p.Turns,x0.p.bB,y23.2.2.2.2.1,y23.2.2.2.2.2))))))
theorem auT(S:aW)(w:World)(eT:Nat)(x0:iN)(aC:ah.R iN)(p1:List Word)(cZ:ah.R (List Word))(y:Int×Int×(List aQ)×(List aG)×(List Line)×(List Change)×(List Turn)×(List Sync)×(List bZ)×Int)(hM:VX x0 p1=some y)(hP:Pre S [own eT 158 (vH x0 aC),aj 71 aC.2.1 x0.p.aP,aj 90 aC.2.2.1 x0.p.Routes,bP (fun _=>True) 56 58 aC.2.2.2.1 x0.p.Lines,aj 79 aC.2.2.2.2.1 x0.p.Changes,aj 94 aC.2.2.2.2.2.1 x0.p.Turns,aj 84 aC.2.2.2.2.2.2.1 x0.p.bB,aj 86 aC.2.2.2.2.2.2.2 x0.p.bA] w)(Az:ah.ok (α:=List Str) S w aC.1.1 x0.l.aT)(AA:ah.ok (α:=List Str) S w aC.1.2.1 x0.l.bE)(AB:ah.ok (α:=List Section) S w aC.1.2.2.1 x0.l.Sections)(AJ:ah.ok (α:=List Link) S w aC.1.2.2.2 x0.l.Links)(um:ah.ok S w cZ p1):
   Calls Tryz.prog 95 #[vP eT,sL cZ p1] w (Post (β:=(SR (ah.R aQ))×(SR (ah.R aG))×(SR (ah.R Line))×(SR (ah.R Change))×(SR (ah.R Turn))×(SR (ah.R Sync))×(SR (ah.R bZ))) S [own eT 158 (vH x0 aC),aj 71 aC.2.1 x0.p.aP,aj 90 aC.2.2.1 x0.p.Routes,bP (fun _=>True) 56 58 aC.2.2.2.1 x0.p.Lines,aj 79 aC.2.2.2.2.1 x0.p.Changes,aj 94 aC.2.2.2.2.2.1 x0.p.Turns,aj 84 aC.2.2.2.2.2.2.1 x0.p.bB,aj 86 aC.2.2.2.2.2.2.2 x0.p.bA] (fun g=>vI y.1) (fun g=>[own eT 158 [sL aC.1.1 x0.l.aT,sL aC.1.2.1 x0.l.bE,sL aC.1.2.2.1 x0.l.Sections,sL aC.1.2.2.2 x0.l.Links,vI y.2.1,sL g.1 y.2.2.1,sL g.2.1 y.2.2.2.1,sL g.2.2.1 y.2.2.2.2.1,sL g.2.2.2.1 y.2.2.2.2.2.1,sL g.2.2.2.2.1 y.2.2.2.2.2.2.1,sL g.2.2.2.2.2.1 y.2.2.2.2.2.2.2.1,sL g.2.2.2.2.2.2 y.2.2.2.2.2.2.2.2.1,vI y.2.2.2.2.2.2.2.2.2],aj 71 g.1 y.2.2.1,aj 90 g.2.1 y.2.2.2.1,bP (fun _=>True) 56 58 g.2.2.1 y.2.2.2.2.1,aj 79 g.2.2.2.1 y.2.2.2.2.2.1,aj 94 g.2.2.2.2.1 y.2.2.2.2.2.2.1,aj 84 g.2.2.2.2.2.1 y.2.2.2.2.2.2.2.1,aj 86 g.2.2.2.2.2.2 y.2.2.2.2.2.2.2.2.1]) w):=by
 refine bF (args:=[_,_]) Tryz.func95 rfl (hP.start |>.bG Az|>.bG AA|>.bG AB|>.bG AJ|>.bG um) rfl ?_;unfold VX at hM;refine aJ ?_;refine au fun K2 hK2=>?_;refine aR ?_;refine ix 3 0 (kG p1 cZ) hM fun x1 hx2 hM=>?_;refine go ?_;refine co hM (fun hc3 hM=>?_) (fun hc3 hM=>?_)
 ·refine aR ?_;refine om ?_;obtain⟨y4,sw,hM⟩:=bind_some hM;refine bf (eH sA (fun S w hs hP=>auW _ w eT x0 aC p1 cZ y4 sw hP (kI hs) (kI hs) (kI hs) (kI hs) (kI hs)) (fun r6=>?_));dsimp only[cA,nA];refine aN ?_;obtain rfl:=some_inj hM;refine aF (eG (fun w hm=>bR (aC.2.1,r6,aC.2.2.2.1,aC.2.2.2.2.1,aC.2.2.2.2.2.1,aC.2.2.2.2.2.2.1,aC.2.2.2.2.2.2.2) hm rfl))
 refine go ?_;refine co hM (fun jr hM=>?_) (fun jr hM=>?_)
 ·refine aR ?_;refine om ?_;obtain⟨y8,nT,hM⟩:=bind_some hM;refine bf (eH sA (fun S w hs hP=>auV _ w eT x0 aC p1 cZ y8 nT hP (kI hs) (kI hs) (kI hs) (kI hs) (kI hs)) (fun MB=>?_));dsimp only[cA,nA];refine aN ?_;obtain rfl:=some_inj hM;refine aF (eG (fun w hm=>bR (aC.2.1,aC.2.2.1,MB,aC.2.2.2.2.1,aC.2.2.2.2.2.1,aC.2.2.2.2.2.2.1,aC.2.2.2.2.2.2.2) hm rfl))
 refine go ?_;refine co hM (fun rY hM=>?_) (fun rY hM=>?_)
 ·refine aR ?_;refine om ?_;obtain⟨fB,DN,hM⟩:=bind_some hM;refine bf (eH sA (fun S w hs hP=>auS _ w eT x0 aC p1 cZ fB DN hP (kI hs) (kI hs) (kI hs) (kI hs) (kI hs)) (fun Pt=>?_));dsimp only[cA,nA];refine aN ?_;obtain rfl:=some_inj hM;refine aF (eG (fun w hm=>bR (aC.2.1,aC.2.2.1,aC.2.2.2.1,Pt,aC.2.2.2.2.2.1,aC.2.2.2.2.2.2.1,aC.2.2.2.2.2.2.2) hm rfl))
 refine go ?_;refine co hM (fun rZ hM=>?_) (fun rZ hM=>?_)
 ·refine aR ?_;refine om ?_;obtain⟨fP,yN,hM⟩:=bind_some hM;refine bf (eH sA (fun S w hs hP=>au0 _ w eT x0 aC p1 cZ fP yN hP (kI hs) (kI hs) (kI hs) (kI hs) (kI hs)) (fun yZ=>?_));dsimp only[cA,nA];refine aN ?_;obtain rfl:=some_inj hM;refine aF (eG (fun w hm=>bR (aC.2.1,aC.2.2.1,aC.2.2.2.1,aC.2.2.2.2.1,yZ,aC.2.2.2.2.2.2.1,aC.2.2.2.2.2.2.2) hm rfl))
 refine go ?_;refine co hM (fun hc19 hM=>?_) (fun hc19 hM=>?_)
 ·refine aR ?_;refine om ?_;obtain⟨y20,yO,hM⟩:=bind_some hM;refine bf (eH sA (fun S w hs hP=>auZ _ w eT x0 aC p1 cZ y20 yO hP (kI hs) (kI hs) (kI hs) (kI hs) (kI hs)) (fun Bg=>?_));dsimp only[cA,nA];refine aN ?_;obtain rfl:=some_inj hM;refine aF (eG (fun w hm=>bR (aC.2.1,aC.2.2.1,aC.2.2.2.1,aC.2.2.2.2.1,aC.2.2.2.2.2.1,Bg,aC.2.2.2.2.2.2.2) hm rfl))
 refine cs hK2 ?_;refine aR ?_;refine om ?_;obtain⟨y23,hy24,hM⟩:=bind_some hM;refine bf (eH sA (fun S w hs hP=>auU _ w eT x0 aC p1 cZ y23 hy24 hP (kI hs) (kI hs) (kI hs) (kI hs) (kI hs)) (fun CB=>?_));dsimp only[cA,nA];refine aN ?_;obtain rfl:=some_inj hM;refine aF (eG (fun w hm=>bR (CB.1,aC.2.2.1,CB.2.1,aC.2.2.2.2.1,aC.2.2.2.2.2.1,aC.2.2.2.2.2.2.1,CB.2.2) hm rfl))
def ae9(l0:Layout)(yt:Int)(wO:List aQ)(wP:List aG)(wQ:List Line)(wR:List Change)(wS:List Turn)(wM:List Sync)(wN:List bZ):Unit→Option (Plan×Int×Int):=fun _=>
 (Qg l0 (Plan.mk yt wO wP wQ wR wS wM wN)).bind fun qB=>
 if decide (qB≠0) then
  (some ((Plan.mk 0 ([]:List aQ) ([]:List aG) ([]:List Line) ([]:List Change) ([]:List Turn) ([]:List Sync) ([]:List bZ)),0,qB))
 else
  (some ((Plan.mk yt wO wP wQ wR wS wM wN),0,0))
def MQ(y13:(List (List Word))×Int×Int)(l0:Layout)(aK:(Int×(List aQ)×(List aG)×(List Line)×(List Change)×(List Turn)×(List Sync)×(List bZ)×Int×Nat)→Option (Plan×Int×Int)):(Int×(List aQ)×(List aG)×(List Line)×(List Change)×(List Turn)×(List Sync)×(List bZ)×Int×Nat)→Option (Plan×Int×Int):=fun (yt,wO,wP,wQ,wR,wS,wM,wN,Km,aH)=>
 if decide ((aH:Int)<(y13.1.length:Int)) then
  ((idx y13.1 (aH:Int)).bind fun x40=>
  (VX (iN.mk l0 (Plan.mk yt wO wP wQ wR wS wM wN) Km) x40).bind fun fQ=>
  if decide (fQ.1≠0) then
   ((idx y13.1 (aH:Int)).bind fun x46=>
   (idx x46 0).bind fun Aj=>
   some ((Plan.mk 0 ([]:List aQ) ([]:List aG) ([]:List Line) ([]:List Change) ([]:List Turn) ([]:List Sync) ([]:List bZ)),Aj.Line,fQ.1))
  else
   (aO (aX ((aH:Int)+1))<|
   aK (fQ.2.1,fQ.2.2.1,fQ.2.2.2.1,fQ.2.2.2.2.1,fQ.2.2.2.2.2.1,fQ.2.2.2.2.2.2.1,fQ.2.2.2.2.2.2.2.1,fQ.2.2.2.2.2.2.2.2.1,fQ.2.2.2.2.2.2.2.2.2,aH+1)))
 else
  (ae9 l0 yt wO wP wQ wR wS wM wN ())
def VP(l0:Layout)(jK:Str):Option (Plan×Int×Int):=
 (Jw l0).bind fun y3=>
 if decide (y3≠0) then
  (some ((Plan.mk 0 ([]:List aQ) ([]:List aG) ([]:List Line) ([]:List Change) ([]:List Turn) ([]:List Sync) ([]:List bZ)),0,1))
 else
  ((PY jK).bind fun y13=>
  if decide (y13.2.2≠0) then
   (some ((Plan.mk 0 ([]:List aQ) ([]:List aG) ([]:List Line) ([]:List Change) ([]:List Turn) ([]:List Sync) ([]:List bZ)),y13.2.1,y13.2.2))
  else
   (iter (MQ y13 l0) FUEL (0,([]:List aQ),([]:List aG),([]:List Line),([]:List Change),([]:List Turn),([]:List Sync),([]:List bZ),0,0)))
theorem auO(S:aW)(w:World)(l0:Layout)(aD:ah.R Layout)(jK:Str)(y:Plan×Int×Int)(hM:VP l0 jK=some y)(hS:sB S w)(dQ:ah.ok S w aD l0):
   Calls Tryz.prog 43 #[.agg (jy l0 aD),.string jK.ba] w (Post (β:=(ah.R Plan)) S [] (fun g=> .tuple #[.agg (jI y.1 g),vI y.2.1,vI y.2.2]) (fun g=>[aj 71 g.1 y.1.aP,aj 90 g.2.1 y.1.Routes,aj 56 g.2.2.1 y.1.Lines,aj 79 g.2.2.2.1 y.1.Changes,aj 94 g.2.2.2.2.1 y.1.Turns,aj 84 g.2.2.2.2.2.1 y.1.bB,aj 86 g.2.2.2.2.2.2 y.1.bA]) w):=by
 refine bF (args:=[_,_]) Tryz.func43 rfl ((pre_nil hS).start |>.je dQ) rfl ?_;unfold VP at hM;refine sr ?_;refine oB (iR l0 aD) fun b1=>?_;refine oA rfl fun b2=>?_;refine oa ?_;refine aN ?_;refine au fun K2 hK2=>?_;refine sr ?_;refine oe fC ?_;obtain⟨y3,hy4,hM⟩:=bind_some hM;refine cv (fun hs=>ZN _ _ l0 aD y3 hy4 (aM hs) ⟨(kM hs),(kM hs),(kM hs),(kM hs)⟩) ?_;refine oe nQ ?_;refine oc hM (fun iH hM=>?_) (fun iH hM=>?_)
 ·refine sr ?_;refine oe (dO [vI 0,z0,z0,z0,z0,z0,z0,z0]) ?_;refine oS b2 [vI 0,z0,z0,z0,z0,z0,z0,z0] ?_;refine oa ?_;refine aN ?_;refine rn aQ 71 (fun _=>()) ?_;refine rn aG 90 (fun _=>uF) ?_;refine rn Line 56 (fun _=>l7) ?_;refine iP (fun w hm=>hm.Cv (α:=Line) (e:=56) (e2:=58) (es:=(fun _=>l7)) uA) ?_;refine rn Change 79 (fun _=>()) ?_;refine rn Turn 94 (fun _=>()) ?_;refine rn Sync 84 (fun _=>()) ?_;refine rn bZ 86 (fun _=>()) ?_;refine iP (fun w hm=>hm.EN (r:=qM) uA) ?_;obtain rfl:=some_inj hM;refine aF (qp (fun w hm=>bR (zW,yS,qM,wT,xV,sJ,tO) hm rfl))
 refine cs hK2 ?_;refine aR ?_;obtain⟨y13,qK,hM⟩:=bind_some hM;refine bf (eH iO.nil (fun S w hs hP=>ajK _ w jK y13 qK hs.lt) (fun mI=>?_));dsimp only[cA,nA];refine om ?_;refine oe (bU (vs:=[sL mI y13.1,vI y13.2.1,vI y13.2.2])) ?_;refine oe (bU (vs:=[sL mI y13.1,vI y13.2.1,vI y13.2.2])) ?_;refine oe (bU (vs:=[sL mI y13.1,vI y13.2.1,vI y13.2.2])) ?_;refine oa ?_;refine oa ?_;refine aN ?_;refine au fun K6 dG=>?_;refine aR ?_;refine oe nQ ?_;refine oc hM (fun hc16 hM=>?_) (fun hc16 hM=>?_)
 ·refine sr ?_;refine oe (dO [vI 0,z0,z0,z0,z0,z0,z0,z0]) ?_;refine om ?_;refine om ?_;refine oS b2 [vI 0,z0,z0,z0,z0,z0,z0,z0] ?_;refine oa ?_;refine aN ?_;refine rn aQ 71 (fun _=>()) ?_;refine rn aG 90 (fun _=>uF) ?_;refine rn Line 56 (fun _=>l7) ?_;refine iP (fun w hm=>hm.Cv (α:=Line) (e:=56) (e2:=58) (es:=(fun _=>l7)) uA) ?_;refine rn Change 79 (fun _=>()) ?_;refine rn Turn 94 (fun _=>()) ?_;refine rn Sync 84 (fun _=>()) ?_;refine rn bZ 86 (fun _=>()) ?_;refine iP (fun w hm=>hm.EN (r:=qM) uA) ?_;obtain rfl:=some_inj hM;refine aF (qp (fun w hm=>bR (zW,yS,qM,wT,xV,sJ,tO) hm rfl))
 refine cs dG ?_;refine sr ?_;refine oe fC ?_;refine oe (dO [sL aD.1 l0.aT,sL aD.2.1 l0.bE,sL aD.2.2.1 l0.Sections,sL aD.2.2.2 l0.Links,vI 0,z0,z0,z0,z0,z0,z0,z0,vI 0]) ?_;refine oB [sL aD.1 l0.aT,sL aD.2.1 l0.bE,sL aD.2.2.1 l0.Sections,sL aD.2.2.2 l0.Links,vI 0,z0,z0,z0,z0,z0,z0,z0,vI 0] fun vo=>?_;refine aN ?_;refine au fun tC jC=>?_;refine aJ ?_;refine bI ?_;refine rn aQ 71 (fun _=>()) ?_;refine rn aG 90 (fun _=>uF) ?_;refine rn Line 56 (fun _=>l7) ?_;refine iP (fun w hm=>hm.Cv (α:=Line) (e:=56) (e2:=58) (es:=(fun _=>l7)) uA) ?_;refine rn Change 79 (fun _=>()) ?_;refine rn Turn 94 (fun _=>()) ?_;refine rn Sync 84 (fun _=>()) ?_;refine rn bZ 86 (fun _=>()) ?_;refine rn aQ 71 (fun _=>()) ?_;refine rn aG 90 (fun _=>uF) ?_;refine rn Line 56 (fun _=>l7) ?_;refine iP (fun w hm=>hm.Cv (α:=Line) (e:=56) (e2:=58) (es:=(fun _=>l7)) uA) ?_;refine rn Change 79 (fun _=>()) ?_;refine rn Turn 94 (fun _=>()) ?_;refine rn Sync 84 (fun _=>()) ?_;refine rn bZ 86 (fun _=>()) ?_;refine lr (zW,yS,qM,wT,xV,sJ,tO) hM [2,4,7,10] (fun (yt,wO,wP,wQ,wR,wS,wM,wN,Km,aH) (C9,Da,Ag,Db,Df,CZ,C8)=>[(11,eI (aH:Int))]) [7,0,0,0,0,0,0,0] (fun (yt,wO,wP,wQ,wR,wS,wM,wN,Km,aH) (C9,Da,Ag,Db,Df,CZ,C8)=>[aj 71 C9 wO,aj 90 Da wP,bP (fun _=>True) 56 58 Ag wQ,aj 79 Db wR,aj 94 Df wS,aj 84 CZ wM,aj 86 C8 wN,own vo 158 [sL aD.1 l0.aT,sL aD.2.1 l0.bE,sL aD.2.2.1 l0.Sections,sL aD.2.2.2 l0.Links,vI yt,sL C9 wO,sL Da wP,sL Ag wQ,sL Db wR,sL Df wS,sL CZ wM,sL C8 wN,vI Km]]) ?_;clear hM;rintro aK ⟨yt,wO,wP,wQ,wR,wS,wM,wN,Km,aH⟩ ⟨C9,Da,Ag,Db,Df,CZ,C8⟩ hM eO hL1;dsimp only[MQ,cA,nA] at hM ⊢;refine au fun BZ pX=>?_;refine go ?_;refine co hM (fun hc39 hM=>?_) (fun hc39 hM=>?_)
 ·refine cs pX ?_;refine au fun yu mX=>?_;refine go ?_;refine zP 1 (Kn.aj (e:=105) (r:=mI) hA) hM fun x40 aqX hM=>?_;obtain⟨fQ,I5,hM⟩:=bind_some hM;refine bf (eH sA (fun S w hs hP=>auT _ w vo (iN.mk l0 (Plan.mk yt wO wP wQ wR wS wM wN) Km) (aD,(C9,Da,Ag,Db,Df,CZ,C8)) x40 (mI.es (aH:Int).toNat) fQ I5 hP (kI hs) (kI hs) (kI hs) (kI hs) ((Sk.row (e:=105) (r:=mI) hA aqX) S w hs)) (fun mg=>?_));dsimp only[cA,nA];refine go ?_;refine co hM (fun ao2 hM=>?_) (fun ao2 hM=>?_)
  · refine au fun Rb Dx=>?_;refine dS [own vo 158 [sL aD.1 l0.aT,sL aD.2.1 l0.bE,sL aD.2.2.1 l0.Sections,sL aD.2.2.2 l0.Links,vI fQ.2.1,sL mg.1 fQ.2.2.1,sL mg.2.1 fQ.2.2.2.1,sL mg.2.2.1 fQ.2.2.2.2.1,sL mg.2.2.2.1 fQ.2.2.2.2.2.1,sL mg.2.2.2.2.1 fQ.2.2.2.2.2.2.1,sL mg.2.2.2.2.2.1 fQ.2.2.2.2.2.2.2.1,sL mg.2.2.2.2.2.2 fQ.2.2.2.2.2.2.2.2.1,vI fQ.2.2.2.2.2.2.2.2.2],aj 71 mg.1 fQ.2.2.1,aj 90 mg.2.1 fQ.2.2.2.1,bP (fun _=>True) 56 58 mg.2.2.1 fQ.2.2.2.2.1,aj 79 mg.2.2.2.1 fQ.2.2.2.2.2.1,aj 94 mg.2.2.2.2.1 fQ.2.2.2.2.2.2.1,aj 84 mg.2.2.2.2.2.1 fQ.2.2.2.2.2.2.2.1,aj 86 mg.2.2.2.2.2.2 fQ.2.2.2.2.2.2.2.2.1,aj 86 tO ([]:List bZ),aj 84 sJ ([]:List Sync),aj 94 xV ([]:List Turn),aj 79 wT ([]:List Change),bP (fun _=>True) 56 58 qM ([]:List Line),aj 90 yS ([]:List aG),aj 71 zW ([]:List aQ),aj 105 mI y13.1,own b1 26 (iR l0 aD),iL l0.Links aD.2.2.2,iL l0.Sections aD.2.2.1,iL l0.bE aD.2.1,iL l0.aT aD.1] (by repeat (first|exact List.Sublist.refl _|apply List.Sublist.cons_cons|apply List.Sublist.cons)) ?_;refine ay 0 rfl (dO [vI 0,z0,z0,z0,z0,z0,z0,z0]) ?_;refine am 1 ?_;refine am 2 ?_;refine ET 3 1 (Kn.aj (e:=105) (r:=mI) hA) hM fun x46 adk hM=>?_;obtain⟨Aj,DK,hM⟩:=bind_some hM;refine ay 5 rfl (dL 3 ((Sk.row (e:=105) (r:=mI) hA adk)).kn (iS DK)) ?_;refine ay 6 rfl (aY 1) ?_;refine ay 7 rfl (dY 1 ((Sk.row (e:=105) (r:=mI) hA adk)).kn (fun _=>DK)) ?_;refine am 8 ?_;refine aS 9 rfl b2 [vI 0,z0,z0,z0,z0,z0,z0,z0] ?_;refine ay 10 rfl eX ?_;refine ay 11 rfl eX ?_;refine bS (Dx _ _ ?_);refine rn aQ 71 (fun _=>()) ?_;refine rn aG 90 (fun _=>uF) ?_;refine rn Line 56 (fun _=>l7) ?_;refine iP (fun w hm=>hm.Cv (α:=Line) (e:=56) (e2:=58) (es:=(fun _=>l7)) uA) ?_;refine rn Change 79 (fun _=>()) ?_;refine rn Turn 94 (fun _=>()) ?_;refine rn Sync 84 (fun _=>()) ?_;refine rn bZ 86 (fun _=>()) ?_;refine iP (fun w hm=>hm.EN (r:=qM) uA) ?_;obtain rfl:=some_inj hM;refine aF (qp (fun w hm=>bR (zW,yS,qM,wT,xV,sJ,tO) hm rfl))
  refine cs mX ?_;refine bg ?_;refine om ?_;refine oP hM fun hM=>?_;refine oa ?_;refine bq (hL1 (mg.1,mg.2.1,mg.2.2.1,mg.2.2.2.1,mg.2.2.2.2.1,mg.2.2.2.2.2.1,mg.2.2.2.2.2.2) hM sS rI)
 refine cx jC ?_;dsimp only[ae9] at hM;refine au fun H7 wo=>?_;refine au fun Ca pY=>?_;refine dS _ (List.Sublist.refl _) ?_;refine ay 0 rfl fC ?_;refine am 1 ?_;refine ay 2 rfl dF ?_;refine ay 3 rfl (aY 4) ?_;refine ay 4 rfl (Yi (b:=vo) (o:=4) (l:=[sL aD.1 l0.aT,sL aD.2.1 l0.bE,sL aD.2.2.1 l0.Sections,sL aD.2.2.2 l0.Links,vI yt,sL C9 wO,sL Da wP,sL Ag wQ,sL Db wR,sL Df wS,sL CZ wM,sL C8 wN,vI Km]) (m:=8) (l':=[vI yt,sL C9 wO,sL Da wP,sL Ag wQ,sL Db wR,sL Df wS,sL CZ wM,sL C8 wN])) ?_;obtain⟨qB,Lx,hM⟩:=bind_some hM;refine bT 5 rfl (sV (fun hs=>aj1 _ _ l0 aD (Plan.mk yt wO wP wQ wR wS wM wN) (C9,Da,Ag,Db,Df,CZ,C8) qB Lx (aM hs) ⟨(kM hs),(kM hs),(kM hs),(kM hs)⟩ ⟨(kT hs),(kT hs),(Kn.lend (Kn.bP (e:=56) (e2:=58) (r:=Ag) hA) hs),(kT hs),(kT hs),(kT hs),(kT hs)⟩) ⟨rI,?_⟩);refine ay 6 rfl eX ?_;refine bS (pY _ _ ?_);refine aR ?_;refine oe nQ ?_;refine oc hM (fun acU hM=>?_) (fun acU hM=>?_)
 ·refine sr ?_;refine oe (dO [vI 0,z0,z0,z0,z0,z0,z0,z0]) ?_;refine om ?_;refine oS b2 [vI 0,z0,z0,z0,z0,z0,z0,z0] ?_;refine oa ?_;refine aN ?_;refine rn aQ 71 (fun _=>()) ?_;refine rn aG 90 (fun _=>uF) ?_;refine rn Line 56 (fun _=>l7) ?_;refine iP (fun w hm=>hm.Cv (α:=Line) (e:=56) (e2:=58) (es:=(fun _=>l7)) uA) ?_;refine rn Change 79 (fun _=>()) ?_;refine rn Turn 94 (fun _=>()) ?_;refine rn Sync 84 (fun _=>()) ?_;refine rn bZ 86 (fun _=>()) ?_;refine iP (fun w hm=>hm.EN (r:=qM) uA) ?_;obtain rfl:=some_inj hM;refine aF (qp (fun w hm=>bR (zW,yS,qM,wT,xV,sJ,tO) hm rfl))
 refine cs wo ?_;refine go ?_;refine oe (Yi (b:=vo) (o:=4) (l:=[sL aD.1 l0.aT,sL aD.2.1 l0.bE,sL aD.2.2.1 l0.Sections,sL aD.2.2.2 l0.Links,vI yt,sL C9 wO,sL Da wP,sL Ag wQ,sL Db wR,sL Df wS,sL CZ wM,sL C8 wN,vI Km]) (m:=8) (l':=[vI yt,sL C9 wO,sL Da wP,sL Ag wQ,sL Db wR,sL Df wS,sL CZ wM,sL C8 wN])) ?_;refine oS b2 [vI yt,sL C9 wO,sL Da wP,sL Ag wQ,sL Db wR,sL Df wS,sL CZ wM,sL C8 wN] ?_;refine oa ?_;refine aN ?_;refine iP (fun w hm=>hm.EN (r:=Ag) uA) ?_;obtain rfl:=some_inj hM;refine aF (qp (fun w hm=>bR (C9,Da,Ag,Db,Df,CZ,C8) hm rfl))
end Go.Proofs.YtcalibhfgdncaaaGreatDoor
