/- Models of functions, and that the code computes them. -/
import Derived.Test.YtcalibhfgdncaaaGreatPs
import Derived.Test.YtcalibhfgdncaaaGreatYc
set_option linter.all false
namespace Go.Proofs.YtcalibhfgdncaaaGreat
open Go.Dc Go.RowKit
set_option maxRecDepth 10000
def acF:Unit→Option Bool:=fun _=>
 some true
def OB(t0:dG)(aN:(Int×Nat)→Option Bool):(Int×Nat)→Option Bool:=fun (JH,qW)=>
 if decide ((qW:Int)<(t0.dA.length:Int)) then
  ((idx t0.dA (qW:Int)).bind fun x9=>
  (dW (!(decide (x9<JH))) default (idx t0.cK (qW:Int))).bind fun qK=>
  (dW (!(decide (x9<JH)||decide (qK≤x9))) default (idx t0.cK (qW:Int))).bind fun iw=>
  if ((decide (x9<JH)||decide (qK≤x9))||decide (4194304<iw)) then
   (some false)
  else
   ((idx t0.cK (qW:Int)).bind fun uj=>
   aN (uj,qW+1)))
 else
  (acF ())
def OC(p0:Plan)(t0:dG):Option Bool:=
 if (decide (t0.Line<0)||decide ((p0.Lines.length:Int)≤t0.Line)) then
  (some false)
 else
  ((idx p0.Lines t0.Line).bind fun x4=>
  if (decide ((t0.dA.length:Int)≠(x4.bC.length:Int))||decide ((t0.cK.length:Int)≠(x4.bC.length:Int))) then
   (some false)
  else
   (iter (OB t0) FUEL (0,0)))
theorem ahX(S:bF)(w:World)(p0:Plan)(av:ak.R Plan)(t0:dG)(nC:ak.R dG)(y:Bool)(hM:OC p0 t0=some y)(hS:sB S w)(gB:ak.ok S w av p0)(YD:ak.ok S w nC t0):
   Calls Tryz.prog 18 #[.agg (mO p0 av),.agg (abI t0 nC)] w (dw w (.bool y)):=by
 refine bW (args:=[_,_]) Tryz.func18 rfl ((pre_nil hS).start |>.oL gB|>.ae9 YD) rfl ?_;unfold OC at hM;refine sr ?_;refine oB (fZ p0 av) fun b1=>?_;refine oB (DW t0 nC) fun b2=>?_;refine aL ?_;refine aF fun K2 hK2=>?_
 refine sr ?_;refine oe (ay 0) ?_;refine oe (aD (b:=b2)) ?_;refine oe bK ?_;refine om ?_;refine au rfl (ay 0) ?_;refine au rfl (aD (b:=b2)) ?_;refine au rfl (ay 3) ?_;refine au rfl (aD (b:=b1)) ?_;refine au rfl bf ?_;refine au rfl ig ?_;refine oe bP ?_;refine on ?_;refine cc rfl hM (fun hc3 hM=>?_) (fun hc3 hM=>?_)
 ·refine bg ?_;exact aP (bD hM)
 refine aM (hK2 _ _ ?_);clear hK2;refine sr ?_;refine oe (ay 3) ?_;refine oe (aD (b:=b1)) ?_;refine oe (ay 0) ?_;refine oe (aD (b:=b2)) ?_;obtain⟨x4,hx5,hM⟩:=bind_some hM;refine oe (aQ (xs:=p0.Lines) 4 (kG p0.Lines av.2.2.1) (iS hx5)) ?_;refine oe (ay 3) ?_;refine oe (bE (i:=t0.Line) (xs:=p0.Lines) (y:=x4) 3 (kG p0.Lines av.2.2.1) (fun _=>hx5)) ?_;refine oe bf ?_;refine aL ?_;refine aF fun K6 bU=>?_;refine sr ?_;refine oe (ay 2) ?_;refine oe (aD (b:=b2)) ?_;refine oe bf ?_;refine om ?_;refine oe gH ?_;refine om ?_;refine au rfl (ay 3) ?_;refine au rfl (aD (b:=b2)) ?_;refine au rfl bf ?_;refine au rfl aH ?_;refine au rfl gH ?_;refine oe bP ?_;refine on ?_;refine cc rfl hM (fun hc6 hM=>?_) (fun hc6 hM=>?_)
 ·refine bg ?_;exact aP (bD hM)
 refine aM (bU _ _ ?_);clear bU;refine bg ?_;refine aF fun sK gy=>?_;refine sr ?_;refine oe (ay 2) ?_;refine oe (aD (b:=b2)) ?_;refine gU (fun w hm=>Kn.len (kG t0.dA nC.1) hm) fun Y4=>?_;refine oe bf ?_;refine om ?_;refine on ?_;refine aV ?_;refine lq hM (fun (JH,qW)=>[(3,eP b2),(6,eI JH),(41,eS nC.1 t0.dA),(42,eI (t0.dA.length:Int)),(43,eI (qW:Int))]) (fun (JH,qW)=>[iL t0.dA nC.1,iL t0.cK nC.2,own b2 44 (DW t0 nC)]) sS rI ?_;clear hM;rintro aN ⟨JH,qW⟩ hM fQ hL1;dsimp only[OB] at hM ⊢;refine sr ?_;refine oe bK ?_;refine on ?_;refine aF fun rU fT=>?_;refine cc rfl hM (fun hc8 hM=>?_) (fun hc8 hM=>?_)
 ·have YT:=of_decide_eq_true hc8;refine aM (fT _ _ ?_);clear fT;refine aF fun zA kg=>?_;refine aV ?_;refine aJ ?_;obtain⟨x9,mG,hM⟩:=bind_some hM;refine oe (aQ (xs:=t0.dA) 1 (kG t0.dA nC.1) (iS mG)) ?_;refine oe (bE (i:=(qW:Int)) (xs:=t0.dA) (y:=x9) 0 (kG t0.dA nC.1) (fun _=>mG)) ?_;refine oa ?_;refine aL ?_;refine aF fun yF jC=>?_;refine aJ ?_;refine om ?_;refine oe bK ?_;refine om ?_;refine au rfl (ay 3) ?_;refine au rfl (aD (b:=b2)) ?_;refine au rfl aH ?_;obtain⟨qK,zQ,hM⟩:=bind_some hM;refine au rfl (aQ (xs:=t0.cK) 1 (kG t0.cK nC.2) (fun hg=>let h:=jG (dF zQ hg);⟨h.1,h.2.1⟩)) ?_;refine au rfl (bE (i:=(qW:Int)) (xs:=t0.cK) (y:=qK) 0 (kG t0.cK nC.2) (fun hg=>dF zQ hg)) ?_;refine au rfl aH ?_;refine au rfl kD ?_;refine oe bP ?_;refine om ?_;refine au rfl (ay 3) ?_;refine au rfl (aD (b:=b2)) ?_;refine au rfl aH ?_;obtain⟨iw,qB,hM⟩:=bind_some hM;refine au rfl (aQ (xs:=t0.cK) 1 (kG t0.cK nC.2) (fun hg=>let h:=jG (dF qB hg);⟨h.1,h.2.1⟩)) ?_
  refine au rfl (bE (i:=(qW:Int)) (xs:=t0.cK) (y:=iw) 0 (kG t0.cK nC.2) (fun hg=>dF qB hg)) ?_;refine au rfl eO ?_;refine oe bP ?_;refine on ?_;refine cc rfl hM (fun zP hM=>?_) (fun zP hM=>?_)
  · refine bg ?_;exact aP (bD hM)
  refine aM (jC _ _ ?_);clear jC;refine aT ?_;refine oe (ay 3) ?_;refine oe (aD (b:=b2)) ?_;refine om ?_;obtain⟨uj,zS,hM⟩:=bind_some hM;refine oe (aQ (xs:=t0.cK) 1 (kG t0.cK nC.2) (iS zS)) ?_;refine oe (bE (i:=(qW:Int)) (xs:=t0.cK) (y:=uj) 0 (kG t0.cK nC.2) (fun _=>zS)) ?_;refine oa ?_;refine aU (kg _ _ ?_);clear kg;refine aT ?_;refine oe (dh (hr:=fun _=>by unfold dS;omega)) ?_;refine om ?_;refine aU (hL1 hM sS rI)
 refine bX (gy _ _ ?_);clear gy;dsimp only[acF] at hM;refine bg ?_;exact aP (bD hM)
def acu(EN:List Task):Unit→Option ((List Task)×Int):=fun _=>
 some (EN,0)
def Oy(ji:List dG)(p0:Plan)(aN:((List Task)×Nat)→Option ((List Task)×Int)):((List Task)×Nat)→Option ((List Task)×Int):=fun (EN,wJ)=>
 if decide ((wJ:Int)<(ji.length:Int)) then
  ((idx ji (wJ:Int)).bind fun dz=>
  (OC p0 dz).bind fun BF=>
  if (!BF) then
   (some (([]:List Task),4))
  else
   ((idx p0.Lines dz.Line).bind fun lF=>
   (idx lF.bC 0).bind fun ko=>
   (idx p0.Routes ko.aO).bind fun x24=>
   aX (bA ((lF.bC.length:Int)-1))<|
   (idx lF.bC ((lF.bC.length:Int)-1)).bind fun x28=>
   (idx p0.Routes x28.aO).bind fun x30=>
   (idx x24.Steps 0).bind fun iW=>
   aX (bA ((x30.Steps.length:Int)-x30.Overlap))<|
   aX (bA (((x30.Steps.length:Int)-x30.Overlap)-1))<|
   (idx x30.Steps (((x30.Steps.length:Int)-x30.Overlap)-1)).bind fun yC=>
   (idx dz.dA 0).bind fun x39=>
   aX (bA ((dz.cK.length:Int)-1))<|
   (idx dz.cK ((dz.cK.length:Int)-1)).bind fun lG=>
   aX (decide ((EN.length+([(Task.mk lF.bL iW.Section yC.Section x39 lG)]:List Task).length)*40≤140737488355328))<|
   aN ((EN++([(Task.mk lF.bL iW.Section yC.Section x39 lG)]:List Task)),wJ+1)))
 else
  (acu EN ())
def Oz(l0:Layout)(p0:Plan)(ji:List dG):Option ((List Task)×Int):=
 (QH l0 p0).bind fun y3=>
 if decide (y3≠0) then
  (some (([]:List Task),1))
 else
  (if decide (40<(ji.length:Int)) then
   (some (([]:List Task),7))
  else
   (iter (Oy ji p0) FUEL (([]:List Task),0)))
theorem ahV(S:bF)(w:World)(l0:Layout)(aG:ak.R Layout)(p0:Plan)(av:ak.R Plan)(ji:List dG)(jg:ak.R (List dG))(y:(List Task)×Int)(hM:Oz l0 p0 ji=some y)(hS:sB S w)(eT:ak.ok S w aG l0)(gB:ak.ok S w av p0)(YE:ak.ok S w jg ji):
   Calls Tryz.prog 8 #[.agg (lX l0 aG),.agg (mO p0 av),sL jg ji] w (Post (β:=(ak.R (List Task))) S [] (fun g=> .tuple #[sL g y.1,vI y.2]) (fun g=>[ah 57 g y.1]) w):=by
 refine bW (args:=[_,_,_]) Tryz.func8 rfl ((pre_nil hS).start |>.ny eT|>.oL gB|>.dZ (α:=List dG) (r:=jg) (x:=ji) YE) rfl ?_;unfold Oz at hM;refine sr ?_;refine oB (eD l0 aG) fun b1=>?_;refine oB (fZ p0 av) fun b2=>?_
 refine oa ?_;refine aL ?_;refine aF fun K2 hK2=>?_;refine sr ?_;refine oe (bM (b:=b1)) ?_;refine oe (bM (b:=b2)) ?_;obtain⟨y3,hy4,hM⟩:=bind_some hM;refine cv (fun hs=>ama _ _ l0 aG p0 av y3 hy4 (bq hs) ⟨(kM hs),(kM hs),(kM hs),(kM hs)⟩ ⟨(kM hs),(kM hs),(kM hs),(kM hs),(kM hs),(kM hs),(kM hs)⟩) ?_;refine oe gH ?_;refine on ?_;refine cc rfl hM (fun jO hM=>?_) (fun jO hM=>?_)
 ·refine sr ?_;refine oa ?_;refine aL ?_;refine dJ (fun w hm=>hm.dR (α:=Task) 57 (fun _=>())) ?_;obtain rfl:=some_inj hM;refine aP (nu (fun w hm=>gK Gd hm rfl))
 refine aM (hK2 _ _ ?_);clear hK2;refine aF fun K5 bT=>?_;refine aJ ?_;refine oe bf ?_;refine oe eO ?_;refine on ?_;refine cc rfl hM (fun lY hM=>?_) (fun lY hM=>?_)
 ·refine sr ?_;refine oa ?_;refine aL ?_;refine dJ (fun w hm=>hm.dR (α:=Task) 57 (fun _=>())) ?_;obtain rfl:=some_inj hM;refine aP (nu (fun w hm=>gK Gd hm rfl))
 refine aM (bT _ _ ?_);clear bT;refine bg ?_;refine aF fun K9 dY=>?_;refine aJ ?_;refine gU (fun w hm=>Kn.len (kG ji jg) hm) fun Ue=>?_;refine oe bf ?_;refine om ?_;refine on ?_;refine aV ?_;refine dJ (fun w hm=>hm.dR (α:=Task) 57 (fun _=>())) ?_;refine lp Gd hM (fun (EN,wJ) Nu=>[(4,eP b2),(8,eS Nu EN),(21,eS jg ji),(22,eI (ji.length:Int)),(23,eI (wJ:Int))]) (fun (EN,wJ) Nu=>[iL p0.bJ av.1,iL p0.Routes av.2.1,iL p0.Lines av.2.2.1,iL p0.Changes av.2.2.2.1,iL p0.Turns av.2.2.2.2.1,iL p0.dx av.2.2.2.2.2.1,iL p0.dn av.2.2.2.2.2.2,own b2 36 (fZ p0 av),ah 57 Nu EN,iL ji jg]) sS rI ?_
 clear hM;rintro aN ⟨EN,wJ⟩ Nu hM fQ hL1;dsimp only[Oy] at hM ⊢;refine sr ?_;refine oe bK ?_;refine on ?_;refine aF fun vN iI=>?_;refine cc rfl hM (fun uS hM=>?_) (fun uS hM=>?_)
 ·have ajJ:=of_decide_eq_true uS;refine aM (iI _ _ ?_);clear iI;refine aF fun rU fT=>?_;refine aV ?_;refine sr ?_;obtain⟨dz,lU,hM⟩:=bind_some hM;refine oe (aQ (xs:=ji) 4 (kG ji jg) (iS lU)) ?_;refine oe (eY (m:=4) (i:=(wJ:Int)) (xs:=ji) (y:=dz) (l:=(DW dz (jg.es (wJ:Int).toNat))) 0 (kG ji jg) (fun _=>lU)) ?_;refine oA rfl fun b14=>?_;refine oS b14 (DW dz (jg.es (wJ:Int).toNat)) ?_;refine on ?_;refine aF fun yE jN=>?_;refine sr ?_;refine oe (bM (b:=b2)) ?_;refine oe (bM (b:=b14)) ?_;obtain⟨BF,PG,hM⟩:=bind_some hM;refine cv (fun hs=>ahX _ _ p0 av dz (jg.es (wJ:Int).toNat) BF PG (bq hs) ⟨(kM hs),(kM hs),(kM hs),(kM hs),(kM hs),(kM hs),(kM hs)⟩ ⟨(Kn.lend ((Sk.map (Sk.elem (Sk.cO (α:=List dG) (r:=jg) (x:=ji) hA) lU) (fun _ _ h=>h.1):Sk _ _ (α:=List Int) (jg.es (wJ:Int).toNat).1 dz.dA)).kn hs),(Kn.lend ((Sk.map (Sk.elem (Sk.cO (α:=List dG) (r:=jg) (x:=ji) hA) lU) (fun _ _ h=>h.2):Sk _ _ (α:=List Int) (jg.es (wJ:Int).toNat).2 dz.cK)).kn hs)⟩) ?_
  refine oe dN ?_;refine on ?_;refine cc rfl hM (fun hc17 hM=>?_) (fun hc17 hM=>?_)
  · refine sr ?_;refine oa ?_;refine aL ?_;refine dJ (fun w hm=>hm.dR (α:=Task) 57 (fun _=>())) ?_;obtain rfl:=some_inj hM;refine aP (nu (fun w hm=>gK Gd hm rfl))
  refine aM (jN _ _ ?_);clear jN;refine sr ?_;refine oe (ay 3) ?_;refine oe (aD (b:=b2)) ?_;refine oe (ay 0) ?_;refine oe (aD (b:=b14)) ?_;obtain⟨lF,uV,hM⟩:=bind_some hM;refine oe (aQ (xs:=p0.Lines) 4 (kG p0.Lines av.2.2.1) (iS uV)) ?_;refine oe (eY (m:=4) (i:=dz.Line) (xs:=p0.Lines) (y:=lF) (l:=(mR lF (av.2.2.1.es dz.Line.toNat))) 0 (kG p0.Lines av.2.2.1) (fun _=>uV)) ?_;refine oA rfl fun Aq=>?_;refine oS Aq (mR lF (av.2.2.1.es dz.Line.toNat)) ?_;refine on ?_;refine aF fun CX mE=>?_;refine fE _ (List.Sublist.refl _) ?_;refine aj 0 rfl (ay 2) ?_;refine aj 1 rfl (aD (b:=b2)) ?_;refine aj 2 rfl (ay 3) ?_;refine aj 3 rfl (aD (b:=Aq)) ?_;obtain⟨ko,Dw,hM⟩:=bind_some hM;refine aj 4 rfl (aQ (xs:=lF.bC) 4 ((Sk.elem (Sk.cO (α:=List Line) (r:=av.2.2.1) (x:=p0.Lines) hA) uV)).kn (iS Dw)) ?_;refine aj 5 rfl (ay 0) ?_;refine aj 6 rfl (bE (i:=0) (xs:=lF.bC) (y:=ko) 0 ((Sk.elem (Sk.cO (α:=List Line) (r:=av.2.2.1) (x:=p0.Lines) hA) uV)).kn (fun _=>Dw)) ?_
  obtain⟨x24,hx25,hM⟩:=bind_some hM;refine aj 7 rfl (aQ (xs:=p0.Routes) 2 (kG p0.Routes av.2.1) (iS hx25)) ?_;refine aj 8 rfl (eY (m:=2) (i:=ko.aO) (xs:=p0.Routes) (y:=x24) (l:=(jV x24 (av.2.1.es ko.aO.toNat))) 0 (kG p0.Routes av.2.1) (fun _=>hx25)) ?_;refine aA 9 rfl rfl fun KI=>?_;refine aS 10 rfl KI (jV x24 (av.2.1.es ko.aO.toNat)) ?_;refine dK (mE _ _ ?_);clear mE;refine aF fun CY mF=>?_;refine fE _ (List.Sublist.refl _) ?_;refine aj 0 rfl (ay 2) ?_;refine aj 1 rfl (aD (b:=b2)) ?_;refine aj 2 rfl (ay 3) ?_;refine aj 3 rfl (aD (b:=Aq)) ?_;refine aj 4 rfl (ay 3) ?_;refine aj 5 rfl (aD (b:=Aq)) ?_;refine aj 6 rfl bf ?_;obtain⟨O5,hM⟩:=bQ hM;refine aj 7 rfl (mQ (hr:=fun hg=>dI O5)) ?_;obtain⟨x28,hx29,hM⟩:=bind_some hM;refine aj 8 rfl (aQ (xs:=lF.bC) 4 ((Sk.elem (Sk.cO (α:=List Line) (r:=av.2.2.1) (x:=p0.Lines) hA) uV)).kn (iS hx29)) ?_;refine aj 9 rfl (ay 0) ?_;refine aj 10 rfl (bE (i:=((lF.bC.length:Int)-1)) (xs:=lF.bC) (y:=x28) 0 ((Sk.elem (Sk.cO (α:=List Line) (r:=av.2.2.1) (x:=p0.Lines) hA) uV)).kn (fun _=>hx29)) ?_
  obtain⟨x30,hx31,hM⟩:=bind_some hM;refine aj 11 rfl (aQ (xs:=p0.Routes) 2 (kG p0.Routes av.2.1) (iS hx31)) ?_;refine aj 12 rfl (eY (m:=2) (i:=x28.aO) (xs:=p0.Routes) (y:=x30) (l:=(jV x30 (av.2.1.es x28.aO.toNat))) 0 (kG p0.Routes av.2.1) (fun _=>hx31)) ?_;refine aA 13 rfl rfl fun b32=>?_;refine aS 14 rfl b32 (jV x30 (av.2.1.es x28.aO.toNat)) ?_;refine dK (mF _ _ ?_);clear mF;refine fE [own b32 85 (jV x30 (av.2.1.es x28.aO.toNat)),own KI 85 (jV x24 (av.2.1.es ko.aO.toNat)),own Aq 47 (mR lF (av.2.2.1.es dz.Line.toNat)),own b14 44 (DW dz (jg.es (wJ:Int).toNat)),iL p0.bJ av.1,iL p0.Routes av.2.1,iL p0.Lines av.2.2.1,iL p0.Changes av.2.2.2.1,iL p0.Turns av.2.2.2.2.1,iL p0.dx av.2.2.2.2.2.1,iL p0.dn av.2.2.2.2.2.2,own b2 36 (fZ p0 av),iL ji jg] (by repeat (first|exact List.Sublist.refl _|apply List.Sublist.cons_cons|apply List.Sublist.cons)) ?_
  refine aj 0 rfl aH ?_;refine aj 1 rfl (ay 1) ?_;refine aj 2 rfl (aD (b:=Aq)) ?_;refine aj 3 rfl (ay 0) ?_;refine aj 4 rfl (aD (b:=KI)) ?_;obtain⟨iW,hx34,hM⟩:=bind_some hM;refine aj 5 rfl (aQ (xs:=x24.Steps) 2 ((Sk.elem (Sk.cO (α:=List aO) (r:=av.2.1) (x:=p0.Routes) hA) hx25)).kn (iS hx34)) ?_;refine aj 6 rfl (ay 0) ?_;refine aj 7 rfl (bE (i:=0) (xs:=x24.Steps) (y:=iW) 0 ((Sk.elem (Sk.cO (α:=List aO) (r:=av.2.1) (x:=p0.Routes) hA) hx25)).kn (fun _=>hx34)) ?_;refine aj 8 rfl (ay 0) ?_;refine aj 9 rfl (aD (b:=b32)) ?_;refine aj 10 rfl (ay 0) ?_;refine aj 11 rfl (aD (b:=b32)) ?_;refine aj 12 rfl bf ?_;refine aj 13 rfl (ay 1) ?_;refine aj 14 rfl (aD (b:=b32)) ?_;obtain⟨aiT,hM⟩:=bQ hM;refine aj 15 rfl (mQ (hr:=fun hg=>dI aiT)) ?_;obtain⟨Yu,hM⟩:=bQ hM;refine aj 16 rfl (mQ (hr:=fun hg=>dI Yu)) ?_;obtain⟨yC,hx38,hM⟩:=bind_some hM;refine aj 17 rfl (aQ (xs:=x30.Steps) 2 ((Sk.elem (Sk.cO (α:=List aO) (r:=av.2.1) (x:=p0.Routes) hA) hx31)).kn (iS hx38)) ?_;refine aj 18 rfl (ay 0) ?_;refine aj 19 rfl (bE (i:=(((x30.Steps.length:Int)-x30.Overlap)-1)) (xs:=x30.Steps) (y:=yC) 0 ((Sk.elem (Sk.cO (α:=List aO) (r:=av.2.1) (x:=p0.Routes) hA) hx31)).kn (fun _=>hx38)) ?_
  refine aj 20 rfl (ay 2) ?_;refine aj 21 rfl (aD (b:=b14)) ?_;obtain⟨x39,aef,hM⟩:=bind_some hM;refine aj 22 rfl (aQ (xs:=dz.dA) 1 ((Sk.map (Sk.elem (Sk.cO (α:=List dG) (r:=jg) (x:=ji) hA) lU) (fun _ _ h=>h.1):Sk _ _ (α:=List Int) (jg.es (wJ:Int).toNat).1 dz.dA)).kn (iS aef)) ?_;refine aj 23 rfl (bE (i:=0) (xs:=dz.dA) (y:=x39) 0 ((Sk.map (Sk.elem (Sk.cO (α:=List dG) (r:=jg) (x:=ji) hA) lU) (fun _ _ h=>h.1):Sk _ _ (α:=List Int) (jg.es (wJ:Int).toNat).1 dz.dA)).kn (fun _=>aef)) ?_;refine aj 24 rfl (ay 3) ?_;refine aj 25 rfl (aD (b:=b14)) ?_;refine aj 26 rfl (ay 3) ?_;refine aj 27 rfl (aD (b:=b14)) ?_;refine aj 28 rfl bf ?_;obtain⟨Yv,hM⟩:=bQ hM;refine aj 29 rfl (mQ (hr:=fun hg=>dI Yv)) ?_;obtain⟨lG,G7,hM⟩:=bind_some hM;refine aj 30 rfl (aQ (xs:=dz.cK) 1 ((Sk.map (Sk.elem (Sk.cO (α:=List dG) (r:=jg) (x:=ji) hA) lU) (fun _ _ h=>h.2):Sk _ _ (α:=List Int) (jg.es (wJ:Int).toNat).2 dz.cK)).kn (iS G7)) ?_;refine aj 31 rfl (bE (i:=((dz.cK.length:Int)-1)) (xs:=dz.cK) (y:=lG) 0 ((Sk.map (Sk.elem (Sk.cO (α:=List dG) (r:=jg) (x:=ji) hA) lU) (fun _ _ h=>h.2):Sk _ _ (α:=List Int) (jg.es (wJ:Int).toNat).2 dz.cK)).kn (fun _=>G7)) ?_;refine aj 32 rfl (gD [vI lF.bL,vI iW.Section,vI yC.Section,vI x39,vI lG]) ?_
  refine dX 33 rfl (fH (α:=Task) 57 (fun _=>()) ([(Task.mk lF.bL iW.Section yC.Section x39 lG)]:List Task) oF (fun oO=>⟨rI,?_⟩));obtain⟨ajv,hM⟩:=bQ hM;refine dX 34 rfl (jy (r:=Nu) (r2:=oO) uR (Kn.ah (e:=57) (r:=oO) hA) oF (of_decide_eq_true ajv) (fun Gh=>⟨rI,?_⟩));refine aj 35 rfl dL ?_;refine dK (fT _ _ ?_);clear fT;refine aT ?_;refine oe (dh (hr:=fun _=>by unfold dS;omega)) ?_;refine om ?_;refine aU (hL1 Gh hM sS rI)
 refine bX (dY _ _ ?_);clear dY;dsimp only[acu] at hM;refine aJ ?_;refine oa ?_;refine aL ?_;obtain rfl:=some_inj hM;refine aP (nu (fun w hm=>gK Nu hm rfl))
def afW:Unit→Option Bool:=fun _=>
 some true
def Rh(n0:Int)(t0:dG)(aN:(Int×Nat)→Option Bool):(Int×Nat)→Option Bool:=fun (He,bI)=>
 if decide ((bI:Int)<n0) then
  ((idx t0.dA (bI:Int)).bind fun x4=>
  (dW (!(decide (x4<He))) default (idx t0.cK (bI:Int))).bind fun x6=>
  (dW (!(decide (x4<He))) default (idx t0.dA (bI:Int))).bind fun x8=>
  (dW (!(decide (x4<He)||decide (x6≤x8))) default (idx t0.cK (bI:Int))).bind fun x10=>
  if ((decide (x4<He)||decide (x6≤x8))||decide (4194304<x10)) then
   (some false)
  else
   ((idx t0.cK (bI:Int)).bind fun iw=>
   aX (bA ((bI:Int)+1))<|
   aN (iw,bI+1)))
 else
  (afW ())
def Ri(t0:dG)(n0:Int):Option Bool:=
 if (decide ((t0.dA.length:Int)≠n0)||decide ((t0.cK.length:Int)≠n0)) then
  (some false)
 else
  (iter (Rh n0 t0) FUEL (0,0))
theorem amE(S:bF)(w:World)(t0:dG)(nC:ak.R dG)(n0:Int)(y:Bool)(hM:Ri t0 n0=some y)(hS:sB S w)(YD:ak.ok S w nC t0):
   Calls Tryz.prog 20 #[.agg (abI t0 nC),vI n0] w (dw w (.bool y)):=by
 refine bW (args:=[_,_]) Tryz.func20 rfl ((pre_nil hS).start |>.ae9 YD) rfl ?_;unfold Ri at hM;refine sr ?_;refine oB (DW t0 nC) fun b1=>?_;refine aL ?_;refine aF fun K2 hK2=>?_;refine sr ?_;refine oe (ay 2) ?_;refine oe (aD (b:=b1)) ?_;refine oe bf ?_;refine om ?_;refine oe gH ?_;refine om ?_;refine au rfl (ay 3) ?_;refine au rfl (aD (b:=b1)) ?_;refine au rfl bf ?_;refine au rfl aH ?_;refine au rfl gH ?_;refine oe bP ?_;refine on ?_;refine cc rfl hM (fun hc2 hM=>?_) (fun hc2 hM=>?_)
 ·refine bg ?_;exact aP (bD hM)
 refine aM (hK2 _ _ ?_);clear hK2;refine bg ?_;refine aF fun K6 bU=>?_;refine bg ?_;refine aV ?_;refine lq hM (fun (He,bI)=>[(1,eI n0),(2,eP b1),(5,eI He),(6,eI (bI:Int))]) (fun (He,bI)=>[iL t0.dA nC.1,iL t0.cK nC.2,own b1 44 (DW t0 nC)]) sS rI ?_;clear hM;rintro aN ⟨He,bI⟩ hM fQ hL1;dsimp only[Rh] at hM ⊢;refine aF fun K8 fu=>?_;refine aJ ?_;refine om ?_;refine oe bK ?_;refine on ?_;refine cc rfl hM (fun hc3 hM=>?_) (fun hc3 hM=>?_)
 ·refine aM (fu _ _ ?_);clear fu;refine aF fun sK gy=>?_;refine aV ?_;refine aF fun pR eH=>?_;refine aF fun vN iI=>?_;refine fE _ (List.Sublist.refl _) ?_;refine aj 0 rfl (ay 2) ?_;refine aj 1 rfl (aD (b:=b1)) ?_;refine aj 2 rfl aH ?_;obtain⟨x4,hx5,hM⟩:=bind_some hM;refine aj 3 rfl (aQ (xs:=t0.dA) 1 (kG t0.dA nC.1) (iS hx5)) ?_;refine aj 4 rfl (bE (i:=(bI:Int)) (xs:=t0.dA) (y:=x4) 0 (kG t0.dA nC.1) (fun _=>hx5)) ?_;refine aj 5 rfl aH ?_;refine aj 6 rfl bK ?_;refine aj 7 rfl aH ?_;refine bO 8 rfl rfl (ay 3) ?_;refine bO 9 rfl rfl (aD (b:=b1)) ?_;refine bO 10 rfl rfl aH ?_;obtain⟨x6,hx7,hM⟩:=bind_some hM;refine bO 11 rfl rfl (aQ (xs:=t0.cK) 1 (kG t0.cK nC.2) (fun hg=>let h:=jG (dF hx7 hg);⟨h.1,h.2.1⟩)) ?_;refine bO 12 rfl rfl (bE (i:=(bI:Int)) (xs:=t0.cK) (y:=x6) 0 (kG t0.cK nC.2) (fun hg=>dF hx7 hg)) ?_;refine bO 13 rfl rfl (ay 2) ?_;refine bO 14 rfl rfl (aD (b:=b1)) ?_;refine bO 15 rfl rfl aH ?_;obtain⟨x8,og,hM⟩:=bind_some hM;refine bO 16 rfl rfl (aQ (xs:=t0.dA) 1 (kG t0.dA nC.1) (fun hg=>let h:=jG (dF og hg);⟨h.1,h.2.1⟩)) ?_
  refine bO 17 rfl rfl (bE (i:=(bI:Int)) (xs:=t0.dA) (y:=x8) 0 (kG t0.dA nC.1) (fun hg=>dF og hg)) ?_;refine bO 18 rfl rfl kD ?_;refine aj 19 rfl bP ?_;refine aj 20 rfl aH ?_;refine bO 21 rfl rfl (ay 3) ?_;refine bO 22 rfl rfl (aD (b:=b1)) ?_;refine bO 23 rfl rfl aH ?_;obtain⟨x10,lT,hM⟩:=bind_some hM;refine bO 24 rfl rfl (aQ (xs:=t0.cK) 1 (kG t0.cK nC.2) (fun hg=>let h:=jG (dF lT hg);⟨h.1,h.2.1⟩)) ?_;refine bO 25 rfl rfl (bE (i:=(bI:Int)) (xs:=t0.cK) (y:=x10) 0 (kG t0.cK nC.2) (fun hg=>dF lT hg)) ?_;refine bO 26 rfl rfl eO ?_;refine aj 27 rfl bP ?_;refine dK (iI _ _ ?_);clear iI;refine cc rfl hM (fun qQ hM=>?_) (fun qQ hM=>?_)
  · refine bg ?_;exact aP (bD hM)
  refine aM (eH _ _ ?_);clear eH;refine aT ?_;refine oe (ay 3) ?_;refine oe (aD (b:=b1)) ?_;refine om ?_;obtain⟨iw,qB,hM⟩:=bind_some hM;refine oe (aQ (xs:=t0.cK) 1 (kG t0.cK nC.2) (iS qB)) ?_;refine oe (bE (i:=(bI:Int)) (xs:=t0.cK) (y:=iw) 0 (kG t0.cK nC.2) (fun _=>qB)) ?_;refine oa ?_;refine aU (gy _ _ ?_);clear gy;refine aT ?_;refine om ?_;refine oP hM fun hM=>?_;refine oa ?_;refine aU (hL1 hM sS rI)
 refine bX (bU _ _ ?_);clear bU;dsimp only[afW] at hM;refine bg ?_;exact aP (bD hM)
def afK(tT:List Task):Unit→Option ((List Task)×Int):=fun _=>
 some (tT,0)
def Rc(ji:List dG)(p0:Plan)(aN:((List Task)×Nat)→Option ((List Task)×Int)):((List Task)×Nat)→Option ((List Task)×Int):=fun (tT,wI)=>
 if decide ((wI:Int)<(ji.length:Int)) then
  ((idx ji (wI:Int)).bind fun dz=>
  (dW (!(decide (dz.Line<0)||decide ((p0.Lines.length:Int)≤dz.Line))) default (idx p0.Lines dz.Line)).bind fun iX=>
  if (!(decide (dz.Line<0)||decide ((p0.Lines.length:Int)≤dz.Line))) then
  ((Ri dz (iX.bC.length:Int)).bind fun mq=>
  if ((decide (dz.Line<0)||decide ((p0.Lines.length:Int)≤dz.Line))||(!mq)) then
   (some (([]:List Task),4))
  else
   ((idx p0.Lines dz.Line).bind fun x23=>
   aX (bA ((dz.dA.length:Int)-1))<|
   (idx dz.dA 0).bind fun Ai=>
   aX (bA ((dz.dA.length:Int)-1))<|
   (idx dz.cK ((dz.dA.length:Int)-1)).bind fun x29=>
   (E5 p0 dz.Line 0).bind fun y31=>
   (Ib y31).bind fun y34=>
   (E5 p0 dz.Line ((dz.dA.length:Int)-1)).bind fun Gw=>
   (Ic Gw).bind fun y39=>
   aX (decide ((tT.length+([(Task.mk x23.bL y34 y39 Ai x29)]:List Task).length)*40≤140737488355328))<|
   aN ((tT++([(Task.mk x23.bL y34 y39 Ai x29)]:List Task)),wI+1)))
  else
  (some (([]:List Task),4)))
 else
  (afK tT ())
def Rf(l0:Layout)(p0:Plan)(ji:List dG):Option ((List Task)×Int):=
 (Rt l0 p0).bind fun y3=>
 if decide (y3≠0) then
  (some (([]:List Task),1))
 else
  (if decide (40<(ji.length:Int)) then
   (some (([]:List Task),7))
  else
   (iter (Rc ji p0) FUEL (([]:List Task),0)))
theorem amD(S:bF)(w:World)(l0:Layout)(aG:ak.R Layout)(p0:Plan)(av:ak.R Plan)(ji:List dG)(jg:ak.R (List dG))(y:(List Task)×Int)(hM:Rf l0 p0 ji=some y)(hS:sB S w)(eT:ak.ok S w aG l0)(gB:ak.ok S w av p0)(YE:ak.ok S w jg ji):
   Calls Tryz.prog 9 #[.agg (lX l0 aG),.agg (mO p0 av),sL jg ji] w (Post (β:=(ak.R (List Task))) S [] (fun g=> .tuple #[sL g y.1,vI y.2]) (fun g=>[ah 57 g y.1]) w):=by
 refine bW (args:=[_,_,_]) Tryz.func9 rfl ((pre_nil hS).start |>.ny eT|>.oL gB|>.dZ (α:=List dG) (r:=jg) (x:=ji) YE) rfl ?_;unfold Rf at hM;refine sr ?_;refine oB (eD l0 aG) fun b1=>?_;refine oB (fZ p0 av) fun b2=>?_
 refine oa ?_;refine aL ?_;refine aF fun K2 hK2=>?_;refine sr ?_;refine oe (bM (b:=b1)) ?_;refine oe (bM (b:=b2)) ?_;obtain⟨y3,hy4,hM⟩:=bind_some hM;refine cv (fun hs=>amH _ _ l0 aG p0 av y3 hy4 (bq hs) ⟨(kM hs),(kM hs),(kM hs),(kM hs)⟩ ⟨(kM hs),(kM hs),(kM hs),(kM hs),(kM hs),(kM hs),(kM hs)⟩) ?_;refine oe gH ?_;refine on ?_;refine cc rfl hM (fun jO hM=>?_) (fun jO hM=>?_)
 ·refine sr ?_;refine oa ?_;refine aL ?_;refine dJ (fun w hm=>hm.dR (α:=Task) 57 (fun _=>())) ?_;obtain rfl:=some_inj hM;refine aP (nu (fun w hm=>gK Gd hm rfl))
 refine aM (hK2 _ _ ?_);clear hK2;refine aF fun K5 bT=>?_;refine aJ ?_;refine oe bf ?_;refine oe eO ?_;refine on ?_;refine cc rfl hM (fun lY hM=>?_) (fun lY hM=>?_)
 ·refine sr ?_;refine oa ?_;refine aL ?_;refine dJ (fun w hm=>hm.dR (α:=Task) 57 (fun _=>())) ?_;obtain rfl:=some_inj hM;refine aP (nu (fun w hm=>gK Gd hm rfl))
 refine aM (bT _ _ ?_);clear bT;refine bg ?_;refine aF fun K9 dY=>?_;refine aJ ?_;refine gU (fun w hm=>Kn.len (kG ji jg) hm) fun Ue=>?_;refine oe bf ?_;refine om ?_;refine on ?_;refine aV ?_;refine dJ (fun w hm=>hm.dR (α:=Task) 57 (fun _=>())) ?_;refine lp Gd hM (fun (tT,wI) Bq=>[(4,eP b2),(8,eS Bq tT),(19,eS jg ji),(20,eI (ji.length:Int)),(21,eI (wI:Int))]) (fun (tT,wI) Bq=>[iL p0.bJ av.1,iL p0.Routes av.2.1,iL p0.Lines av.2.2.1,iL p0.Changes av.2.2.2.1,iL p0.Turns av.2.2.2.2.1,iL p0.dx av.2.2.2.2.2.1,iL p0.dn av.2.2.2.2.2.2,own b2 36 (fZ p0 av),ah 57 Bq tT,iL ji jg]) sS rI ?_
 clear hM;rintro aN ⟨tT,wI⟩ Bq hM fQ hL1;dsimp only[Rc] at hM ⊢;refine sr ?_;refine oe bK ?_;refine on ?_;refine aF fun vN iI=>?_;refine cc rfl hM (fun uS hM=>?_) (fun uS hM=>?_)
 ·have ajJ:=of_decide_eq_true uS;refine aM (iI _ _ ?_);clear iI;refine aF fun rU fT=>?_;refine aV ?_;refine sr ?_;obtain⟨dz,lU,hM⟩:=bind_some hM;refine oe (aQ (xs:=ji) 4 (kG ji jg) (iS lU)) ?_;refine oe (eY (m:=4) (i:=(wI:Int)) (xs:=ji) (y:=dz) (l:=(DW dz (jg.es (wI:Int).toNat))) 0 (kG ji jg) (fun _=>lU)) ?_;refine oA rfl fun b14=>?_;refine oS b14 (DW dz (jg.es (wI:Int).toNat)) ?_;refine on ?_;refine aF fun yE jN=>?_;refine aF fun yF jC=>?_;refine fE _ (List.Sublist.refl _) ?_;refine aj 0 rfl (ay 0) ?_;refine aj 1 rfl (aD (b:=b14)) ?_;refine aj 2 rfl bK ?_;refine aj 3 rfl aH ?_;refine bO 4 rfl rfl (ay 0) ?_;refine bO 5 rfl rfl (aD (b:=b14)) ?_;refine bO 6 rfl rfl (ay 3) ?_
  refine bO 7 rfl rfl (aD (b:=b2)) ?_;refine bO 8 rfl rfl bf ?_;refine bO 9 rfl rfl ig ?_;refine aj 10 rfl bP ?_;refine aj 11 rfl aH ?_;refine bO 12 rfl rfl (bM (b:=b14)) ?_;refine bO 13 rfl rfl (ay 3) ?_;refine bO 14 rfl rfl (aD (b:=b2)) ?_;refine bO 15 rfl rfl (ay 0) ?_;refine bO 16 rfl rfl (aD (b:=b14)) ?_;obtain⟨iX,hx16,hM⟩:=bind_some hM;refine bO 17 rfl rfl (aQ (xs:=p0.Lines) 4 (kG p0.Lines av.2.2.1) (fun hg=>let h:=jG (dF hx16 hg);⟨h.1,h.2.1⟩)) ?_;refine bO 18 rfl rfl (ay 3) ?_;refine XA (!(decide (dz.Line<0)||decide ((p0.Lines.length:Int)≤dz.Line))) (fun uz=>?_) (fun uz=>?_)
  · replace hM:=iT uz hM;have pW:=dF hx16 uz;refine rV 37 uz rfl ?_;refine rV 38 uz rfl ?_;refine rV 39 uz rfl ?_;refine rV 40 uz rfl ?_;refine rV 41 uz rfl ?_;refine rV 42 uz rfl ?_;refine rV 43 uz rfl ?_;refine ru 19 rfl rfl uz (bE (i:=dz.Line) (xs:=p0.Lines) (y:=iX) 3 (kG p0.Lines av.2.2.1) (fun _=>pW)) ?_;refine ru 20 rfl rfl uz bf ?_;obtain⟨mq,FW,hM⟩:=bind_some hM;refine Od 21 rfl rfl uz (sV (fun hs=>amE _ _ dz (jg.es (wI:Int).toNat) (iX.bC.length:Int) mq FW (bq hs) ⟨(Kn.lend ((Sk.map (Sk.elem (Sk.cO (α:=List dG) (r:=jg) (x:=ji) hA) lU) (fun _ _ h=>h.1):Sk _ _ (α:=List Int) (jg.es (wI:Int).toNat).1 dz.dA)).kn hs),(Kn.lend ((Sk.map (Sk.elem (Sk.cO (α:=List dG) (r:=jg) (x:=ji) hA) lU) (fun _ _ h=>h.2):Sk _ _ (α:=List Int) (jg.es (wI:Int).toNat).2 dz.cK)).kn hs)⟩) ⟨rI,?_⟩);refine ru 22 rfl rfl uz dN ?_;refine aj 23 rfl bP ?_;refine dK (jC _ _ ?_);clear jC;refine cc rfl hM (fun hc21 hM=>?_) (fun hc21 hM=>?_)
    ·refine sr ?_;refine oa ?_;refine aL ?_;refine dJ (fun w hm=>hm.dR (α:=Task) 57 (fun _=>())) ?_;obtain rfl:=some_inj hM;refine aP (nu (fun w hm=>gK Gd hm rfl))
    refine aM (jN _ _ ?_);clear jN;refine sr ?_;refine oe (ay 2) ?_;refine oe (aD (b:=b14)) ?_;refine oe bf ?_;refine aL ?_;refine fE [own b14 44 (DW dz (jg.es (wI:Int).toNat)),iL p0.bJ av.1,iL p0.Routes av.2.1,iL p0.Lines av.2.2.1,iL p0.Changes av.2.2.2.1,iL p0.Turns av.2.2.2.2.1,iL p0.dx av.2.2.2.2.2.1,iL p0.dn av.2.2.2.2.2.2,own b2 36 (fZ p0 av),iL ji jg] (by repeat (first|exact List.Sublist.refl _|apply List.Sublist.cons_cons|apply List.Sublist.cons)) ?_;refine aj 0 rfl aH ?_;refine aj 1 rfl (ay 3) ?_;refine aj 2 rfl (aD (b:=b2)) ?_
    refine aj 3 rfl (ay 0) ?_;refine aj 4 rfl (aD (b:=b14)) ?_;obtain⟨x23,hx24,hM⟩:=bind_some hM;refine aj 5 rfl (aQ (xs:=p0.Lines) 4 (kG p0.Lines av.2.2.1) (iS hx24)) ?_;refine aj 6 rfl (ay 1) ?_;refine aj 7 rfl (bE (i:=dz.Line) (xs:=p0.Lines) (y:=x23) 1 (kG p0.Lines av.2.2.1) (fun _=>hx24)) ?_;refine aj 8 rfl (bM (b:=b2)) ?_;refine aj 9 rfl (ay 0) ?_;refine aj 10 rfl (aD (b:=b14)) ?_;refine aj 13 rfl (bM (b:=b2)) ?_;refine aj 14 rfl (ay 0) ?_;refine aj 15 rfl (aD (b:=b14)) ?_;refine aj 16 rfl aH ?_;obtain⟨Yn,hM⟩:=bQ hM;refine aj 17 rfl (mQ (hr:=fun hg=>dI Yn)) ?_;refine aj 20 rfl (ay 2) ?_;refine aj 21 rfl (aD (b:=b14)) ?_;obtain⟨Ai,hx27,hM⟩:=bind_some hM;refine aj 22 rfl (aQ (xs:=dz.dA) 1 ((Sk.map (Sk.elem (Sk.cO (α:=List dG) (r:=jg) (x:=ji) hA) lU) (fun _ _ h=>h.1):Sk _ _ (α:=List Int) (jg.es (wI:Int).toNat).1 dz.dA)).kn (iS hx27)) ?_;refine aj 23 rfl (bE (i:=0) (xs:=dz.dA) (y:=Ai) 0 ((Sk.map (Sk.elem (Sk.cO (α:=List dG) (r:=jg) (x:=ji) hA) lU) (fun _ _ h=>h.1):Sk _ _ (α:=List Int) (jg.es (wI:Int).toNat).1 dz.dA)).kn (fun _=>hx27)) ?_;refine aj 24 rfl (ay 3) ?_;refine aj 25 rfl (aD (b:=b14)) ?_
    refine aj 26 rfl aH ?_;obtain⟨Yo,hM⟩:=bQ hM;refine aj 27 rfl (mQ (hr:=fun hg=>dI Yo)) ?_;obtain⟨x29,FP,hM⟩:=bind_some hM;refine aj 28 rfl (aQ (xs:=dz.cK) 1 ((Sk.map (Sk.elem (Sk.cO (α:=List dG) (r:=jg) (x:=ji) hA) lU) (fun _ _ h=>h.2):Sk _ _ (α:=List Int) (jg.es (wI:Int).toNat).2 dz.cK)).kn (iS FP)) ?_;refine aj 29 rfl (bE (i:=((dz.dA.length:Int)-1)) (xs:=dz.cK) (y:=x29) 0 ((Sk.map (Sk.elem (Sk.cO (α:=List dG) (r:=jg) (x:=ji) hA) lU) (fun _ _ h=>h.2):Sk _ _ (α:=List Int) (jg.es (wI:Int).toNat).2 dz.cK)).kn (fun _=>FP)) ?_;obtain⟨y31,hy32,hM⟩:=bind_some hM;refine dX 11 rfl (nV jL.nil (fun S w hs hP=>Nb _ w p0 av dz.Line 0 y31 hy32 hs.lt ⟨(kI hs),(kI hs),(kI hs),(kI hs),(kI hs),(kI hs),(kI hs)⟩) (fun r33=>⟨rI,?_⟩));dsimp only[cA,nA];obtain⟨y34,FY,hM⟩:=bind_some hM;refine dX 12 rfl (sV (fun hs=>VI _ _ y31 r33 y34 FY (bq hs) (kM hs)) ⟨rI,?_⟩);obtain⟨Gw,Zq,hM⟩:=bind_some hM;refine dX 18 rfl (nV jL.nil (fun S w hs hP=>Nb _ w p0 av dz.Line ((dz.dA.length:Int)-1) Gw Zq hs.lt ⟨(kI hs),(kI hs),(kI hs),(kI hs),(kI hs),(kI hs),(kI hs)⟩) (fun Cu=>⟨rI,?_⟩));dsimp only[cA,nA];obtain⟨y39,PI,hM⟩:=bind_some hM;refine dX 19 rfl (sV (fun hs=>VJ _ _ Gw Cu y39 PI (bq hs) (kM hs)) ⟨rI,?_⟩)
    refine aj 30 rfl (gD [vI x23.bL,vI y34,vI y39,vI Ai,vI x29]) ?_;refine dX 31 rfl (fH (α:=Task) 57 (fun _=>()) ([(Task.mk x23.bL y34 y39 Ai x29)]:List Task) oF (fun MN=>⟨rI,?_⟩));obtain⟨Pm,hM⟩:=bQ hM;refine dX 32 rfl (jy (r:=Bq) (r2:=MN) uR (Kn.ah (e:=57) (r:=MN) hA) oF (of_decide_eq_true Pm) (fun Gg=>⟨rI,?_⟩));refine aj 33 rfl dL ?_;refine dK (fT _ _ ?_);clear fT;refine aT ?_;refine oe (dh (hr:=fun _=>by unfold dS;omega)) ?_;refine om ?_;refine aU (hL1 Gg hM sS rI)
  replace hM:=iF uz hM;refine nZ 19 rfl rfl uz ?_;refine nZ 20 rfl rfl uz ?_;refine nZ 21 rfl rfl uz ?_;refine nZ 22 rfl rfl uz ?_;refine aj 23 rfl (aik (bnT uz)) ?_;refine dK (jC _ _ ?_);clear jC;refine acJ rfl rfl ?_;refine sr ?_;refine oa ?_;refine aL ?_;refine dJ (fun w hm=>hm.dR (α:=Task) 57 (fun _=>())) ?_;obtain rfl:=some_inj hM;refine aP (nu (fun w hm=>gK Gd hm rfl))
 refine bX (dY _ _ ?_);clear dY;dsimp only[afK] at hM;refine aJ ?_;refine oa ?_;refine aL ?_;obtain rfl:=some_inj hM;refine aP (nu (fun w hm=>gK Bq hm rfl))
def aey:Unit→Option Bool:=fun _=>
 some true
def PZ(a0:List Task)(b0:List Task)(aN:Nat→Option Bool):Nat→Option Bool:=fun mV=>
 if decide ((mV:Int)<(a0.length:Int)) then
  ((idx a0 (mV:Int)).bind fun x4=>
  (idx b0 (mV:Int)).bind fun x6=>
  if (!decide (x4=x6)) then
   (some false)
  else
   (aN (mV+1)))
 else
  (aey ())
def P5(a0:List Task)(b0:List Task):Option Bool:=
 if decide ((a0.length:Int)≠(b0.length:Int)) then
  (some false)
 else
  (iter (PZ a0 b0) FUEL 0)
theorem alh(S:bF)(w:World)(a0:List Task)(pG:ak.R (List Task))(b0:List Task)(aK:ak.R (List Task))(y:Bool)(hM:P5 a0 b0=some y)(hS:sB S w)(Pg:ak.ok S w pG a0)(yM:ak.ok S w aK b0):
   Calls Tryz.prog 11 #[sL pG a0,sL aK b0] w (dw w (.bool y)):=by
 refine bW (args:=[_,_]) Tryz.func11 rfl ((pre_nil hS).start |>.dZ (α:=List Task) (r:=pG) (x:=a0) Pg|>.dZ (α:=List Task) (r:=aK) (x:=b0) yM) rfl ?_;unfold P5 at hM;refine bg ?_;refine aF fun K2 hK2=>?_;refine aJ ?_;refine oe bf ?_;refine om ?_;refine oe bf ?_;refine oe gH ?_;refine on ?_;refine cc rfl hM (fun hc1 hM=>?_) (fun hc1 hM=>?_)
 ·refine bg ?_;exact aP (bD hM)
 refine aM (hK2 _ _ ?_);clear hK2;refine aF fun K5 bT=>?_;refine aJ ?_;refine gU (fun w hm=>Kn.len (kG a0 pG) hm) fun hl2=>?_;refine oe bf ?_;refine om ?_;refine on ?_;refine aV ?_;refine lq hM (fun mV=>[(0,eS pG a0),(1,eS aK b0),(12,eI (a0.length:Int)),(13,eI (mV:Int))]) (fun mV=>[iL a0 pG,iL b0 aK]) sS rI ?_;clear hM;rintro aN mV hM fQ hL1;dsimp only[PZ] at hM ⊢;refine sr ?_;refine oe bK ?_;refine on ?_;refine aF fun K8 fu=>?_;refine cc rfl hM (fun hc3 hM=>?_) (fun hc3 hM=>?_)
 ·have YM:=of_decide_eq_true hc3;refine aM (fu _ _ ?_);clear fu;refine aF fun K9 dY=>?_;refine aV ?_;refine aJ ?_;refine aL ?_;refine aF fun pR eH=>?_;refine fE _ (List.Sublist.refl _) ?_;refine aj 0 rfl aH ?_;refine aj 1 rfl aH ?_;obtain⟨x4,hx5,hM⟩:=bind_some hM;refine aj 2 rfl (aQ (xs:=a0) 5 (kG a0 pG) (iS hx5)) ?_;refine aj 3 rfl (eY (m:=5) (i:=(mV:Int)) (xs:=a0) (y:=x4) (l:=(qh x4)) 0 (kG a0 pG) (fun _=>hx5)) ?_;refine aj 4 rfl aH ?_;refine aj 5 rfl aH ?_;obtain⟨x6,hx7,hM⟩:=bind_some hM;refine aj 6 rfl (aQ (xs:=b0) 5 (kG b0 aK) (iS hx7)) ?_;refine aj 7 rfl (eY (m:=5) (i:=(mV:Int)) (xs:=b0) (y:=x6) (l:=(qh x6)) 0 (kG b0 aK) (fun _=>hx7)) ?_;refine aj 8 rfl (aij [.int .i64,.int .i64,.int .i64,.int .i64,.int .i64] (decide (x4=x6)) (ahf _ _)) ?_;refine dK (eH _ _ ?_);clear eH;refine cc rfl hM (fun hc8 hM=>?_) (fun hc8 hM=>?_)
  · refine bg ?_;exact aP (bD hM)
  refine aM (dY _ _ ?_);clear dY;refine aT ?_;refine oe (dh (hr:=fun _=>by unfold dS;omega)) ?_;refine om ?_;refine aU (hL1 hM sS rI)
 refine bX (bT _ _ ?_);clear bT;dsimp only[aey] at hM;refine bg ?_;exact aP (bD hM)
end Go.Proofs.YtcalibhfgdncaaaGreat
