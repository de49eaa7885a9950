/- Models of functions, and that the code computes them. -/
import Derived.Test.YtcalibhfgdncaaaGreatDoorRa
import Derived.Test.YtcalibhfgdncaaaGreatDoorRb
set_option linter.all false
namespace Go.Proofs.YtcalibhfgdncaaaGreatDoor
open Go.Dc Go.RowKit
set_option maxRecDepth 10000
def ag4(zX:List Str)(zY:List Str)(zZ:List Section)(z8:List Link):Unit→Option (Layout×Int×Int):=fun _=>
 (Kw (Layout.mk zX zY zZ z8)).bind fun AY=>
 if decide (AY≠0) then
  (some ((Layout.mk ([]:List Str) ([]:List Str) ([]:List Section) ([]:List Link)),0,AY))
 else
  (some ((Layout.mk zX zY zZ z8),0,0))
def ag3(y2:(List (List Word))×Int×Int)(bA:((List Str)×(List Str)×(List Section)×(List Link)×Nat)→Option (Layout×Int×Int)):((List Str)×(List Str)×(List Section)×(List Link)×Nat)→Option (Layout×Int×Int):=fun (zX,zY,zZ,z8,bg)=>
 if decide ((bg:Int)<(y2.1.length:Int)) then
  ((idx y2.1 (bg:Int)).bind fun x20=>
  (abR (Layout.mk zX zY zZ z8) x20).bind fun y22=>
  if decide (y22.1≠0) then
   ((idx y2.1 (bg:Int)).bind fun Uy=>
   (idx Uy 0).bind fun x28=>
   some ((Layout.mk ([]:List Str) ([]:List Str) ([]:List Section) ([]:List Link)),x28.Line,y22.1))
  else
   (bq (bJ ((bg:Int)+1))<|
   bA (y22.2.1,y22.2.2.1,y22.2.2.2.1,y22.2.2.2.2,bg+1)))
 else
  (ag4 zX zY zZ z8 ())
def abN(qK:Str):Option (Layout×Int×Int):=
 (abK qK).bind fun y2=>
 if decide (y2.2.2≠0) then
  (some ((Layout.mk ([]:List Str) ([]:List Str) ([]:List Section) ([]:List Link)),y2.2.1,y2.2.2))
 else
  (iter (ag3 y2) FUEL (([]:List Str),([]:List Str),([]:List Section),([]:List Link),0))
theorem aqe(S:bO)(w:World)(qK:Str)(y:Layout×Int×Int)(hM:abN qK=some y)(hS:sB S w):
   Calls Tryz.prog 24 #[.string qK.ba] w (Post (β:=(aC.R Layout)) S [] (fun g=> .tuple #[.agg (jN y.1 g),vI y.2.1,vI y.2.2]) (fun g=>[aj 9 g.1 y.1.aU,aj 9 g.2.1 y.1.bG,aj 81 g.2.2.1 y.1.Sections,aj 183 g.2.2.2 y.1.Links]) w):=by
 refine cu (args:=[_]) Tryz.func24 rfl ((pre_nil hS).start) rfl ?_;unfold abN at hM;refine sr ?_;refine oA rfl fun b1=>?_;refine oa ?_;refine aT ?_;refine aW ?_;obtain⟨y2,hy3,hM⟩:=bind_some hM;refine bM (nT jM.nil (fun S w hs hP=>aqd _ w qK y2 hy3 hs.lt) (fun r4=>?_));dsimp only[cA,nA];refine om ?_;refine oe (jv (vs:=[sL r4 y2.1,vI y2.2.1,vI y2.2.2])) ?_;refine oe (jv (vs:=[sL r4 y2.1,vI y2.2.1,vI y2.2.2])) ?_;refine oe (jv (vs:=[sL r4 y2.1,vI y2.2.1,vI y2.2.2])) ?_;refine oa ?_;refine oa ?_;refine aT ?_;refine aK fun K3 hK3=>?_;refine aW ?_;refine oe gZ ?_;refine on ?_;refine cc rfl hM (fun jL hM=>?_) (fun jL hM=>?_)
 ·refine sr ?_;refine oe (gI [z0,z0,z0,z0]) ?_;refine om ?_;refine om ?_;refine oS b1 [z0,z0,z0,z0] ?_;refine oa ?_;refine aT ?_;refine cZ (fun w hm=>hm.dR (α:=Str) 9 (fun _=>())) ?_;refine cZ (fun w hm=>hm.dR (α:=Str) 9 (fun _=>())) ?_;refine cZ (fun w hm=>hm.dR (α:=Section) 81 (fun _=>())) ?_;refine cZ (fun w hm=>hm.dR (α:=Link) 183 (fun _=>())) ?_;obtain rfl:=some_inj hM;refine aY (yT (fun w hm=>fU (jT,jT,u7,rJ) hm rfl))
 refine aX (hK3 _ _ ?_);clear hK3;refine sr ?_;refine oA rfl fun b10=>?_;refine on ?_;refine aK fun K7 eu=>?_;refine bI ?_;refine bH ?_;refine cZ (fun w hm=>hm.dR (α:=Str) 9 (fun _=>())) ?_;refine cZ (fun w hm=>hm.dR (α:=Str) 9 (fun _=>())) ?_;refine cZ (fun w hm=>hm.dR (α:=Section) 81 (fun _=>())) ?_;refine cZ (fun w hm=>hm.dR (α:=Link) 183 (fun _=>())) ?_;refine cZ (fun w hm=>hm.dR (α:=Str) 9 (fun _=>())) ?_;refine cZ (fun w hm=>hm.dR (α:=Str) 9 (fun _=>())) ?_;refine cZ (fun w hm=>hm.dR (α:=Section) 81 (fun _=>())) ?_;refine cZ (fun w hm=>hm.dR (α:=Link) 183 (fun _=>())) ?_;refine lp (jT,jT,u7,rJ) hM (fun (zX,zY,zZ,z8,bg) (Ie,Ig,Ih,Ii)=>[(2,eP b1),(5,eS r4 y2.1),(8,eP b10),(9,eI (bg:Int))]) (fun (zX,zY,zZ,z8,bg) (Ie,Ig,Ih,Ii)=>[aj 9 jT ([]:List Str),aj 9 jT ([]:List Str),aj 81 u7 ([]:List Section),aj 183 rJ ([]:List Link),own b1 26 [z0,z0,z0,z0],aj 105 r4 y2.1,aj 9 Ie zX,aj 9 Ig zY,aj 81 Ih zZ,aj 183 Ii z8,own b10 26 [sL Ie zX,sL Ig zY,sL Ih zZ,sL Ii z8]]) sS rI ?_
 clear hM;rintro bA ⟨zX,zY,zZ,z8,bg⟩ ⟨Ie,Ig,Ih,Ii⟩ hM iG hL1;dsimp only[ag3] at hM ⊢;refine aK fun K9 gB=>?_;refine aW ?_;refine om ?_;refine oe bL ?_;refine oe bY ?_;refine on ?_;refine cc rfl hM (fun hc19 hM=>?_) (fun hc19 hM=>?_)
 ·refine aX (gB _ _ ?_);clear gB;refine aK fun rQ gG=>?_;refine bH ?_;refine aW ?_;refine om ?_;obtain⟨x20,Fq,hM⟩:=bind_some hM;refine oe (bD (xs:=y2.1) 1 (Kn.aj (e:=105) (r:=r4) hA) (iS Fq)) ?_;refine oe (bT (i:=(bg:Int)) (xs:=y2.1) (y:=x20) 0 (Kn.aj (e:=105) (r:=r4) hA) (fun _=>Fq)) ?_;obtain⟨y22,zS,hM⟩:=bind_some hM;refine bM (fJ sA (fun S w hs hP=>aqh _ w b10 (Layout.mk zX zY zZ z8) (Ie,Ig,Ih,Ii) x20 (r4.es (bg:Int).toNat) y22 zS hP (Kn.lend ((Sk.row (e:=105) (r:=r4) hA Fq)).kn hs)) gq (fun rD=>?_));dsimp only[cA,nA];refine aT ?_;refine aW ?_;refine oe gZ ?_;refine on ?_;refine cc rfl hM (fun hc25 hM=>?_) (fun hc25 hM=>?_)
  · refine aK fun BN mq=>?_;refine gy [own b10 26 [sL rD.1 y22.2.1,sL rD.2.1 y22.2.2.1,sL rD.2.2.1 y22.2.2.2.1,sL rD.2.2.2 y22.2.2.2.2],aj 9 rD.1 y22.2.1,aj 9 rD.2.1 y22.2.2.1,aj 81 rD.2.2.1 y22.2.2.2.1,aj 183 rD.2.2.2 y22.2.2.2.2,aj 9 jT ([]:List Str),aj 9 jT ([]:List Str),aj 81 u7 ([]:List Section),aj 183 rJ ([]:List Link),aj 105 r4 y2.1] (by repeat (first|exact List.Sublist.refl _|apply List.Sublist.cons_cons|apply List.Sublist.cons)) ?_;refine ak 0 rfl (gI [z0,z0,z0,z0]) ?_;refine ak 1 rfl aL ?_;refine ak 2 rfl aL ?_;obtain⟨Uy,hx27,hM⟩:=bind_some hM;refine ak 3 rfl (bD (xs:=y2.1) 1 (Kn.aj (e:=105) (r:=r4) hA) (iS hx27)) ?_;refine ak 4 rfl (bT (i:=(bg:Int)) (xs:=y2.1) (y:=Uy) 0 (Kn.aj (e:=105) (r:=r4) hA) (fun _=>hx27)) ?_;obtain⟨x28,hx29,hM⟩:=bind_some hM;refine ak 5 rfl (bD (xs:=Uy) 3 ((Sk.row (e:=105) (r:=r4) hA hx27)).kn (iS hx29)) ?_;refine ak 6 rfl (av 1) ?_;refine ak 7 rfl (bT (i:=0) (xs:=Uy) (y:=x28) 1 ((Sk.row (e:=105) (r:=r4) hA hx27)).kn (fun _=>hx29)) ?_
    refine ak 8 rfl aL ?_;refine aS 9 rfl b1 [z0,z0,z0,z0] ?_;refine ak 10 rfl dD ?_;refine ak 11 rfl dD ?_;refine dP (mq _ _ ?_);clear mq;refine cZ (fun w hm=>hm.dR (α:=Str) 9 (fun _=>())) ?_;refine cZ (fun w hm=>hm.dR (α:=Str) 9 (fun _=>())) ?_;refine cZ (fun w hm=>hm.dR (α:=Section) 81 (fun _=>())) ?_;refine cZ (fun w hm=>hm.dR (α:=Link) 183 (fun _=>())) ?_;obtain rfl:=some_inj hM;refine aY (yT (fun w hm=>fU (jT,jT,u7,rJ) hm rfl))
  refine aX (gG _ _ ?_);clear gG;refine bB ?_;refine om ?_;refine oP hM fun hM=>?_;refine oa ?_;refine bC (hL1 (rD.1,rD.2.1,rD.2.2.1,rD.2.2.2) hM sS rI)
 refine dK (eu _ _ ?_);clear eu;dsimp only[ag4] at hM;refine aK fun zA jZ=>?_;refine sr ?_;refine oe (bR (b:=b10)) ?_;obtain⟨AY,Mw,hM⟩:=bind_some hM;refine cv (fun hs=>abI _ _ (Layout.mk zX zY zZ z8) (Ie,Ig,Ih,Ii) AY Mw (bf hs) ⟨(kT hs),(kT hs),(kT hs),(kT hs)⟩) ?_;refine aT ?_;refine aW ?_;refine oe gZ ?_;refine on ?_;refine cc rfl hM (fun ZG hM=>?_) (fun ZG hM=>?_)
 ·refine sr ?_;refine oe (gI [z0,z0,z0,z0]) ?_;refine om ?_;refine oS b1 [z0,z0,z0,z0] ?_;refine oa ?_;refine aT ?_;refine cZ (fun w hm=>hm.dR (α:=Str) 9 (fun _=>())) ?_;refine cZ (fun w hm=>hm.dR (α:=Str) 9 (fun _=>())) ?_;refine cZ (fun w hm=>hm.dR (α:=Section) 81 (fun _=>())) ?_;refine cZ (fun w hm=>hm.dR (α:=Link) 183 (fun _=>())) ?_;obtain rfl:=some_inj hM;refine aY (yT (fun w hm=>fU (jT,jT,u7,rJ) hm rfl))
 refine aX (jZ _ _ ?_);clear jZ;refine sr ?_;refine oe (bR (b:=b10)) ?_;refine oS b1 [sL Ie zX,sL Ig zY,sL Ih zZ,sL Ii z8] ?_;refine oa ?_;refine aT ?_;obtain rfl:=some_inj hM;refine aY (yT (fun w hm=>fU (Ie,Ig,Ih,Ii) hm rfl))
def aa6:Option Layout:=
 (abN (⟨[115,116,97,116,105,111,110,32,78,111,114,116,104,10,112,111,105,110,116,32,87,10,115,101,99,116,105,111,110,32,84,32,52,48,32,51,51,48,48,48,32,48,10,115,101,99,116,105,111,110,32,78,49,32,50,48,32,50,48,48,48,48,32,48,32,97,116,32,78,111,114,116,104,10,115,101,99,116,105,111,110,32,78,50,32,50,48,32,50,48,48,48,48,32,48,32,97,116,32,78,111,114,116,104,10,108,105,110,107,32,84,32,66,32,78,49,32,65,32,87,32,48,10,108,105,110,107,32,84,32,66,32,78,50,32,65,32,87,32,49,10]⟩:Str)).bind fun y2=>
 some y2.1
theorem ao0(S:bO)(w:World)(y:Layout)(hM:aa6=some y)(hS:sB S w):
  Calls Tryz.prog 11 #[] w (Post (β:=(aC.R Layout)) S [] (fun g=> .agg (jN y g)) (fun g=>[aj 9 g.1 y.aU,aj 9 g.2.1 y.bG,aj 81 g.2.2.1 y.Sections,aj 183 g.2.2.2 y.Links]) w):=by
 refine cu (args:=[]) Tryz.func11 rfl ((pre_nil hS).start) rfl ?_;unfold aa6 at hM;refine sr ?_;refine oA rfl fun b1=>?_;refine on ?_;refine sr ?_;obtain⟨y2,hy3,hM⟩:=bind_some hM;refine bM (fJ jM.nil (fun S w hs hP=>aqe _ w (⟨[115,116,97,116,105,111,110,32,78,111,114,116,104,10,112,111,105,110,116,32,87,10,115,101,99,116,105,111,110,32,84,32,52,48,32,51,51,48,48,48,32,48,10,115,101,99,116,105,111,110,32,78,49,32,50,48,32,50,48,48,48,48,32,48,32,97,116,32,78,111,114,116,104,10,115,101,99,116,105,111,110,32,78,50,32,50,48,32,50,48,48,48,48,32,48,32,97,116,32,78,111,114,116,104,10,108,105,110,107,32,84,32,66,32,78,49,32,65,32,87,32,48,10,108,105,110,107,32,84,32,66,32,78,50,32,65,32,87,32,49,10]⟩:Str) y2 hy3 (bf hs)) gq (fun r4=>?_));dsimp only[cA,nA];refine om ?_;refine oe (jv (vs:=[.agg (jN y2.1 r4),vI y2.2.1,vI y2.2.2])) ?_;refine oe (jv (vs:=[.agg (jN y2.1 r4),vI y2.2.1,vI y2.2.2])) ?_
 refine oe (jv (vs:=[.agg (jN y2.1 r4),vI y2.2.1,vI y2.2.2])) ?_;refine oA rfl fun b5=>?_;refine oS b5 (cK y2.1 r4) ?_;refine oa ?_;refine aT ?_;refine sr ?_;refine oe (bR (b:=b5)) ?_;refine oS b1 (cK y2.1 r4) ?_;refine on ?_;obtain rfl:=some_inj hM;refine aY (mD (fun w hm=>fU r4 hm rfl))
end Go.Proofs.YtcalibhfgdncaaaGreatDoor
