/- Models of functions, and that the code computes them. -/
import Derived.Test.YtcalibhfgdncaaaGreatDoorRk
set_option linter.all false
namespace Go.Proofs.YtcalibhfgdncaaaGreatDoor
open Go.Dc Go.RowKit
set_option maxRecDepth 10000
def Ce(Ux:Str)(n0:Int):Option Str:=
 bG (bW ((n0.tmod 10)+1))<|
 (mo (⟨[48,49,50,51,52,53,54,55,56,57]⟩:Str) (n0.tmod 10) ((n0.tmod 10)+1)).bind fun q2=>
 (vM Ux q2).bind fun q4=>
 some q4
theorem Jz(S:bB)(w:World)(Ux:Str)(n0:Int)(y:Str)(hM:Ce Ux n0=some y)(hS:sB S w):
  Calls Tryz.prog 72 #[.string Ux.ba,vI n0] w (cu w (.string y.ba)):=by
 refine bP (args:=[_,_]) Tryz.func72 rfl ((pre_nil hS).start) rfl ?_;unfold Ce at hM;refine bD ?_;refine aO ?_;refine om ?_;refine oe BM ?_;refine om ?_;refine oe BM ?_;refine oP hM fun hM=>?_;obtain⟨q2,hq3,hM⟩:=bind_some hM;refine oe (Av (ol:=some (.i64,(n0.tmod 10))) (oh:=some (.i64,((n0.tmod 10)+1))) (fun _=>hq3)) ?_;obtain⟨q4,PL,hM⟩:=bind_some hM;refine oe (Ut (fun _=>PL)) ?_;refine aP ?_;exact aW (bN hM)
def LK(s0:bT)(Mt:Str)(NM:Int):Option (Section×Int):=
 (jS s0 9).bind fun y2=>
 bG (bW (2+y2.1))<|
 (jS (bT.mk s0.l y2.2) 7).bind fun y6=>
 bG (bW (5000*y6.1))<|
 bG (bW (5000+(5000*y6.1)))<|
 (jS (bT.mk s0.l y6.2) 21).bind fun fA=>
 bG (bW (fA.1-10))<|
 some ((Section.mk Mt (2+y2.1) (5000+(5000*y6.1)) (fA.1-10) NM),fA.2)
theorem aem(S:bB)(w:World)(eG:Nat)(s0:bT)(bK:ak.R bT)(Mt:Str)(NM:Int)(y:Section×Int)(hM:LK s0 Mt NM=some y)(hP:Pre S [own eG 136 (Cn s0 bK)] w)(EH:ak.ok (α:=List Int) S w bK s0.l):
  Calls Tryz.prog 73 #[vP eG,.string Mt.ba,vI NM] w (Post (β:=Unit) S [own eG 136 (Cn s0 bK)] (fun g=> .agg (Ud y.1)) (fun g=>[own eG 136 [sL bK s0.l,vI y.2]]) w):=by
 refine bP (args:=[_,_,_]) Tryz.func73 rfl (hP.start |>.bU (α:=List Int) (r:=bK) (x:=s0.l) EH) rfl ?_;unfold LK at hM;refine sr ?_;refine oA rfl fun b1=>?_;refine on ?_;refine aO ?_;refine om ?_;obtain⟨y2,hy3,hM⟩:=bind_some hM;refine bn (eU sA (fun S w hs hP=>iH _ w eG s0 bK 9 y2 hy3 hP (kM hs)) fK (fun r4=>?_));dsimp only[cA,nA];refine oP hM fun hM=>?_;refine om ?_;obtain⟨y6,zq,hM⟩:=bind_some hM;refine bn (eU sA (fun S w hs hP=>iH _ w eG (bT.mk s0.l y2.2) bK 7 y6 zq hP (kM hs)) fK (fun r8=>?_));dsimp only[cA,nA];obtain⟨hI9,hM⟩:=dw hM;refine oe (sQ (hr:=fun hg=>fH hI9)) ?_;refine oP hM fun hM=>?_;refine om ?_;obtain⟨fA,uX,hM⟩:=bind_some hM;refine bn (eU sA (fun S w hs hP=>iH _ w eG (bT.mk s0.l y6.2) bK 21 fA uX hP (kM hs)) fK (fun qW=>?_));dsimp only[cA,nA];refine oN hM fun hM=>?_;refine om ?_;refine oe (fT [.string Mt.ba,vI (2+y2.1),vI (5000+(5000*y6.1)),vI (fA.1-10),vI NM]) ?_
 refine oS b1 [.string Mt.ba,vI (2+y2.1),vI (5000+(5000*y6.1)),vI (fA.1-10),vI NM] ?_;refine on ?_;obtain rfl:=some_inj hM;refine aW (jE (fun w hm=>dO () hm rfl))
def LM(b0:dG)(x0:Section):Option (Int×(List Section)):=
 bG (decide ((b0.l.Sections.length+([x0]:List Section).length)*48≤140737488355328))<|
 bG (bW (((b0.l.Sections++([x0]:List Section)).length:Int)-1))<|
 some ((((b0.l.Sections++([x0]:List Section)).length:Int)-1),(b0.l.Sections++([x0]:List Section)))
theorem aen(S:bB)(w:World)(fQ:Nat)(b0:dG)(aK:ak.R dG)(x0:Section)(y:Int×(List Section))(hM:LM b0 x0=some y)(hP:Pre S [own fQ 76 (qH b0 aK),ah 9 aK.1.1 b0.l.aM,ah 9 aK.1.2.1 b0.l.aV,ah 81 aK.1.2.2.1 b0.l.Sections,ah 183 aK.1.2.2.2 b0.l.Links,ah 39 aK.2.1 b0.tracks,ah 39 aK.2.2.1 b0.between,ah 39 aK.2.2.2 b0.eB] w):
  Calls Tryz.prog 74 #[vP fQ,.agg (Ud x0)] w (Post (β:=(SR (ak.R Section))) S [own fQ 76 (qH b0 aK),ah 9 aK.1.1 b0.l.aM,ah 9 aK.1.2.1 b0.l.aV,ah 81 aK.1.2.2.1 b0.l.Sections,ah 183 aK.1.2.2.2 b0.l.Links,ah 39 aK.2.1 b0.tracks,ah 39 aK.2.2.1 b0.between,ah 39 aK.2.2.2 b0.eB] (fun g=>vI y.1) (fun g=>[own fQ 76 [sL aK.1.1 b0.l.aM,sL aK.1.2.1 b0.l.aV,sL g y.2,sL aK.1.2.2.2 b0.l.Links,sL aK.2.1 b0.tracks,sL aK.2.2.1 b0.between,sL aK.2.2.2 b0.eB],ah 9 aK.1.1 b0.l.aM,ah 9 aK.1.2.1 b0.l.aV,ah 81 g y.2,ah 183 aK.1.2.2.2 b0.l.Links,ah 39 aK.2.1 b0.tracks,ah 39 aK.2.2.1 b0.between,ah 39 aK.2.2.2 b0.eB]) w):=by
 refine bP (args:=[_,_]) Tryz.func74 rfl (hP.start) rfl ?_;unfold LM at hM;refine sr ?_;refine oB (Co x0) fun b1=>?_;refine aP ?_;refine aG fun K2 hK2=>?_;refine iV [own b1 81 (Co x0),own fQ 76 (qH b0 aK),ah 9 aK.1.1 b0.l.aM,ah 9 aK.1.2.1 b0.l.aV,ah 183 aK.1.2.2.2 b0.l.Links,ah 39 aK.2.1 b0.tracks,ah 39 aK.2.2.1 b0.between,ah 39 aK.2.2.2 b0.eB] 12 ?_;refine aF 0 rfl aH ?_;refine aF 1 rfl aH ?_;refine aF 2 rfl bY ?_;refine aF 3 rfl (aD 0) ?_;refine aF 4 rfl (aD 2) ?_;refine aF 5 rfl (aJ (b:=fQ)) ?_;refine aF 6 rfl (bX (b:=b1)) ?_;refine dA 7 rfl (eX (α:=Section) 81 (fun _=>()) ([x0]:List Section) oF (fun r2=>⟨rI,?_⟩));obtain⟨hb4,hM⟩:=dw hM
 refine dA 8 rfl (iP (r:=aK.1.2.2.1) (r2:=r2) uR (Kn.ah (e:=81) (r:=r2) hA) oF (of_decide_eq_true hb4) (fun r3=>⟨rI,?_⟩));refine aF 9 rfl bY ?_;refine aF 10 rfl (aD 0) ?_;refine aF 11 rfl (aD 2) ?_;refine iU rfl (fP (b:=fQ) (l':=[sL aK.1.1 b0.l.aM,sL aK.1.2.1 b0.l.aV,.slice r3.a ((b0.l.Sections++([x0]:List Section)).length) r3.cap,sL aK.1.2.2.2 b0.l.Links,sL aK.2.1 b0.tracks,sL aK.2.2.1 b0.between,sL aK.2.2.2 b0.eB]) (k:=?_));refine iR (hK2 _ _ ?_);clear hK2;refine aO ?_;refine oe bY ?_;refine oe (aD 0) ?_;refine oe (aD 2) ?_;refine oe (aJ (b:=fQ)) ?_;refine oe bJ ?_;refine oN hM fun hM=>?_;refine aP ?_;obtain rfl:=some_inj hM;refine aW (jE (fun w hm=>dO r3 hm rfl))
def Jy(b0:dG)(a0:Int)(c0:Int)(He:Int)(Hf:Int):Option (List Link):=
 bG (decide ((b0.l.Links.length+([(Link.mk a0 1 c0 0 He Hf)]:List Link).length)*48≤140737488355328))<|
 some (b0.l.Links++([(Link.mk a0 1 c0 0 He Hf)]:List Link))
theorem ZY(S:bB)(w:World)(fQ:Nat)(b0:dG)(aK:ak.R dG)(a0:Int)(c0:Int)(He:Int)(Hf:Int)(y:(List Link))(hM:Jy b0 a0 c0 He Hf=some y)(hP:Pre S [own fQ 76 (qH b0 aK),ah 9 aK.1.1 b0.l.aM,ah 9 aK.1.2.1 b0.l.aV,ah 81 aK.1.2.2.1 b0.l.Sections,ah 183 aK.1.2.2.2 b0.l.Links,ah 39 aK.2.1 b0.tracks,ah 39 aK.2.2.1 b0.between,ah 39 aK.2.2.2 b0.eB] w):
  Calls Tryz.prog 75 #[vP fQ,vI a0,vI c0,vI He,vI Hf] w (Post (β:=(SR (ak.R Link))) S [own fQ 76 (qH b0 aK),ah 9 aK.1.1 b0.l.aM,ah 9 aK.1.2.1 b0.l.aV,ah 81 aK.1.2.2.1 b0.l.Sections,ah 183 aK.1.2.2.2 b0.l.Links,ah 39 aK.2.1 b0.tracks,ah 39 aK.2.2.1 b0.between,ah 39 aK.2.2.2 b0.eB] (fun g=> .tuple #[]) (fun g=>[own fQ 76 [sL aK.1.1 b0.l.aM,sL aK.1.2.1 b0.l.aV,sL aK.1.2.2.1 b0.l.Sections,sL g y,sL aK.2.1 b0.tracks,sL aK.2.2.1 b0.between,sL aK.2.2.2 b0.eB],ah 9 aK.1.1 b0.l.aM,ah 9 aK.1.2.1 b0.l.aV,ah 81 aK.1.2.2.1 b0.l.Sections,ah 183 g y,ah 39 aK.2.1 b0.tracks,ah 39 aK.2.2.1 b0.between,ah 39 aK.2.2.2 b0.eB]) w):=by
 refine bP (args:=[_,_,_,_,_]) Tryz.func75 rfl (hP.start) rfl ?_;unfold Jy at hM;refine aZ ?_;refine om ?_;refine om ?_;refine oe bY ?_;refine oe (aD 0) ?_;refine oe (aD 3) ?_;refine oe (aJ (b:=fQ)) ?_;refine om ?_;refine om ?_;refine om ?_;refine om ?_;refine oe (fT [vI a0,vI 1,vI c0,vI 0,vI He,vI Hf]) ?_;refine bn (eX (α:=Link) 183 (fun _=>()) ([(Link.mk a0 1 c0 0 He Hf)]:List Link) oF (fun r1=>?_));obtain⟨hb3,hM⟩:=dw hM;refine bn (iP (r:=aK.1.2.2.2) (r2:=r1) uR (Kn.ah (e:=183) (r:=r1) hA) oF (of_decide_eq_true hb3) (fun r2=>?_));refine oe bY ?_;refine oe (aD 0) ?_;refine oe (aD 3) ?_;refine bn (fP (b:=fQ) (l':=[sL aK.1.1 b0.l.aM,sL aK.1.2.1 b0.l.aV,sL aK.1.2.2.1 b0.l.Sections,.slice r2.a ((b0.l.Links++([(Link.mk a0 1 c0 0 He Hf)]:List Link)).length) r2.cap,sL aK.2.1 b0.tracks,sL aK.2.2.1 b0.between,sL aK.2.2.2 b0.eB]) (k:=?_));obtain rfl:=some_inj hM;refine bf (yG rfl (fun w hm=>dO r2 hm rfl))
def QC(b0:dG):Option (Int×(List Str)):=
 (Ce (⟨[80]⟩:Str) (b0.l.aV.length:Int)).bind fun y1=>
 bG (decide ((b0.l.aV.length+([y1]:List Str).length)*16≤140737488355328))<|
 bG (bW (((b0.l.aV++([y1]:List Str)).length:Int)-1))<|
 some ((((b0.l.aV++([y1]:List Str)).length:Int)-1),(b0.l.aV++([y1]:List Str)))
theorem al2(S:bB)(w:World)(fQ:Nat)(b0:dG)(aK:ak.R dG)(y:Int×(List Str))(hM:QC b0=some y)(hP:Pre S [own fQ 76 (qH b0 aK),ah 9 aK.1.1 b0.l.aM,ah 9 aK.1.2.1 b0.l.aV,ah 81 aK.1.2.2.1 b0.l.Sections,ah 183 aK.1.2.2.2 b0.l.Links,ah 39 aK.2.1 b0.tracks,ah 39 aK.2.2.1 b0.between,ah 39 aK.2.2.2 b0.eB] w):
  Calls Tryz.prog 133 #[vP fQ] w (Post (β:=(SR (ak.R Str))) S [own fQ 76 (qH b0 aK),ah 9 aK.1.1 b0.l.aM,ah 9 aK.1.2.1 b0.l.aV,ah 81 aK.1.2.2.1 b0.l.Sections,ah 183 aK.1.2.2.2 b0.l.Links,ah 39 aK.2.1 b0.tracks,ah 39 aK.2.2.1 b0.between,ah 39 aK.2.2.2 b0.eB] (fun g=>vI y.1) (fun g=>[own fQ 76 [sL aK.1.1 b0.l.aM,sL g y.2,sL aK.1.2.2.1 b0.l.Sections,sL aK.1.2.2.2 b0.l.Links,sL aK.2.1 b0.tracks,sL aK.2.2.1 b0.between,sL aK.2.2.2 b0.eB],ah 9 aK.1.1 b0.l.aM,ah 9 g y.2,ah 81 aK.1.2.2.1 b0.l.Sections,ah 183 aK.1.2.2.2 b0.l.Links,ah 39 aK.2.1 b0.tracks,ah 39 aK.2.2.1 b0.between,ah 39 aK.2.2.2 b0.eB]) w):=by
 refine bP (args:=[_]) Tryz.func133 rfl (hP.start) rfl ?_;unfold QC at hM;refine bD ?_;refine aG fun K2 hK2=>?_;refine iV [own fQ 76 (qH b0 aK),ah 9 aK.1.1 b0.l.aM,ah 81 aK.1.2.2.1 b0.l.Sections,ah 183 aK.1.2.2.2 b0.l.Links,ah 39 aK.2.1 b0.tracks,ah 39 aK.2.2.1 b0.between,ah 39 aK.2.2.2 b0.eB] 18 ?_;refine aF 0 rfl aH ?_;refine aF 1 rfl aH ?_;refine aF 2 rfl bY ?_;refine aF 3 rfl (aD 0) ?_;refine aF 4 rfl (aD 1) ?_;refine aF 5 rfl (aJ (b:=fQ)) ?_;refine aF 6 rfl aH ?_;refine aF 7 rfl bY ?_;refine aF 8 rfl (aD 0) ?_;refine aF 9 rfl (aD 1) ?_;refine aF 10 rfl (aJ (b:=fQ)) ?_;refine dA 11 rfl (CG bJ ⟨rI,?_⟩);obtain⟨y1,hy2,hM⟩:=bind_some hM;refine dA 12 rfl (sV (fun hs=>Jz _ _ (⟨[80]⟩:Str) (b0.l.aV.length:Int) y1 hy2 (bC hs)) ⟨rI,?_⟩);refine dA 13 rfl (eX (α:=Str) 9 (fun _=>()) ([y1]:List Str) oF (fun r3=>⟨rI,?_⟩))
 obtain⟨hb5,hM⟩:=dw hM;refine dA 14 rfl (iP (r:=aK.1.2.1) (r2:=r3) uR (Kn.ah (e:=9) (r:=r3) hA) oF (of_decide_eq_true hb5) (fun r4=>⟨rI,?_⟩));refine aF 15 rfl bY ?_;refine aF 16 rfl (aD 0) ?_;refine aF 17 rfl (aD 1) ?_;refine iU rfl (fP (b:=fQ) (l':=[sL aK.1.1 b0.l.aM,.slice r4.a ((b0.l.aV++([y1]:List Str)).length) r4.cap,sL aK.1.2.2.1 b0.l.Sections,sL aK.1.2.2.2 b0.l.Links,sL aK.2.1 b0.tracks,sL aK.2.2.1 b0.between,sL aK.2.2.2 b0.eB]) (k:=?_));refine iR (hK2 _ _ ?_);clear hK2;refine aO ?_;refine oe bY ?_;refine oe (aD 0) ?_;refine oe (aD 1) ?_;refine oe (aJ (b:=fQ)) ?_;refine oe bJ ?_;refine oN hM fun hM=>?_;refine aP ?_;obtain rfl:=some_inj hM;refine aW (jE (fun w hm=>dO r4 hm rfl))
def LQ(aY:((List Link)×Nat)→Option ((List Str)×(List Link)))(kL:Nat):(List Link)→Option ((List Str)×(List Link)):=fun LZ=>
 aY (LZ,kL+1)
def QA(mq:List Int)(zh:Bool)(b0:dG)(wm:List Str)(x0:Int)(A8:Int)(aY:((List Link)×Nat)→Option ((List Str)×(List Link))):((List Link)×Nat)→Option ((List Str)×(List Link)):=fun (Dv,kL)=>
 if decide ((kL:Int)<(mq.length:Int)) then
  (if zh then
   ((idx mq (kL:Int)).bind fun x4=>
   (Jy (dG.mk (Layout.mk b0.l.aM wm b0.l.Sections Dv) b0.tracks b0.between b0.eB) x0 x4 A8 (kL:Int)).bind fun y6=>
   LQ aY kL y6)
  else
   ((idx mq (kL:Int)).bind fun x9=>
   (Jy (dG.mk (Layout.mk b0.l.aM wm b0.l.Sections Dv) b0.tracks b0.between b0.eB) x9 x0 A8 (kL:Int)).bind fun fA=>
   LQ aY kL fA))
 else
  (some (wm,Dv))
def LP(mq:List Int)(zh:Bool)(b0:dG)(x0:Int):((List Str)×Int)→Option ((List Str)×(List Link)):=fun (wm,A8)=>
 iter (QA mq zh b0 wm x0 A8) FUEL (b0.l.Links,0)
def LU(b0:dG)(x0:Int)(mq:List Int)(zh:Bool):Option ((List Str)×(List Link)):=
 if decide (1<(mq.length:Int)) then
  ((QC b0).bind fun qK=>
  LP mq zh b0 x0 (qK.2,qK.1))
 else
  (LP mq zh b0 x0 (b0.l.aV,(-1)))
theorem aeo(S:bB)(w:World)(fQ:Nat)(b0:dG)(aK:ak.R dG)(x0:Int)(mq:List Int)(yP:ak.R (List Int))(zh:Bool)(y:(List Str)×(List Link))(hM:LU b0 x0 mq zh=some y)(hP:Pre S [own fQ 76 (qH b0 aK),ah 9 aK.1.1 b0.l.aM,ah 9 aK.1.2.1 b0.l.aV,ah 81 aK.1.2.2.1 b0.l.Sections,ah 183 aK.1.2.2.2 b0.l.Links,ah 39 aK.2.1 b0.tracks,ah 39 aK.2.2.1 b0.between,ah 39 aK.2.2.2 b0.eB] w)(ajD:ak.ok S w yP mq):
   Calls Tryz.prog 76 #[vP fQ,vI x0,sL yP mq,.bool zh] w (Post (β:=(SR (ak.R Str))×(SR (ak.R Link))) S [own fQ 76 (qH b0 aK),ah 9 aK.1.1 b0.l.aM,ah 9 aK.1.2.1 b0.l.aV,ah 81 aK.1.2.2.1 b0.l.Sections,ah 183 aK.1.2.2.2 b0.l.Links,ah 39 aK.2.1 b0.tracks,ah 39 aK.2.2.1 b0.between,ah 39 aK.2.2.2 b0.eB] (fun g=> .tuple #[]) (fun g=>[own fQ 76 [sL aK.1.1 b0.l.aM,sL g.1 y.1,sL aK.1.2.2.1 b0.l.Sections,sL g.2 y.2,sL aK.2.1 b0.tracks,sL aK.2.2.1 b0.between,sL aK.2.2.2 b0.eB],ah 9 aK.1.1 b0.l.aM,ah 9 g.1 y.1,ah 81 aK.1.2.2.1 b0.l.Sections,ah 183 g.2 y.2,ah 39 aK.2.1 b0.tracks,ah 39 aK.2.2.1 b0.between,ah 39 aK.2.2.2 b0.eB]) w):=by
 refine bP (args:=[_,_,_,_]) Tryz.func76 rfl (hP.start |>.bU (α:=List Int) (r:=yP) (x:=mq) ajD) rfl ?_;unfold LU at hM;refine bD ?_;refine jn (SR (ak.R Str)) y (k:=LP mq zh b0 x0) (fun (wm,A8) Cv=>[(0,eP fQ),(1,eI x0),(2,eS yP mq),(3,.v (.bool zh)),(8,eI A8)]) (fun (wm,A8) Cv=>[ah 9 aK.1.1 b0.l.aM,ah 9 Cv wm,ah 81 aK.1.2.2.1 b0.l.Sections,ah 183 aK.1.2.2.2 b0.l.Links,ah 39 aK.2.1 b0.tracks,ah 39 aK.2.2.1 b0.between,ah 39 aK.2.2.2 b0.eB,own fQ 76 [sL aK.1.1 b0.l.aM,sL Cv wm,sL aK.1.2.2.1 b0.l.Sections,sL aK.1.2.2.2 b0.l.Links,sL aK.2.1 b0.tracks,sL aK.2.2.1 b0.between,sL aK.2.2.2 b0.eB],iL mq yP]) ?_ ?_
 ·intro wX fB;refine aO ?_;refine oe bJ ?_;refine oe iw ?_;refine on ?_;refine cc rfl hM (fun zl hM=>?_) (fun zl hM=>?_)
  · refine aZ ?_;refine om ?_;obtain⟨qK,Zu,hM⟩:=bind_some hM;refine bn (fq sA (fun S w hs hP=>al2 _ w fQ b0 aK qK Zu hP) (fun uG=>?_));dsimp only[cA,nA];refine oa ?_;refine bf (fB uG hM sS rI)
  refine aX (fB aK.1.2.1 hM sS rI)
 clear hM;rintro⟨wm,A8⟩ Cv hM;dsimp only[LP] at hM ⊢;refine aO ?_;refine iO (fun w hm=>Kn.len (kG mq yP) hm) fun hl1=>?_;refine oe bJ ?_;refine om ?_;refine on ?_;refine bF ?_;refine lp aK.1.2.2.2 hM (fun (Dv,kL) Kh=>[(0,eP fQ),(1,eI x0),(2,eS yP mq),(3,.v (.bool zh)),(8,eI A8),(16,eI (mq.length:Int)),(17,eI (kL:Int))]) (fun (Dv,kL) Kh=>[ah 9 aK.1.1 b0.l.aM,ah 9 Cv wm,ah 81 aK.1.2.2.1 b0.l.Sections,ah 183 Kh Dv,ah 39 aK.2.1 b0.tracks,ah 39 aK.2.2.1 b0.between,ah 39 aK.2.2.2 b0.eB,own fQ 76 [sL aK.1.1 b0.l.aM,sL Cv wm,sL aK.1.2.2.1 b0.l.Sections,sL Kh Dv,sL aK.2.1 b0.tracks,sL aK.2.2.1 b0.between,sL aK.2.2.2 b0.eB],iL mq yP]) sS rI ?_;clear hM;rintro aY ⟨Dv,kL⟩ Kh hM gu hL1;dsimp only[QA] at hM ⊢
 refine sr ?_;refine oe cO ?_;refine on ?_;refine aG fun K4 hK4=>?_;refine cc rfl hM (fun hc2 hM=>?_) (fun hc2 hM=>?_)
 ·have GH:=of_decide_eq_true hc2;refine aX (hK4 _ _ ?_);clear hK4;refine jn (SR (ak.R Link)) y (k:=LQ aY kL) (fun LZ RS=>[(0,eP fQ),(1,eI x0),(2,eS yP mq),(3,.v (.bool zh)),(8,eI A8),(16,eI (mq.length:Int)),(17,eI (kL:Int))]) (fun LZ RS=>[ah 9 aK.1.1 b0.l.aM,ah 9 Cv wm,ah 81 aK.1.2.2.1 b0.l.Sections,ah 183 RS LZ,ah 39 aK.2.1 b0.tracks,ah 39 aK.2.2.1 b0.between,ah 39 aK.2.2.2 b0.eB,own fQ 76 [sL aK.1.1 b0.l.aM,sL Cv wm,sL aK.1.2.2.1 b0.l.Sections,sL RS LZ,sL aK.2.1 b0.tracks,sL aK.2.2.1 b0.between,sL aK.2.2.2 b0.eB],iL mq yP]) ?_ ?_
  · intro za hJ2;refine bF ?_;refine aO ?_;refine aP ?_;refine aO ?_;refine on ?_;refine cc rfl hM (fun hc3 hM=>?_) (fun hc3 hM=>?_)
    ·refine aZ ?_;refine om ?_;refine om ?_;refine om ?_;refine om ?_;obtain⟨x4,hx5,hM⟩:=bind_some hM;refine oe (bI (xs:=mq) 1 (kG mq yP) (iS hx5)) ?_;refine oe (dh (i:=(kL:Int)) (xs:=mq) (y:=x4) 0 (kG mq yP) (fun _=>hx5)) ?_;refine om ?_;refine om ?_;obtain⟨y6,zq,hM⟩:=bind_some hM;refine bn (fq sA (fun S w hs hP=>ZY _ w fQ (dG.mk (Layout.mk b0.l.aM wm b0.l.Sections Dv) b0.tracks b0.between b0.eB) ((aK.1.1,Cv,aK.1.2.2.1,Kh),aK.2.1,aK.2.2.1,aK.2.2.2) x0 x4 A8 (kL:Int) y6 zq hP) (fun r8=>?_));dsimp only[cA,nA];refine bf (hJ2 r8 hM sS rI)
    refine aZ ?_;refine om ?_;refine om ?_;refine om ?_;obtain⟨x9,ni,hM⟩:=bind_some hM;refine oe (bI (xs:=mq) 1 (kG mq yP) (iS ni)) ?_;refine oe (dh (i:=(kL:Int)) (xs:=mq) (y:=x9) 0 (kG mq yP) (fun _=>ni)) ?_;refine om ?_;refine om ?_;refine om ?_;obtain⟨fA,uX,hM⟩:=bind_some hM;refine bn (fq sA (fun S w hs hP=>ZY _ w fQ (dG.mk (Layout.mk b0.l.aM wm b0.l.Sections Dv) b0.tracks b0.between b0.eB) ((aK.1.1,Cv,aK.1.2.2.1,Kh),aK.2.1,aK.2.2.1,aK.2.2.2) x9 x0 A8 (kL:Int) fA uX hP) (fun qW=>?_));dsimp only[cA,nA];refine bf (hJ2 qW hM sS rI)
  clear hM;rintro LZ RS hM;dsimp only[LQ] at hM ⊢;refine aZ ?_;refine oe (dH (hr:=fun _=>by unfold d9;omega)) ?_;refine om ?_;refine bf (hL1 RS hM sS rI)
 obtain rfl:=some_inj hM;refine dL (yG rfl (fun w hm=>dO (Cv,Kh) hm rfl))
def Z8(bM:Nat)(aY:(Int×(List Str)×(List Section)×(List (List Int))×Nat)→Option (dG×Int))(jP:Int)(gQ:List Str)(dN:Str)(zy:List Section)(fZ:List (List Int))(xJ:List Int):Unit→Option (dG×Int):=fun _=>
 bG (bW ((bM:Int)+1))<|
 aY (jP,(gQ++([dN]:List Str)),zy,(fZ++([xJ]:List (List Int))),bM+1)
def Z9(fZ:List (List Int))(xJ:List Int)(bM:Nat)(aY:(Int×(List Str)×(List Section)×(List (List Int))×Nat)→Option (dG×Int))(jP:Int)(gQ:List Str)(dN:Str)(zy:List Section):Unit→Option (dG×Int):=fun _=>
 bG (decide ((fZ.length+([xJ]:List (List Int)).length)*24≤140737488355328))<|
 Z8 bM aY jP gQ dN zy fZ xJ ()
def JA(bM:Nat)(s0:bT)(gQ:List Str)(dN:Str)(fZ:List (List Int))(aY:(Int×(List Str)×(List Section)×(List (List Int))×Nat)→Option (dG×Int))(gN:(Int×(List Section)×(List Int)×Int)→Option (dG×Int)):(Int×(List Section)×(List Int)×Int)→Option (dG×Int):=fun (jP,zy,xJ,gD)=>
 if decide (0<gD) then
  ((Ce (⟨[84]⟩:Str) (bM:Int)).bind fun y25=>
  (Ce y25 gD).bind fun y27=>
  (LK (bT.mk s0.l jP) y27 (bM:Int)).bind fun y29=>
  bG (bW (y29.1.Length+2))<|
  (LM (dG.mk (Layout.mk (gQ++([dN]:List Str)) ([]:List Str) zy ([]:List Link)) fZ ([]:List (List Int)) ([]:List (List Int))) (Section.mk y29.1.Name (y29.1.Length+2) y29.1.Limit y29.1.lJ y29.1.pQ)).bind fun y34=>
  bG (decide ((xJ.length+([y34.1]:List Int).length)*8≤140737488355328))<|
  bG (bW (gD-1))<|
  gN (y29.2,y34.2,(xJ++([y34.1]:List Int)),(gD-1)))
 else
  (Z9 fZ xJ bM aY jP gQ dN zy ())
def aad(jg:Nat)(nO:(Int×(List Str)×(List Section)×(List Link)×(List (List Int))×Nat)→Option (dG×Int))(sN:Int)(y91:(List Str)×(List Link))(mH:List Section)(jT:List (List Int))(jK:List Int):Unit→Option (dG×Int):=fun _=>
 bG (bW ((jg:Int)+1))<|
 nO (sN,y91.1,mH,y91.2,(jT++([jK]:List (List Int))),jg+1)
def LX(jK:List Int)(fZ:List (List Int))(jg:Nat)(gQ:List Str)(mU:List Str)(mH:List Section)(xH:List Link)(jT:List (List Int))(nO:(Int×(List Str)×(List Section)×(List Link)×(List (List Int))×Nat)→Option (dG×Int))(sN:Int):Unit→Option (dG×Int):=fun _=>
 (idx jK 0).bind fun yg=>
 (idx fZ (jg:Int)).bind fun x80=>
 (LU (dG.mk (Layout.mk gQ mU mH xH) fZ jT ([]:List (List Int))) yg x80 false).bind fun Eh=>
 bG (bW ((jK.length:Int)-1))<|
 (idx jK ((jK.length:Int)-1)).bind fun x86=>
 bG (bW ((jg:Int)+1))<|
 (idx fZ ((jg:Int)+1)).bind fun x89=>
 (LU (dG.mk (Layout.mk gQ Eh.1 mH Eh.2) fZ jT ([]:List (List Int))) x86 x89 true).bind fun y91=>
 bG (decide ((jT.length+([jK]:List (List Int)).length)*24≤140737488355328))<|
 aad jg nO sN y91 mH jT jK ()
def QF(jK:List Int)(gQ:List Str)(mU:List Str)(mH:List Section)(fZ:List (List Int))(jT:List (List Int))(jg:Nat)(nO:(Int×(List Str)×(List Section)×(List Link)×(List (List Int))×Nat)→Option (dG×Int))(sN:Int)(OO:((List Link)×Nat)→Option (dG×Int)):((List Link)×Nat)→Option (dG×Int):=fun (xH,zw)=>
 bG (bW ((zw:Int)+1))<|
 if decide (((zw:Int)+1)<(jK.length:Int)) then
  ((idx jK (zw:Int)).bind fun x69=>
  bG (bW ((zw:Int)+1))<|
  (idx jK ((zw:Int)+1)).bind fun XB=>
  (Jy (dG.mk (Layout.mk gQ mU mH xH) fZ jT ([]:List (List Int))) x69 XB (-1) 0).bind fun wV=>
  bG (bW ((zw:Int)+1))<|
  OO (wV,zw+1))
 else
  (LX jK fZ jg gQ mU mH xH jT nO sN ())
def QG(jK:List Int)(gQ:List Str)(mU:List Str)(mH:List Section)(fZ:List (List Int))(jT:List (List Int))(jg:Nat)(nO:(Int×(List Str)×(List Section)×(List Link)×(List (List Int))×Nat)→Option (dG×Int))(sN:Int)(uZ:List Link):Unit→Option (dG×Int):=fun _=>
 iter (QF jK gQ mU mH fZ jT jg nO sN) FUEL (uZ,0)
def JB(jg:Nat)(s0:bT)(gQ:List Str)(mU:List Str)(uZ:List Link)(fZ:List (List Int))(jT:List (List Int))(nO:(Int×(List Str)×(List Section)×(List Link)×(List (List Int))×Nat)→Option (dG×Int))(Aq:(Int×(List Section)×(List Int)×Int)→Option (dG×Int)):(Int×(List Section)×(List Int)×Int)→Option (dG×Int):=fun (sN,mH,jK,EX)=>
 if decide (0<EX) then
  ((Ce (⟨[76]⟩:Str) (jg:Int)).bind fun pK=>
  (Ce pK EX).bind fun XH=>
  (LK (bT.mk s0.l sN) XH (-1)).bind fun Ef=>
  (LM (dG.mk (Layout.mk gQ mU mH uZ) fZ jT ([]:List (List Int))) Ef.1).bind fun F3=>
  bG (decide ((jK.length+([F3.1]:List Int).length)*8≤140737488355328))<|
  bG (bW (EX-1))<|
  Aq (Ef.2,F3.2,(jK++([F3.1]:List Int)),(EX-1)))
 else
  (QG jK gQ mU mH fZ jT jg nO sN uZ ())
def aac(gQ:List Str)(mU:List Str)(E8:List Section)(uZ:List Link)(fZ:List (List Int))(jT:List (List Int))(Er:Int):Unit→Option (dG×Int):=fun _=>
 some ((dG.mk (Layout.mk gQ mU E8 uZ) fZ jT ([]:List (List Int))),Er)
def Z7(y2:Int×Int)(s0:bT)(gQ:List Str)(fZ:List (List Int))(nO:(Int×(List Str)×(List Section)×(List Link)×(List (List Int))×Nat)→Option (dG×Int)):(Int×(List Str)×(List Section)×(List Link)×(List (List Int))×Nat)→Option (dG×Int):=fun (Er,mU,E8,uZ,jT,jg)=>
 bG (bW ((jg:Int)+1))<|
 if decide (((jg:Int)+1)<(2+y2.1)) then
  ((jS (bT.mk s0.l Er) 2).bind fun yh=>
  bG (bW (1+yh.1))<|
  iter (JB jg s0 gQ mU uZ fZ jT nO) FUEL (yh.2,E8,([]:List Int),(1+yh.1)))
 else
  (aac gQ mU E8 uZ fZ jT Er ())
def Vd(y2:Int×Int)(s0:bT)(gQ:List Str)(fZ:List (List Int))(ou:Int)(AO:List Section):Unit→Option (dG×Int):=fun _=>
 iter (Z7 y2 s0 gQ fZ) FUEL (ou,([]:List Str),AO,([]:List Link),([]:List (List Int)),0)
def Z6(y2:Int×Int)(s0:bT)(aY:(Int×(List Str)×(List Section)×(List (List Int))×Nat)→Option (dG×Int)):(Int×(List Str)×(List Section)×(List (List Int))×Nat)→Option (dG×Int):=fun (ou,gQ,AO,fZ,bM)=>
 if decide ((bM:Int)<(2+y2.1)) then
  ((Ce (⟨[83]⟩:Str) (bM:Int)).bind fun dN=>
  bG (decide ((gQ.length+([dN]:List Str).length)*16≤140737488355328))<|
  (jS (bT.mk s0.l ou) 2).bind fun oo=>
  bG (bW (1+oo.1))<|
  iter (JA bM s0 gQ dN fZ aY) FUEL (oo.2,AO,([]:List Int),(1+oo.1)))
 else
  (Vd y2 s0 gQ fZ ou AO ())
def QH(s0:bT):Option (dG×Int):=
 (jS s0 2).bind fun y2=>
 bG (bW (2+y2.1))<|
 iter (Z6 y2 s0) FUEL (y2.2,([]:List Str),([]:List Section),([]:List (List Int)),0)
theorem al4(S:bB)(w:World)(eG:Nat)(s0:bT)(bK:ak.R bT)(y:dG×Int)(hM:QH s0=some y)(hP:Pre S [own eG 136 (Cn s0 bK)] w)(EH:ak.ok (α:=List Int) S w bK s0.l):
   Calls Tryz.prog 26 #[vP eG] w (Post (β:=Nat×(ak.R (List Str))×(ak.R (List Str))×(ak.R (List Section))×(ak.R (List Link))×(ak.R (List (List Int)))×(ak.R (List (List Int)))×(ak.R (List (List Int)))) S [own eG 136 (Cn s0 bK)] (fun g=>vP g.1) (fun g=>[own g.1 76 [sL g.2.1 y.1.l.aM,sL g.2.2.1 y.1.l.aV,sL g.2.2.2.1 y.1.l.Sections,sL g.2.2.2.2.1 y.1.l.Links,sL g.2.2.2.2.2.1 y.1.tracks,sL g.2.2.2.2.2.2.1 y.1.between,sL g.2.2.2.2.2.2.2 y.1.eB],ah 9 g.2.1 y.1.l.aM,ah 9 g.2.2.1 y.1.l.aV,ah 81 g.2.2.2.1 y.1.l.Sections,ah 183 g.2.2.2.2.1 y.1.l.Links,ah 39 g.2.2.2.2.2.1 y.1.tracks,ah 39 g.2.2.2.2.2.2.1 y.1.between,ah 39 g.2.2.2.2.2.2.2 y.1.eB,own eG 136 [sL bK s0.l,vI y.2]]) w):=by
 refine bP (args:=[_]) Tryz.func26 rfl (hP.start |>.bU (α:=List Int) (r:=bK) (x:=s0.l) EH) rfl ?_;unfold QH at hM;refine bD ?_;refine sr ?_;refine oe (fT [z0,z0,z0,z0,z0,z0,z0]) ?_;refine oB [z0,z0,z0,z0,z0,z0,z0] fun b1=>?_;refine aP ?_;refine aO ?_;obtain⟨y2,hy3,hM⟩:=bind_some hM;refine bn (eU sA (fun S w hs hP=>iH _ w eG s0 bK 2 y2 hy3 hP (kM hs)) fK (fun r4=>?_));dsimp only[cA,nA];refine oP hM fun hM=>?_;refine aP ?_;refine aG fun K4 hK4=>?_;refine bD ?_;refine bF ?_;refine bQ (fun w hm=>hm.bV (α:=Str) 9 (fun _=>())) ?_;refine bQ (fun w hm=>hm.bV (α:=Str) 9 (fun _=>())) ?_;refine bQ (fun w hm=>hm.bV (α:=Section) 81 (fun _=>())) ?_;refine bQ (fun w hm=>hm.bV (α:=Link) 183 (fun _=>())) ?_
 refine bQ (fun w hm=>hm.bV (α:=List Int) 39 (fun _=>AY)) ?_;refine bQ (fun w hm=>hm.bV (α:=List Int) 39 (fun _=>AY)) ?_;refine bQ (fun w hm=>hm.bV (α:=List Int) 39 (fun _=>AY)) ?_;refine lp (je,uy,gY) hM (fun (ou,gQ,AO,fZ,bM) (pY,Fw,jL)=>[(0,eP eG),(3,eP b1),(4,eI (2+y2.1)),(5,eI (bM:Int))]) (fun (ou,gQ,AO,fZ,bM) (pY,Fw,jL)=>[iL s0.l bK,own eG 136 [sL bK s0.l,vI ou],ah 9 pY gQ,ah 9 je ([]:List Str),ah 81 Fw AO,ah 183 qQ ([]:List Link),ah 39 jL fZ,ah 39 gY ([]:List (List Int)),ah 39 gY ([]:List (List Int)),own b1 76 [sL pY gQ,z0,sL Fw AO,z0,sL jL fZ,.slice gY.a (([]:List (List Int)).length) gY.cap,.slice gY.a (([]:List (List Int)).length) gY.cap]]) sS rI ?_
 clear hM;rintro aY ⟨ou,gQ,AO,fZ,bM⟩ ⟨pY,Fw,jL⟩ hM gu hL1;dsimp only[Z6] at hM ⊢;refine aG fun K6 bZ=>?_;refine aO ?_;refine om ?_;refine oe cO ?_;refine on ?_;refine cc rfl hM (fun BS hM=>?_) (fun BS hM=>?_)
 ·refine aX (bZ _ _ ?_);clear bZ;refine aG fun K8 eZ=>?_;refine bF ?_;refine aG fun K9 dU=>?_;refine iV [iL s0.l bK,own eG 136 [sL bK s0.l,vI ou],ah 9 je ([]:List Str),ah 81 Fw AO,ah 183 qQ ([]:List Link),ah 39 jL fZ,ah 39 gY ([]:List (List Int)),ah 39 gY ([]:List (List Int)),own b1 76 [sL pY gQ,z0,sL Fw AO,z0,sL jL fZ,.slice gY.a (([]:List (List Int)).length) gY.cap,.slice gY.a (([]:List (List Int)).length) gY.cap]] 13 ?_
  refine aF 0 rfl aH ?_;refine aF 1 rfl aH ?_;refine aF 2 rfl bY ?_;refine aF 3 rfl (aD 0) ?_;refine aF 4 rfl (aD 0) ?_;refine aF 5 rfl (aJ (b:=b1)) ?_;refine aF 6 rfl aH ?_;obtain⟨dN,rJ,hM⟩:=bind_some hM;refine dA 7 rfl (sV (fun hs=>Jz _ _ (⟨[83]⟩:Str) (bM:Int) dN rJ (bC hs)) ⟨rI,?_⟩);refine dA 8 rfl (eX (α:=Str) 9 (fun _=>()) ([dN]:List Str) oF (fun r16=>⟨rI,?_⟩));obtain⟨YX,hM⟩:=dw hM;refine dA 9 rfl (iP (r:=pY) (r2:=r16) uR (Kn.ah (e:=9) (r:=r16) hA) oF (of_decide_eq_true YX) (fun uG=>⟨rI,?_⟩));refine aF 10 rfl bY ?_;refine aF 11 rfl (aD 0) ?_;refine aF 12 rfl (aD 0) ?_;refine iU rfl (fP (b:=b1) (l':=[.slice uG.a ((gQ++([dN]:List Str)).length) uG.cap,z0,sL Fw AO,z0,sL jL fZ,.slice gY.a (([]:List (List Int)).length) gY.cap,.slice gY.a (([]:List (List Int)).length) gY.cap]) (k:=?_))
  refine iR (dU _ _ ?_);clear dU;refine bD ?_;refine aG fun o7 eH=>?_;refine aO ?_;obtain⟨oo,Js,hM⟩:=bind_some hM;refine bn (eU sA (fun S w hs hP=>iH _ w eG (bT.mk s0.l ou) bK 2 oo Js hP (kM hs)) fK (fun uI=>?_));dsimp only[cA,nA];refine oP hM fun hM=>?_;refine aP ?_;refine bF ?_;refine bQ (fun w hm=>hm.bV (α:=Int) 3 (fun _=>())) ?_;refine lp (Fw,AY) hM (fun (jP,zy,xJ,gD) (Kg,Ko)=>[(0,eP eG),(3,eP b1),(4,eI (2+y2.1)),(5,eI (bM:Int)),(6,eS Ko xJ),(7,eI gD)]) (fun (jP,zy,xJ,gD) (Kg,Ko)=>[iL s0.l bK,own eG 136 [sL bK s0.l,vI jP],ah 9 uG (gQ++([dN]:List Str)),ah 9 je ([]:List Str),ah 81 Kg zy,ah 183 qQ ([]:List Link),ah 39 jL fZ,ah 39 gY ([]:List (List Int)),ah 39 gY ([]:List (List Int)),own b1 76 [.slice uG.a ((gQ++([dN]:List Str)).length) uG.cap,z0,sL Kg zy,z0,sL jL fZ,.slice gY.a (([]:List (List Int)).length) gY.cap,.slice gY.a (([]:List (List Int)).length) gY.cap],ah 3 Ko xJ]) sS rI ?_
  clear hM;rintro gN ⟨jP,zy,xJ,gD⟩ ⟨Kg,Ko⟩ hM BD hL2;dsimp only[JA] at hM ⊢;refine aG fun BA kS=>?_;refine aO ?_;refine oe iw ?_;refine on ?_;refine cc rfl hM (fun hc24 hM=>?_) (fun hc24 hM=>?_)
  · refine aX (kS _ _ ?_);clear kS;refine aG fun CY l7=>?_;refine bF ?_;refine aO ?_;refine om ?_;obtain⟨y25,EP,hM⟩:=bind_some hM;refine cv (fun hs=>Jz _ _ (⟨[84]⟩:Str) (bM:Int) y25 EP (bC hs)) ?_;refine om ?_;obtain⟨y27,hy28,hM⟩:=bind_some hM;refine cv (fun hs=>Jz _ _ y25 gD y27 hy28 (bC hs)) ?_;refine om ?_;obtain⟨y29,PZ,hM⟩:=bind_some hM;refine bn (eU sA (fun S w hs hP=>aem _ w eG (bT.mk s0.l jP) bK y27 (bM:Int) y29 PZ hP (kM hs)) fK (fun Ni=>?_));dsimp only[cA,nA];refine oA rfl fun b32=>?_;refine oS b32 (Co y29.1) ?_;refine on ?_;refine sr ?_;refine oe (aD 1) ?_;refine oe (aJ (b:=b32)) ?_;refine oP hM fun hM=>?_;refine oe (aD 1) ?_;refine bn (fP (b:=b32) (l':=[.string y29.1.Name.ba,vI (y29.1.Length+2),vI y29.1.Limit,vI y29.1.lJ,vI y29.1.pQ]) (k:=?_))
    refine on ?_;refine aZ ?_;refine om ?_;refine om ?_;refine oe (bX (b:=b32)) ?_;obtain⟨y34,Dt,hM⟩:=bind_some hM;refine bn (fq sA (fun S w hs hP=>aen _ w b1 (dG.mk (Layout.mk (gQ++([dN]:List Str)) ([]:List Str) zy ([]:List Link)) fZ ([]:List (List Int)) ([]:List (List Int))) ((uG,je,Kg,qQ),jL,gY,gY) (Section.mk y29.1.Name (y29.1.Length+2) y29.1.Limit y29.1.lJ y29.1.pQ) y34 Dt hP) (fun J7=>?_));dsimp only[cA,nA];refine bn (eX (α:=Int) 3 (fun _=>()) ([y34.1]:List Int) oF (fun Ht=>?_));obtain⟨ajU,hM⟩:=dw hM;refine bn (iP (r:=Ko) (r2:=Ht) uR (Kn.ah (e:=3) (r:=Ht) hA) oF (of_decide_eq_true ajU) (fun J8=>?_));refine oa ?_;refine bf (l7 _ _ ?_);clear l7;refine aZ ?_;refine om ?_;refine oN hM fun hM=>?_;refine oa ?_;refine bf (hL2 (J7,J8) hM sS rI)
  refine dL (eH _ _ ?_);clear eH;dsimp only[Z9] at hM;refine aZ ?_;refine om ?_;refine om ?_;refine oe bY ?_;refine oe (aD 4) ?_;refine oe (aJ (b:=b1)) ?_;refine om ?_;refine rQ (fun w hm=>hm.freeze (r:=Ko) uA) ?_;refine bn (eX (α:=List Int) 39 (fun _=>Ko) ([xJ]:List (List Int)) (jr.cons (fun S w hs=>(kI hs)) jr.nil) (fun r41=>?_));obtain⟨Y3,hM⟩:=dw hM;refine bn (iP (r:=jL) (r2:=r41) uR (Kn.ah (e:=39) (r:=r41) hA) (jr.row (e:=39) (r:=r41) hA) (of_decide_eq_true Y3) (fun Kc=>?_));refine oe bY ?_;refine oe (aD 4) ?_;refine bn (fP (b:=b1) (l':=[.slice uG.a ((gQ++([dN]:List Str)).length) uG.cap,z0,sL Kg zy,z0,.slice Kc.a ((fZ++([xJ]:List (List Int))).length) Kc.cap,.slice gY.a (([]:List (List Int)).length) gY.cap,.slice gY.a (([]:List (List Int)).length) gY.cap]) (k:=?_))
  refine bf (eZ _ _ ?_);clear eZ;dsimp only[Z8] at hM;refine aZ ?_;refine om ?_;refine oP hM fun hM=>?_;refine oa ?_;refine bf (hL1 (uG,Kg,Kc) hM sS rI)
 refine dL (hK4 _ _ ?_);clear hK4;dsimp only[Vd] at hM;refine aG fun F7 oM=>?_;refine bD ?_;refine bF ?_;refine lp (je,Fw,qQ,gY) hM (fun (Er,mU,E8,uZ,jT,jg) (wM,Nn,Fx,sG)=>[(0,eP eG),(3,eP b1),(4,eI (2+y2.1)),(9,eI (jg:Int))]) (fun (Er,mU,E8,uZ,jT,jg) (wM,Nn,Fx,sG)=>[iL s0.l bK,own eG 136 [sL bK s0.l,vI Er],ah 9 pY gQ,ah 9 wM mU,ah 81 Nn E8,ah 183 Fx uZ,ah 39 jL fZ,ah 39 sG jT,ah 39 gY ([]:List (List Int)),own b1 76 [sL pY gQ,sL wM mU,sL Nn E8,sL Fx uZ,sL jL fZ,sL sG jT,.slice gY.a (([]:List (List Int)).length) gY.cap]]) sS rI ?_
 clear hM;rintro nO ⟨Er,mU,E8,uZ,jT,jg⟩ ⟨wM,Nn,Fx,sG⟩ hM Oh hL3;dsimp only[Z7] at hM ⊢;refine aG fun IW qx=>?_;refine aO ?_;refine oP hM fun hM=>?_;refine om ?_;refine oe cO ?_;refine on ?_;refine cc rfl hM (fun Y9 hM=>?_) (fun Y9 hM=>?_)
 ·refine aX (qx _ _ ?_);clear qx;refine aG fun Oe uS=>?_;refine bF ?_;refine bD ?_;refine aG fun K24 Gt=>?_;refine aO ?_;obtain⟨yh,Zx,hM⟩:=bind_some hM;refine bn (eU sA (fun S w hs hP=>iH _ w eG (bT.mk s0.l Er) bK 2 yh Zx hP (kM hs)) fK (fun VJ=>?_));dsimp only[cA,nA];refine oP hM fun hM=>?_;refine aP ?_;refine bF ?_;refine bQ (fun w hm=>hm.bV (α:=Int) 3 (fun _=>())) ?_;refine lp (Nn,AY) hM (fun (sN,mH,jK,EX) (uJ,sH)=>[(0,eP eG),(3,eP b1),(4,eI (2+y2.1)),(9,eI (jg:Int)),(10,eS sH jK),(11,eI EX)]) (fun (sN,mH,jK,EX) (uJ,sH)=>[iL s0.l bK,own eG 136 [sL bK s0.l,vI sN],ah 9 pY gQ,ah 9 wM mU,ah 81 uJ mH,ah 183 Fx uZ,ah 39 jL fZ,ah 39 sG jT,ah 39 gY ([]:List (List Int)),own b1 76 [sL pY gQ,sL wM mU,sL uJ mH,sL Fx uZ,sL jL fZ,sL sG jT,.slice gY.a (([]:List (List Int)).length) gY.cap],ah 3 sH jK]) sS rI ?_
  clear hM;rintro Aq ⟨sN,mH,jK,EX⟩ ⟨uJ,sH⟩ hM KL4 hL4;dsimp only[JB] at hM ⊢;refine aG fun XO BO=>?_;refine aO ?_;refine oe iw ?_;refine on ?_;refine cc rfl hM (fun akd hM=>?_) (fun akd hM=>?_)
  · refine aX (BO _ _ ?_);clear BO;refine aG fun K28 Gv=>?_;refine bF ?_;refine aZ ?_;refine om ?_;refine om ?_;refine om ?_;refine om ?_;obtain⟨pK,P6,hM⟩:=bind_some hM;refine cv (fun hs=>Jz _ _ (⟨[76]⟩:Str) (jg:Int) pK P6 (bC hs)) ?_;refine om ?_;obtain⟨XH,alc,hM⟩:=bind_some hM;refine cv (fun hs=>Jz _ _ pK EX XH alc (bC hs)) ?_;obtain⟨Ef,Zz,hM⟩:=bind_some hM;refine bn (eU sA (fun S w hs hP=>aem _ w eG (bT.mk s0.l sN) bK XH (-1) Ef Zz hP (kM hs)) fK (fun Nk=>?_));dsimp only[cA,nA];obtain⟨F3,ZB,hM⟩:=bind_some hM;refine bn (fq sA (fun S w hs hP=>aen _ w b1 (dG.mk (Layout.mk gQ mU mH uZ) fZ jT ([]:List (List Int))) ((pY,wM,uJ,Fx),jL,sG,gY) Ef.1 F3 ZB hP) (fun r62=>?_));dsimp only[cA,nA];refine bn (eX (α:=Int) 3 (fun _=>()) ([F3.1]:List Int) oF (fun r63=>?_));obtain⟨aj1,hM⟩:=dw hM;refine bn (iP (r:=sH) (r2:=r63) uR (Kn.ah (e:=3) (r:=r63) hA) oF (of_decide_eq_true aj1) (fun r64=>?_));refine oa ?_
    refine bf (Gv _ _ ?_);clear Gv;refine aZ ?_;refine om ?_;refine oN hM fun hM=>?_;refine oa ?_;refine bf (hL4 (r62,r64) hM sS rI)
  refine dL (Gt _ _ ?_);clear Gt;dsimp only[QG] at hM;refine aG fun XP BP=>?_;refine bD ?_;refine bF ?_;refine lp Fx hM (fun (xH,zw) DR=>[(0,eP eG),(3,eP b1),(4,eI (2+y2.1)),(9,eI (jg:Int)),(10,eS sH jK),(12,eI (zw:Int))]) (fun (xH,zw) DR=>[iL s0.l bK,own eG 136 [sL bK s0.l,vI sN],ah 9 pY gQ,ah 9 wM mU,ah 81 uJ mH,ah 183 DR xH,ah 39 jL fZ,ah 39 sG jT,ah 39 gY ([]:List (List Int)),own b1 76 [sL pY gQ,sL wM mU,sL uJ mH,sL DR xH,sL jL fZ,sL sG jT,.slice gY.a (([]:List (List Int)).length) gY.cap],ah 3 sH jK]) sS rI ?_
  clear hM;rintro OO ⟨xH,zw⟩ DR hM KL5 hL5;dsimp only[QF] at hM ⊢;refine aG fun K31 Gx=>?_;refine aO ?_;refine oP hM fun hM=>?_;refine om ?_;refine oe bJ ?_;refine oe cO ?_;refine on ?_;refine cc rfl hM (fun aki hM=>?_) (fun aki hM=>?_)
  · refine aX (Gx _ _ ?_);clear Gx;refine aG fun K33 Gy=>?_;refine bF ?_;refine iV [iL s0.l bK,own eG 136 [sL bK s0.l,vI sN],ah 9 pY gQ,ah 9 wM mU,ah 81 uJ mH,ah 183 DR xH,ah 39 jL fZ,ah 39 sG jT,ah 39 gY ([]:List (List Int)),own b1 76 [sL pY gQ,sL wM mU,sL uJ mH,sL DR xH,sL jL fZ,sL sG jT,.slice gY.a (([]:List (List Int)).length) gY.cap],ah 3 sH jK] 10 ?_;refine aF 0 rfl aH ?_;refine aF 1 rfl aH ?_;refine aF 2 rfl aH ?_;obtain⟨x69,adT,hM⟩:=bind_some hM;refine aF 3 rfl (bI (xs:=jK) 1 (Kn.ah (e:=3) (r:=sH) hA) (iS adT)) ?_;refine aF 4 rfl (dh (i:=(zw:Int)) (xs:=jK) (y:=x69) 0 (Kn.ah (e:=3) (r:=sH) hA) (fun _=>adT)) ?_;refine aF 5 rfl aH ?_;refine aF 6 rfl aH ?_;obtain⟨ajx,hM⟩:=dw hM;refine aF 7 rfl (dH (hr:=fun hg=>fH ajx)) ?_
    obtain⟨XB,adU,hM⟩:=bind_some hM;refine aF 8 rfl (bI (xs:=jK) 1 (Kn.ah (e:=3) (r:=sH) hA) (iS adU)) ?_;refine aF 9 rfl (dh (i:=((zw:Int)+1)) (xs:=jK) (y:=XB) 0 (Kn.ah (e:=3) (r:=sH) hA) (fun _=>adU)) ?_;obtain⟨wV,P7,hM⟩:=bind_some hM;refine iU rfl (fq sA (fun S w hs hP=>ZY _ w b1 (dG.mk (Layout.mk gQ mU mH xH) fZ jT ([]:List (List Int))) ((pY,wM,uJ,DR),jL,sG,gY) x69 XB (-1) 0 wV P7 hP) (fun r76=>?_));dsimp only[cA,nA];refine iR (Gy _ _ ?_);clear Gy;refine aZ ?_;refine om ?_;refine oP hM fun hM=>?_;refine oa ?_;refine bf (hL5 r76 hM sS rI)
  refine dL (BP _ _ ?_);clear BP;dsimp only[LX] at hM;refine aG fun K34 Gz=>?_;refine iV [iL s0.l bK,own eG 136 [sL bK s0.l,vI sN],ah 9 pY gQ,ah 9 wM mU,ah 81 uJ mH,ah 183 DR xH,ah 39 jL fZ,ah 39 sG jT,ah 39 gY ([]:List (List Int)),own b1 76 [sL pY gQ,sL wM mU,sL uJ mH,sL DR xH,sL jL fZ,sL sG jT,.slice gY.a (([]:List (List Int)).length) gY.cap],ah 3 sH jK] 11 ?_;refine aF 0 rfl aH ?_;refine aF 1 rfl aH ?_;obtain⟨yg,GN,hM⟩:=bind_some hM;refine aF 2 rfl (bI (xs:=jK) 1 (Kn.ah (e:=3) (r:=sH) hA) (iS GN)) ?_;refine aF 3 rfl (dh (i:=0) (xs:=jK) (y:=yg) 0 (Kn.ah (e:=3) (r:=sH) hA) (fun _=>GN)) ?_;refine aF 4 rfl aH ?_;refine aF 5 rfl bY ?_;refine aF 6 rfl (aD 4) ?_;refine aF 7 rfl (aJ (b:=b1)) ?_;refine aF 8 rfl aH ?_
  obtain⟨x80,Zr,hM⟩:=bind_some hM;refine aF 9 rfl (bI (xs:=fZ) 1 (Kn.ah (e:=39) (r:=jL) hA) (iS Zr)) ?_;refine aF 10 rfl (dh (i:=(jg:Int)) (xs:=fZ) (y:=x80) 0 (Kn.ah (e:=39) (r:=jL) hA) (fun _=>Zr)) ?_;refine rF (fun w hm=>hm.GQ (α:=List Int) (r:=(jL.es (jg:Int).toNat)) (x:=x80) (fun S hs=>(Sk.row (e:=39) (r:=jL) hA Zr) S w hs)) ?_;obtain⟨Eh,alk,hM⟩:=bind_some hM;refine iU rfl (fq sA (fun S w hs hP=>aeo _ w b1 (dG.mk (Layout.mk gQ mU mH xH) fZ jT ([]:List (List Int))) ((pY,wM,uJ,DR),jL,sG,gY) yg x80 (jL.es (jg:Int).toNat) false Eh alk hP (kI hs)) (fun DN=>?_));dsimp only[cA,nA];refine iR (Gz _ _ ?_);clear Gz;refine aG fun K35 GA=>?_;refine iV [own b1 76 [sL pY gQ,sL DN.1 Eh.1,sL uJ mH,sL DN.2 Eh.2,sL jL fZ,sL sG jT,.slice gY.a (([]:List (List Int)).length) gY.cap],ah 9 pY gQ,ah 9 DN.1 Eh.1,ah 81 uJ mH,ah 183 DN.2 Eh.2,ah 39 jL fZ,ah 39 sG jT,ah 39 gY ([]:List (List Int)),iL x80 (jL.es (jg:Int).toNat),iL s0.l bK,own eG 136 [sL bK s0.l,vI sN],ah 3 sH jK] 15 ?_
  refine aF 0 rfl aH ?_;refine aF 1 rfl aH ?_;refine aF 2 rfl aH ?_;refine aF 3 rfl bJ ?_;obtain⟨ajz,hM⟩:=dw hM;refine aF 4 rfl (xk (hr:=fun hg=>fH ajz)) ?_;obtain⟨x86,adY,hM⟩:=bind_some hM;refine aF 5 rfl (bI (xs:=jK) 1 (Kn.ah (e:=3) (r:=sH) hA) (iS adY)) ?_;refine aF 6 rfl (dh (i:=((jK.length:Int)-1)) (xs:=jK) (y:=x86) 0 (Kn.ah (e:=3) (r:=sH) hA) (fun _=>adY)) ?_;refine aF 7 rfl aH ?_;refine aF 8 rfl bY ?_;refine aF 9 rfl (aD 4) ?_;refine aF 10 rfl (aJ (b:=b1)) ?_;refine aF 11 rfl aH ?_;obtain⟨ajA,hM⟩:=dw hM;refine aF 12 rfl (dH (hr:=fun hg=>fH ajA)) ?_;obtain⟨x89,hx90,hM⟩:=bind_some hM;refine aF 13 rfl (bI (xs:=fZ) 1 (Kn.ah (e:=39) (r:=jL) hA) (iS hx90)) ?_;refine aF 14 rfl (dh (i:=((jg:Int)+1)) (xs:=fZ) (y:=x89) 0 (Kn.ah (e:=39) (r:=jL) hA) (fun _=>hx90)) ?_;refine rF (fun w hm=>hm.GQ (α:=List Int) (r:=(jL.es ((jg:Int)+1).toNat)) (x:=x89) (fun S hs=>(Sk.row (e:=39) (r:=jL) hA hx90) S w hs)) ?_;obtain⟨y91,alp,hM⟩:=bind_some hM;refine iU rfl (fq sA (fun S w hs hP=>aeo _ w b1 (dG.mk (Layout.mk gQ Eh.1 mH Eh.2) fZ jT ([]:List (List Int))) ((pY,DN.1,uJ,DN.2),jL,sG,gY) x86 x89 (jL.es ((jg:Int)+1).toNat) true y91 alp hP (kI hs)) (fun VL=>?_))
  dsimp only[cA,nA];refine iR (GA _ _ ?_);clear GA;refine aZ ?_;refine om ?_;refine om ?_;refine oe bY ?_;refine oe (aD 5) ?_;refine oe (aJ (b:=b1)) ?_;refine om ?_;refine rQ (fun w hm=>hm.freeze (r:=sH) uA) ?_;refine bn (eX (α:=List Int) 39 (fun _=>sH) ([jK]:List (List Int)) (jr.cons (fun S w hs=>(kI hs)) jr.nil) (fun VN=>?_));obtain⟨aj4,hM⟩:=dw hM;refine bn (iP (r:=sG) (r2:=VN) uR (Kn.ah (e:=39) (r:=VN) hA) (jr.row (e:=39) (r:=VN) hA) (of_decide_eq_true aj4) (fun Ke=>?_));refine oe bY ?_;refine oe (aD 5) ?_;refine bn (fP (b:=b1) (l':=[sL pY gQ,sL VL.1 y91.1,sL uJ mH,sL VL.2 y91.2,sL jL fZ,.slice Ke.a ((jT++([jK]:List (List Int))).length) Ke.cap,.slice gY.a (([]:List (List Int)).length) gY.cap]) (k:=?_));refine bf (uS _ _ ?_);clear uS;dsimp only[aad] at hM;refine aZ ?_;refine om ?_;refine oP hM fun hM=>?_
  refine oa ?_;refine bf (hL3 (VL.1,uJ,VL.2,Ke) hM sS rI)
 refine dL (oM _ _ ?_);clear oM;dsimp only[aac] at hM;refine aO ?_;refine aP ?_;obtain rfl:=some_inj hM;refine aW (jE (fun w hm=>dO (b1,pY,wM,Nn,Fx,jL,sG,gY) hm rfl))
end Go.Proofs.YtcalibhfgdncaaaGreatDoor
