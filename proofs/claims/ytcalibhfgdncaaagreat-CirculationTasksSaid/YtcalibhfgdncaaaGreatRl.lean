/- Models of functions, and that the code computes them. -/
import Derived.Test.YtcalibhfgdncaaaGreatRk
set_option linter.all false
namespace Go.Proofs.YtcalibhfgdncaaaGreat
open Go.Dc Go.RowKit
set_option maxRecDepth 10000
def Dz(TN:Str)(n0:Int):Option Str:=
 aX (bA ((n0.tmod 10)+1))<|
 (Ws (⟨[48,49,50,51,52,53,54,55,56,57]⟩:Str) (n0.tmod 10) ((n0.tmod 10)+1)).bind fun q2=>
 (Wq TN q2).bind fun q4=>
 some q4
theorem Jt(S:bF)(w:World)(TN:Str)(n0:Int)(y:Str)(hM:Dz TN n0=some y)(hS:sB S w):
  Calls Tryz.prog 30 #[.string TN.ba,vI n0] w (dw w (.string y.ba)):=by
 refine bW (args:=[_,_]) Tryz.func30 rfl ((pre_nil hS).start) rfl ?_;unfold Dz at hM;refine bg ?_;refine aJ ?_;refine om ?_;refine oe Eu ?_;refine om ?_;refine oe Eu ?_;refine oP hM fun hM=>?_;obtain⟨q2,hq3,hM⟩:=bind_some hM;refine oe (aio (ol:=some (.i64,(n0.tmod 10))) (oh:=some (.i64,((n0.tmod 10)+1))) (fun _=>hq3)) ?_;obtain⟨q4,hq5,hM⟩:=bind_some hM;refine oe (ain (fun _=>hq5)) ?_;refine aL ?_;exact aP (bD hM)
def LD(s0:bS)(Mv:Str)(NH:Int):Option (Section×Int):=
 (kC s0 9).bind fun y2=>
 aX (bA (2+y2.1))<|
 (kC (bS.mk s0.l y2.2) 7).bind fun y6=>
 aX (bA (5000*y6.1))<|
 aX (bA (5000+(5000*y6.1)))<|
 (kC (bS.mk s0.l y6.2) 21).bind fun fF=>
 aX (bA (fF.1-10))<|
 some ((Section.mk Mv (2+y2.1) (5000+(5000*y6.1)) (fF.1-10) NH),fF.2)
theorem aeC(S:bF)(w:World)(fC:Nat)(s0:bS)(bR:ak.R bS)(Mv:Str)(NH:Int)(y:Section×Int)(hM:LD s0 Mv NH=some y)(hP:Pre S [own fC 79 (DV s0 bR)] w)(FK:ak.ok (α:=List Int) S w bR s0.l):
  Calls Tryz.prog 31 #[vP fC,.string Mv.ba,vI NH] w (Post (β:=Unit) S [own fC 79 (DV s0 bR)] (fun g=> .agg (abH y.1)) (fun g=>[own fC 79 [sL bR s0.l,vI y.2]]) w):=by
 refine bW (args:=[_,_,_]) Tryz.func31 rfl (hP.start |>.dZ (α:=List Int) (r:=bR) (x:=s0.l) FK) rfl ?_;unfold LD at hM;refine sr ?_;refine oA rfl fun b1=>?_;refine on ?_;refine aJ ?_;refine om ?_;obtain⟨y2,hy3,hM⟩:=bind_some hM;refine aY (fP sA (fun S w hs hP=>iO _ w fC s0 bR 9 y2 hy3 hP (kM hs)) fO (fun r4=>?_));dsimp only[cA,nA];refine oP hM fun hM=>?_;refine om ?_;obtain⟨y6,rZ,hM⟩:=bind_some hM;refine aY (fP sA (fun S w hs hP=>iO _ w fC (bS.mk s0.l y2.2) bR 7 y6 rZ hP (kM hs)) fO (fun r8=>?_));dsimp only[cA,nA];obtain⟨O8,hM⟩:=bQ hM;refine oe (rC (hr:=fun hg=>dI O8)) ?_;refine oP hM fun hM=>?_;refine om ?_;obtain⟨fF,yP,hM⟩:=bind_some hM;refine aY (fP sA (fun S w hs hP=>iO _ w fC (bS.mk s0.l y6.2) bR 21 fF yP hP (kM hs)) fO (fun gN=>?_));dsimp only[cA,nA];refine oN hM fun hM=>?_;refine om ?_;refine oe (gD [.string Mv.ba,vI (2+y2.1),vI (5000+(5000*y6.1)),vI (fF.1-10),vI NH]) ?_
 refine oS b1 [.string Mv.ba,vI (2+y2.1),vI (5000+(5000*y6.1)),vI (fF.1-10),vI NH] ?_;refine on ?_;obtain rfl:=some_inj hM;refine aP (tO (fun w hm=>gK () hm rfl))
def LG(b0:dP)(x0:Section):Option (Int×(List Section)):=
 aX (decide ((b0.l.Sections.length+([x0]:List Section).length)*48≤140737488355328))<|
 aX (bA (((b0.l.Sections++([x0]:List Section)).length:Int)-1))<|
 some ((((b0.l.Sections++([x0]:List Section)).length:Int)-1),(b0.l.Sections++([x0]:List Section)))
theorem aeD(S:bF)(w:World)(gG:Nat)(b0:dP)(aK:ak.R dP)(x0:Section)(y:Int×(List Section))(hM:LG b0 x0=some y)(hP:Pre S [own gG 67 (sw b0 aK),ah 9 aK.1.1 b0.l.bB,ah 9 aK.1.2.1 b0.l.bN,ah 72 aK.1.2.2.1 b0.l.Sections,ah 144 aK.1.2.2.2 b0.l.Links,ah 22 aK.2.1 b0.tracks,ah 22 aK.2.2.1 b0.between,ah 22 aK.2.2.2 b0.eZ] w):
  Calls Tryz.prog 32 #[vP gG,.agg (abH x0)] w (Post (β:=(SR (ak.R Section))) S [own gG 67 (sw b0 aK),ah 9 aK.1.1 b0.l.bB,ah 9 aK.1.2.1 b0.l.bN,ah 72 aK.1.2.2.1 b0.l.Sections,ah 144 aK.1.2.2.2 b0.l.Links,ah 22 aK.2.1 b0.tracks,ah 22 aK.2.2.1 b0.between,ah 22 aK.2.2.2 b0.eZ] (fun g=>vI y.1) (fun g=>[own gG 67 [sL aK.1.1 b0.l.bB,sL aK.1.2.1 b0.l.bN,sL g y.2,sL aK.1.2.2.2 b0.l.Links,sL aK.2.1 b0.tracks,sL aK.2.2.1 b0.between,sL aK.2.2.2 b0.eZ],ah 9 aK.1.1 b0.l.bB,ah 9 aK.1.2.1 b0.l.bN,ah 72 g y.2,ah 144 aK.1.2.2.2 b0.l.Links,ah 22 aK.2.1 b0.tracks,ah 22 aK.2.2.1 b0.between,ah 22 aK.2.2.2 b0.eZ]) w):=by
 refine bW (args:=[_,_]) Tryz.func32 rfl (hP.start) rfl ?_;unfold LG at hM;refine sr ?_;refine oB (Bc x0) fun b1=>?_;refine aL ?_;refine aF fun K2 hK2=>?_;refine mZ [own b1 72 (Bc x0),own gG 67 (sw b0 aK),ah 9 aK.1.1 b0.l.bB,ah 9 aK.1.2.1 b0.l.bN,ah 144 aK.1.2.2.2 b0.l.Links,ah 22 aK.2.1 b0.tracks,ah 22 aK.2.2.1 b0.between,ah 22 aK.2.2.2 b0.eZ] 12 ?_;refine aI 0 rfl aH ?_;refine aI 1 rfl aH ?_;refine aI 2 rfl dH ?_;refine aI 3 rfl (ay 0) ?_;refine aI 4 rfl (ay 2) ?_;refine aI 5 rfl (aD (b:=gG)) ?_;refine aI 6 rfl (bM (b:=b1)) ?_;refine jf 7 rfl (fH (α:=Section) 72 (fun _=>()) ([x0]:List Section) oF (fun r2=>⟨rI,?_⟩));obtain⟨hb4,hM⟩:=bQ hM
 refine jf 8 rfl (jy (r:=aK.1.2.2.1) (r2:=r2) uR (Kn.ah (e:=72) (r:=r2) hA) oF (of_decide_eq_true hb4) (fun r3=>⟨rI,?_⟩));refine aI 9 rfl dH ?_;refine aI 10 rfl (ay 0) ?_;refine aI 11 rfl (ay 2) ?_;refine mX rfl (jT (b:=gG) (l':=[sL aK.1.1 b0.l.bB,sL aK.1.2.1 b0.l.bN,.slice r3.a ((b0.l.Sections++([x0]:List Section)).length) r3.cap,sL aK.1.2.2.2 b0.l.Links,sL aK.2.1 b0.tracks,sL aK.2.2.1 b0.between,sL aK.2.2.2 b0.eZ]) (k:=?_));refine mW (hK2 _ _ ?_);clear hK2;refine aJ ?_;refine oe dH ?_;refine oe (ay 0) ?_;refine oe (ay 2) ?_;refine oe (aD (b:=gG)) ?_;refine oe bf ?_;refine oN hM fun hM=>?_;refine aL ?_;obtain rfl:=some_inj hM;refine aP (tO (fun w hm=>gK r3 hm rfl))
def Js(b0:dP)(a0:Int)(c0:Int)(Hu:Int)(Hw:Int):Option (List Link):=
 aX (decide ((b0.l.Links.length+([(Link.mk a0 1 c0 0 Hu Hw)]:List Link).length)*48≤140737488355328))<|
 some (b0.l.Links++([(Link.mk a0 1 c0 0 Hu Hw)]:List Link))
theorem ZO(S:bF)(w:World)(gG:Nat)(b0:dP)(aK:ak.R dP)(a0:Int)(c0:Int)(Hu:Int)(Hw:Int)(y:(List Link))(hM:Js b0 a0 c0 Hu Hw=some y)(hP:Pre S [own gG 67 (sw b0 aK),ah 9 aK.1.1 b0.l.bB,ah 9 aK.1.2.1 b0.l.bN,ah 72 aK.1.2.2.1 b0.l.Sections,ah 144 aK.1.2.2.2 b0.l.Links,ah 22 aK.2.1 b0.tracks,ah 22 aK.2.2.1 b0.between,ah 22 aK.2.2.2 b0.eZ] w):
  Calls Tryz.prog 33 #[vP gG,vI a0,vI c0,vI Hu,vI Hw] w (Post (β:=(SR (ak.R Link))) S [own gG 67 (sw b0 aK),ah 9 aK.1.1 b0.l.bB,ah 9 aK.1.2.1 b0.l.bN,ah 72 aK.1.2.2.1 b0.l.Sections,ah 144 aK.1.2.2.2 b0.l.Links,ah 22 aK.2.1 b0.tracks,ah 22 aK.2.2.1 b0.between,ah 22 aK.2.2.2 b0.eZ] (fun g=> .tuple #[]) (fun g=>[own gG 67 [sL aK.1.1 b0.l.bB,sL aK.1.2.1 b0.l.bN,sL aK.1.2.2.1 b0.l.Sections,sL g y,sL aK.2.1 b0.tracks,sL aK.2.2.1 b0.between,sL aK.2.2.2 b0.eZ],ah 9 aK.1.1 b0.l.bB,ah 9 aK.1.2.1 b0.l.bN,ah 72 aK.1.2.2.1 b0.l.Sections,ah 144 g y,ah 22 aK.2.1 b0.tracks,ah 22 aK.2.2.1 b0.between,ah 22 aK.2.2.2 b0.eZ]) w):=by
 refine bW (args:=[_,_,_,_,_]) Tryz.func33 rfl (hP.start) rfl ?_;unfold Js at hM;refine aT ?_;refine om ?_;refine om ?_;refine oe dH ?_;refine oe (ay 0) ?_;refine oe (ay 3) ?_;refine oe (aD (b:=gG)) ?_;refine om ?_;refine om ?_;refine om ?_;refine om ?_;refine oe (gD [vI a0,vI 1,vI c0,vI 0,vI Hu,vI Hw]) ?_;refine aY (fH (α:=Link) 144 (fun _=>()) ([(Link.mk a0 1 c0 0 Hu Hw)]:List Link) oF (fun r1=>?_));obtain⟨hb3,hM⟩:=bQ hM;refine aY (jy (r:=aK.1.2.2.2) (r2:=r1) uR (Kn.ah (e:=144) (r:=r1) hA) oF (of_decide_eq_true hb3) (fun r2=>?_));refine oe dH ?_;refine oe (ay 0) ?_;refine oe (ay 3) ?_;refine aY (jT (b:=gG) (l':=[sL aK.1.1 b0.l.bB,sL aK.1.2.1 b0.l.bN,sL aK.1.2.2.1 b0.l.Sections,.slice r2.a ((b0.l.Links++([(Link.mk a0 1 c0 0 Hu Hw)]:List Link)).length) r2.cap,sL aK.2.1 b0.tracks,sL aK.2.2.1 b0.between,sL aK.2.2.2 b0.eZ]) (k:=?_));obtain rfl:=some_inj hM;refine aU (G8 rfl (fun w hm=>gK r2 hm rfl))
def P8(b0:dP):Option (Int×(List Str)):=
 (Dz (⟨[80]⟩:Str) (b0.l.bN.length:Int)).bind fun y1=>
 aX (decide ((b0.l.bN.length+([y1]:List Str).length)*16≤140737488355328))<|
 aX (bA (((b0.l.bN++([y1]:List Str)).length:Int)-1))<|
 some ((((b0.l.bN++([y1]:List Str)).length:Int)-1),(b0.l.bN++([y1]:List Str)))
theorem alj(S:bF)(w:World)(gG:Nat)(b0:dP)(aK:ak.R dP)(y:Int×(List Str))(hM:P8 b0=some y)(hP:Pre S [own gG 67 (sw b0 aK),ah 9 aK.1.1 b0.l.bB,ah 9 aK.1.2.1 b0.l.bN,ah 72 aK.1.2.2.1 b0.l.Sections,ah 144 aK.1.2.2.2 b0.l.Links,ah 22 aK.2.1 b0.tracks,ah 22 aK.2.2.1 b0.between,ah 22 aK.2.2.2 b0.eZ] w):
  Calls Tryz.prog 63 #[vP gG] w (Post (β:=(SR (ak.R Str))) S [own gG 67 (sw b0 aK),ah 9 aK.1.1 b0.l.bB,ah 9 aK.1.2.1 b0.l.bN,ah 72 aK.1.2.2.1 b0.l.Sections,ah 144 aK.1.2.2.2 b0.l.Links,ah 22 aK.2.1 b0.tracks,ah 22 aK.2.2.1 b0.between,ah 22 aK.2.2.2 b0.eZ] (fun g=>vI y.1) (fun g=>[own gG 67 [sL aK.1.1 b0.l.bB,sL g y.2,sL aK.1.2.2.1 b0.l.Sections,sL aK.1.2.2.2 b0.l.Links,sL aK.2.1 b0.tracks,sL aK.2.2.1 b0.between,sL aK.2.2.2 b0.eZ],ah 9 aK.1.1 b0.l.bB,ah 9 g y.2,ah 72 aK.1.2.2.1 b0.l.Sections,ah 144 aK.1.2.2.2 b0.l.Links,ah 22 aK.2.1 b0.tracks,ah 22 aK.2.2.1 b0.between,ah 22 aK.2.2.2 b0.eZ]) w):=by
 refine bW (args:=[_]) Tryz.func63 rfl (hP.start) rfl ?_;unfold P8 at hM;refine bg ?_;refine aF fun K2 hK2=>?_;refine mZ [own gG 67 (sw b0 aK),ah 9 aK.1.1 b0.l.bB,ah 72 aK.1.2.2.1 b0.l.Sections,ah 144 aK.1.2.2.2 b0.l.Links,ah 22 aK.2.1 b0.tracks,ah 22 aK.2.2.1 b0.between,ah 22 aK.2.2.2 b0.eZ] 18 ?_;refine aI 0 rfl aH ?_;refine aI 1 rfl aH ?_;refine aI 2 rfl dH ?_;refine aI 3 rfl (ay 0) ?_;refine aI 4 rfl (ay 1) ?_;refine aI 5 rfl (aD (b:=gG)) ?_;refine aI 6 rfl aH ?_;refine aI 7 rfl dH ?_;refine aI 8 rfl (ay 0) ?_;refine aI 9 rfl (ay 1) ?_;refine aI 10 rfl (aD (b:=gG)) ?_;refine jf 11 rfl (ND bf ⟨rI,?_⟩);obtain⟨y1,hy2,hM⟩:=bind_some hM;refine jf 12 rfl (sV (fun hs=>Jt _ _ (⟨[80]⟩:Str) (b0.l.bN.length:Int) y1 hy2 (bq hs)) ⟨rI,?_⟩);refine jf 13 rfl (fH (α:=Str) 9 (fun _=>()) ([y1]:List Str) oF (fun r3=>⟨rI,?_⟩))
 obtain⟨hb5,hM⟩:=bQ hM;refine jf 14 rfl (jy (r:=aK.1.2.1) (r2:=r3) uR (Kn.ah (e:=9) (r:=r3) hA) oF (of_decide_eq_true hb5) (fun r4=>⟨rI,?_⟩));refine aI 15 rfl dH ?_;refine aI 16 rfl (ay 0) ?_;refine aI 17 rfl (ay 1) ?_;refine mX rfl (jT (b:=gG) (l':=[sL aK.1.1 b0.l.bB,.slice r4.a ((b0.l.bN++([y1]:List Str)).length) r4.cap,sL aK.1.2.2.1 b0.l.Sections,sL aK.1.2.2.2 b0.l.Links,sL aK.2.1 b0.tracks,sL aK.2.2.1 b0.between,sL aK.2.2.2 b0.eZ]) (k:=?_));refine mW (hK2 _ _ ?_);clear hK2;refine aJ ?_;refine oe dH ?_;refine oe (ay 0) ?_;refine oe (ay 1) ?_;refine oe (aD (b:=gG)) ?_;refine oe bf ?_;refine oN hM fun hM=>?_;refine aL ?_;obtain rfl:=some_inj hM;refine aP (tO (fun w hm=>gK r4 hm rfl))
def LJ(aN:((List Link)×Nat)→Option ((List Str)×(List Link)))(vD:Nat):(List Link)→Option ((List Str)×(List Link)):=fun LV=>
 aN (LV,vD+1)
def P6(nK:List Int)(Av:Bool)(b0:dP)(xO:List Str)(x0:Int)(Ck:Int)(aN:((List Link)×Nat)→Option ((List Str)×(List Link))):((List Link)×Nat)→Option ((List Str)×(List Link)):=fun (EC,vD)=>
 if decide ((vD:Int)<(nK.length:Int)) then
  (if Av then
   ((idx nK (vD:Int)).bind fun x4=>
   (Js (dP.mk (Layout.mk b0.l.bB xO b0.l.Sections EC) b0.tracks b0.between b0.eZ) x0 x4 Ck (vD:Int)).bind fun y6=>
   LJ aN vD y6)
  else
   ((idx nK (vD:Int)).bind fun x9=>
   (Js (dP.mk (Layout.mk b0.l.bB xO b0.l.Sections EC) b0.tracks b0.between b0.eZ) x9 x0 Ck (vD:Int)).bind fun fF=>
   LJ aN vD fF))
 else
  (some (xO,EC))
def LH(nK:List Int)(Av:Bool)(b0:dP)(x0:Int):((List Str)×Int)→Option ((List Str)×(List Link)):=fun (xO,Ck)=>
 iter (P6 nK Av b0 xO x0 Ck) FUEL (b0.l.Links,0)
def LK(b0:dP)(x0:Int)(nK:List Int)(Av:Bool):Option ((List Str)×(List Link)):=
 if decide (1<(nK.length:Int)) then
  ((P8 b0).bind fun BF=>
  LH nK Av b0 x0 (BF.2,BF.1))
 else
  (LH nK Av b0 x0 (b0.l.bN,(-1)))
theorem aeE(S:bF)(w:World)(gG:Nat)(b0:dP)(aK:ak.R dP)(x0:Int)(nK:List Int)(zZ:ak.R (List Int))(Av:Bool)(y:(List Str)×(List Link))(hM:LK b0 x0 nK Av=some y)(hP:Pre S [own gG 67 (sw b0 aK),ah 9 aK.1.1 b0.l.bB,ah 9 aK.1.2.1 b0.l.bN,ah 72 aK.1.2.2.1 b0.l.Sections,ah 144 aK.1.2.2.2 b0.l.Links,ah 22 aK.2.1 b0.tracks,ah 22 aK.2.2.1 b0.between,ah 22 aK.2.2.2 b0.eZ] w)(ajc:ak.ok S w zZ nK):
   Calls Tryz.prog 34 #[vP gG,vI x0,sL zZ nK,.bool Av] w (Post (β:=(SR (ak.R Str))×(SR (ak.R Link))) S [own gG 67 (sw b0 aK),ah 9 aK.1.1 b0.l.bB,ah 9 aK.1.2.1 b0.l.bN,ah 72 aK.1.2.2.1 b0.l.Sections,ah 144 aK.1.2.2.2 b0.l.Links,ah 22 aK.2.1 b0.tracks,ah 22 aK.2.2.1 b0.between,ah 22 aK.2.2.2 b0.eZ] (fun g=> .tuple #[]) (fun g=>[own gG 67 [sL aK.1.1 b0.l.bB,sL g.1 y.1,sL aK.1.2.2.1 b0.l.Sections,sL g.2 y.2,sL aK.2.1 b0.tracks,sL aK.2.2.1 b0.between,sL aK.2.2.2 b0.eZ],ah 9 aK.1.1 b0.l.bB,ah 9 g.1 y.1,ah 72 aK.1.2.2.1 b0.l.Sections,ah 144 g.2 y.2,ah 22 aK.2.1 b0.tracks,ah 22 aK.2.2.1 b0.between,ah 22 aK.2.2.2 b0.eZ]) w):=by
 refine bW (args:=[_,_,_,_]) Tryz.func34 rfl (hP.start |>.dZ (α:=List Int) (r:=zZ) (x:=nK) ajc) rfl ?_;unfold LK at hM;refine bg ?_;refine jn (SR (ak.R Str)) y (k:=LH nK Av b0 x0) (fun (xO,Ck) D6=>[(0,eP gG),(1,eI x0),(2,eS zZ nK),(3,.v (.bool Av)),(8,eI Ck)]) (fun (xO,Ck) D6=>[ah 9 aK.1.1 b0.l.bB,ah 9 D6 xO,ah 72 aK.1.2.2.1 b0.l.Sections,ah 144 aK.1.2.2.2 b0.l.Links,ah 22 aK.2.1 b0.tracks,ah 22 aK.2.2.1 b0.between,ah 22 aK.2.2.2 b0.eZ,own gG 67 [sL aK.1.1 b0.l.bB,sL D6 xO,sL aK.1.2.2.1 b0.l.Sections,sL aK.1.2.2.2 b0.l.Links,sL aK.2.1 b0.tracks,sL aK.2.2.1 b0.between,sL aK.2.2.2 b0.eZ],iL nK zZ]) ?_ ?_
 ·intro Fj iR;refine aJ ?_;refine oe bf ?_;refine oe eO ?_;refine on ?_;refine cc rfl hM (fun uT hM=>?_) (fun uT hM=>?_)
  · refine aT ?_;refine om ?_;obtain⟨BF,PG,hM⟩:=bind_some hM;refine aY (nV sA (fun S w hs hP=>alj _ w gG b0 aK BF PG hP) (fun jv=>?_));dsimp only[cA,nA];refine oa ?_;refine aU (iR jv hM sS rI)
  refine aM (iR aK.1.2.1 hM sS rI)
 clear hM;rintro⟨xO,Ck⟩ D6 hM;dsimp only[LH] at hM ⊢;refine aJ ?_;refine gU (fun w hm=>Kn.len (kG nK zZ) hm) fun hl1=>?_;refine oe bf ?_;refine om ?_;refine on ?_;refine aV ?_;refine lp aK.1.2.2.2 hM (fun (EC,vD) JW=>[(0,eP gG),(1,eI x0),(2,eS zZ nK),(3,.v (.bool Av)),(8,eI Ck),(16,eI (nK.length:Int)),(17,eI (vD:Int))]) (fun (EC,vD) JW=>[ah 9 aK.1.1 b0.l.bB,ah 9 D6 xO,ah 72 aK.1.2.2.1 b0.l.Sections,ah 144 JW EC,ah 22 aK.2.1 b0.tracks,ah 22 aK.2.2.1 b0.between,ah 22 aK.2.2.2 b0.eZ,own gG 67 [sL aK.1.1 b0.l.bB,sL D6 xO,sL aK.1.2.2.1 b0.l.Sections,sL JW EC,sL aK.2.1 b0.tracks,sL aK.2.2.1 b0.between,sL aK.2.2.2 b0.eZ],iL nK zZ]) sS rI ?_;clear hM;rintro aN ⟨EC,vD⟩ JW hM fQ hL1;dsimp only[P6] at hM ⊢
 refine sr ?_;refine oe bK ?_;refine on ?_;refine aF fun K4 hK4=>?_;refine cc rfl hM (fun hc2 hM=>?_) (fun hc2 hM=>?_)
 ·have FL:=of_decide_eq_true hc2;refine aM (hK4 _ _ ?_);clear hK4;refine jn (SR (ak.R Link)) y (k:=LJ aN vD) (fun LV QL=>[(0,eP gG),(1,eI x0),(2,eS zZ nK),(3,.v (.bool Av)),(8,eI Ck),(16,eI (nK.length:Int)),(17,eI (vD:Int))]) (fun LV QL=>[ah 9 aK.1.1 b0.l.bB,ah 9 D6 xO,ah 72 aK.1.2.2.1 b0.l.Sections,ah 144 QL LV,ah 22 aK.2.1 b0.tracks,ah 22 aK.2.2.1 b0.between,ah 22 aK.2.2.2 b0.eZ,own gG 67 [sL aK.1.1 b0.l.bB,sL D6 xO,sL aK.1.2.2.1 b0.l.Sections,sL QL LV,sL aK.2.1 b0.tracks,sL aK.2.2.1 b0.between,sL aK.2.2.2 b0.eZ],iL nK zZ]) ?_ ?_
  · intro zB hJ2;refine aV ?_;refine aJ ?_;refine aL ?_;refine aJ ?_;refine on ?_;refine cc rfl hM (fun hc3 hM=>?_) (fun hc3 hM=>?_)
    ·refine aT ?_;refine om ?_;refine om ?_;refine om ?_;refine om ?_;obtain⟨x4,hx5,hM⟩:=bind_some hM;refine oe (aQ (xs:=nK) 1 (kG nK zZ) (iS hx5)) ?_;refine oe (bE (i:=(vD:Int)) (xs:=nK) (y:=x4) 0 (kG nK zZ) (fun _=>hx5)) ?_;refine om ?_;refine om ?_;obtain⟨y6,rZ,hM⟩:=bind_some hM;refine aY (nV sA (fun S w hs hP=>ZO _ w gG (dP.mk (Layout.mk b0.l.bB xO b0.l.Sections EC) b0.tracks b0.between b0.eZ) ((aK.1.1,D6,aK.1.2.2.1,JW),aK.2.1,aK.2.2.1,aK.2.2.2) x0 x4 Ck (vD:Int) y6 rZ hP) (fun r8=>?_));dsimp only[cA,nA];refine aU (hJ2 r8 hM sS rI)
    refine aT ?_;refine om ?_;refine om ?_;refine om ?_;obtain⟨x9,mG,hM⟩:=bind_some hM;refine oe (aQ (xs:=nK) 1 (kG nK zZ) (iS mG)) ?_;refine oe (bE (i:=(vD:Int)) (xs:=nK) (y:=x9) 0 (kG nK zZ) (fun _=>mG)) ?_;refine om ?_;refine om ?_;refine om ?_;obtain⟨fF,yP,hM⟩:=bind_some hM;refine aY (nV sA (fun S w hs hP=>ZO _ w gG (dP.mk (Layout.mk b0.l.bB xO b0.l.Sections EC) b0.tracks b0.between b0.eZ) ((aK.1.1,D6,aK.1.2.2.1,JW),aK.2.1,aK.2.2.1,aK.2.2.2) x9 x0 Ck (vD:Int) fF yP hP) (fun gN=>?_));dsimp only[cA,nA];refine aU (hJ2 gN hM sS rI)
  clear hM;rintro LV QL hM;dsimp only[LJ] at hM ⊢;refine aT ?_;refine oe (dh (hr:=fun _=>by unfold dS;omega)) ?_;refine om ?_;refine aU (hL1 QL hM sS rI)
 obtain rfl:=some_inj hM;refine bX (G8 rfl (fun w hm=>gK (D6,JW) hm rfl))
def ZV(bI:Nat)(aN:(Int×(List Str)×(List Section)×(List (List Int))×Nat)→Option (dP×Int))(kX:Int)(iJ:List Str)(bZ:Str)(AQ:List Section)(gQ:List (List Int))(yZ:List Int):Unit→Option (dP×Int):=fun _=>
 aX (bA ((bI:Int)+1))<|
 aN (kX,(iJ++([bZ]:List Str)),AQ,(gQ++([yZ]:List (List Int))),bI+1)
def ZW(gQ:List (List Int))(yZ:List Int)(bI:Nat)(aN:(Int×(List Str)×(List Section)×(List (List Int))×Nat)→Option (dP×Int))(kX:Int)(iJ:List Str)(bZ:Str)(AQ:List Section):Unit→Option (dP×Int):=fun _=>
 aX (decide ((gQ.length+([yZ]:List (List Int)).length)*24≤140737488355328))<|
 ZV bI aN kX iJ bZ AQ gQ yZ ()
def Ju(bI:Nat)(s0:bS)(iJ:List Str)(bZ:Str)(gQ:List (List Int))(aN:(Int×(List Str)×(List Section)×(List (List Int))×Nat)→Option (dP×Int))(cu:(Int×(List Section)×(List Int)×Int)→Option (dP×Int)):(Int×(List Section)×(List Int)×Int)→Option (dP×Int):=fun (kX,AQ,yZ,d9)=>
 if decide (0<d9) then
  ((Dz (⟨[84]⟩:Str) (bI:Int)).bind fun y25=>
  (Dz y25 d9).bind fun y27=>
  (LD (bS.mk s0.l kX) y27 (bI:Int)).bind fun y29=>
  aX (bA (y29.1.Length+2))<|
  (LG (dP.mk (Layout.mk (iJ++([bZ]:List Str)) ([]:List Str) AQ ([]:List Link)) gQ ([]:List (List Int)) ([]:List (List Int))) (Section.mk y29.1.Name (y29.1.Length+2) y29.1.Limit y29.1.kr y29.1.nN)).bind fun y34=>
  aX (decide ((yZ.length+([y34.1]:List Int).length)*8≤140737488355328))<|
  aX (bA (d9-1))<|
  cu (y29.2,y34.2,(yZ++([y34.1]:List Int)),(d9-1)))
 else
  (ZW gQ yZ bI aN kX iJ bZ AQ ())
def ZY(iU:Nat)(gY:(Int×(List Str)×(List Section)×(List Link)×(List (List Int))×Nat)→Option (dP×Int))(uN:Int)(y91:(List Str)×(List Link))(nQ:List Section)(lg:List (List Int))(kR:List Int):Unit→Option (dP×Int):=fun _=>
 aX (bA ((iU:Int)+1))<|
 gY (uN,y91.1,nQ,y91.2,(lg++([kR]:List (List Int))),iU+1)
def LQ(kR:List Int)(gQ:List (List Int))(iU:Nat)(iJ:List Str)(oq:List Str)(nQ:List Section)(yT:List Link)(lg:List (List Int))(gY:(Int×(List Str)×(List Section)×(List Link)×(List (List Int))×Nat)→Option (dP×Int))(uN:Int):Unit→Option (dP×Int):=fun _=>
 (idx kR 0).bind fun IJ=>
 (idx gQ (iU:Int)).bind fun x80=>
 (LK (dP.mk (Layout.mk iJ oq nQ yT) gQ lg ([]:List (List Int))) IJ x80 false).bind fun Fe=>
 aX (bA ((kR.length:Int)-1))<|
 (idx kR ((kR.length:Int)-1)).bind fun x86=>
 aX (bA ((iU:Int)+1))<|
 (idx gQ ((iU:Int)+1)).bind fun x89=>
 (LK (dP.mk (Layout.mk iJ Fe.1 nQ Fe.2) gQ lg ([]:List (List Int))) x86 x89 true).bind fun y91=>
 aX (decide ((lg.length+([kR]:List (List Int)).length)*24≤140737488355328))<|
 ZY iU gY uN y91 nQ lg kR ()
def Qb(kR:List Int)(iJ:List Str)(oq:List Str)(nQ:List Section)(gQ:List (List Int))(lg:List (List Int))(iU:Nat)(gY:(Int×(List Str)×(List Section)×(List Link)×(List (List Int))×Nat)→Option (dP×Int))(uN:Int)(qx:((List Link)×Nat)→Option (dP×Int)):((List Link)×Nat)→Option (dP×Int):=fun (yT,AO)=>
 aX (bA ((AO:Int)+1))<|
 if decide (((AO:Int)+1)<(kR.length:Int)) then
  ((idx kR (AO:Int)).bind fun x69=>
  aX (bA ((AO:Int)+1))<|
  (idx kR ((AO:Int)+1)).bind fun WZ=>
  (Js (dP.mk (Layout.mk iJ oq nQ yT) gQ lg ([]:List (List Int))) x69 WZ (-1) 0).bind fun NW=>
  aX (bA ((AO:Int)+1))<|
  qx (NW,AO+1))
 else
  (LQ kR gQ iU iJ oq nQ yT lg gY uN ())
def Qc(kR:List Int)(iJ:List Str)(oq:List Str)(nQ:List Section)(gQ:List (List Int))(lg:List (List Int))(iU:Nat)(gY:(Int×(List Str)×(List Section)×(List Link)×(List (List Int))×Nat)→Option (dP×Int))(uN:Int)(wX:List Link):Unit→Option (dP×Int):=fun _=>
 iter (Qb kR iJ oq nQ gQ lg iU gY uN) FUEL (wX,0)
def Jv(iU:Nat)(s0:bS)(iJ:List Str)(oq:List Str)(wX:List Link)(gQ:List (List Int))(lg:List (List Int))(gY:(Int×(List Str)×(List Section)×(List Link)×(List (List Int))×Nat)→Option (dP×Int))(nG:(Int×(List Section)×(List Int)×Int)→Option (dP×Int)):(Int×(List Section)×(List Int)×Int)→Option (dP×Int):=fun (uN,nQ,kR,F5)=>
 if decide (0<F5) then
  ((Dz (⟨[76]⟩:Str) (iU:Int)).bind fun qY=>
  (Dz qY F5).bind fun Xc=>
  (LD (bS.mk s0.l uN) Xc (-1)).bind fun lQ=>
  (LG (dP.mk (Layout.mk iJ oq nQ wX) gQ lg ([]:List (List Int))) lQ.1).bind fun Gx=>
  aX (decide ((kR.length+([Gx.1]:List Int).length)*8≤140737488355328))<|
  aX (bA (F5-1))<|
  nG (lQ.2,Gx.2,(kR++([Gx.1]:List Int)),(F5-1)))
 else
  (Qc kR iJ oq nQ gQ lg iU gY uN wX ())
def ZX(iJ:List Str)(oq:List Str)(F9:List Section)(wX:List Link)(gQ:List (List Int))(lg:List (List Int))(Fv:Int):Unit→Option (dP×Int):=fun _=>
 some ((dP.mk (Layout.mk iJ oq F9 wX) gQ lg ([]:List (List Int))),Fv)
def ZU(y2:Int×Int)(s0:bS)(iJ:List Str)(gQ:List (List Int))(gY:(Int×(List Str)×(List Section)×(List Link)×(List (List Int))×Nat)→Option (dP×Int)):(Int×(List Str)×(List Section)×(List Link)×(List (List Int))×Nat)→Option (dP×Int):=fun (Fv,oq,F9,wX,lg,iU)=>
 aX (bA ((iU:Int)+1))<|
 if decide (((iU:Int)+1)<(2+y2.1)) then
  ((kC (bS.mk s0.l Fv) 2).bind fun Eh=>
  aX (bA (1+Eh.1))<|
  iter (Jv iU s0 iJ oq wX gQ lg gY) FUEL (Eh.2,F9,([]:List Int),(1+Eh.1)))
 else
  (ZX iJ oq F9 wX gQ lg Fv ())
def UE(y2:Int×Int)(s0:bS)(iJ:List Str)(gQ:List (List Int))(pU:Int)(BX:List Section):Unit→Option (dP×Int):=fun _=>
 iter (ZU y2 s0 iJ gQ) FUEL (pU,([]:List Str),BX,([]:List Link),([]:List (List Int)),0)
def ZT(y2:Int×Int)(s0:bS)(aN:(Int×(List Str)×(List Section)×(List (List Int))×Nat)→Option (dP×Int)):(Int×(List Str)×(List Section)×(List (List Int))×Nat)→Option (dP×Int):=fun (pU,iJ,BX,gQ,bI)=>
 if decide ((bI:Int)<(2+y2.1)) then
  ((Dz (⟨[83]⟩:Str) (bI:Int)).bind fun bZ=>
  aX (decide ((iJ.length+([bZ]:List Str).length)*16≤140737488355328))<|
  (kC (bS.mk s0.l pU) 2).bind fun mq=>
  aX (bA (1+mq.1))<|
  iter (Ju bI s0 iJ bZ gQ aN) FUEL (mq.2,BX,([]:List Int),(1+mq.1)))
 else
  (UE y2 s0 iJ gQ pU BX ())
def Qd(s0:bS):Option (dP×Int):=
 (kC s0 2).bind fun y2=>
 aX (bA (2+y2.1))<|
 iter (ZT y2 s0) FUEL (y2.2,([]:List Str),([]:List Section),([]:List (List Int)),0)
theorem alm(S:bF)(w:World)(fC:Nat)(s0:bS)(bR:ak.R bS)(y:dP×Int)(hM:Qd s0=some y)(hP:Pre S [own fC 79 (DV s0 bR)] w)(FK:ak.ok (α:=List Int) S w bR s0.l):
   Calls Tryz.prog 12 #[vP fC] w (Post (β:=Nat×(ak.R (List Str))×(ak.R (List Str))×(ak.R (List Section))×(ak.R (List Link))×(ak.R (List (List Int)))×(ak.R (List (List Int)))×(ak.R (List (List Int)))) S [own fC 79 (DV s0 bR)] (fun g=>vP g.1) (fun g=>[own g.1 67 [sL g.2.1 y.1.l.bB,sL g.2.2.1 y.1.l.bN,sL g.2.2.2.1 y.1.l.Sections,sL g.2.2.2.2.1 y.1.l.Links,sL g.2.2.2.2.2.1 y.1.tracks,sL g.2.2.2.2.2.2.1 y.1.between,sL g.2.2.2.2.2.2.2 y.1.eZ],ah 9 g.2.1 y.1.l.bB,ah 9 g.2.2.1 y.1.l.bN,ah 72 g.2.2.2.1 y.1.l.Sections,ah 144 g.2.2.2.2.1 y.1.l.Links,ah 22 g.2.2.2.2.2.1 y.1.tracks,ah 22 g.2.2.2.2.2.2.1 y.1.between,ah 22 g.2.2.2.2.2.2.2 y.1.eZ,own fC 79 [sL bR s0.l,vI y.2]]) w):=by
 refine bW (args:=[_]) Tryz.func12 rfl (hP.start |>.dZ (α:=List Int) (r:=bR) (x:=s0.l) FK) rfl ?_;unfold Qd at hM;refine bg ?_;refine sr ?_;refine oe (gD [z0,z0,z0,z0,z0,z0,z0]) ?_;refine oB [z0,z0,z0,z0,z0,z0,z0] fun b1=>?_;refine aL ?_;refine aJ ?_;obtain⟨y2,hy3,hM⟩:=bind_some hM;refine aY (fP sA (fun S w hs hP=>iO _ w fC s0 bR 2 y2 hy3 hP (kM hs)) fO (fun r4=>?_));dsimp only[cA,nA];refine oP hM fun hM=>?_;refine aL ?_;refine aF fun K4 hK4=>?_;refine bg ?_;refine aV ?_;refine dJ (fun w hm=>hm.dR (α:=Str) 9 (fun _=>())) ?_;refine dJ (fun w hm=>hm.dR (α:=Str) 9 (fun _=>())) ?_;refine dJ (fun w hm=>hm.dR (α:=Section) 72 (fun _=>())) ?_;refine dJ (fun w hm=>hm.dR (α:=Link) 144 (fun _=>())) ?_
 refine dJ (fun w hm=>hm.dR (α:=List Int) 22 (fun _=>eB)) ?_;refine dJ (fun w hm=>hm.dR (α:=List Int) 22 (fun _=>eB)) ?_;refine dJ (fun w hm=>hm.dR (α:=List Int) 22 (fun _=>eB)) ?_;refine lp (oJ,Ci,iC) hM (fun (pU,iJ,BX,gQ,bI) (rP,Gi,kU)=>[(0,eP fC),(3,eP b1),(4,eI (2+y2.1)),(5,eI (bI:Int))]) (fun (pU,iJ,BX,gQ,bI) (rP,Gi,kU)=>[iL s0.l bR,own fC 79 [sL bR s0.l,vI pU],ah 9 rP iJ,ah 9 oJ ([]:List Str),ah 72 Gi BX,ah 144 xZ ([]:List Link),ah 22 kU gQ,ah 22 iC ([]:List (List Int)),ah 22 iC ([]:List (List Int)),own b1 67 [sL rP iJ,z0,sL Gi BX,z0,sL kU gQ,.slice iC.a (([]:List (List Int)).length) iC.cap,.slice iC.a (([]:List (List Int)).length) iC.cap]]) sS rI ?_
 clear hM;rintro aN ⟨pU,iJ,BX,gQ,bI⟩ ⟨rP,Gi,kU⟩ hM fQ hL1;dsimp only[ZT] at hM ⊢;refine aF fun K6 bU=>?_;refine aJ ?_;refine om ?_;refine oe bK ?_;refine on ?_;refine cc rfl hM (fun zO hM=>?_) (fun zO hM=>?_)
 ·refine aM (bU _ _ ?_);clear bU;refine aF fun K8 fu=>?_;refine aV ?_;refine aF fun K9 dY=>?_;refine mZ [iL s0.l bR,own fC 79 [sL bR s0.l,vI pU],ah 9 oJ ([]:List Str),ah 72 Gi BX,ah 144 xZ ([]:List Link),ah 22 kU gQ,ah 22 iC ([]:List (List Int)),ah 22 iC ([]:List (List Int)),own b1 67 [sL rP iJ,z0,sL Gi BX,z0,sL kU gQ,.slice iC.a (([]:List (List Int)).length) iC.cap,.slice iC.a (([]:List (List Int)).length) iC.cap]] 13 ?_
  refine aI 0 rfl aH ?_;refine aI 1 rfl aH ?_;refine aI 2 rfl dH ?_;refine aI 3 rfl (ay 0) ?_;refine aI 4 rfl (ay 0) ?_;refine aI 5 rfl (aD (b:=b1)) ?_;refine aI 6 rfl aH ?_;obtain⟨bZ,pX,hM⟩:=bind_some hM;refine jf 7 rfl (sV (fun hs=>Jt _ _ (⟨[83]⟩:Str) (bI:Int) bZ pX (bq hs)) ⟨rI,?_⟩);refine jf 8 rfl (fH (α:=Str) 9 (fun _=>()) ([bZ]:List Str) oF (fun r16=>⟨rI,?_⟩));obtain⟨Pk,hM⟩:=bQ hM;refine jf 9 rfl (jy (r:=rP) (r2:=r16) uR (Kn.ah (e:=9) (r:=r16) hA) oF (of_decide_eq_true Pk) (fun jv=>⟨rI,?_⟩));refine aI 10 rfl dH ?_;refine aI 11 rfl (ay 0) ?_;refine aI 12 rfl (ay 0) ?_;refine mX rfl (jT (b:=b1) (l':=[.slice jv.a ((iJ++([bZ]:List Str)).length) jv.cap,z0,sL Gi BX,z0,sL kU gQ,.slice iC.a (([]:List (List Int)).length) iC.cap,.slice iC.a (([]:List (List Int)).length) iC.cap]) (k:=?_))
  refine mW (dY _ _ ?_);clear dY;refine bg ?_;refine aF fun pR eH=>?_;refine aJ ?_;obtain⟨mq,FW,hM⟩:=bind_some hM;refine aY (fP sA (fun S w hs hP=>iO _ w fC (bS.mk s0.l pU) bR 2 mq FW hP (kM hs)) fO (fun vv=>?_));dsimp only[cA,nA];refine oP hM fun hM=>?_;refine aL ?_;refine aV ?_;refine dJ (fun w hm=>hm.dR (α:=Int) 3 (fun _=>())) ?_;refine lp (Gi,eB) hM (fun (kX,AQ,yZ,d9) (JV,Kj)=>[(0,eP fC),(3,eP b1),(4,eI (2+y2.1)),(5,eI (bI:Int)),(6,eS Kj yZ),(7,eI d9)]) (fun (kX,AQ,yZ,d9) (JV,Kj)=>[iL s0.l bR,own fC 79 [sL bR s0.l,vI kX],ah 9 jv (iJ++([bZ]:List Str)),ah 9 oJ ([]:List Str),ah 72 JV AQ,ah 144 xZ ([]:List Link),ah 22 kU gQ,ah 22 iC ([]:List (List Int)),ah 22 iC ([]:List (List Int)),own b1 67 [.slice jv.a ((iJ++([bZ]:List Str)).length) jv.cap,z0,sL JV AQ,z0,sL kU gQ,.slice iC.a (([]:List (List Int)).length) iC.cap,.slice iC.a (([]:List (List Int)).length) iC.cap],ah 3 Kj yZ]) sS rI ?_
  clear hM;rintro cu ⟨kX,AQ,yZ,d9⟩ ⟨JV,Kj⟩ hM qM hL2;dsimp only[Ju] at hM ⊢;refine aF fun rU fT=>?_;refine aJ ?_;refine oe eO ?_;refine on ?_;refine cc rfl hM (fun hc24 hM=>?_) (fun hc24 hM=>?_)
  · refine aM (fT _ _ ?_);clear fT;refine aF fun yE jN=>?_;refine aV ?_;refine aJ ?_;refine om ?_;obtain⟨y25,FX,hM⟩:=bind_some hM;refine cv (fun hs=>Jt _ _ (⟨[84]⟩:Str) (bI:Int) y25 FX (bq hs)) ?_;refine om ?_;obtain⟨y27,hy28,hM⟩:=bind_some hM;refine cv (fun hs=>Jt _ _ y25 d9 y27 hy28 (bq hs)) ?_;refine om ?_;obtain⟨y29,Jp,hM⟩:=bind_some hM;refine aY (fP sA (fun S w hs hP=>aeC _ w fC (bS.mk s0.l kX) bR y27 (bI:Int) y29 Jp hP (kM hs)) fO (fun Ct=>?_));dsimp only[cA,nA];refine oA rfl fun b32=>?_;refine oS b32 (Bc y29.1) ?_;refine on ?_;refine sr ?_;refine oe (ay 1) ?_;refine oe (aD (b:=b32)) ?_;refine oP hM fun hM=>?_;refine oe (ay 1) ?_;refine aY (jT (b:=b32) (l':=[.string y29.1.Name.ba,vI (y29.1.Length+2),vI y29.1.Limit,vI y29.1.kr,vI y29.1.nN]) (k:=?_))
    refine on ?_;refine aT ?_;refine om ?_;refine om ?_;refine oe (bM (b:=b32)) ?_;obtain⟨y34,FY,hM⟩:=bind_some hM;refine aY (nV sA (fun S w hs hP=>aeD _ w b1 (dP.mk (Layout.mk (iJ++([bZ]:List Str)) ([]:List Str) AQ ([]:List Link)) gQ ([]:List (List Int)) ([]:List (List Int))) ((jv,oJ,JV,xZ),kU,iC,iC) (Section.mk y29.1.Name (y29.1.Length+2) y29.1.Limit y29.1.kr y29.1.nN) y34 FY hP) (fun wC=>?_));dsimp only[cA,nA];refine aY (fH (α:=Int) 3 (fun _=>()) ([y34.1]:List Int) oF (fun yg=>?_));obtain⟨ajs,hM⟩:=bQ hM;refine aY (jy (r:=Kj) (r2:=yg) uR (Kn.ah (e:=3) (r:=yg) hA) oF (of_decide_eq_true ajs) (fun Cu=>?_));refine oa ?_;refine aU (jN _ _ ?_);clear jN;refine aT ?_;refine om ?_;refine oN hM fun hM=>?_;refine oa ?_;refine aU (hL2 (wC,Cu) hM sS rI)
  refine bX (eH _ _ ?_);clear eH;dsimp only[ZW] at hM;refine aT ?_;refine om ?_;refine om ?_;refine oe dH ?_;refine oe (ay 4) ?_;refine oe (aD (b:=b1)) ?_;refine om ?_;refine qG (fun w hm=>hm.freeze (r:=Kj) uA) ?_;refine aY (fH (α:=List Int) 22 (fun _=>Kj) ([yZ]:List (List Int)) (mD.cons (fun S w hs=>(kI hs)) mD.nil) (fun MN=>?_));obtain⟨Pm,hM⟩:=bQ hM;refine aY (jy (r:=kU) (r2:=MN) uR (Kn.ah (e:=22) (r:=MN) hA) (mD.row (e:=22) (r:=MN) hA) (of_decide_eq_true Pm) (fun Gg=>?_));refine oe dH ?_;refine oe (ay 4) ?_;refine aY (jT (b:=b1) (l':=[.slice jv.a ((iJ++([bZ]:List Str)).length) jv.cap,z0,sL JV AQ,z0,.slice Gg.a ((gQ++([yZ]:List (List Int))).length) Gg.cap,.slice iC.a (([]:List (List Int)).length) iC.cap,.slice iC.a (([]:List (List Int)).length) iC.cap]) (k:=?_))
  refine aU (fu _ _ ?_);clear fu;dsimp only[ZV] at hM;refine aT ?_;refine om ?_;refine oP hM fun hM=>?_;refine oa ?_;refine aU (hL1 (jv,JV,Gg) hM sS rI)
 refine bX (hK4 _ _ ?_);clear hK4;dsimp only[UE] at hM;refine aF fun El nH=>?_;refine bg ?_;refine aV ?_;refine lp (oJ,Gi,xZ,iC) hM (fun (Fv,oq,F9,wX,lg,iU) (yu,MQ,Gj,uH)=>[(0,eP fC),(3,eP b1),(4,eI (2+y2.1)),(9,eI (iU:Int))]) (fun (Fv,oq,F9,wX,lg,iU) (yu,MQ,Gj,uH)=>[iL s0.l bR,own fC 79 [sL bR s0.l,vI Fv],ah 9 rP iJ,ah 9 yu oq,ah 72 MQ F9,ah 144 Gj wX,ah 22 kU gQ,ah 22 uH lg,ah 22 iC ([]:List (List Int)),own b1 67 [sL rP iJ,sL yu oq,sL MQ F9,sL Gj wX,sL kU gQ,sL uH lg,.slice iC.a (([]:List (List Int)).length) iC.cap]]) sS rI ?_
 clear hM;rintro gY ⟨Fv,oq,F9,wX,lg,iU⟩ ⟨yu,MQ,Gj,uH⟩ hM zC hL3;dsimp only[ZU] at hM ⊢;refine aF fun CY mF=>?_;refine aJ ?_;refine oP hM fun hM=>?_;refine om ?_;refine oe bK ?_;refine on ?_;refine cc rfl hM (fun YO hM=>?_) (fun YO hM=>?_)
 ·refine aM (mF _ _ ?_);clear mF;refine aF fun CZ ni=>?_;refine aV ?_;refine bg ?_;refine aF fun Gy qz=>?_;refine aJ ?_;obtain⟨Eh,Zr,hM⟩:=bind_some hM;refine aY (fP sA (fun S w hs hP=>iO _ w fC (bS.mk s0.l Fv) bR 2 Eh Zr hP (kM hs)) fO (fun r49=>?_));dsimp only[cA,nA];refine oP hM fun hM=>?_;refine aL ?_;refine aV ?_;refine dJ (fun w hm=>hm.dR (α:=Int) 3 (fun _=>())) ?_;refine lp (MQ,eB) hM (fun (uN,nQ,kR,F5) (wD,uI)=>[(0,eP fC),(3,eP b1),(4,eI (2+y2.1)),(9,eI (iU:Int)),(10,eS uI kR),(11,eI F5)]) (fun (uN,nQ,kR,F5) (wD,uI)=>[iL s0.l bR,own fC 79 [sL bR s0.l,vI uN],ah 9 rP iJ,ah 9 yu oq,ah 72 wD nQ,ah 144 Gj wX,ah 22 kU gQ,ah 22 uH lg,ah 22 iC ([]:List (List Int)),own b1 67 [sL rP iJ,sL yu oq,sL wD nQ,sL Gj wX,sL kU gQ,sL uH lg,.slice iC.a (([]:List (List Int)).length) iC.cap],ah 3 uI kR]) sS rI ?_
  clear hM;rintro nG ⟨uN,nQ,kR,F5⟩ ⟨wD,uI⟩ hM KF hL4;dsimp only[Jv] at hM ⊢;refine aF fun Gz qA=>?_;refine aJ ?_;refine oe eO ?_;refine on ?_;refine cc rfl hM (fun YR hM=>?_) (fun YR hM=>?_)
  · refine aM (qA _ _ ?_);clear qA;refine aF fun SE zM=>?_;refine aV ?_;refine aT ?_;refine om ?_;refine om ?_;refine om ?_;refine om ?_;obtain⟨qY,PN,hM⟩:=bind_some hM;refine cv (fun hs=>Jt _ _ (⟨[76]⟩:Str) (iU:Int) qY PN (bq hs)) ?_;refine om ?_;obtain⟨Xc,akK,hM⟩:=bind_some hM;refine cv (fun hs=>Jt _ _ qY F5 Xc akK (bq hs)) ?_;obtain⟨lQ,PO,hM⟩:=bind_some hM;refine aY (fP sA (fun S w hs hP=>aeC _ w fC (bS.mk s0.l uN) bR Xc (-1) lQ PO hP (kM hs)) fO (fun tY=>?_));dsimp only[cA,nA];obtain⟨Gx,Zw,hM⟩:=bind_some hM;refine aY (nV sA (fun S w hs hP=>aeD _ w b1 (dP.mk (Layout.mk iJ oq nQ wX) gQ lg ([]:List (List Int))) ((rP,yu,wD,Gj),kU,uH,iC) lQ.1 Gx Zw hP) (fun r62=>?_));dsimp only[cA,nA];refine aY (fH (α:=Int) 3 (fun _=>()) ([Gx.1]:List Int) oF (fun r63=>?_));obtain⟨ajB,hM⟩:=bQ hM;refine aY (jy (r:=uI) (r2:=r63) uR (Kn.ah (e:=3) (r:=r63) hA) oF (of_decide_eq_true ajB) (fun r64=>?_));refine oa ?_
    refine aU (zM _ _ ?_);clear zM;refine aT ?_;refine om ?_;refine oN hM fun hM=>?_;refine oa ?_;refine aU (hL4 (r62,r64) hM sS rI)
  refine bX (qz _ _ ?_);clear qz;dsimp only[Qc] at hM;refine aF fun IQ rX=>?_;refine bg ?_;refine aV ?_;refine lp Gj hM (fun (yT,AO) EW=>[(0,eP fC),(3,eP b1),(4,eI (2+y2.1)),(9,eI (iU:Int)),(10,eS uI kR),(12,eI (AO:Int))]) (fun (yT,AO) EW=>[iL s0.l bR,own fC 79 [sL bR s0.l,vI uN],ah 9 rP iJ,ah 9 yu oq,ah 72 wD nQ,ah 144 EW yT,ah 22 kU gQ,ah 22 uH lg,ah 22 iC ([]:List (List Int)),own b1 67 [sL rP iJ,sL yu oq,sL wD nQ,sL EW yT,sL kU gQ,sL uH lg,.slice iC.a (([]:List (List Int)).length) iC.cap],ah 3 uI kR]) sS rI ?_
  clear hM;rintro qx ⟨yT,AO⟩ EW hM SH hL5;dsimp only[Qb] at hM ⊢;refine aF fun SF zN=>?_;refine aJ ?_;refine oP hM fun hM=>?_;refine om ?_;refine oe bf ?_;refine oe bK ?_;refine on ?_;refine cc rfl hM (fun Ub hM=>?_) (fun Ub hM=>?_)
  · refine aM (zN _ _ ?_);clear zN;refine aF fun SG xK=>?_;refine aV ?_;refine mZ [iL s0.l bR,own fC 79 [sL bR s0.l,vI uN],ah 9 rP iJ,ah 9 yu oq,ah 72 wD nQ,ah 144 EW yT,ah 22 kU gQ,ah 22 uH lg,ah 22 iC ([]:List (List Int)),own b1 67 [sL rP iJ,sL yu oq,sL wD nQ,sL EW yT,sL kU gQ,sL uH lg,.slice iC.a (([]:List (List Int)).length) iC.cap],ah 3 uI kR] 10 ?_;refine aI 0 rfl aH ?_;refine aI 1 rfl aH ?_;refine aI 2 rfl aH ?_;obtain⟨x69,PD,hM⟩:=bind_some hM;refine aI 3 rfl (aQ (xs:=kR) 1 (Kn.ah (e:=3) (r:=uI) hA) (iS PD)) ?_;refine aI 4 rfl (bE (i:=(AO:Int)) (xs:=kR) (y:=x69) 0 (Kn.ah (e:=3) (r:=uI) hA) (fun _=>PD)) ?_;refine aI 5 rfl aH ?_;refine aI 6 rfl aH ?_;obtain⟨ai2,hM⟩:=bQ hM;refine aI 7 rfl (dh (hr:=fun hg=>dI ai2)) ?_
    obtain⟨WZ,Zl,hM⟩:=bind_some hM;refine aI 8 rfl (aQ (xs:=kR) 1 (Kn.ah (e:=3) (r:=uI) hA) (iS Zl)) ?_;refine aI 9 rfl (bE (i:=((AO:Int)+1)) (xs:=kR) (y:=WZ) 0 (Kn.ah (e:=3) (r:=uI) hA) (fun _=>Zl)) ?_;obtain⟨NW,Zy,hM⟩:=bind_some hM;refine mX rfl (nV sA (fun S w hs hP=>ZO _ w b1 (dP.mk (Layout.mk iJ oq nQ yT) gQ lg ([]:List (List Int))) ((rP,yu,wD,EW),kU,uH,iC) x69 WZ (-1) 0 NW Zy hP) (fun yj=>?_));dsimp only[cA,nA];refine mW (xK _ _ ?_);clear xK;refine aT ?_;refine om ?_;refine oP hM fun hM=>?_;refine oa ?_;refine aU (hL5 yj hM sS rI)
  refine bX (rX _ _ ?_);clear rX;dsimp only[LQ] at hM;refine aF fun K34 G5=>?_;refine mZ [iL s0.l bR,own fC 79 [sL bR s0.l,vI uN],ah 9 rP iJ,ah 9 yu oq,ah 72 wD nQ,ah 144 EW yT,ah 22 kU gQ,ah 22 uH lg,ah 22 iC ([]:List (List Int)),own b1 67 [sL rP iJ,sL yu oq,sL wD nQ,sL EW yT,sL kU gQ,sL uH lg,.slice iC.a (([]:List (List Int)).length) iC.cap],ah 3 uI kR] 11 ?_;refine aI 0 rfl aH ?_;refine aI 1 rfl aH ?_;obtain⟨IJ,PE,hM⟩:=bind_some hM;refine aI 2 rfl (aQ (xs:=kR) 1 (Kn.ah (e:=3) (r:=uI) hA) (iS PE)) ?_;refine aI 3 rfl (bE (i:=0) (xs:=kR) (y:=IJ) 0 (Kn.ah (e:=3) (r:=uI) hA) (fun _=>PE)) ?_;refine aI 4 rfl aH ?_;refine aI 5 rfl dH ?_;refine aI 6 rfl (ay 4) ?_;refine aI 7 rfl (aD (b:=b1)) ?_;refine aI 8 rfl aH ?_
  obtain⟨x80,Zn,hM⟩:=bind_some hM;refine aI 9 rfl (aQ (xs:=gQ) 1 (Kn.ah (e:=22) (r:=kU) hA) (iS Zn)) ?_;refine aI 10 rfl (bE (i:=(iU:Int)) (xs:=gQ) (y:=x80) 0 (Kn.ah (e:=22) (r:=kU) hA) (fun _=>Zn)) ?_;refine yG (fun w hm=>hm.wV (α:=List Int) (r:=(kU.es (iU:Int).toNat)) (x:=x80) (fun S hs=>(Sk.row (e:=22) (r:=kU) hA Zn) S w hs)) ?_;obtain⟨Fe,akU,hM⟩:=bind_some hM;refine mX rfl (nV sA (fun S w hs hP=>aeE _ w b1 (dP.mk (Layout.mk iJ oq nQ yT) gQ lg ([]:List (List Int))) ((rP,yu,wD,EW),kU,uH,iC) IJ x80 (kU.es (iU:Int).toNat) false Fe akU hP (kI hs)) (fun MP=>?_));dsimp only[cA,nA];refine mW (G5 _ _ ?_);clear G5;refine aF fun Xj Dn=>?_;refine mZ [own b1 67 [sL rP iJ,sL MP.1 Fe.1,sL wD nQ,sL MP.2 Fe.2,sL kU gQ,sL uH lg,.slice iC.a (([]:List (List Int)).length) iC.cap],ah 9 rP iJ,ah 9 MP.1 Fe.1,ah 72 wD nQ,ah 144 MP.2 Fe.2,ah 22 kU gQ,ah 22 uH lg,ah 22 iC ([]:List (List Int)),iL x80 (kU.es (iU:Int).toNat),iL s0.l bR,own fC 79 [sL bR s0.l,vI uN],ah 3 uI kR] 15 ?_
  refine aI 0 rfl aH ?_;refine aI 1 rfl aH ?_;refine aI 2 rfl aH ?_;refine aI 3 rfl bf ?_;obtain⟨ai4,hM⟩:=bQ hM;refine aI 4 rfl (mQ (hr:=fun hg=>dI ai4)) ?_;obtain⟨x86,aeo,hM⟩:=bind_some hM;refine aI 5 rfl (aQ (xs:=kR) 1 (Kn.ah (e:=3) (r:=uI) hA) (iS aeo)) ?_;refine aI 6 rfl (bE (i:=((kR.length:Int)-1)) (xs:=kR) (y:=x86) 0 (Kn.ah (e:=3) (r:=uI) hA) (fun _=>aeo)) ?_;refine aI 7 rfl aH ?_;refine aI 8 rfl dH ?_;refine aI 9 rfl (ay 4) ?_;refine aI 10 rfl (aD (b:=b1)) ?_;refine aI 11 rfl aH ?_;obtain⟨ai5,hM⟩:=bQ hM;refine aI 12 rfl (dh (hr:=fun hg=>dI ai5)) ?_;obtain⟨x89,hx90,hM⟩:=bind_some hM;refine aI 13 rfl (aQ (xs:=gQ) 1 (Kn.ah (e:=22) (r:=kU) hA) (iS hx90)) ?_;refine aI 14 rfl (bE (i:=((iU:Int)+1)) (xs:=gQ) (y:=x89) 0 (Kn.ah (e:=22) (r:=kU) hA) (fun _=>hx90)) ?_;refine yG (fun w hm=>hm.wV (α:=List Int) (r:=(kU.es ((iU:Int)+1).toNat)) (x:=x89) (fun S hs=>(Sk.row (e:=22) (r:=kU) hA hx90) S w hs)) ?_;obtain⟨y91,akW,hM⟩:=bind_some hM;refine mX rfl (nV sA (fun S w hs hP=>aeE _ w b1 (dP.mk (Layout.mk iJ Fe.1 nQ Fe.2) gQ lg ([]:List (List Int))) ((rP,MP.1,wD,MP.2),kU,uH,iC) x86 x89 (kU.es ((iU:Int)+1).toNat) true y91 akW hP (kI hs)) (fun Va=>?_))
  dsimp only[cA,nA];refine mW (Dn _ _ ?_);clear Dn;refine aT ?_;refine om ?_;refine om ?_;refine oe dH ?_;refine oe (ay 5) ?_;refine oe (aD (b:=b1)) ?_;refine om ?_;refine qG (fun w hm=>hm.freeze (r:=uI) uA) ?_;refine aY (fH (α:=List Int) 22 (fun _=>uI) ([kR]:List (List Int)) (mD.cons (fun S w hs=>(kI hs)) mD.nil) (fun Vb=>?_));obtain⟨ajI,hM⟩:=bQ hM;refine aY (jy (r:=uH) (r2:=Vb) uR (Kn.ah (e:=22) (r:=Vb) hA) (mD.row (e:=22) (r:=Vb) hA) (of_decide_eq_true ajI) (fun r95=>?_));refine oe dH ?_;refine oe (ay 5) ?_;refine aY (jT (b:=b1) (l':=[sL rP iJ,sL Va.1 y91.1,sL wD nQ,sL Va.2 y91.2,sL kU gQ,.slice r95.a ((lg++([kR]:List (List Int))).length) r95.cap,.slice iC.a (([]:List (List Int)).length) iC.cap]) (k:=?_));refine aU (ni _ _ ?_);clear ni;dsimp only[ZY] at hM;refine aT ?_;refine om ?_;refine oP hM fun hM=>?_
  refine oa ?_;refine aU (hL3 (Va.1,wD,Va.2,r95) hM sS rI)
 refine bX (nH _ _ ?_);clear nH;dsimp only[ZX] at hM;refine aJ ?_;refine aL ?_;obtain rfl:=some_inj hM;refine aP (tO (fun w hm=>gK (b1,rP,yu,MQ,Gj,kU,uH,iC) hm rfl))
end Go.Proofs.YtcalibhfgdncaaaGreat
