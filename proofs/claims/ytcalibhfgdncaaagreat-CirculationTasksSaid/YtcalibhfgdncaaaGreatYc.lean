/- Models of functions, and that the code computes them. -/
import Derived.Test.YtcalibhfgdncaaaGreatRb
set_option linter.all false
namespace Go.Proofs.YtcalibhfgdncaaaGreat
open Go.Dc Go.RowKit
set_option maxRecDepth 10000
def af4:Unit→Option Bool:=fun _=>
 some false
def Ru(p0:Plan)(aN:Nat→Option Bool):Nat→Option Bool:=fun bI=>
 if decide ((bI:Int)<(p0.Lines.length:Int)) then
  ((idx p0.Lines (bI:Int)).bind fun x4=>
  if decide (12<(x4.bC.length:Int)) then
   (some true)
  else
   (aX (bA ((bI:Int)+1))<|
   aN (bI+1)))
 else
  (af4 ())
def Rv(p0:Plan):Option Bool:=
 if ((((((decide (8<(p0.bJ.length:Int))||decide (48<(p0.Routes.length:Int)))||decide (16<(p0.Lines.length:Int)))||decide (32<(p0.Changes.length:Int)))||decide (32<(p0.Turns.length:Int)))||decide (32<(p0.dx.length:Int)))||decide (32<(p0.dn.length:Int))) then
  (some true)
 else
  (iter (Ru p0) FUEL 0)
theorem amJ(S:bF)(w:World)(p0:Plan)(av:ak.R Plan)(y:Bool)(hM:Rv p0=some y)(hS:sB S w)(gB:ak.ok S w av p0):
   Calls Tryz.prog 45 #[.agg (mO p0 av)] w (dw w (.bool y)):=by
 refine bW (args:=[_]) Tryz.func45 rfl ((pre_nil hS).start |>.oL gB) rfl ?_;unfold Rv at hM;refine sr ?_;refine oB (fZ p0 av) fun b1=>?_;refine aL ?_;refine aF fun K2 hK2=>?_;refine sr ?_;refine oe (ay 1) ?_;refine oe (aD (b:=b1)) ?_;refine oe bf ?_;refine oe eO ?_;refine om ?_;refine au rfl (ay 2) ?_;refine au rfl (aD (b:=b1)) ?_;refine au rfl bf ?_
 refine au rfl eO ?_;refine oe bP ?_;refine om ?_;refine au rfl (ay 3) ?_;refine au rfl (aD (b:=b1)) ?_;refine au rfl bf ?_;refine au rfl eO ?_;refine oe bP ?_;refine om ?_;refine au rfl (ay 4) ?_;refine au rfl (aD (b:=b1)) ?_;refine au rfl bf ?_;refine au rfl eO ?_;refine oe bP ?_;refine om ?_;refine au rfl (ay 5) ?_;refine au rfl (aD (b:=b1)) ?_;refine au rfl bf ?_;refine au rfl eO ?_;refine oe bP ?_;refine om ?_;refine au rfl (ay 6) ?_;refine au rfl (aD (b:=b1)) ?_;refine au rfl bf ?_;refine au rfl eO ?_;refine oe bP ?_;refine om ?_;refine au rfl (ay 7) ?_;refine au rfl (aD (b:=b1)) ?_;refine au rfl bf ?_;refine au rfl eO ?_;refine oe bP ?_;refine on ?_;refine cc rfl hM (fun hc2 hM=>?_) (fun hc2 hM=>?_)
 ·refine bg ?_;exact aP (bD hM)
 refine aM (hK2 _ _ ?_);clear hK2;refine aF fun K5 bT=>?_;refine bg ?_;refine aV ?_;refine lq hM (fun bI=>[(1,eP b1),(3,eI (bI:Int))]) (fun bI=>[iL p0.bJ av.1,iL p0.Routes av.2.1,iL p0.Lines av.2.2.1,iL p0.Changes av.2.2.2.1,iL p0.Turns av.2.2.2.2.1,iL p0.dx av.2.2.2.2.2.1,iL p0.dn av.2.2.2.2.2.2,own b1 36 (fZ p0 av)]) sS rI ?_;clear hM;rintro aN bI hM fQ hL1;dsimp only[Ru] at hM ⊢;refine aF fun K7 eU=>?_;refine aJ ?_;refine oe (ay 3) ?_;refine oe (aD (b:=b1)) ?_;refine oe bf ?_;refine oe bK ?_;refine on ?_;refine cc rfl hM (fun hc3 hM=>?_) (fun hc3 hM=>?_)
 ·refine aM (eU _ _ ?_);clear eU;refine aF fun K9 dY=>?_;refine aV ?_;refine sr ?_;refine oe (ay 3) ?_;refine oe (aD (b:=b1)) ?_;refine om ?_;obtain⟨x4,hx5,hM⟩:=bind_some hM;refine oe (aQ (xs:=p0.Lines) 4 (kG p0.Lines av.2.2.1) (iS hx5)) ?_;refine oe (ay 3) ?_;refine oe (bE (i:=(bI:Int)) (xs:=p0.Lines) (y:=x4) 3 (kG p0.Lines av.2.2.1) (fun _=>hx5)) ?_;refine oe bf ?_;refine oe eO ?_;refine on ?_;refine cc rfl hM (fun hc6 hM=>?_) (fun hc6 hM=>?_)
  · refine bg ?_;exact aP (bD hM)
  refine aM (dY _ _ ?_);clear dY;refine aT ?_;refine om ?_;refine oP hM fun hM=>?_;refine oa ?_;refine aU (hL1 hM sS rI)
 refine bX (bT _ _ ?_);clear bT;dsimp only[af4] at hM;refine bg ?_;exact aP (bD hM)
def sQ(n0:Int)(nS:Int)(hi0:Int):Option Bool:=
 some (decide (nS≤n0)&&decide (n0≤hi0))
theorem Ab(S:bF)(w:World)(n0:Int)(nS:Int)(hi0:Int)(y:Bool)(hM:sQ n0 nS hi0=some y)(hS:sB S w):
  Calls Tryz.prog 46 #[vI n0,vI nS,vI hi0] w (dw w (.bool y)):=by
 refine bW (args:=[_,_,_]) Tryz.func46 rfl ((pre_nil hS).start) rfl ?_;unfold sQ at hM;refine bg ?_;refine aJ ?_;refine om ?_;refine oe ig ?_;refine om ?_;refine au rfl aH ?_;refine au rfl aH ?_;refine au rfl kD ?_;refine oe dB ?_;refine aL ?_;exact aP (bD hM)
def EZ(n0:Int)(nS:Int)(hi0:Int):Option Bool:=
 some (decide (nS≤n0)&&decide (n0≤hi0))
theorem Na(S:bF)(w:World)(n0:Int)(nS:Int)(hi0:Int)(y:Bool)(hM:EZ n0 nS hi0=some y)(hS:sB S w):
  Calls Tryz.prog 87 #[vI n0,vI nS,vI hi0] w (dw w (.bool y)):=by
 refine bW (args:=[_,_,_]) Tryz.func87 rfl ((pre_nil hS).start) rfl ?_;unfold EZ at hM;refine bg ?_;refine aJ ?_;refine om ?_;refine oe ig ?_;refine om ?_;refine au rfl aH ?_;refine au rfl aH ?_;refine au rfl kD ?_;refine oe dB ?_;refine aL ?_;exact aP (bD hM)
def M9(s0:bL):Option Bool:=
 (EZ s0.Length 1 40).bind fun y2=>
 (dW y2 default (EZ s0.zF 1000 100000)).bind fun y4=>
 (dW (y2&&y4) default (EZ s0.zx 100 2000)).bind fun y6=>
 (dW ((y2&&y4)&&y6) default (EZ s0.zy 100 2000)).bind fun y8=>
 some (((y2&&y4)&&y6)&&y8)
theorem afZ(S:bF)(w:World)(s0:bL)(y:Bool)(hM:M9 s0=some y)(hS:sB S w):
  Calls Tryz.prog 86 #[.agg (IX s0)] w (dw w (.bool y)):=by
 refine bW (args:=[_]) Tryz.func86 rfl ((pre_nil hS).start) rfl ?_;unfold M9 at hM;refine sr ?_;refine oB (vg s0) fun b1=>?_;refine aL ?_;refine sr ?_;refine oe (ay 1) ?_;refine oe (aD (b:=b1)) ?_;obtain⟨y2,hy3,hM⟩:=bind_some hM;refine cv (fun hs=>Na _ _ s0.Length 1 40 y2 hy3 (bq hs)) ?_;refine om ?_;refine au rfl (ay 2) ?_;refine au rfl (aD (b:=b1)) ?_;obtain⟨y4,FZ,hM⟩:=bind_some hM;refine cg rfl (fun hg hs=>Na _ _ s0.zF 1000 100000 y4 (dF FZ hg) (bq hs)) ?_;refine oe dB ?_;refine om ?_;refine au rfl (ay 3) ?_;refine au rfl (aD (b:=b1)) ?_;obtain⟨y6,rZ,hM⟩:=bind_some hM;refine cg rfl (fun hg hs=>Na _ _ s0.zx 100 2000 y6 (dF rZ hg) (bq hs)) ?_;refine oe dB ?_;refine om ?_;refine au rfl (ay 4) ?_;refine au rfl (aD (b:=b1)) ?_;obtain⟨y8,qR,hM⟩:=bind_some hM;refine cg rfl (fun hg hs=>Na _ _ s0.zy 100 2000 y8 (dF qR hg) (bq hs)) ?_;refine oe dB ?_
 refine aL ?_;exact aP (bD hM)
def aaO(p0:Plan)(i0:Int):Unit→Option Int:=fun _=>
 (idx p0.bJ i0).bind fun qL=>
 (M9 qL).bind fun qo=>
 if (!qo) then
  (some 4)
 else
  (some 0)
def VO(i0:Int)(p0:Plan)(aN:Nat→Option Int):Nat→Option Int:=fun jc=>
 if decide ((jc:Int)<i0) then
  ((idx p0.bJ (jc:Int)).bind fun x8=>
  (idx p0.bJ i0).bind fun x10=>
  if decide (x8.Name=x10.Name) then
   (some 5)
  else
   (aX (bA ((jc:Int)+1))<|
   aN (jc+1)))
 else
  (aaO p0 i0 ())
def Ng(p0:Plan)(i0:Int):Option Int:=
 (idx p0.bJ i0).bind fun x2=>
 (J3 x2.Name).bind fun y4=>
 if (!y4) then
  (some 3)
 else
  (iter (VO i0 p0) FUEL 0)
theorem amL(S:bF)(w:World)(p0:Plan)(av:ak.R Plan)(i0:Int)(y:Int)(hM:Ng p0 i0=some y)(hS:sB S w)(gB:ak.ok S w av p0):
   Calls Tryz.prog 47 #[.agg (mO p0 av),vI i0] w (dw w (vI y)):=by
 refine bW (args:=[_,_]) Tryz.func47 rfl ((pre_nil hS).start |>.oL gB) rfl ?_;unfold Ng at hM;refine sr ?_;refine oB (fZ p0 av) fun b1=>?_;refine aL ?_;refine aF fun K2 hK2=>?_;refine sr ?_;refine oe (ay 1) ?_;refine oe (aD (b:=b1)) ?_;refine om ?_;obtain⟨x2,hx3,hM⟩:=bind_some hM;refine oe (aQ (xs:=p0.bJ) 5 (kG p0.bJ av.1) (iS hx3)) ?_
 refine oe (ay 0) ?_;refine oe (bE (i:=i0) (xs:=p0.bJ) (y:=x2) 0 (kG p0.bJ av.1) (fun _=>hx3)) ?_;obtain⟨y4,FZ,hM⟩:=bind_some hM;refine cv (fun hs=>aaA _ _ x2.Name y4 FZ (bq hs)) ?_;refine oe dN ?_;refine on ?_;refine cc rfl hM (fun hc6 hM=>?_) (fun hc6 hM=>?_)
 ·refine bg ?_;exact aP (bD hM)
 refine aM (hK2 _ _ ?_);clear hK2;refine aF fun K5 bT=>?_;refine bg ?_;refine aV ?_;refine lq hM (fun jc=>[(1,eI i0),(2,eP b1),(5,eI (jc:Int))]) (fun jc=>[iL p0.bJ av.1,iL p0.Routes av.2.1,iL p0.Lines av.2.2.1,iL p0.Changes av.2.2.2.1,iL p0.Turns av.2.2.2.2.1,iL p0.dx av.2.2.2.2.2.1,iL p0.dn av.2.2.2.2.2.2,own b1 36 (fZ p0 av)]) sS rI ?_;clear hM;rintro aN jc hM fQ hL1;dsimp only[VO] at hM ⊢;refine aF fun K7 eU=>?_;refine aJ ?_;refine om ?_;refine oe bK ?_;refine on ?_;refine cc rfl hM (fun lY hM=>?_) (fun lY hM=>?_)
 ·refine aM (eU _ _ ?_);clear eU;refine aF fun K9 dY=>?_;refine aV ?_;refine aF fun sK gy=>?_;refine fE _ (List.Sublist.refl _) ?_;refine aj 0 rfl (ay 1) ?_;refine aj 1 rfl (aD (b:=b1)) ?_;refine aj 2 rfl aH ?_;obtain⟨x8,og,hM⟩:=bind_some hM;refine aj 3 rfl (aQ (xs:=p0.bJ) 5 (kG p0.bJ av.1) (iS og)) ?_;refine aj 4 rfl (ay 0) ?_;refine aj 5 rfl (bE (i:=(jc:Int)) (xs:=p0.bJ) (y:=x8) 0 (kG p0.bJ av.1) (fun _=>og)) ?_;refine aj 6 rfl (ay 1) ?_;refine aj 7 rfl (aD (b:=b1)) ?_;refine aj 8 rfl aH ?_;obtain⟨x10,lT,hM⟩:=bind_some hM;refine aj 9 rfl (aQ (xs:=p0.bJ) 5 (kG p0.bJ av.1) (iS lT)) ?_;refine aj 10 rfl (ay 0) ?_;refine aj 11 rfl (bE (i:=i0) (xs:=p0.bJ) (y:=x10) 0 (kG p0.bJ av.1) (fun _=>lT)) ?_;refine aj 12 rfl Lf ?_;refine dK (gy _ _ ?_);clear gy;refine cc rfl hM (fun qQ hM=>?_) (fun qQ hM=>?_)
  · refine bg ?_;exact aP (bD hM)
  refine aM (dY _ _ ?_);clear dY;refine aT ?_;refine om ?_;refine oP hM fun hM=>?_;refine oa ?_;refine aU (hL1 hM sS rI)
 refine bX (bT _ _ ?_);clear bT;dsimp only[aaO] at hM;refine aF fun vN iI=>?_;refine sr ?_;refine oe (ay 1) ?_;refine oe (aD (b:=b1)) ?_;refine om ?_;obtain⟨qL,zR,hM⟩:=bind_some hM;refine oe (aQ (xs:=p0.bJ) 5 (kG p0.bJ av.1) (iS zR)) ?_;refine oe (eY (m:=5) (i:=i0) (xs:=p0.bJ) (y:=qL) (l:=(vg qL)) 0 (kG p0.bJ av.1) (fun _=>zR)) ?_;obtain⟨qo,FV,hM⟩:=bind_some hM;refine cv (fun hs=>afZ _ _ qL qo FV (bq hs)) ?_;refine oe dN ?_;refine on ?_;refine cc rfl hM (fun hc18 hM=>?_) (fun hc18 hM=>?_)
 ·refine bg ?_;exact aP (bD hM)
 refine aM (iI _ _ ?_);clear iI;refine bg ?_;exact aP (bD hM)
def J2(bI:Nat)(aN:((List Hop)×Nat)→Option (List Hop)):(List Hop)→Option (List Hop):=fun Mf=>
 aX (bA ((bI:Int)+1))<|
 aN (Mf,bI+1)
def M0(rH:List Hop)(zo:Int)(x7:Link)(bI:Nat)(aN:((List Hop)×Nat)→Option (List Hop)):Int→Option (List Hop):=fun FC=>
 aX (decide ((rH.length+([(Hop.mk (Step.mk zo FC) x7.Point x7.Pos)]:List Hop).length)*32≤140737488355328))<|
 J2 bI aN (rH++([(Hop.mk (Step.mk zo FC) x7.Point x7.Pos)]:List Hop))
def EX(rH:List Hop)(x7:Link)(bI:Nat)(aN:((List Hop)×Nat)→Option (List Hop)):(Int×Int)→Option (List Hop):=fun (zo,NP)=>
 if decide (0≤zo) then
  (if decide (NP=1) then
   (M0 rH zo x7 bI aN 1)
  else
   (M0 rH zo x7 bI aN 0))
 else
  (J2 bI aN rH)
def aaz(rH:List Hop):Unit→Option (List Hop):=fun _=>
 some rH
def QZ(l0:Layout)(s0:Step)(Cj:Int)(aN:((List Hop)×Nat)→Option (List Hop)):((List Hop)×Nat)→Option (List Hop):=fun (rH,bI)=>
 if decide ((bI:Int)<(l0.Links.length:Int)) then
  ((idx l0.Links (bI:Int)).bind fun x7=>
  if (decide (x7.A=s0.Section)&&decide (x7.dQ=Cj)) then
   (EX rH x7 bI aN (x7.B,x7.dV))
  else
   (if (decide (x7.B=s0.Section)&&decide (x7.dV=Cj)) then
    (EX rH x7 bI aN (x7.A,x7.dQ))
   else
    (EX rH x7 bI aN ((-1),0))))
 else
  (aaz rH ())
def MZ(l0:Layout)(s0:Step):Int→Option (List Hop):=fun Cj=>
 iter (QZ l0 s0 Cj) FUEL (([]:List Hop),0)
def Q0(l0:Layout)(s0:Step):Option (List Hop):=
 if decide (s0.Dir=1) then
  (MZ l0 s0 0)
 else
  (MZ l0 s0 1)
theorem amv(S:bF)(w:World)(l0:Layout)(aG:ak.R Layout)(s0:Step)(y:(List Hop))(hM:Q0 l0 s0=some y)(hS:sB S w)(eT:ak.ok S w aG l0):
   Calls Tryz.prog 112 #[.agg (lX l0 aG),.agg (Fq s0)] w (Post (β:=(ak.R (List Hop))) S [] (fun g=>sL g y) (fun g=>[ah 161 g y]) w):=by
 refine bW (args:=[_,_]) Tryz.func112 rfl ((pre_nil hS).start |>.ny eT) rfl ?_;unfold Q0 at hM;refine sr ?_;refine oB (eD l0 aG) fun b1=>?_;refine oB (rM s0) fun b2=>?_;refine aL ?_;refine sr ?_;refine oe (ay 0) ?_;refine oe (aD (b:=b2)) ?_;refine oe (gD [vI s0.Section,vI 1]) ?_;refine oA rfl fun b3=>?_;refine oS b3 [vI s0.Section,vI 1] ?_;refine on ?_;refine jm y (k:=MZ l0 s0) (fun Cj=>[(2,eP b1),(5,eP b3)]) (fun Cj=>[iL l0.bB aG.1,iL l0.bN aG.2.1,iL l0.Sections aG.2.2.1,iL l0.Links aG.2.2.2,own b1 27 (eD l0 aG),own b3 186 [vI s0.Section,vI Cj]]) ?_ ?_
 ·intro Fj iR;refine sr ?_;refine oe (ay 1) ?_;refine oe (aD (b:=b2)) ?_;refine oe fI ?_;refine on ?_;refine cc rfl hM (fun hc18 hM=>?_) (fun hc18 hM=>?_)
  · refine aT ?_;refine oe (ay 1) ?_;refine aY (jT (b:=b3) (l':=[vI s0.Section,vI 0]) (k:=?_));refine aU (iR hM sS rI)
  refine aM (iR hM sS rI)
 clear hM;rintro Cj hM;dsimp only[MZ] at hM ⊢;refine bg ?_;refine aF fun K4 hK4=>?_;refine bg ?_;refine aV ?_;refine dJ (fun w hm=>hm.dR (α:=Hop) 161 (fun _=>())) ?_;refine lp alS hM (fun (rH,bI) D8=>[(2,eP b1),(5,eP b3),(6,eS D8 rH),(7,eI (bI:Int))]) (fun (rH,bI) D8=>[iL l0.bB aG.1,iL l0.bN aG.2.1,iL l0.Sections aG.2.2.1,iL l0.Links aG.2.2.2,own b1 27 (eD l0 aG),own b3 186 [vI s0.Section,vI Cj],ah 161 D8 rH]) sS rI ?_;clear hM;rintro aN ⟨rH,bI⟩ D8 hM fQ hL1;dsimp only[QZ] at hM ⊢;refine aF fun K6 bU=>?_;refine aJ ?_;refine oe (ay 3) ?_;refine oe (aD (b:=b1)) ?_;refine oe bf ?_;refine oe bK ?_;refine on ?_
 refine cc rfl hM (fun jO hM=>?_) (fun jO hM=>?_)
 ·refine aM (bU _ _ ?_);clear bU;refine jn (SR (ak.R Hop)) y (k:=J2 bI aN) (fun Mf Ry=>[(2,eP b1),(5,eP b3),(6,eS Ry Mf),(7,eI (bI:Int))]) (fun Mf Ry=>[iL l0.bB aG.1,iL l0.bN aG.2.1,iL l0.Sections aG.2.2.1,iL l0.Links aG.2.2.2,own b1 27 (eD l0 aG),own b3 186 [vI s0.Section,vI Cj],ah 161 Ry Mf]) ?_ ?_
  · intro IU hJ3;refine aV ?_;refine sr ?_;refine oe (ay 3) ?_;refine oe (aD (b:=b1)) ?_;refine om ?_;obtain⟨x7,wU,hM⟩:=bind_some hM;refine oe (aQ (xs:=l0.Links) 6 (kG l0.Links aG.2.2.2) (iS wU)) ?_;refine oe (eY (m:=6) (i:=(bI:Int)) (xs:=l0.Links) (y:=x7) (l:=(uF x7)) 0 (kG l0.Links aG.2.2.2) (fun _=>wU)) ?_;refine oA rfl fun b9=>?_;refine oS b9 (uF x7) ?_;refine on ?_;refine sr ?_;refine oe (gD [vI (-1),vI 0]) ?_;refine oA rfl fun b10=>?_;refine oS b10 [vI (-1),vI 0] ?_;refine on ?_;refine jm y (k:=EX rH x7 bI aN) (fun (zo,NP)=>[(2,eP b1),(5,eP b3),(6,eS D8 rH),(7,eI (bI:Int)),(8,eP b9),(9,eP b10)]) (fun (zo,NP)=>[iL l0.bB aG.1,iL l0.bN aG.2.1,iL l0.Sections aG.2.2.1,iL l0.Links aG.2.2.2,own b1 27 (eD l0 aG),own b3 186 [vI s0.Section,vI Cj],ah 161 D8 rH,own b9 144 (uF x7),own b10 186 [vI zo,vI NP]]) ?_ ?_
    ·intro KE rD;refine aV ?_;refine sr ?_;refine oe (ay 0) ?_;refine oe (aD (b:=b9)) ?_;refine oe (ay 0) ?_;refine oe (aD (b:=b3)) ?_;refine oe fI ?_;refine om ?_;refine au rfl (ay 1) ?_;refine au rfl (aD (b:=b9)) ?_;refine au rfl (ay 1) ?_;refine au rfl (aD (b:=b3)) ?_;refine au rfl fI ?_;refine oe dB ?_;refine aL ?_;refine cc rfl hM (fun hc16 hM=>?_) (fun hc16 hM=>?_)
     ·refine aT ?_;refine oe (ay 2) ?_;refine oe (aD (b:=b9)) ?_;refine oe (ay 3) ?_;refine oe (aD (b:=b9)) ?_;refine oe (gD [vI x7.B,vI x7.dV]) ?_;refine oS b10 [vI x7.B,vI x7.dV] ?_;refine aU (rD hM sS rI)
     refine sr ?_;refine oe (ay 2) ?_;refine oe (aD (b:=b9)) ?_;refine oe (ay 0) ?_;refine oe (aD (b:=b3)) ?_;refine oe fI ?_;refine om ?_;refine au rfl (ay 3) ?_;refine au rfl (aD (b:=b9)) ?_;refine au rfl (ay 1) ?_;refine au rfl (aD (b:=b3)) ?_;refine au rfl fI ?_;refine oe dB ?_;refine aL ?_;refine cc rfl hM (fun hc17 hM=>?_) (fun hc17 hM=>?_)
     ·refine aT ?_;refine oe (ay 0) ?_;refine oe (aD (b:=b9)) ?_;refine oe (ay 1) ?_;refine oe (aD (b:=b9)) ?_;refine oe (gD [vI x7.A,vI x7.dQ]) ?_;refine oS b10 [vI x7.A,vI x7.dQ] ?_;refine aU (rD hM sS rI)
     refine aM (rD hM sS rI)
    clear hM;rintro⟨zo,NP⟩ hM;dsimp only[EX] at hM ⊢;refine sr ?_;refine oe (ay 0) ?_;refine oe (aD (b:=b10)) ?_;refine oe ig ?_;refine on ?_;refine cc rfl hM (fun uS hM=>?_) (fun uS hM=>?_)
    ·refine bg ?_;refine jm y (k:=M0 rH zo x7 bI aN) (fun FC=>[(2,eP b1),(5,eP b3),(6,eS D8 rH),(7,eI (bI:Int)),(8,eP b9),(9,eP b10),(10,eI FC)]) (fun FC=>[iL l0.bB aG.1,iL l0.bN aG.2.1,iL l0.Sections aG.2.2.1,iL l0.Links aG.2.2.2,own b1 27 (eD l0 aG),own b3 186 [vI s0.Section,vI Cj],ah 161 D8 rH,own b9 144 (uF x7),own b10 186 [vI zo,vI NP]]) ?_ ?_
     ·intro N8 vS;refine sr ?_;refine oe (ay 1) ?_;refine oe (aD (b:=b10)) ?_;refine oe fI ?_;refine on ?_;refine cc rfl hM (fun zP hM=>?_) (fun zP hM=>?_)
      ·refine aT ?_;refine oa ?_;refine aU (vS hM sS rI)
      refine aM (vS hM sS rI)
     clear hM;rintro FC hM;dsimp only[M0] at hM ⊢;refine aT ?_;refine om ?_;refine oe (ay 0) ?_;refine oe (aD (b:=b10)) ?_;refine om ?_;refine oe (gD [vI zo,vI FC]) ?_;refine oe (ay 4) ?_;refine oe (aD (b:=b9)) ?_;refine oe (ay 5) ?_;refine oe (aD (b:=b9)) ?_;refine oe (gD [vI zo,vI FC,vI x7.Point,vI x7.Pos]) ?_;refine aY (fH (α:=Hop) 161 (fun _=>()) ([(Hop.mk (Step.mk zo FC) x7.Point x7.Pos)]:List Hop) oF (fun Cn=>?_));obtain⟨YF,hM⟩:=bQ hM;refine aY (jy (r:=D8) (r2:=Cn) uR (Kn.ah (e:=161) (r:=Cn) hA) oF (of_decide_eq_true YF) (fun gN=>?_));refine oa ?_;refine aU (hJ3 gN hM sS rI)
    refine aM (hJ3 D8 hM sS rI)
  clear hM;rintro Mf Ry hM;dsimp only[J2] at hM ⊢;refine aT ?_;refine om ?_;refine oP hM fun hM=>?_;refine oa ?_;refine aU (hL1 Ry hM sS rI)
 refine bX (hK4 _ _ ?_);clear hK4;dsimp only[aaz] at hM;refine aJ ?_;refine aL ?_;obtain rfl:=some_inj hM;refine aP (tO (fun w hm=>gK D8 hm rfl))
def af2:Unit→Option (Hop×Bool):=fun _=>
 some ((Hop.mk (Step.mk 0 0) 0 0),false)
def Rq(y5:(List Hop))(b0:Step)(aN:Nat→Option (Hop×Bool)):Nat→Option (Hop×Bool):=fun bI=>
 if decide ((bI:Int)<(y5.length:Int)) then
  ((idx y5 (bI:Int)).bind fun x9=>
  if decide (x9.To=b0) then
   ((idx y5 (bI:Int)).bind fun dz=>
   some (dz,true))
  else
   (aX (bA ((bI:Int)+1))<|
   aN (bI+1)))
 else
  (af2 ())
def Rs(l0:Layout)(a0:Step)(b0:Step):Option (Hop×Bool):=
 (Q0 l0 a0).bind fun y5=>
 iter (Rq y5 b0) FUEL 0
theorem af3(S:bF)(w:World)(l0:Layout)(aG:ak.R Layout)(a0:Step)(b0:Step)(y:Hop×Bool)(hM:Rs l0 a0 b0=some y)(hS:sB S w)(eT:ak.ok S w aG l0):
   Calls Tryz.prog 88 #[.agg (lX l0 aG),.agg (Fq a0),.agg (Fq b0)] w (dw w (.tuple #[.agg (N9 y.1),.bool y.2])):=by
 refine bW (args:=[_,_,_]) Tryz.func88 rfl ((pre_nil hS).start |>.ny eT) rfl ?_;unfold Rs at hM;refine sr ?_;refine oB (eD l0 aG) fun b1=>?_;refine oB (rM a0) fun b2=>?_;refine oB (rM b0) fun b3=>?_;refine oA rfl fun b4=>?_;refine aL ?_;refine sr ?_;refine oe (bM (b:=b1)) ?_;refine oe (bM (b:=b2)) ?_;obtain⟨y5,yS,hM⟩:=bind_some hM;refine aY (fP jL.nil (fun S w hs hP=>amv _ w l0 aG a0 y5 yS (bq hs) ⟨(kM hs),(kM hs),(kM hs),(kM hs)⟩) fO (fun r7=>?_));dsimp only[cA,nA];refine aL ?_;refine aF fun K3 hK3=>?_;refine sr ?_;refine oa ?_
 refine on ?_;refine aV ?_;refine lq hM (fun bI=>[(5,eP b3),(6,eP b4),(8,eS r7 y5),(9,eI (bI:Int))]) (fun bI=>[own b3 89 (rM b0),own b4 161 [vI 0,vI 0,vI 0,vI 0],ah 161 r7 y5]) sS rI ?_;clear hM;rintro aN bI hM fQ hL1;dsimp only[Rq] at hM ⊢;refine aF fun K5 bT=>?_;refine aJ ?_;refine om ?_;refine oe bf ?_;refine oe bK ?_;refine on ?_;refine cc rfl hM (fun hc8 hM=>?_) (fun hc8 hM=>?_)
 ·refine aM (bT _ _ ?_);clear bT;refine aF fun K7 eU=>?_;refine aV ?_;refine aF fun K8 fu=>?_;refine fE _ (List.Sublist.refl _) ?_;refine aj 0 rfl aH ?_;refine aj 1 rfl aH ?_;obtain⟨x9,mG,hM⟩:=bind_some hM;refine aj 2 rfl (aQ (xs:=y5) 4 (Kn.ah (e:=161) (r:=r7) hA) (iS mG)) ?_;refine aj 3 rfl (ay 0) ?_;refine aj 4 rfl (eY (m:=2) (i:=(bI:Int)) (xs:=y5) (y:=x9) (l:=(rM x9.To)) 0 (Kn.ah (e:=161) (r:=r7) hA) (fun _=>mG)) ?_;refine aj 5 rfl (bM (b:=b3)) ?_;refine aj 6 rfl (La [.int .i64,.int .i64] (decide (x9.To=b0)) (ahe _ _)) ?_;refine dK (fu _ _ ?_);clear fu;refine cc rfl hM (fun uS hM=>?_) (fun uS hM=>?_)
  · refine aJ ?_;refine om ?_;obtain⟨dz,lU,hM⟩:=bind_some hM;refine oe (aQ (xs:=y5) 4 (Kn.ah (e:=161) (r:=r7) hA) (iS lU)) ?_;refine oe (eY (m:=4) (i:=(bI:Int)) (xs:=y5) (y:=dz) (l:=(Qr dz)) 0 (Kn.ah (e:=161) (r:=r7) hA) (fun _=>lU)) ?_;refine oS b4 (Qr dz) ?_;refine aL ?_;exact aP (CF hM)
  refine aM (eU _ _ ?_);clear eU;refine aT ?_;refine om ?_;refine oP hM fun hM=>?_;refine oa ?_;refine aU (hL1 hM sS rI)
 refine bX (hK3 _ _ ?_);clear hK3;dsimp only[af2] at hM;refine sr ?_;refine oe (gD [vI 0,vI 0,vI 0,vI 0]) ?_;refine oS b4 [vI 0,vI 0,vI 0,vI 0] ?_;refine aL ?_;exact aP (CF hM)
def aaL(lV:Nat)(cu:Nat→Option Int):Unit→Option Int:=fun _=>
 aX (bA ((lV:Int)+1))<|
 cu (lV+1)
def M8(lV:Nat)(r0:aO)(cu:Nat→Option Int)(gY:Nat→Option Int):Nat→Option Int:=fun wW=>
 if decide ((wW:Int)<(lV:Int)) then
  ((idx r0.Steps (wW:Int)).bind fun x23=>
  (idx r0.Steps (lV:Int)).bind fun x25=>
  if decide (x23.Section=x25.Section) then
   (some 5)
  else
   (aX (bA ((wW:Int)+1))<|
   gY (wW+1)))
 else
  (aaL lV cu ())
def Vs(l7:Nat)(nG:Nat→Option Int):Bool→Option Int:=fun Qt=>
 if (!Qt) then
  (some 11)
 else
  (aX (bA ((l7:Int)+1))<|
  nG (l7+1))
def afX:Unit→Option Int:=fun _=>
 some 0
def Ro(r0:aO)(l0:Layout)(nG:Nat→Option Int):Nat→Option Int:=fun l7=>
 if decide ((l7:Int)<(r0.Steps.length:Int)) then
  (aX (bA ((l7:Int)-1))<|
  (idx r0.Steps ((l7:Int)-1)).bind fun x34=>
  (idx r0.Steps (l7:Int)).bind fun CQ=>
  (Rs l0 x34 CQ).bind fun y38=>
  Vs l7 nG y38.2)
 else
  (afX ())
def Vr(r0:aO)(l0:Layout):Unit→Option Int:=fun _=>
 iter (Ro r0 l0) FUEL 1
def Rn(r0:aO)(l0:Layout)(cu:Nat→Option Int):Nat→Option Int:=fun lV=>
 if decide ((lV:Int)<(r0.Steps.length:Int)) then
  (iter (M8 lV r0 cu) FUEL 0)
 else
  (Vr r0 l0 ())
def Vq(r0:aO)(l0:Layout):Unit→Option Int:=fun _=>
 iter (Rn r0 l0) FUEL 0
def Rm(r0:aO)(l0:Layout)(aN:Nat→Option Int):Nat→Option Int:=fun bI=>
 if decide ((bI:Int)<(r0.Steps.length:Int)) then
  ((idx r0.Steps (bI:Int)).bind fun x10=>
  aX (bA ((l0.Sections.length:Int)-1))<|
  (EZ x10.Section 0 ((l0.Sections.length:Int)-1)).bind fun y13=>
  (dW (!(!y13)) default (idx r0.Steps (bI:Int))).bind fun iX=>
  (dW (!(!y13)) default (EZ iX.Dir 0 1)).bind fun zw=>
  if ((!y13)||(!zw)) then
   (some 4)
  else
   (aX (bA ((bI:Int)+1))<|
   aN (bI+1)))
 else
  (Vq r0 l0 ())
def J4(l0:Layout)(r0:aO):Option Int:=
 (MX l0).bind fun y3=>
 if decide (y3≠0) then
  (some 1)
 else
  (if (decide (24<(r0.Steps.length:Int))||decide (2<r0.Overlap)) then
   (some 7)
  else
   (aX (!(!(decide (r0.Overlap<0)))||bA ((r0.Steps.length:Int)-r0.Overlap))<|
   if (decide (r0.Overlap<0)||decide (((r0.Steps.length:Int)-r0.Overlap)<2)) then
    (some 4)
   else
    (iter (Rm r0 l0) FUEL 0)))
theorem afY(S:bF)(w:World)(l0:Layout)(aG:ak.R Layout)(r0:aO)(aC:ak.R aO)(y:Int)(hM:J4 l0 r0=some y)(hS:sB S w)(eT:ak.ok S w aG l0)(ku:ak.ok S w aC r0):
   Calls Tryz.prog 48 #[.agg (lX l0 aG),.agg (Ao r0 aC)] w (dw w (vI y)):=by
 refine bW (args:=[_,_]) Tryz.func48 rfl ((pre_nil hS).start |>.ny eT|>.dZ (α:=List Step) (r:=aC) (x:=r0.Steps) ku) rfl ?_;unfold J4 at hM;refine sr ?_;refine oB (eD l0 aG) fun b1=>?_;refine oB (jV r0 aC) fun b2=>?_;refine aL ?_;refine aF fun K2 hK2=>?_;refine sr ?_;refine oe (bM (b:=b1)) ?_;obtain⟨y3,hy4,hM⟩:=bind_some hM;refine cv (fun hs=>afr _ _ l0 aG y3 hy4 (bq hs) ⟨(kM hs),(kM hs),(kM hs),(kM hs)⟩) ?_;refine oe gH ?_;refine on ?_;refine cc rfl hM (fun jO hM=>?_) (fun jO hM=>?_)
 ·refine bg ?_;exact aP (bD hM)
 refine aM (hK2 _ _ ?_);clear hK2;refine aF fun K5 bT=>?_;refine sr ?_;refine oe (ay 0) ?_;refine oe (aD (b:=b2)) ?_;refine oe bf ?_;refine oe eO ?_;refine om ?_;refine au rfl (ay 1) ?_;refine au rfl (aD (b:=b2)) ?_;refine au rfl eO ?_;refine oe bP ?_;refine on ?_;refine cc rfl hM (fun hc6 hM=>?_) (fun hc6 hM=>?_)
 ·refine bg ?_;exact aP (bD hM)
 refine aM (bT _ _ ?_);clear bT;refine aF fun K8 fu=>?_;refine sr ?_;refine oe (ay 1) ?_;refine oe (aD (b:=b2)) ?_;refine oe bK ?_;refine om ?_;refine au rfl (ay 0) ?_;refine au rfl (aD (b:=b2)) ?_;refine au rfl bf ?_;refine au rfl (ay 1) ?_;refine au rfl (aD (b:=b2)) ?_;obtain⟨Yx,hM⟩:=bQ hM;refine au rfl (mQ (hr:=fun hg=>dI (tL Yx hg))) ?_;refine au rfl bK ?_;refine oe bP ?_;refine on ?_;refine cc rfl hM (fun hc8 hM=>?_) (fun hc8 hM=>?_)
 ·refine bg ?_;exact aP (bD hM)
 refine aM (fu _ _ ?_);clear fu;refine aF fun pR eH=>?_;refine bg ?_;refine aV ?_;refine lq hM (fun bI=>[(2,eP b1),(3,eP b2),(5,eI (bI:Int))]) (fun bI=>[iL l0.bB aG.1,iL l0.bN aG.2.1,iL l0.Sections aG.2.2.1,iL l0.Links aG.2.2.2,own b1 27 (eD l0 aG),iL r0.Steps aC,own b2 85 (jV r0 aC)]) sS rI ?_;clear hM;rintro aN bI hM fQ hL1;dsimp only[Rm] at hM ⊢;refine aF fun rU fT=>?_;refine aJ ?_;refine oe (ay 0) ?_;refine oe (aD (b:=b2)) ?_;refine oe bf ?_;refine oe bK ?_;refine on ?_;refine cc rfl hM (fun rY hM=>?_) (fun rY hM=>?_)
 ·refine aM (fT _ _ ?_);clear fT;refine aF fun yE jN=>?_;refine aV ?_;refine aF fun yF jC=>?_;refine fE _ (List.Sublist.refl _) ?_;refine aj 0 rfl (ay 0) ?_;refine aj 1 rfl (aD (b:=b2)) ?_;refine aj 2 rfl aH ?_;obtain⟨x10,lT,hM⟩:=bind_some hM;refine aj 3 rfl (aQ (xs:=r0.Steps) 2 (kG r0.Steps aC) (iS lT)) ?_;refine aj 4 rfl (ay 0) ?_;refine aj 5 rfl (bE (i:=(bI:Int)) (xs:=r0.Steps) (y:=x10) 0 (kG r0.Steps aC) (fun _=>lT)) ?_;refine aj 6 rfl (ay 2) ?_;refine aj 7 rfl (aD (b:=b1)) ?_;refine aj 8 rfl bf ?_;obtain⟨Je,hM⟩:=bQ hM;refine aj 9 rfl (mQ (hr:=fun hg=>dI Je)) ?_;obtain⟨y13,FU,hM⟩:=bind_some hM;refine dX 10 rfl (sV (fun hs=>Na _ _ x10.Section 0 ((l0.Sections.length:Int)-1) y13 FU (bq hs)) ⟨rI,?_⟩);refine aj 11 rfl dN ?_;refine aj 12 rfl aH ?_;refine bO 13 rfl rfl (ay 0) ?_;refine bO 14 rfl rfl (aD (b:=b2)) ?_;refine bO 15 rfl rfl aH ?_;obtain⟨iX,hx16,hM⟩:=bind_some hM;refine bO 16 rfl rfl (aQ (xs:=r0.Steps) 2 (kG r0.Steps aC) (fun hg=>let h:=jG (dF hx16 hg);⟨h.1,h.2.1⟩)) ?_;refine bO 17 rfl rfl (ay 1) ?_;refine bO 18 rfl rfl (bE (i:=(bI:Int)) (xs:=r0.Steps) (y:=iX) 1 (kG r0.Steps aC) (fun hg=>dF hx16 hg)) ?_
  obtain⟨zw,Jl,hM⟩:=bind_some hM;refine GJ 19 rfl rfl (fun hg w hm=>let ⟨S,hs⟩:=hm;Na _ w iX.Dir 0 1 zw (dF Jl hg) (bq hs)) ?_;refine bO 20 rfl rfl dN ?_;refine aj 21 rfl bP ?_;refine dK (jC _ _ ?_);clear jC;refine cc rfl hM (fun hc19 hM=>?_) (fun hc19 hM=>?_)
  · refine bg ?_;exact aP (bD hM)
  refine aM (jN _ _ ?_);clear jN;refine aT ?_;refine om ?_;refine oP hM fun hM=>?_;refine oa ?_;refine aU (hL1 hM sS rI)
 refine bX (eH _ _ ?_);clear eH;dsimp only[Vq] at hM;refine aF fun El nH=>?_;refine bg ?_;refine aV ?_;refine lq hM (fun lV=>[(2,eP b1),(3,eP b2),(6,eI (lV:Int))]) (fun lV=>[iL l0.bB aG.1,iL l0.bN aG.2.1,iL l0.Sections aG.2.2.1,iL l0.Links aG.2.2.2,own b1 27 (eD l0 aG),iL r0.Steps aC,own b2 85 (jV r0 aC)]) sS rI ?_;clear hM;rintro cu lV hM qM hL2;dsimp only[Rn] at hM ⊢;refine aF fun CY mF=>?_;refine aJ ?_;refine oe (ay 0) ?_;refine oe (aD (b:=b2)) ?_;refine oe bf ?_;refine oe bK ?_;refine on ?_;refine cc rfl hM (fun hc21 hM=>?_) (fun hc21 hM=>?_)
 ·refine aM (mF _ _ ?_);clear mF;refine aF fun CZ ni=>?_;refine aV ?_;refine bg ?_;refine aV ?_;refine lq hM (fun wW=>[(2,eP b1),(3,eP b2),(6,eI (lV:Int)),(7,eI (wW:Int))]) (fun wW=>[iL l0.bB aG.1,iL l0.bN aG.2.1,iL l0.Sections aG.2.2.1,iL l0.Links aG.2.2.2,own b1 27 (eD l0 aG),iL r0.Steps aC,own b2 85 (jV r0 aC)]) sS rI ?_;clear hM;rintro gY wW hM zC hL3;dsimp only[M8] at hM ⊢;refine aF fun Gy qz=>?_;refine aJ ?_;refine om ?_;refine oe bK ?_;refine on ?_;refine cc rfl hM (fun hc22 hM=>?_) (fun hc22 hM=>?_)
  · refine aM (qz _ _ ?_);clear qz;refine aF fun Gz qA=>?_;refine aV ?_;refine aF fun N7 wR=>?_;refine fE _ (List.Sublist.refl _) ?_;refine aj 0 rfl (ay 0) ?_;refine aj 1 rfl (aD (b:=b2)) ?_;refine aj 2 rfl aH ?_;obtain⟨x23,hx24,hM⟩:=bind_some hM;refine aj 3 rfl (aQ (xs:=r0.Steps) 2 (kG r0.Steps aC) (iS hx24)) ?_;refine aj 4 rfl (ay 0) ?_;refine aj 5 rfl (bE (i:=(wW:Int)) (xs:=r0.Steps) (y:=x23) 0 (kG r0.Steps aC) (fun _=>hx24)) ?_;refine aj 6 rfl (ay 0) ?_;refine aj 7 rfl (aD (b:=b2)) ?_;refine aj 8 rfl aH ?_;obtain⟨x25,vU,hM⟩:=bind_some hM;refine aj 9 rfl (aQ (xs:=r0.Steps) 2 (kG r0.Steps aC) (iS vU)) ?_;refine aj 10 rfl (ay 0) ?_;refine aj 11 rfl (bE (i:=(lV:Int)) (xs:=r0.Steps) (y:=x25) 0 (kG r0.Steps aC) (fun _=>vU)) ?_;refine aj 12 rfl fI ?_;refine dK (wR _ _ ?_);clear wR;refine cc rfl hM (fun hc27 hM=>?_) (fun hc27 hM=>?_)
    ·refine bg ?_;exact aP (bD hM)
    refine aM (qA _ _ ?_);clear qA;refine aT ?_;refine om ?_;refine oP hM fun hM=>?_;refine oa ?_;refine aU (hL3 hM sS rI)
  refine bX (ni _ _ ?_);clear ni;dsimp only[aaL] at hM;refine aT ?_;refine om ?_;refine oP hM fun hM=>?_;refine oa ?_;refine aU (hL2 hM sS rI)
 refine bX (nH _ _ ?_);clear nH;dsimp only[Vr] at hM;refine aF fun IQ rX=>?_;refine bg ?_;refine aV ?_;refine lq hM (fun l7=>[(2,eP b1),(3,eP b2),(8,eI (l7:Int))]) (fun l7=>[iL l0.bB aG.1,iL l0.bN aG.2.1,iL l0.Sections aG.2.2.1,iL l0.Links aG.2.2.2,own b1 27 (eD l0 aG),iL r0.Steps aC,own b2 85 (jV r0 aC)]) sS rI ?_;clear hM;rintro nG l7 hM KF hL4;dsimp only[Ro] at hM ⊢;refine aF fun SF zN=>?_;refine aJ ?_;refine oe (ay 0) ?_;refine oe (aD (b:=b2)) ?_;refine oe bf ?_;refine oe bK ?_;refine on ?_;refine cc rfl hM (fun Jg hM=>?_) (fun Jg hM=>?_)
 ·refine aM (zN _ _ ?_);clear zN;refine aF fun SG xK=>?_;refine aV ?_;refine jm y (k:=Vs l7 nG) (fun Qt=>[(2,eP b1),(3,eP b2),(8,eI (l7:Int)),(10,.v (.bool Qt))]) (fun Qt=>[iL l0.bB aG.1,iL l0.bN aG.2.1,iL l0.Sections aG.2.2.1,iL l0.Links aG.2.2.2,own b1 27 (eD l0 aG),iL r0.Steps aC,own b2 85 (jV r0 aC)]) ?_ ?_
  · intro N8 vS;refine fE _ (List.Sublist.refl _) ?_;refine aj 0 rfl (bM (b:=b1)) ?_;refine aj 1 rfl (ay 0) ?_;refine aj 2 rfl (aD (b:=b2)) ?_;refine aj 3 rfl aH ?_;obtain⟨Yt,hM⟩:=bQ hM;refine aj 4 rfl (mQ (hr:=fun hg=>dI Yt)) ?_;obtain⟨x34,BQ,hM⟩:=bind_some hM;refine aj 5 rfl (aQ (xs:=r0.Steps) 2 (kG r0.Steps aC) (iS BQ)) ?_;refine aj 6 rfl (eY (m:=2) (i:=((l7:Int)-1)) (xs:=r0.Steps) (y:=x34) (l:=(rM x34)) 0 (kG r0.Steps aC) (fun _=>BQ)) ?_;refine aj 7 rfl (ay 0) ?_;refine aj 8 rfl (aD (b:=b2)) ?_;refine aj 9 rfl aH ?_;obtain⟨CQ,Py,hM⟩:=bind_some hM;refine aj 10 rfl (aQ (xs:=r0.Steps) 2 (kG r0.Steps aC) (iS Py)) ?_;refine aj 11 rfl (eY (m:=2) (i:=(l7:Int)) (xs:=r0.Steps) (y:=CQ) (l:=(rM CQ)) 0 (kG r0.Steps aC) (fun _=>Py)) ?_;obtain⟨y38,hy39,hM⟩:=bind_some hM;refine mP 12 16 (⟨_,rfl,rfl,nW (fun w hm=>let ⟨S,hs⟩:=hm;af3 _ w l0 aG x34 CQ y38 hy39 (bq hs) ⟨(kM hs),(kM hs),(kM hs),(kM hs)⟩) ⟨rI,?_⟩⟩) (⟨_,rfl,rfl,iP rfl (k:=fun IZ=>⟨rI,?_⟩)⟩)
    ·refine aj 13 rfl aH ?_;refine aj 14 rfl (jl (vs:=[.agg (N9 y38.1),.bool y38.2])) ?_;refine aj 15 rfl (jl (vs:=[.agg (N9 y38.1),.bool y38.2])) ?_;refine aA 16 rfl rfl fun Fu=>?_;refine aS 17 rfl Fu (Qr y38.1) ?_;refine aj 18 rfl dL ?_;refine dK (vS hM sS rI)
    refine dX 12 rfl (sV (fun hs=>af3 _ _ l0 aG x34 CQ y38 hy39 (bq hs) ⟨(kM hs),(kM hs),(kM hs),(kM hs)⟩) ⟨rI,?_⟩);refine aj 13 rfl aH ?_;refine aj 14 rfl (jl (vs:=[.agg (N9 y38.1),.bool y38.2])) ?_;refine aj 15 rfl (jl (vs:=[.agg (N9 y38.1),.bool y38.2])) ?_;refine aS 17 rfl IZ (Qr y38.1) ?_;refine aj 18 rfl dL ?_;refine dK (vS hM sS rI)
  clear hM;rintro Qt hM;dsimp only[Vs] at hM ⊢;refine aJ ?_;refine oe dN ?_;refine on ?_;refine cc rfl hM (fun hc31 hM=>?_) (fun hc31 hM=>?_)
  · refine bg ?_;exact aP (bD hM)
  refine aM (xK _ _ ?_);clear xK;refine aT ?_;refine om ?_;refine oP hM fun hM=>?_;refine oa ?_;refine aU (hL4 hM sS rI)
 refine bX (rX _ _ ?_);clear rX;dsimp only[afX] at hM;refine bg ?_;exact aP (bD hM)
def J5(p0:Plan)(nS:Int)(hi0:Int):Option Bool:=
 some (((decide (0≤nS)&&decide (nS≤hi0))&&decide (hi0<(IntKind.i64.wrap (nS+p0.eX))))&&decide (hi0≤7200))
theorem aaN(S:bF)(w:World)(p0:Plan)(av:ak.R Plan)(nS:Int)(hi0:Int)(y:Bool)(hM:J5 p0 nS hi0=some y)(hS:sB S w)(gB:ak.ok S w av p0):
  Calls Tryz.prog 89 #[.agg (mO p0 av),vI nS,vI hi0] w (dw w (.bool y)):=by
 refine bW (args:=[_,_,_]) Tryz.func89 rfl ((pre_nil hS).start |>.oL gB) rfl ?_;unfold J5 at hM;refine sr ?_;refine oB (fZ p0 av) fun b1=>?_;refine aL ?_;refine aJ ?_;refine oe ig ?_;refine om ?_;refine au rfl aH ?_;refine au rfl aH ?_;refine au rfl kD ?_;refine oe dB ?_;refine om ?_;refine au rfl aH ?_;refine au rfl aH ?_
 refine au rfl (ay 0) ?_;refine au rfl (aD (b:=b1)) ?_;refine au rfl KZ ?_;refine au rfl bK ?_;refine oe dB ?_;refine om ?_;refine au rfl aH ?_;refine au rfl kD ?_;refine oe dB ?_;refine aL ?_;exact aP (bD hM)
def aaK(bI:Nat)(aN:((List Cell)×Nat)→Option ((List Cell)×Int×Int))(ED:List Cell):Unit→Option ((List Cell)×Int×Int):=fun _=>
 aX (bA ((bI:Int)+1))<|
 aN (ED,bI+1)
def Rk(dz:Section)(Dl:Int)(bI:Nat)(aN:((List Cell)×Nat)→Option ((List Cell)×Int×Int))(cu:((List Cell)×Nat)→Option ((List Cell)×Int×Int)):((List Cell)×Nat)→Option ((List Cell)×Int×Int):=fun (ED,d9)=>
 if decide ((d9:Int)<dz.Length) then
  (aX (decide ((ED.length+([(Cell.mk dz.Limit Dl)]:List Cell).length)*16≤140737488355328))<|
  aX (bA ((d9:Int)+1))<|
  cu ((ED++([(Cell.mk dz.Limit Dl)]:List Cell)),d9+1))
 else
  (aaK bI aN ED ())
def Ia(dz:Section)(bI:Nat)(aN:((List Cell)×Nat)→Option ((List Cell)×Int×Int))(xP:List Cell):Int→Option ((List Cell)×Int×Int):=fun Dl=>
 iter (Rk dz Dl bI aN) FUEL (xP,0)
def aaJ(xP:List Cell)(r0:aO)(l0:Layout):Unit→Option ((List Cell)×Int×Int):=fun _=>
 if decide (4000<(xP.length:Int)) then
  (some (([]:List Cell),0,7))
 else
  ((idx r0.Steps 0).bind fun x27=>
  (idx l0.Sections x27.Section).bind fun x29=>
  some (xP,x29.Length,0))
def Rj(r0:aO)(l0:Layout)(aN:((List Cell)×Nat)→Option ((List Cell)×Int×Int)):((List Cell)×Nat)→Option ((List Cell)×Int×Int):=fun (xP,bI)=>
 aX (bA ((r0.Steps.length:Int)-r0.Overlap))<|
 if decide ((bI:Int)<((r0.Steps.length:Int)-r0.Overlap)) then
  ((idx r0.Steps (bI:Int)).bind fun x10=>
  (idx l0.Sections x10.Section).bind fun dz=>
  (idx r0.Steps (bI:Int)).bind fun x21=>
  if decide (x21.Dir=1) then
   (aX (bA (-dz.kr))<|
   Ia dz bI aN xP (-dz.kr))
  else
   (Ia dz bI aN xP dz.kr))
 else
  (aaJ xP r0 l0 ())
def Rl(l0:Layout)(r0:aO):Option ((List Cell)×Int×Int):=
 (J4 l0 r0).bind fun y3=>
 if decide (y3≠0) then
  (some (([]:List Cell),0,y3))
 else
  (iter (Rj r0 l0) FUEL (([]:List Cell),0))
theorem amF(S:bF)(w:World)(l0:Layout)(aG:ak.R Layout)(r0:aO)(aC:ak.R aO)(y:(List Cell)×Int×Int)(hM:Rl l0 r0=some y)(hS:sB S w)(eT:ak.ok S w aG l0)(ku:ak.ok S w aC r0):
   Calls Tryz.prog 113 #[.agg (lX l0 aG),.agg (Ao r0 aC)] w (Post (β:=(ak.R (List Cell))) S [] (fun g=> .tuple #[sL g y.1,vI y.2.1,vI y.2.2]) (fun g=>[ah 212 g y.1]) w):=by
 refine bW (args:=[_,_]) Tryz.func113 rfl ((pre_nil hS).start |>.ny eT|>.dZ (α:=List Step) (r:=aC) (x:=r0.Steps) ku) rfl ?_;unfold Rl at hM;refine sr ?_;refine oB (eD l0 aG) fun b1=>?_;refine oB (jV r0 aC) fun b2=>?_;refine oa ?_;refine oa ?_;refine aL ?_;refine aF fun K2 hK2=>?_;refine sr ?_;refine oe (bM (b:=b1)) ?_;refine oe (bM (b:=b2)) ?_;obtain⟨y3,hy4,hM⟩:=bind_some hM;refine cv (fun hs=>afY _ _ l0 aG r0 aC y3 hy4 (bq hs) ⟨(kM hs),(kM hs),(kM hs),(kM hs)⟩ (kM hs)) ?_;refine aL ?_;refine aJ ?_;refine oe gH ?_;refine on ?_
 refine cc rfl hM (fun jO hM=>?_) (fun jO hM=>?_)
 ·refine aJ ?_;refine oa ?_;refine oa ?_;refine aL ?_;refine dJ (fun w hm=>hm.dR (α:=Cell) 212 (fun _=>())) ?_;obtain rfl:=some_inj hM;refine aP (EB (fun w hm=>gK EP hm rfl))
 refine aM (hK2 _ _ ?_);clear hK2;refine bg ?_;refine aF fun K7 eU=>?_;refine bg ?_;refine aV ?_;refine dJ (fun w hm=>hm.dR (α:=Cell) 212 (fun _=>())) ?_;refine lp EP hM (fun (xP,bI) H6=>[(2,eP b1),(3,eP b2),(8,eS H6 xP),(9,eI (bI:Int))]) (fun (xP,bI) H6=>[iL l0.bB aG.1,iL l0.bN aG.2.1,iL l0.Sections aG.2.2.1,iL l0.Links aG.2.2.2,own b1 27 (eD l0 aG),iL r0.Steps aC,own b2 85 (jV r0 aC),ah 212 H6 xP]) sS rI ?_;clear hM;rintro aN ⟨xP,bI⟩ H6 hM fQ hL1;dsimp only[Rj] at hM ⊢;refine aF fun K9 dY=>?_;refine aJ ?_;refine oe (ay 0) ?_;refine oe (aD (b:=b2)) ?_;refine oe bf ?_;refine oe (ay 1) ?_
 refine oe (aD (b:=b2)) ?_;refine oN hM fun hM=>?_;refine oe bK ?_;refine on ?_;refine cc rfl hM (fun rY hM=>?_) (fun rY hM=>?_)
 ·refine aM (dY _ _ ?_);clear dY;refine aF fun pR eH=>?_;refine aV ?_;refine aF fun vN iI=>?_;refine fE _ (List.Sublist.refl _) ?_;refine aj 0 rfl (ay 2) ?_;refine aj 1 rfl (aD (b:=b1)) ?_;refine aj 2 rfl (ay 0) ?_;refine aj 3 rfl (aD (b:=b2)) ?_;refine aj 4 rfl aH ?_;obtain⟨x10,lT,hM⟩:=bind_some hM;refine aj 5 rfl (aQ (xs:=r0.Steps) 2 (kG r0.Steps aC) (iS lT)) ?_;refine aj 6 rfl (ay 0) ?_;refine aj 7 rfl (bE (i:=(bI:Int)) (xs:=r0.Steps) (y:=x10) 0 (kG r0.Steps aC) (fun _=>lT)) ?_;obtain⟨dz,lU,hM⟩:=bind_some hM;refine aj 8 rfl (aQ (xs:=l0.Sections) 5 (kG l0.Sections aG.2.2.1) (iS lU)) ?_;refine aj 9 rfl (eY (m:=5) (i:=x10.Section) (xs:=l0.Sections) (y:=dz) (l:=(Bc dz)) 0 (kG l0.Sections aG.2.2.1) (fun _=>lU)) ?_;refine aA 10 rfl rfl fun b14=>?_;refine aS 11 rfl b14 (Bc dz) ?_;refine dK (iI _ _ ?_);clear iI;refine sr ?_
  refine oe (ay 3) ?_;refine oe (aD (b:=b14)) ?_;refine aL ?_;refine jm y (k:=Ia dz bI aN xP) (fun Dl=>[(2,eP b1),(3,eP b2),(8,eS H6 xP),(9,eI (bI:Int)),(10,eP b14),(11,eI Dl)]) (fun Dl=>[iL l0.bB aG.1,iL l0.bN aG.2.1,iL l0.Sections aG.2.2.1,iL l0.Links aG.2.2.2,own b1 27 (eD l0 aG),iL r0.Steps aC,own b2 85 (jV r0 aC),ah 212 H6 xP,own b14 72 (Bc dz)]) ?_ ?_
  · intro IU hJ3;refine sr ?_;refine oe (ay 0) ?_;refine oe (aD (b:=b2)) ?_;refine om ?_;obtain⟨x21,vT,hM⟩:=bind_some hM;refine oe (aQ (xs:=r0.Steps) 2 (kG r0.Steps aC) (iS vT)) ?_;refine oe (ay 1) ?_;refine oe (bE (i:=(bI:Int)) (xs:=r0.Steps) (y:=x21) 1 (kG r0.Steps aC) (fun _=>vT)) ?_;refine oe fI ?_;refine on ?_;refine cc rfl hM (fun yN hM=>?_) (fun yN hM=>?_)
    ·refine aT ?_;refine om ?_;obtain⟨aiR,hM⟩:=bQ hM;refine oe (GX (hr:=fun hg=>dI aiR)) ?_;refine oa ?_;refine aU (hJ3 hM sS rI)
    refine aM (hJ3 hM sS rI)
  clear hM;rintro Dl hM;dsimp only[Ia] at hM ⊢;refine bg ?_;refine aV ?_;refine lp H6 hM (fun (ED,d9) MW=>[(2,eP b1),(3,eP b2),(8,eS MW ED),(9,eI (bI:Int)),(10,eP b14),(11,eI Dl),(12,eI (d9:Int))]) (fun (ED,d9) MW=>[iL l0.bB aG.1,iL l0.bN aG.2.1,iL l0.Sections aG.2.2.1,iL l0.Links aG.2.2.2,own b1 27 (eD l0 aG),iL r0.Steps aC,own b2 85 (jV r0 aC),ah 212 MW ED,own b14 72 (Bc dz)]) sS rI ?_;clear hM;rintro cu ⟨ED,d9⟩ MW hM qM hL2;dsimp only[Rk] at hM ⊢;refine aF fun yE jN=>?_;refine aJ ?_;refine oe (ay 1) ?_;refine oe (aD (b:=b14)) ?_;refine oe bK ?_
  refine on ?_;refine cc rfl hM (fun zP hM=>?_) (fun zP hM=>?_)
  · refine aM (jN _ _ ?_);clear jN;refine aF fun Fh oG=>?_;refine aV ?_;refine aT ?_;refine om ?_;refine oe (ay 2) ?_;refine oe (aD (b:=b14)) ?_;refine om ?_;refine oe (gD [vI dz.Limit,vI Dl]) ?_;refine aY (fH (α:=Cell) 212 (fun _=>()) ([(Cell.mk dz.Limit Dl)]:List Cell) oF (fun r16=>?_));obtain⟨Pk,hM⟩:=bQ hM;refine aY (jy (r:=MW) (r2:=r16) uR (Kn.ah (e:=212) (r:=r16) hA) oF (of_decide_eq_true Pk) (fun jv=>?_));refine oa ?_;refine aU (oG _ _ ?_);clear oG;refine aT ?_;refine om ?_;refine oP hM fun hM=>?_;refine oa ?_;refine aU (hL2 jv hM sS rI)
  refine bX (eH _ _ ?_);clear eH;dsimp only[aaK] at hM;refine aT ?_;refine om ?_;refine oP hM fun hM=>?_;refine oa ?_;refine aU (hL1 MW hM sS rI)
 refine bX (eU _ _ ?_);clear eU;dsimp only[aaJ] at hM;refine aF fun CX mE=>?_;refine aJ ?_;refine oe bf ?_;refine oe eO ?_;refine on ?_;refine cc rfl hM (fun hc25 hM=>?_) (fun hc25 hM=>?_)
 ·refine sr ?_;refine oa ?_;refine oa ?_;refine aL ?_;refine dJ (fun w hm=>hm.dR (α:=Cell) 212 (fun _=>())) ?_;obtain rfl:=some_inj hM;refine aP (EB (fun w hm=>gK EP hm rfl))
 refine aM (mE _ _ ?_);clear mE;refine aF fun CZ ni=>?_;refine fE _ (List.Sublist.refl _) ?_;refine aj 0 rfl aH ?_;refine aj 1 rfl (ay 2) ?_;refine aj 2 rfl (aD (b:=b1)) ?_;refine aj 3 rfl (ay 0) ?_;refine aj 4 rfl (aD (b:=b2)) ?_;obtain⟨x27,hx28,hM⟩:=bind_some hM;refine aj 5 rfl (aQ (xs:=r0.Steps) 2 (kG r0.Steps aC) (iS hx28)) ?_;refine aj 6 rfl (ay 0) ?_;refine aj 7 rfl (bE (i:=0) (xs:=r0.Steps) (y:=x27) 0 (kG r0.Steps aC) (fun _=>hx28)) ?_;obtain⟨x29,FP,hM⟩:=bind_some hM;refine aj 8 rfl (aQ (xs:=l0.Sections) 5 (kG l0.Sections aG.2.2.1) (iS FP)) ?_;refine aj 9 rfl (ay 1) ?_;refine aj 10 rfl (bE (i:=x27.Section) (xs:=l0.Sections) (y:=x29) 1 (kG l0.Sections aG.2.2.1) (fun _=>FP)) ?_;refine aj 11 rfl dL ?_;refine aj 12 rfl dL ?_;refine aj 13 rfl dL ?_;refine dK (ni _ _ ?_);clear ni;obtain rfl:=some_inj hM;refine aP (EB (fun w hm=>gK H6 hm rfl))
def af0:Unit→Option Int:=fun _=>
 some 0
def Vt(r0:aO)(l0:Layout)(s0:bL)(aN:Nat→Option Int):Nat→Option Int:=fun bI=>
 aX (bA ((r0.Steps.length:Int)-r0.Overlap))<|
 if decide ((bI:Int)<((r0.Steps.length:Int)-r0.Overlap)) then
  ((idx r0.Steps (bI:Int)).bind fun iw=>
  (idx l0.Sections iw.Section).bind fun iX=>
  if decide (iX.Length<(if s0.Length>2 then s0.Length else 2)) then
   (some 12)
  else
   (aX (bA ((bI:Int)+1))<|
   aN (bI+1)))
 else
  (af0 ())
def Rp(l0:Layout)(r0:aO)(s0:bL):Option Int:=
 (Rl l0 r0).bind fun y4=>
 if decide (y4.2.2≠0) then
  (some y4.2.2)
 else
  ((M9 s0).bind fun y8=>
  if (!y8) then
   (some 1)
  else
   (iter (Vt r0 l0 s0) FUEL 0))
theorem amG(S:bF)(w:World)(l0:Layout)(aG:ak.R Layout)(r0:aO)(aC:ak.R aO)(s0:bL)(y:Int)(hM:Rp l0 r0 s0=some y)(hS:sB S w)(eT:ak.ok S w aG l0)(ku:ak.ok S w aC r0):
   Calls Tryz.prog 90 #[.agg (lX l0 aG),.agg (Ao r0 aC),.agg (IX s0)] w (dw w (vI y)):=by
 refine bW (args:=[_,_,_]) Tryz.func90 rfl ((pre_nil hS).start |>.ny eT|>.dZ (α:=List Step) (r:=aC) (x:=r0.Steps) ku) rfl ?_;unfold Rp at hM;refine sr ?_;refine oB (eD l0 aG) fun b1=>?_;refine oB (jV r0 aC) fun b2=>?_;refine oB (vg s0) fun b3=>?_;refine aL ?_;refine aF fun K2 hK2=>?_;refine sr ?_;refine oe (bM (b:=b1)) ?_;refine oe (bM (b:=b2)) ?_;obtain⟨y4,FZ,hM⟩:=bind_some hM;refine aY (fP jL.nil (fun S w hs hP=>amF _ w l0 aG r0 aC y4 FZ (bq hs) ⟨(kM hs),(kM hs),(kM hs),(kM hs)⟩ (kM hs)) fO (fun r6=>?_));dsimp only[cA,nA];refine om ?_;refine oe (jl (vs:=[sL r6 y4.1,vI y4.2.1,vI y4.2.2])) ?_
 refine oe (jl (vs:=[sL r6 y4.1,vI y4.2.1,vI y4.2.2])) ?_;refine oe (jl (vs:=[sL r6 y4.1,vI y4.2.1,vI y4.2.2])) ?_;refine oa ?_;refine oa ?_;refine aL ?_;refine aJ ?_;refine oe gH ?_;refine on ?_;refine cc rfl hM (fun lY hM=>?_) (fun lY hM=>?_)
 ·refine aJ ?_;refine aL ?_;exact aP (bD hM)
 refine aM (hK2 _ _ ?_);clear hK2;refine aF fun K6 bU=>?_;refine sr ?_;refine oe (bM (b:=b3)) ?_;obtain⟨y8,qR,hM⟩:=bind_some hM;refine cv (fun hs=>afZ _ _ s0 y8 qR (bq hs)) ?_;refine oe dN ?_;refine on ?_;refine cc rfl hM (fun uQ hM=>?_) (fun uQ hM=>?_)
 ·refine bg ?_;exact aP (bD hM)
 refine aM (bU _ _ ?_);clear bU;refine aF fun K9 dY=>?_;refine bg ?_;refine aV ?_;refine lq hM (fun bI=>[(3,eP b1),(4,eP b2),(5,eP b3),(10,eI (bI:Int))]) (fun bI=>[iL l0.bB aG.1,iL l0.bN aG.2.1,iL l0.Sections aG.2.2.1,iL l0.Links aG.2.2.2,own b1 27 (eD l0 aG),iL r0.Steps aC,own b2 85 (jV r0 aC),own b3 62 (vg s0)]) sS rI ?_;clear hM;rintro aN bI hM fQ hL1;dsimp only[Vt] at hM ⊢;refine aF fun pR eH=>?_;refine aJ ?_;refine oe (ay 0) ?_;refine oe (aD (b:=b2)) ?_;refine oe bf ?_;refine oe (ay 1) ?_;refine oe (aD (b:=b2)) ?_;refine oN hM fun hM=>?_;refine oe bK ?_
 refine on ?_;refine cc rfl hM (fun qQ hM=>?_) (fun qQ hM=>?_)
 ·refine aM (eH _ _ ?_);clear eH;refine aF fun rU fT=>?_;refine aV ?_;refine aF fun zA kg=>?_;refine fE _ (List.Sublist.refl _) ?_;refine aj 0 rfl (ay 2) ?_;refine aj 1 rfl (aD (b:=b1)) ?_;refine aj 2 rfl (ay 0) ?_;refine aj 3 rfl (aD (b:=b2)) ?_;refine aj 4 rfl aH ?_;obtain⟨iw,qB,hM⟩:=bind_some hM;refine aj 5 rfl (aQ (xs:=r0.Steps) 2 (kG r0.Steps aC) (iS qB)) ?_;refine aj 6 rfl (ay 0) ?_;refine aj 7 rfl (bE (i:=(bI:Int)) (xs:=r0.Steps) (y:=iw) 0 (kG r0.Steps aC) (fun _=>qB)) ?_;obtain⟨iX,hx16,hM⟩:=bind_some hM;refine aj 8 rfl (aQ (xs:=l0.Sections) 5 (kG l0.Sections aG.2.2.1) (iS hx16)) ?_;refine aj 9 rfl (ay 1) ?_;refine aj 10 rfl (bE (i:=iw.Section) (xs:=l0.Sections) (y:=iX) 1 (kG l0.Sections aG.2.2.1) (fun _=>hx16)) ?_;refine aj 11 rfl (ay 1) ?_;refine aj 12 rfl (aD (b:=b3)) ?_;refine aj 13 rfl acP ?_;refine aj 14 rfl bK ?_;refine dK (kg _ _ ?_);clear kg;refine cc rfl hM (fun hc17 hM=>?_) (fun hc17 hM=>?_)
  · refine bg ?_;exact aP (bD hM)
  refine aM (fT _ _ ?_);clear fT;refine aT ?_;refine om ?_;refine oP hM fun hM=>?_;refine oa ?_;refine aU (hL1 hM sS rI)
 refine bX (dY _ _ ?_);clear dY;dsimp only[af0] at hM;refine bg ?_;exact aP (bD hM)
def Ib(r0:aO):Option Int:=
 (idx r0.Steps 0).bind fun x2=>
 some x2.Section
theorem VI(S:bF)(w:World)(r0:aO)(aC:ak.R aO)(y:Int)(hM:Ib r0=some y)(hS:sB S w)(ku:ak.ok S w aC r0):
  Calls Tryz.prog 21 #[.agg (Ao r0 aC)] w (dw w (vI y)):=by
 refine bW (args:=[_]) Tryz.func21 rfl ((pre_nil hS).start |>.dZ (α:=List Step) (r:=aC) (x:=r0.Steps) ku) rfl ?_;unfold Ib at hM;refine sr ?_;refine oB (jV r0 aC) fun b1=>?_;refine aL ?_;refine sr ?_;refine oe (ay 0) ?_;refine oe (aD (b:=b1)) ?_;obtain⟨x2,hx3,hM⟩:=bind_some hM;refine oe (aQ (xs:=r0.Steps) 2 (kG r0.Steps aC) (iS hx3)) ?_;refine oe (ay 0) ?_;refine oe (bE (i:=0) (xs:=r0.Steps) (y:=x2) 0 (kG r0.Steps aC) (fun _=>hx3)) ?_;refine aL ?_;exact aP (bD hM)
def Ic(r0:aO):Option Int:=
 aX (bA ((r0.Steps.length:Int)-r0.Overlap))<|
 aX (bA (((r0.Steps.length:Int)-r0.Overlap)-1))<|
 (idx r0.Steps (((r0.Steps.length:Int)-r0.Overlap)-1)).bind fun x4=>
 some x4.Section
theorem VJ(S:bF)(w:World)(r0:aO)(aC:ak.R aO)(y:Int)(hM:Ic r0=some y)(hS:sB S w)(ku:ak.ok S w aC r0):
  Calls Tryz.prog 23 #[.agg (Ao r0 aC)] w (dw w (vI y)):=by
 refine bW (args:=[_]) Tryz.func23 rfl ((pre_nil hS).start |>.dZ (α:=List Step) (r:=aC) (x:=r0.Steps) ku) rfl ?_;unfold Ic at hM;refine sr ?_;refine oB (jV r0 aC) fun b1=>?_;refine aL ?_;refine sr ?_;refine oe (ay 0) ?_;refine oe (aD (b:=b1)) ?_;refine oe (ay 0) ?_;refine oe (aD (b:=b1)) ?_;refine oe bf ?_;refine oe (ay 1) ?_;refine oe (aD (b:=b1)) ?_;refine oN hM fun hM=>?_;refine oN hM fun hM=>?_;obtain⟨x4,hx5,hM⟩:=bind_some hM;refine oe (aQ (xs:=r0.Steps) 2 (kG r0.Steps aC) (iS hx5)) ?_;refine oe (ay 0) ?_;refine oe (bE (i:=(((r0.Steps.length:Int)-r0.Overlap)-1)) (xs:=r0.Steps) (y:=x4) 0 (kG r0.Steps aC) (fun _=>hx5)) ?_;refine aL ?_;exact aP (bD hM)
def af5:Unit→Option Int:=fun _=>
 some 0
def Rw(x3:Line)(p0:Plan)(l0:Layout)(cu:Nat→Option Int):Nat→Option Int:=fun d9=>
 if decide ((d9:Int)<(x3.bC.length:Int)) then
  ((idx x3.bC (d9:Int)).bind fun ko=>
  aX (bA ((x3.bC.length:Int)-1))<|
  aX (bA ((p0.Routes.length:Int)-1))<|
  (sQ ko.aO 0 ((p0.Routes.length:Int)-1)).bind fun y27=>
  aX (!(!(!y27))||bA (p0.eX-1))<|
  (dW (!(!y27)) default (sQ ko.Extra 0 (p0.eX-1))).bind fun o9=>
  (dW (!((!y27)||(!o9))) default (J5 p0 ko.Min ko.Max)).bind fun y32=>
  if ((((!y27)||(!o9))||(!y32))||(decide ((d9:Int)=((x3.bC.length:Int)-1))&&(decide (ko.Min≠0)||decide (ko.Max≠0)))) then
   (some 4)
  else
   ((idx p0.Routes ko.aO).bind fun tJ=>
   (idx p0.bJ x3.bL).bind fun yC=>
   (Rp l0 tJ yC).bind fun y39=>
   if decide (y39≠0) then
    (some y39)
   else
    ((dW (decide (0<(d9:Int))) default (idx p0.Routes ko.aO)).bind fun lG=>
    if decide (0<(d9:Int)) then
    (aX (bA ((d9:Int)-1))<|
    (idx x3.bC ((d9:Int)-1)).bind fun oD=>
    (idx p0.Routes oD.aO).bind fun Sy=>
    (Ib lG).bind fun Ky=>
    (Ic Sy).bind fun qY=>
    if (decide (0<(d9:Int))&&decide (Ky≠qY)) then
     (some 11)
    else
     (aX (bA ((d9:Int)+1))<|
     cu (d9+1)))
    else
    (aX (bA ((d9:Int)+1))<|
    cu (d9+1)))))
 else
  (af5 ())
def VL(p0:Plan)(x3:Line)(l0:Layout):Unit→Option Int:=fun _=>
 aX (bA ((p0.bJ.length:Int)-1))<|
 (sQ x3.bL 0 ((p0.bJ.length:Int)-1)).bind fun BF=>
 (dW (!(!BF)) default (sQ x3.Weight 0 1048576)).bind fun zw=>
 if ((!BF)||(!zw)) then
  (some 4)
 else
  (if decide ((x3.bC.length:Int)=0) then
   (some 1)
  else
   (iter (Rw x3 p0 l0) FUEL 0))
def VK(i0:Int)(p0:Plan)(x3:Line)(l0:Layout)(aN:Nat→Option Int):Nat→Option Int:=fun jc=>
 if decide ((jc:Int)<i0) then
  ((idx p0.Lines (jc:Int)).bind fun x10=>
  if decide (x10.Name=x3.Name) then
   (some 5)
  else
   (aX (bA ((jc:Int)+1))<|
   aN (jc+1)))
 else
  (VL p0 x3 l0 ())
def Nf(l0:Layout)(p0:Plan)(i0:Int):Option Int:=
 (idx p0.Lines i0).bind fun x3=>
 (J3 x3.Name).bind fun y6=>
 if (!y6) then
  (some 3)
 else
  (iter (VK i0 p0 x3 l0) FUEL 0)
theorem amK(S:bF)(w:World)(l0:Layout)(aG:ak.R Layout)(p0:Plan)(av:ak.R Plan)(i0:Int)(y:Int)(hM:Nf l0 p0 i0=some y)(hS:sB S w)(eT:ak.ok S w aG l0)(gB:ak.ok S w av p0):
   Calls Tryz.prog 49 #[.agg (lX l0 aG),.agg (mO p0 av),vI i0] w (dw w (vI y)):=by
 refine bW (args:=[_,_,_]) Tryz.func49 rfl ((pre_nil hS).start |>.ny eT|>.oL gB) rfl ?_;unfold Nf at hM;refine sr ?_;refine oB (eD l0 aG) fun b1=>?_;refine oB (fZ p0 av) fun b2=>?_
 refine aL ?_;refine sr ?_;refine oe (ay 3) ?_;refine oe (aD (b:=b2)) ?_;refine om ?_;obtain⟨x3,hx4,hM⟩:=bind_some hM;refine oe (aQ (xs:=p0.Lines) 4 (kG p0.Lines av.2.2.1) (iS hx4)) ?_;refine oe (eY (m:=4) (i:=i0) (xs:=p0.Lines) (y:=x3) (l:=(mR x3 (av.2.2.1.es i0.toNat))) 0 (kG p0.Lines av.2.2.1) (fun _=>hx4)) ?_;refine oA rfl fun b5=>?_;refine oS b5 (mR x3 (av.2.2.1.es i0.toNat)) ?_;refine on ?_;refine aF fun K3 hK3=>?_;refine sr ?_;refine oe (ay 0) ?_;refine oe (aD (b:=b5)) ?_;obtain⟨y6,rZ,hM⟩:=bind_some hM;refine cv (fun hs=>aaA _ _ x3.Name y6 rZ (bq hs)) ?_;refine oe dN ?_;refine on ?_;refine cc rfl hM (fun hc8 hM=>?_) (fun hc8 hM=>?_)
 ·refine bg ?_;exact aP (bD hM)
 refine aM (hK3 _ _ ?_);clear hK3;refine aF fun K6 bU=>?_;refine bg ?_;refine aV ?_;refine lq hM (fun jc=>[(2,eI i0),(3,eP b1),(4,eP b2),(7,eP b5),(8,eI (jc:Int))]) (fun jc=>[iL l0.bB aG.1,iL l0.bN aG.2.1,iL l0.Sections aG.2.2.1,iL l0.Links aG.2.2.2,own b1 27 (eD l0 aG),iL p0.bJ av.1,iL p0.Routes av.2.1,iL p0.Lines av.2.2.1,iL p0.Changes av.2.2.2.1,iL p0.Turns av.2.2.2.2.1,iL p0.dx av.2.2.2.2.2.1,iL p0.dn av.2.2.2.2.2.2,own b2 36 (fZ p0 av),own b5 47 (mR x3 (av.2.2.1.es i0.toNat))]) sS rI ?_
 clear hM;rintro aN jc hM fQ hL1;dsimp only[VK] at hM ⊢;refine aF fun K8 fu=>?_;refine aJ ?_;refine om ?_;refine oe bK ?_;refine on ?_;refine cc rfl hM (fun rY hM=>?_) (fun rY hM=>?_)
 ·refine aM (fu _ _ ?_);clear fu;refine aF fun sK gy=>?_;refine aV ?_;refine aF fun pR eH=>?_;refine fE _ (List.Sublist.refl _) ?_;refine aj 0 rfl (ay 3) ?_;refine aj 1 rfl (aD (b:=b2)) ?_;refine aj 2 rfl aH ?_;obtain⟨x10,lT,hM⟩:=bind_some hM;refine aj 3 rfl (aQ (xs:=p0.Lines) 4 (kG p0.Lines av.2.2.1) (iS lT)) ?_;refine aj 4 rfl (ay 0) ?_;refine aj 5 rfl (bE (i:=(jc:Int)) (xs:=p0.Lines) (y:=x10) 0 (kG p0.Lines av.2.2.1) (fun _=>lT)) ?_;refine aj 6 rfl (ay 0) ?_;refine aj 7 rfl (aD (b:=b5)) ?_;refine aj 8 rfl Lf ?_;refine dK (eH _ _ ?_);clear eH;refine cc rfl hM (fun qQ hM=>?_) (fun qQ hM=>?_)
  · refine bg ?_;exact aP (bD hM)
  refine aM (gy _ _ ?_);clear gy;refine aT ?_;refine om ?_;refine oP hM fun hM=>?_;refine oa ?_;refine aU (hL1 hM sS rI)
 refine bX (bU _ _ ?_);clear bU;dsimp only[VL] at hM;refine aF fun rU fT=>?_;refine sr ?_;refine oe (ay 1) ?_;refine oe (aD (b:=b5)) ?_;refine oe (ay 1) ?_;refine oe (aD (b:=b2)) ?_;refine oe bf ?_;refine oN hM fun hM=>?_;obtain⟨BF,PG,hM⟩:=bind_some hM;refine cv (fun hs=>Ab _ _ x3.bL 0 ((p0.bJ.length:Int)-1) BF PG (bq hs)) ?_;refine oe dN ?_;refine om ?_;refine au rfl (ay 2) ?_;refine au rfl (aD (b:=b5)) ?_;obtain⟨zw,Jl,hM⟩:=bind_some hM;refine cg rfl (fun hg hs=>Ab _ _ x3.Weight 0 1048576 zw (dF Jl hg) (bq hs)) ?_;refine au rfl dN ?_;refine oe bP ?_;refine on ?_;refine cc rfl hM (fun hc19 hM=>?_) (fun hc19 hM=>?_)
 ·refine bg ?_;exact aP (bD hM)
 refine aM (fT _ _ ?_);clear fT;refine aF fun yF jC=>?_;refine sr ?_;refine oe (ay 3) ?_;refine oe (aD (b:=b5)) ?_;refine oe bf ?_;refine oe fI ?_;refine on ?_;refine cc rfl hM (fun Az hM=>?_) (fun Az hM=>?_)
 ·refine bg ?_;exact aP (bD hM)
 refine aM (jC _ _ ?_);clear jC;refine aF fun CX mE=>?_;refine bg ?_;refine aV ?_;refine lq hM (fun d9=>[(3,eP b1),(4,eP b2),(7,eP b5),(9,eI (d9:Int))]) (fun d9=>[iL l0.bB aG.1,iL l0.bN aG.2.1,iL l0.Sections aG.2.2.1,iL l0.Links aG.2.2.2,own b1 27 (eD l0 aG),iL p0.bJ av.1,iL p0.Routes av.2.1,iL p0.Lines av.2.2.1,iL p0.Changes av.2.2.2.1,iL p0.Turns av.2.2.2.2.1,iL p0.dx av.2.2.2.2.2.1,iL p0.dn av.2.2.2.2.2.2,own b2 36 (fZ p0 av),own b5 47 (mR x3 (av.2.2.1.es i0.toNat))]) sS rI ?_
 clear hM;rintro cu d9 hM qM hL2;dsimp only[Rw] at hM ⊢;refine aF fun KC uw=>?_;refine aJ ?_;refine oe (ay 3) ?_;refine oe (aD (b:=b5)) ?_;refine oe bf ?_;refine oe bK ?_;refine on ?_;refine cc rfl hM (fun hc21 hM=>?_) (fun hc21 hM=>?_)
 ·refine aM (uw _ _ ?_);clear uw;refine aF fun SC xJ=>?_;refine aV ?_;refine sr ?_;refine oe (ay 3) ?_;refine oe (aD (b:=b5)) ?_;refine om ?_;obtain⟨ko,Dw,hM⟩:=bind_some hM;refine oe (aQ (xs:=x3.bC) 4 ((Sk.elem (Sk.cO (α:=List Line) (r:=av.2.2.1) (x:=p0.Lines) hA) hx4)).kn (iS Dw)) ?_;refine oe (eY (m:=4) (i:=(d9:Int)) (xs:=x3.bC) (y:=ko) (l:=(Bb ko)) 0 ((Sk.elem (Sk.cO (α:=List Line) (r:=av.2.2.1) (x:=p0.Lines) hA) hx4)).kn (fun _=>Dw)) ?_;refine oA rfl fun zK=>?_;refine oS zK (Bb ko) ?_;refine on ?_;refine aJ ?_;refine oe (ay 3) ?_;refine oe (aD (b:=b5)) ?_;refine oe bf ?_;refine oN hM fun hM=>?_;refine oe fI ?_;refine aL ?_;refine aF fun Gz qA=>?_;refine sr ?_;refine oe (ay 0) ?_;refine oe (aD (b:=zK)) ?_;refine oe (ay 2) ?_;refine oe (aD (b:=b2)) ?_;refine oe bf ?_;obtain⟨Jf,hM⟩:=bQ hM
  refine oe (mQ (hr:=fun hg=>dI Jf)) ?_;obtain⟨y27,hy28,hM⟩:=bind_some hM;refine cv (fun hs=>Ab _ _ ko.aO 0 ((p0.Routes.length:Int)-1) y27 hy28 (bq hs)) ?_;refine oe dN ?_;refine om ?_;refine au rfl (ay 1) ?_;refine au rfl (aD (b:=zK)) ?_;refine au rfl (ay 0) ?_;refine au rfl (aD (b:=b2)) ?_;obtain⟨aiS,hM⟩:=bQ hM;refine au rfl (mQ (hr:=fun hg=>dI (tL aiS hg))) ?_;obtain⟨o9,hy31,hM⟩:=bind_some hM;refine cg rfl (fun hg hs=>Ab _ _ ko.Extra 0 (p0.eX-1) o9 (dF hy31 hg) (bq hs)) ?_;refine au rfl dN ?_;refine oe bP ?_;refine om ?_;refine au rfl (bM (b:=b2)) ?_;refine au rfl (ay 2) ?_;refine au rfl (aD (b:=zK)) ?_;refine au rfl (ay 3) ?_;refine au rfl (aD (b:=zK)) ?_;obtain⟨y32,Zp,hM⟩:=bind_some hM;refine cg rfl (fun hg hs=>aaN _ _ p0 av ko.Min ko.Max y32 (dF Zp hg) (bq hs) ⟨(kM hs),(kM hs),(kM hs),(kM hs),(kM hs),(kM hs),(kM hs)⟩) ?_;refine au rfl dN ?_;refine oe bP ?_;refine om ?_;refine au rfl aH ?_;refine au rfl aH ?_;refine au rfl (ay 2) ?_;refine au rfl (aD (b:=zK)) ?_;refine au rfl gH ?_;refine au rfl aH ?_
  refine au rfl (ay 3) ?_;refine au rfl (aD (b:=zK)) ?_;refine au rfl gH ?_;refine au rfl bP ?_;refine au rfl dB ?_;refine oe bP ?_;refine on ?_;refine cc rfl hM (fun hc34 hM=>?_) (fun hc34 hM=>?_)
  · refine bg ?_;exact aP (bD hM)
  refine aM (qA _ _ ?_);clear qA;refine aF fun IQ rX=>?_;refine aF fun KD uy=>?_;refine fE _ (List.Sublist.refl _) ?_;refine aj 0 rfl (bM (b:=b1)) ?_;refine aj 1 rfl (ay 2) ?_;refine aj 2 rfl (aD (b:=b2)) ?_;refine aj 3 rfl (ay 0) ?_;refine aj 4 rfl (aD (b:=zK)) ?_;obtain⟨tJ,Dx,hM⟩:=bind_some hM;refine aj 5 rfl (aQ (xs:=p0.Routes) 2 (kG p0.Routes av.2.1) (iS Dx)) ?_;refine aj 6 rfl (eY (m:=2) (i:=ko.aO) (xs:=p0.Routes) (y:=tJ) (l:=(jV tJ (av.2.1.es ko.aO.toNat))) 0 (kG p0.Routes av.2.1) (fun _=>Dx)) ?_;refine aj 7 rfl (ay 1) ?_;refine aj 8 rfl (aD (b:=b2)) ?_;refine aj 9 rfl (ay 1) ?_;refine aj 10 rfl (aD (b:=b5)) ?_;obtain⟨yC,hx38,hM⟩:=bind_some hM;refine aj 11 rfl (aQ (xs:=p0.bJ) 5 (kG p0.bJ av.1) (iS hx38)) ?_;refine aj 12 rfl (eY (m:=5) (i:=x3.bL) (xs:=p0.bJ) (y:=yC) (l:=(vg yC)) 0 (kG p0.bJ av.1) (fun _=>hx38)) ?_;obtain⟨y39,PI,hM⟩:=bind_some hM;refine dX 13 rfl (sV (fun hs=>amG _ _ l0 aG tJ (av.2.1.es ko.aO.toNat) yC y39 PI (bq hs) ⟨(kM hs),(kM hs),(kM hs),(kM hs)⟩ (Kn.lend ((Sk.elem (Sk.cO (α:=List aO) (r:=av.2.1) (x:=p0.Routes) hA) Dx)).kn hs)) ⟨rI,?_⟩)
  refine aj 14 rfl dL ?_;refine dK (uy _ _ ?_);clear uy;refine aJ ?_;refine oe gH ?_;refine on ?_;refine cc rfl hM (fun YN hM=>?_) (fun YN hM=>?_)
  · refine aJ ?_;refine aL ?_;exact aP (bD hM)
  refine aM (rX _ _ ?_);clear rX;refine aF fun SG xK=>?_;refine fE _ (List.Sublist.refl _) ?_;refine aj 0 rfl aH ?_;refine aj 1 rfl eO ?_;refine aj 2 rfl aH ?_;refine bO 3 rfl rfl (ay 2) ?_;refine bO 4 rfl rfl (aD (b:=b2)) ?_;refine bO 5 rfl rfl (ay 0) ?_;refine bO 6 rfl rfl (aD (b:=zK)) ?_;obtain⟨lG,G7,hM⟩:=bind_some hM;refine bO 7 rfl rfl (aQ (xs:=p0.Routes) 2 (kG p0.Routes av.2.1) (fun hg=>let h:=jG (dF G7 hg);⟨h.1,h.2.1⟩)) ?_;refine XA (decide (0<(d9:Int))) (fun kQ=>?_) (fun kQ=>?_)
  · replace hM:=iT kQ hM;have FQ:=dF G7 kQ;refine rV 131 kQ rfl ?_;refine rV 132 kQ rfl ?_;refine rV 133 kQ rfl ?_;refine rV 134 kQ rfl ?_;refine rV 135 kQ rfl ?_;refine ru 8 rfl rfl kQ (eY (m:=2) (i:=ko.aO) (xs:=p0.Routes) (y:=lG) (l:=(jV lG (av.2.1.es ko.aO.toNat))) 0 (kG p0.Routes av.2.1) (fun _=>FQ)) ?_;refine ru 10 rfl rfl kQ (ay 2) ?_;refine ru 11 rfl rfl kQ (aD (b:=b2)) ?_;refine ru 12 rfl rfl kQ (ay 3) ?_;refine ru 13 rfl rfl kQ (aD (b:=b5)) ?_;refine ru 14 rfl rfl kQ aH ?_;obtain⟨aiV,hM⟩:=bQ hM;refine ru 15 rfl rfl kQ (mQ (hr:=fun hg=>dI aiV)) ?_;obtain⟨oD,zT,hM⟩:=bind_some hM;refine ru 16 rfl rfl kQ (aQ (xs:=x3.bC) 4 ((Sk.elem (Sk.cO (α:=List Line) (r:=av.2.2.1) (x:=p0.Lines) hA) hx4)).kn (iS zT)) ?_;refine ru 17 rfl rfl kQ (ay 0) ?_;refine ru 18 rfl rfl kQ (bE (i:=((d9:Int)-1)) (xs:=x3.bC) (y:=oD) 0 ((Sk.elem (Sk.cO (α:=List Line) (r:=av.2.2.1) (x:=p0.Lines) hA) hx4)).kn (fun _=>zT)) ?_;obtain⟨Sy,Zc,hM⟩:=bind_some hM;refine ru 19 rfl rfl kQ (aQ (xs:=p0.Routes) 2 (kG p0.Routes av.2.1) (iS Zc)) ?_;refine ru 20 rfl rfl kQ (eY (m:=2) (i:=oD.aO) (xs:=p0.Routes) (y:=Sy) (l:=(jV Sy (av.2.1.es oD.aO.toNat))) 0 (kG p0.Routes av.2.1) (fun _=>Zc)) ?_
    obtain⟨Ky,Zu,hM⟩:=bind_some hM;refine Od 9 rfl rfl kQ (sV (fun hs=>VI _ _ lG (av.2.1.es ko.aO.toNat) Ky Zu (bq hs) (Kn.lend ((Sk.elem (Sk.cO (α:=List aO) (r:=av.2.1) (x:=p0.Routes) hA) FQ)).kn hs)) ⟨rI,?_⟩);obtain⟨qY,PN,hM⟩:=bind_some hM;refine Od 21 rfl rfl kQ (sV (fun hs=>VJ _ _ Sy (av.2.1.es oD.aO.toNat) qY PN (bq hs) (Kn.lend ((Sk.elem (Sk.cO (α:=List aO) (r:=av.2.1) (x:=p0.Routes) hA) Zc)).kn hs)) ⟨rI,?_⟩);refine ru 22 rfl rfl kQ gH ?_;refine aj 23 rfl dB ?_;refine dK (xK _ _ ?_);clear xK;refine cc rfl hM (fun YS hM=>?_) (fun YS hM=>?_)
    ·refine bg ?_;exact aP (bD hM)
    refine aM (xJ _ _ ?_);clear xJ;refine aT ?_;refine om ?_;refine oP hM fun hM=>?_;refine oa ?_;refine aU (hL2 hM sS rI)
  replace hM:=iF kQ hM;refine nZ 8 rfl rfl kQ ?_;refine nZ 9 rfl rfl kQ ?_;refine nZ 10 rfl rfl kQ ?_;refine nZ 11 rfl rfl kQ ?_;refine nZ 12 rfl rfl kQ ?_;refine nZ 13 rfl rfl kQ ?_;refine nZ 14 rfl rfl kQ ?_;refine nZ 15 rfl rfl kQ ?_;refine nZ 16 rfl rfl kQ ?_;refine nZ 17 rfl rfl kQ ?_;refine nZ 18 rfl rfl kQ ?_;refine nZ 19 rfl rfl kQ ?_;refine nZ 20 rfl rfl kQ ?_;refine nZ 21 rfl rfl kQ ?_;refine nZ 22 rfl rfl kQ ?_;refine aj 23 rfl (Jc kQ) ?_;refine dK (xK _ _ ?_);clear xK;refine Tw rfl rfl ?_;refine aM (xJ _ _ ?_);clear xJ;refine aT ?_;refine om ?_;refine oP hM fun hM=>?_;refine oa ?_;refine aU (hL2 hM sS rI)
 refine bX (mE _ _ ?_);clear mE;dsimp only[af5] at hM;refine bg ?_;exact aP (bD hM)
def Ie(p0:Plan)(iK:Int)(k0:Int):Option Bool:=
 aX (bA ((p0.Lines.length:Int)-1))<|
 (sQ iK 0 ((p0.Lines.length:Int)-1)).bind fun y3=>
 (dW y3 default (idx p0.Lines iK)).bind fun x5=>
 if y3 then
 (aX (bA ((x5.bC.length:Int)-1))<|
 (sQ k0 0 ((x5.bC.length:Int)-1)).bind fun iG=>
 some (y3&&iG))
 else
 (some false)
theorem VN(S:bF)(w:World)(p0:Plan)(av:ak.R Plan)(iK:Int)(k0:Int)(y:Bool)(hM:Ie p0 iK k0=some y)(hS:sB S w)(gB:ak.ok S w av p0):
   Calls Tryz.prog 52 #[.agg (mO p0 av),vI iK,vI k0] w (dw w (.bool y)):=by
 refine bW (args:=[_,_,_]) Tryz.func52 rfl ((pre_nil hS).start |>.oL gB) rfl ?_;unfold Ie at hM;refine sr ?_;refine oB (fZ p0 av) fun b1=>?_;refine aL ?_;refine aJ ?_;refine oe (ay 3) ?_;refine oe (aD (b:=b1)) ?_;refine oe bf ?_;refine oN hM fun hM=>?_;obtain⟨y3,hy4,hM⟩:=bind_some hM;refine cv (fun hs=>Ab _ _ iK 0 ((p0.Lines.length:Int)-1) y3 hy4 (bq hs)) ?_
 refine om ?_;refine au rfl aH ?_;refine au rfl (ay 3) ?_;refine au rfl (aD (b:=b1)) ?_;refine au rfl aH ?_;obtain⟨x5,hx6,hM⟩:=bind_some hM;refine au rfl (aQ (xs:=p0.Lines) 4 (kG p0.Lines av.2.2.1) (fun hg=>let h:=jG (dF hx6 hg);⟨h.1,h.2.1⟩)) ?_;refine au rfl (ay 3) ?_;refine QE y3 (fun uU=>?_) (fun uU=>?_)
 ·replace hM:=iT uU hM;have wU:=dF hx6 uU;refine ze 14 uU rfl ?_;refine ze 15 uU rfl ?_;refine ze 16 uU rfl ?_;refine ze 17 uU rfl ?_;refine ze 18 uU rfl ?_;refine ze 19 uU rfl ?_;refine wz rfl uU ?_;refine oe (bE (i:=iK) (xs:=p0.Lines) (y:=x5) 3 (kG p0.Lines av.2.2.1) (fun _=>wU)) ?_;refine wz rfl uU ?_;refine oe bf ?_;refine wz rfl uU ?_;refine oN hM fun hM=>?_;refine wz rfl uU ?_;obtain⟨iG,tN,hM⟩:=bind_some hM;refine cv (fun hs=>Ab _ _ k0 0 ((x5.bC.length:Int)-1) iG tN (bq hs)) ?_;refine oe dB ?_;refine aL ?_;exact aP (bD hM)
 replace hM:=iF uU hM;refine wu rfl uU ?_;refine wu rfl uU ?_;refine wu rfl uU ?_;refine wu rfl uU ?_;refine oe (Jc uU) ?_;refine aL ?_;exact aP (bD hM)
def E5(p0:Plan)(iK:Int)(k0:Int):Option aO:=
 (idx p0.Lines iK).bind fun x3=>
 (idx x3.bC k0).bind fun x5=>
 (idx p0.Routes x5.aO).bind fun x7=>
 some x7
theorem Nb(S:bF)(w:World)(p0:Plan)(av:ak.R Plan)(iK:Int)(k0:Int)(y:aO)(hM:E5 p0 iK k0=some y)(hS:sB S w)(gB:ak.ok S w av p0):
  Calls Tryz.prog 22 #[.agg (mO p0 av),vI iK,vI k0] w (Post (β:=(ak.R aO)) S [] (fun g=> .agg (Ao y g)) (fun g=>[iL y.Steps g]) w):=by
 refine bW (args:=[_,_,_]) Tryz.func22 rfl ((pre_nil hS).start |>.oL gB) rfl ?_;unfold E5 at hM;refine sr ?_;refine oB (fZ p0 av) fun b1=>?_;refine oA rfl fun b2=>?_;refine on ?_;refine aF fun K2 hK2=>?_;refine mZ [own b2 85 [z0,vI 0],own b1 36 (fZ p0 av),iL p0.dn av.2.2.2.2.2.2,iL p0.dx av.2.2.2.2.2.1,iL p0.Turns av.2.2.2.2.1,iL p0.Changes av.2.2.2.1,iL p0.Lines av.2.2.1,iL p0.Routes av.2.1,iL p0.bJ av.1] 14 ?_
 refine aI 0 rfl (ay 2) ?_;refine aI 1 rfl (aD (b:=b1)) ?_;refine aI 2 rfl (ay 3) ?_;refine aI 3 rfl (aD (b:=b1)) ?_;refine aI 4 rfl aH ?_;obtain⟨x3,hx4,hM⟩:=bind_some hM;refine aI 5 rfl (aQ (xs:=p0.Lines) 4 (kG p0.Lines av.2.2.1) (iS hx4)) ?_;refine aI 6 rfl (ay 3) ?_;refine aI 7 rfl (bE (i:=iK) (xs:=p0.Lines) (y:=x3) 3 (kG p0.Lines av.2.2.1) (fun _=>hx4)) ?_;refine aI 8 rfl aH ?_;obtain⟨x5,hx6,hM⟩:=bind_some hM;refine aI 9 rfl (aQ (xs:=x3.bC) 4 ((Sk.elem (Sk.cO (α:=List Line) (r:=av.2.2.1) (x:=p0.Lines) hA) hx4)).kn (iS hx6)) ?_;refine aI 10 rfl (ay 0) ?_;refine aI 11 rfl (bE (i:=k0) (xs:=x3.bC) (y:=x5) 0 ((Sk.elem (Sk.cO (α:=List Line) (r:=av.2.2.1) (x:=p0.Lines) hA) hx4)).kn (fun _=>hx6)) ?_;obtain⟨x7,wU,hM⟩:=bind_some hM;refine aI 12 rfl (aQ (xs:=p0.Routes) 2 (kG p0.Routes av.2.1) (iS wU)) ?_;refine aI 13 rfl (eY (m:=2) (i:=x5.aO) (xs:=p0.Routes) (y:=x7) (l:=(jV x7 (av.2.1.es x5.aO.toNat))) 0 (kG p0.Routes av.2.1) (fun _=>wU)) ?_;refine mX rfl (zk (b:=b2) (vs:=(jV x7 (av.2.1.es x5.aO.toNat))) (k:=?_))
 refine mW (hK2 _ _ ?_);clear hK2;refine dJ (fun w hm=>hm.wV (α:=List Step) (r:=(av.2.1.es x5.aO.toNat)) (x:=x7.Steps) (fun S hs=>(Sk.elem (Sk.cO (α:=List aO) (r:=av.2.1) (x:=p0.Routes) hA) wU) S w hs)) ?_;obtain rfl:=some_inj hM;refine aP (tO (fun w hm=>gK (av.2.1.es x5.aO.toNat) hm rfl))
def Nc(l0:Layout)(p0:Plan)(c0:Change):Option Int:=
 (Ie p0 c0.gP c0.jQ).bind fun y4=>
 (dW (!(!y4)) default (Ie p0 c0.jM c0.nY)).bind fun y6=>
 (dW (!(((!y4)||(!y6))||decide (c0.gP=c0.jM))) default (J5 p0 c0.Min c0.Max)).bind fun y8=>
 (dW (!((((!y4)||(!y6))||decide (c0.gP=c0.jM))||(!y8))) default (sQ c0.Weight 0 1048576)).bind fun iG=>
 if (((((!y4)||(!y6))||decide (c0.gP=c0.jM))||(!y8))||(!iG)) then
  (some 4)
 else
  ((E5 p0 c0.gP c0.jQ).bind fun y13=>
  (Ic y13).bind fun qo=>
  (idx l0.Sections qo).bind fun x18=>
  (E5 p0 c0.jM c0.nY).bind fun y20=>
  (Ib y20).bind fun y23=>
  (idx l0.Sections y23).bind fun x25=>
  if (decide (x18.nN<0)||decide (x18.nN≠x25.nN)) then
   (some 11)
  else
   (some 0))
theorem amI(S:bF)(w:World)(l0:Layout)(aG:ak.R Layout)(p0:Plan)(av:ak.R Plan)(c0:Change)(y:Int)(hM:Nc l0 p0 c0=some y)(hS:sB S w)(eT:ak.ok S w aG l0)(gB:ak.ok S w av p0):
   Calls Tryz.prog 50 #[.agg (lX l0 aG),.agg (mO p0 av),.agg (ahg c0)] w (dw w (vI y)):=by
 refine bW (args:=[_,_,_]) Tryz.func50 rfl ((pre_nil hS).start |>.ny eT|>.oL gB) rfl ?_;unfold Nc at hM;refine sr ?_;refine oB (eD l0 aG) fun b1=>?_;refine oB (fZ p0 av) fun b2=>?_
 refine oB (Qq c0) fun b3=>?_;refine aL ?_;refine aF fun K2 hK2=>?_;refine sr ?_;refine oe (bM (b:=b2)) ?_;refine oe (ay 0) ?_;refine oe (aD (b:=b3)) ?_;refine oe (ay 1) ?_;refine oe (aD (b:=b3)) ?_;obtain⟨y4,FZ,hM⟩:=bind_some hM;refine cv (fun hs=>VN _ _ p0 av c0.gP c0.jQ y4 FZ (bq hs) ⟨(kM hs),(kM hs),(kM hs),(kM hs),(kM hs),(kM hs),(kM hs)⟩) ?_;refine oe dN ?_;refine om ?_;refine au rfl (bM (b:=b2)) ?_;refine au rfl (ay 2) ?_;refine au rfl (aD (b:=b3)) ?_;refine au rfl (ay 3) ?_;refine au rfl (aD (b:=b3)) ?_;obtain⟨y6,rZ,hM⟩:=bind_some hM;refine cg rfl (fun hg hs=>VN _ _ p0 av c0.jM c0.nY y6 (dF rZ hg) (bq hs) ⟨(kM hs),(kM hs),(kM hs),(kM hs),(kM hs),(kM hs),(kM hs)⟩) ?_;refine au rfl dN ?_;refine oe bP ?_;refine om ?_;refine au rfl (ay 0) ?_;refine au rfl (aD (b:=b3)) ?_;refine au rfl (ay 2) ?_;refine au rfl (aD (b:=b3)) ?_;refine au rfl fI ?_
 refine oe bP ?_;refine om ?_;refine au rfl (bM (b:=b2)) ?_;refine au rfl (ay 4) ?_;refine au rfl (aD (b:=b3)) ?_;refine au rfl (ay 5) ?_;refine au rfl (aD (b:=b3)) ?_;obtain⟨y8,qR,hM⟩:=bind_some hM;refine cg rfl (fun hg hs=>aaN _ _ p0 av c0.Min c0.Max y8 (dF qR hg) (bq hs) ⟨(kM hs),(kM hs),(kM hs),(kM hs),(kM hs),(kM hs),(kM hs)⟩) ?_;refine au rfl dN ?_;refine oe bP ?_;refine om ?_;refine au rfl (ay 6) ?_;refine au rfl (aD (b:=b3)) ?_;obtain⟨iG,tN,hM⟩:=bind_some hM;refine cg rfl (fun hg hs=>Ab _ _ c0.Weight 0 1048576 iG (dF tN hg) (bq hs)) ?_;refine au rfl dN ?_;refine oe bP ?_;refine on ?_;refine cc rfl hM (fun qQ hM=>?_) (fun qQ hM=>?_)
 ·refine bg ?_;exact aP (bD hM)
 refine aM (hK2 _ _ ?_);clear hK2;refine aF fun K5 bT=>?_;refine fE _ (List.Sublist.refl _) ?_;refine aj 0 rfl (ay 2) ?_;refine aj 1 rfl (aD (b:=b1)) ?_;refine aj 2 rfl (bM (b:=b2)) ?_;refine aj 3 rfl (ay 0) ?_;refine aj 4 rfl (aD (b:=b3)) ?_;refine aj 5 rfl (ay 1) ?_;refine aj 6 rfl (aD (b:=b3)) ?_;obtain⟨y13,FU,hM⟩:=bind_some hM;refine dX 7 rfl (nV jL.nil (fun S w hs hP=>Nb _ w p0 av c0.gP c0.jQ y13 FU hs.lt ⟨(kI hs),(kI hs),(kI hs),(kI hs),(kI hs),(kI hs),(kI hs)⟩) (fun r15=>⟨rI,?_⟩));dsimp only[cA,nA];obtain⟨qo,FV,hM⟩:=bind_some hM;refine dX 8 rfl (sV (fun hs=>VJ _ _ y13 r15 qo FV (bq hs) (kM hs)) ⟨rI,?_⟩);obtain⟨x18,wT,hM⟩:=bind_some hM;refine aj 9 rfl (aQ (xs:=l0.Sections) 5 (kG l0.Sections aG.2.2.1) (iS wT)) ?_;refine aj 10 rfl (ay 4) ?_;refine aj 11 rfl (bE (i:=qo) (xs:=l0.Sections) (y:=x18) 4 (kG l0.Sections aG.2.2.1) (fun _=>wT)) ?_;refine aj 12 rfl dL ?_;refine dK (bT _ _ ?_);clear bT;refine aF fun K6 bU=>?_;refine fE _ (List.Sublist.refl _) ?_;refine aj 0 rfl (ay 2) ?_;refine aj 1 rfl (aD (b:=b1)) ?_;refine aj 2 rfl (bM (b:=b2)) ?_
 refine aj 3 rfl (ay 2) ?_;refine aj 4 rfl (aD (b:=b3)) ?_;refine aj 5 rfl (ay 3) ?_;refine aj 6 rfl (aD (b:=b3)) ?_;obtain⟨y20,Jm,hM⟩:=bind_some hM;refine dX 7 rfl (nV jL.nil (fun S w hs hP=>Nb _ w p0 av c0.jM c0.nY y20 Jm hs.lt ⟨(kI hs),(kI hs),(kI hs),(kI hs),(kI hs),(kI hs),(kI hs)⟩) (fun oM=>⟨rI,?_⟩));dsimp only[cA,nA];obtain⟨y23,hy24,hM⟩:=bind_some hM;refine dX 8 rfl (sV (fun hs=>VI _ _ y20 oM y23 hy24 (bq hs) (kM hs)) ⟨rI,?_⟩);obtain⟨x25,vU,hM⟩:=bind_some hM;refine aj 9 rfl (aQ (xs:=l0.Sections) 5 (kG l0.Sections aG.2.2.1) (iS vU)) ?_;refine aj 10 rfl (ay 4) ?_;refine aj 11 rfl (bE (i:=y23) (xs:=l0.Sections) (y:=x25) 4 (kG l0.Sections aG.2.2.1) (fun _=>vU)) ?_;refine aj 12 rfl dL ?_;refine dK (bU _ _ ?_);clear bU;refine aF fun K7 eU=>?_;refine aJ ?_;refine oe bK ?_;refine om ?_;refine au rfl aH ?_;refine au rfl aH ?_;refine au rfl gH ?_;refine oe bP ?_;refine on ?_;refine cc rfl hM (fun hc27 hM=>?_) (fun hc27 hM=>?_)
 ·refine bg ?_;exact aP (bD hM)
 refine aM (eU _ _ ?_);clear eU;refine bg ?_;exact aP (bD hM)
def VQ(p0:Plan)(x2:Turn):(Str×Int×Int×(List gL)×Str×Int×Int×(List gL))→Option Int:=fun (SV,Oa,SX,G9,Ta,Oh,Tc,Qi)=>
 aX (bA ((G9.length:Int)-1))<|
 (E5 p0 x2.From ((G9.length:Int)-1)).bind fun y22=>
 (Ic y22).bind fun y25=>
 (E5 p0 x2.To 0).bind fun y27=>
 (Ib y27).bind fun o9=>
 if (decide (y25≠o9)||decide (Oa≠Oh)) then
  (some 11)
 else
  (some 0)
def aaP(p0:Plan)(x2:Turn):Unit→Option Int:=fun _=>
 (idx p0.Lines x2.From).bind fun iW=>
 (idx p0.Lines x2.To).bind fun tJ=>
 VQ p0 x2 (iW.Name,iW.bL,iW.Weight,iW.bC,tJ.Name,tJ.bL,tJ.Weight,tJ.bC)
def VP(i0:Int)(p0:Plan)(x2:Turn)(aN:Nat→Option Int):Nat→Option Int:=fun jc=>
 if decide ((jc:Int)<i0) then
  ((idx p0.Turns (jc:Int)).bind fun iX=>
  (dW (!(decide (iX.From=x2.From))) default (idx p0.Turns (jc:Int))).bind fun fK=>
  if (decide (iX.From=x2.From)||decide (fK.To=x2.To)) then
   (some 5)
  else
   (aX (bA ((jc:Int)+1))<|
   aN (jc+1)))
 else
  (aaP p0 x2 ())
def Nh(p0:Plan)(i0:Int):Option Int:=
 (idx p0.Turns i0).bind fun x2=>
 aX (bA ((p0.Lines.length:Int)-1))<|
 (sQ x2.From 0 ((p0.Lines.length:Int)-1)).bind fun y6=>
 aX (!(!(!y6))||bA ((p0.Lines.length:Int)-1))<|
 (dW (!(!y6)) default (sQ x2.To 0 ((p0.Lines.length:Int)-1))).bind fun y9=>
 (dW (!((!y6)||(!y9))) default (J5 p0 x2.Min x2.Max)).bind fun fF=>
 if (((!y6)||(!y9))||(!fF)) then
  (some 4)
 else
  (iter (VP i0 p0 x2) FUEL 0)
theorem amM(S:bF)(w:World)(p0:Plan)(av:ak.R Plan)(i0:Int)(y:Int)(hM:Nh p0 i0=some y)(hS:sB S w)(gB:ak.ok S w av p0):
   Calls Tryz.prog 51 #[.agg (mO p0 av),vI i0] w (dw w (vI y)):=by
 refine bW (args:=[_,_]) Tryz.func51 rfl ((pre_nil hS).start |>.oL gB) rfl ?_;unfold Nh at hM;refine sr ?_;refine oB (fZ p0 av) fun b1=>?_;refine aL ?_;refine sr ?_;refine oe (ay 5) ?_;refine oe (aD (b:=b1)) ?_;refine om ?_;obtain⟨x2,hx3,hM⟩:=bind_some hM;refine oe (aQ (xs:=p0.Turns) 4 (kG p0.Turns av.2.2.2.2.1) (iS hx3)) ?_
 refine oe (eY (m:=4) (i:=i0) (xs:=p0.Turns) (y:=x2) (l:=(Bd x2)) 0 (kG p0.Turns av.2.2.2.2.1) (fun _=>hx3)) ?_;refine oA rfl fun b4=>?_;refine oS b4 (Bd x2) ?_;refine on ?_;refine aF fun K3 hK3=>?_;refine sr ?_;refine oe (ay 0) ?_;refine oe (aD (b:=b4)) ?_;refine oe (ay 3) ?_;refine oe (aD (b:=b1)) ?_;refine oe bf ?_;refine oN hM fun hM=>?_;obtain⟨y6,rZ,hM⟩:=bind_some hM;refine cv (fun hs=>Ab _ _ x2.From 0 ((p0.Lines.length:Int)-1) y6 rZ (bq hs)) ?_;refine oe dN ?_;refine om ?_;refine au rfl (ay 1) ?_;refine au rfl (aD (b:=b4)) ?_;refine au rfl (ay 3) ?_;refine au rfl (aD (b:=b1)) ?_;refine au rfl bf ?_;obtain⟨O7,hM⟩:=bQ hM;refine au rfl (mQ (hr:=fun hg=>dI (tL O7 hg))) ?_;obtain⟨y9,yO,hM⟩:=bind_some hM;refine cg rfl (fun hg hs=>Ab _ _ x2.To 0 ((p0.Lines.length:Int)-1) y9 (dF yO hg) (bq hs)) ?_;refine au rfl dN ?_
 refine oe bP ?_;refine om ?_;refine au rfl (bM (b:=b1)) ?_;refine au rfl (ay 2) ?_;refine au rfl (aD (b:=b4)) ?_;refine au rfl (ay 3) ?_;refine au rfl (aD (b:=b4)) ?_;obtain⟨fF,yP,hM⟩:=bind_some hM;refine cg rfl (fun hg hs=>aaN _ _ p0 av x2.Min x2.Max fF (dF yP hg) (bq hs) ⟨(kM hs),(kM hs),(kM hs),(kM hs),(kM hs),(kM hs),(kM hs)⟩) ?_;refine au rfl dN ?_;refine oe bP ?_;refine on ?_;refine cc rfl hM (fun zO hM=>?_) (fun zO hM=>?_)
 ·refine bg ?_;exact aP (bD hM)
 refine aM (hK3 _ _ ?_);clear hK3;refine aF fun K6 bU=>?_;refine bg ?_;refine aV ?_;refine lq hM (fun jc=>[(1,eI i0),(2,eP b1),(5,eP b4),(6,eI (jc:Int))]) (fun jc=>[iL p0.bJ av.1,iL p0.Routes av.2.1,iL p0.Lines av.2.2.1,iL p0.Changes av.2.2.2.1,iL p0.Turns av.2.2.2.2.1,iL p0.dx av.2.2.2.2.2.1,iL p0.dn av.2.2.2.2.2.2,own b1 36 (fZ p0 av),own b4 116 (Bd x2)]) sS rI ?_;clear hM;rintro aN jc hM fQ hL1;dsimp only[VP] at hM ⊢;refine aF fun K8 fu=>?_;refine aJ ?_;refine om ?_;refine oe bK ?_;refine on ?_
 refine cc rfl hM (fun uT hM=>?_) (fun uT hM=>?_)
 ·refine aM (fu _ _ ?_);clear fu;refine aF fun sK gy=>?_;refine aV ?_;refine aF fun pR eH=>?_;refine fE _ (List.Sublist.refl _) ?_;refine aj 0 rfl (ay 5) ?_;refine aj 1 rfl (aD (b:=b1)) ?_;refine aj 2 rfl aH ?_;obtain⟨iX,hx16,hM⟩:=bind_some hM;refine aj 3 rfl (aQ (xs:=p0.Turns) 4 (kG p0.Turns av.2.2.2.2.1) (iS hx16)) ?_;refine aj 4 rfl (ay 0) ?_;refine aj 5 rfl (bE (i:=(jc:Int)) (xs:=p0.Turns) (y:=iX) 0 (kG p0.Turns av.2.2.2.2.1) (fun _=>hx16)) ?_;refine aj 6 rfl (ay 0) ?_;refine aj 7 rfl (aD (b:=b4)) ?_;refine aj 8 rfl fI ?_;refine aj 9 rfl aH ?_;refine bO 10 rfl rfl (ay 5) ?_;refine bO 11 rfl rfl (aD (b:=b1)) ?_;refine bO 12 rfl rfl aH ?_;obtain⟨fK,pW,hM⟩:=bind_some hM;refine bO 13 rfl rfl (aQ (xs:=p0.Turns) 4 (kG p0.Turns av.2.2.2.2.1) (fun hg=>let h:=jG (dF pW hg);⟨h.1,h.2.1⟩)) ?_;refine bO 14 rfl rfl (ay 1) ?_;refine bO 15 rfl rfl (bE (i:=(jc:Int)) (xs:=p0.Turns) (y:=fK) 1 (kG p0.Turns av.2.2.2.2.1) (fun hg=>dF pW hg)) ?_;refine bO 16 rfl rfl (ay 1) ?_;refine bO 17 rfl rfl (aD (b:=b4)) ?_;refine bO 18 rfl rfl fI ?_;refine aj 19 rfl bP ?_
  refine dK (eH _ _ ?_);clear eH;refine cc rfl hM (fun hc19 hM=>?_) (fun hc19 hM=>?_)
  · refine bg ?_;exact aP (bD hM)
  refine aM (gy _ _ ?_);clear gy;refine aT ?_;refine om ?_;refine oP hM fun hM=>?_;refine oa ?_;refine aU (hL1 hM sS rI)
 refine bX (bU _ _ ?_);clear bU;dsimp only[aaP] at hM;refine jn (Nat×Nat) y (k:=VQ p0 x2) (fun (SV,Oa,SX,G9,Ta,Oh,Tc,Qi) (KN,Ol)=>[(2,eP b1),(5,eP b4),(7,eP KN),(8,eP Ol)]) (fun (SV,Oa,SX,G9,Ta,Oh,Tc,Qi) (KN,Ol)=>[iL p0.bJ av.1,iL p0.Routes av.2.1,iL p0.Lines av.2.2.1,iL p0.Changes av.2.2.2.1,iL p0.Turns av.2.2.2.2.1,iL p0.dx av.2.2.2.2.2.1,iL p0.dn av.2.2.2.2.2.2,own b1 36 (fZ p0 av),own b4 116 (Bd x2),iL G9 (av.2.2.1.es x2.From.toNat),own KN 47 [.string SV.ba,vI Oa,vI SX,sL (av.2.2.1.es x2.From.toNat) G9],iL Qi (av.2.2.1.es x2.To.toNat),own Ol 47 [.string Ta.ba,vI Oh,vI Tc,sL (av.2.2.1.es x2.To.toNat) Qi]]) ?_ ?_
 ·intro zB hJ2;refine fE _ (List.Sublist.refl _) ?_;refine aj 0 rfl (ay 3) ?_;refine aj 1 rfl (aD (b:=b1)) ?_;refine aj 2 rfl (ay 0) ?_;refine aj 3 rfl (aD (b:=b4)) ?_;obtain⟨iW,hx34,hM⟩:=bind_some hM;refine aj 4 rfl (aQ (xs:=p0.Lines) 4 (kG p0.Lines av.2.2.1) (iS hx34)) ?_;refine aj 5 rfl (eY (m:=4) (i:=x2.From) (xs:=p0.Lines) (y:=iW) (l:=(mR iW (av.2.2.1.es x2.From.toNat))) 0 (kG p0.Lines av.2.2.1) (fun _=>hx34)) ?_;refine aj 6 rfl (ay 3) ?_;refine aj 7 rfl (aD (b:=b1)) ?_;refine aj 8 rfl (ay 1) ?_;refine aj 9 rfl (aD (b:=b4)) ?_;obtain⟨tJ,Dx,hM⟩:=bind_some hM;refine aj 10 rfl (aQ (xs:=p0.Lines) 4 (kG p0.Lines av.2.2.1) (iS Dx)) ?_;refine aj 11 rfl (eY (m:=4) (i:=x2.To) (xs:=p0.Lines) (y:=tJ) (l:=(mR tJ (av.2.2.1.es x2.To.toNat))) 0 (kG p0.Lines av.2.2.1) (fun _=>Dx)) ?_;refine mP 12 13 (⟨_,rfl,rfl,iP rfl (k:=fun GK=>⟨rI,?_⟩)⟩) (⟨_,rfl,rfl,iP rfl (k:=fun Dh=>⟨rI,?_⟩)⟩)
  · refine aA 13 rfl rfl fun IY=>?_;refine aS 14 rfl GK (mR iW (av.2.2.1.es x2.From.toNat)) ?_;refine aS 15 rfl IY (mR tJ (av.2.2.1.es x2.To.toNat)) ?_;refine Db (fun w hm=>hm.wV (α:=List gL) (r:=(av.2.2.1.es x2.From.toNat)) (x:=iW.bC) (fun S hs=>(Sk.elem (Sk.cO (α:=List Line) (r:=av.2.2.1) (x:=p0.Lines) hA) hx34) S w hs)) ?_;refine Db (fun w hm=>hm.wV (α:=List gL) (r:=(av.2.2.1.es x2.To.toNat)) (x:=tJ.bC) (fun S hs=>(Sk.elem (Sk.cO (α:=List Line) (r:=av.2.2.1) (x:=p0.Lines) hA) Dx) S w hs)) ?_;refine dK (hJ2 (GK,IY) hM sS rI)
  refine aA 12 rfl rfl fun IZ=>?_;refine aS 14 rfl IZ (mR iW (av.2.2.1.es x2.From.toNat)) ?_;refine aS 15 rfl Dh (mR tJ (av.2.2.1.es x2.To.toNat)) ?_;refine Db (fun w hm=>hm.wV (α:=List gL) (r:=(av.2.2.1.es x2.From.toNat)) (x:=iW.bC) (fun S hs=>(Sk.elem (Sk.cO (α:=List Line) (r:=av.2.2.1) (x:=p0.Lines) hA) hx34) S w hs)) ?_;refine Db (fun w hm=>hm.wV (α:=List gL) (r:=(av.2.2.1.es x2.To.toNat)) (x:=tJ.bC) (fun S hs=>(Sk.elem (Sk.cO (α:=List Line) (r:=av.2.2.1) (x:=p0.Lines) hA) Dx) S w hs)) ?_;refine dK (hJ2 (IZ,Dh) hM sS rI)
 clear hM;rintro⟨SV,Oa,SX,G9,Ta,Oh,Tc,Qi⟩ ⟨KN,Ol⟩ hM;dsimp only[VQ] at hM ⊢;refine aF fun rU fT=>?_;refine aF fun zA kg=>?_;refine fE _ (List.Sublist.refl _) ?_;refine aj 0 rfl (bM (b:=b1)) ?_;refine aj 1 rfl (ay 0) ?_;refine aj 2 rfl (aD (b:=b4)) ?_;refine aj 3 rfl (ay 3) ?_;refine aj 4 rfl (aD (b:=KN)) ?_;refine aj 5 rfl bf ?_;obtain⟨Ym,hM⟩:=bQ hM;refine aj 6 rfl (mQ (hr:=fun hg=>dI Ym)) ?_;refine aj 9 rfl (bM (b:=b1)) ?_;refine aj 10 rfl (ay 1) ?_;refine aj 11 rfl (aD (b:=b4)) ?_;obtain⟨y22,yR,hM⟩:=bind_some hM;refine dX 7 rfl (nV jL.nil (fun S w hs hP=>Nb _ w p0 av x2.From ((G9.length:Int)-1) y22 yR hs.lt ⟨(kI hs),(kI hs),(kI hs),(kI hs),(kI hs),(kI hs),(kI hs)⟩) (fun xq=>⟨rI,?_⟩));dsimp only[cA,nA];obtain⟨y25,FX,hM⟩:=bind_some hM;refine dX 8 rfl (sV (fun hs=>VJ _ _ y22 xq y25 FX (bq hs) (kM hs)) ⟨rI,?_⟩);obtain⟨y27,hy28,hM⟩:=bind_some hM;refine dX 12 rfl (nV jL.nil (fun S w hs hP=>Nb _ w p0 av x2.To 0 y27 hy28 hs.lt ⟨(kI hs),(kI hs),(kI hs),(kI hs),(kI hs),(kI hs),(kI hs)⟩) (fun yc=>⟨rI,?_⟩));dsimp only[cA,nA];obtain⟨o9,hy31,hM⟩:=bind_some hM
 refine dX 13 rfl (sV (fun hs=>VI _ _ y27 yc o9 hy31 (bq hs) (kM hs)) ⟨rI,?_⟩);refine aj 14 rfl gH ?_;refine aj 15 rfl aH ?_;refine bO 16 rfl rfl (ay 1) ?_;refine bO 17 rfl rfl (aD (b:=KN)) ?_;refine bO 18 rfl rfl (ay 1) ?_;refine bO 19 rfl rfl (aD (b:=Ol)) ?_;refine bO 20 rfl rfl gH ?_;refine aj 21 rfl bP ?_;refine dK (kg _ _ ?_);clear kg;refine cc rfl hM (fun hc32 hM=>?_) (fun hc32 hM=>?_)
 ·refine bg ?_;exact aP (bD hM)
 refine aM (fT _ _ ?_);clear fT;refine bg ?_;exact aP (bD hM)
def aaM:Unit→Option Int:=fun _=>
 some 0
def VA(p0:Plan)(l0:Layout)(acH:Nat→Option Int):Nat→Option Int:=fun F4=>
 if decide ((F4:Int)<(p0.dn.length:Int)) then
  ((idx p0.dn (F4:Int)).bind fun x55=>
  aX (bA ((l0.bB.length:Int)-1))<|
  (sQ x55.From 0 ((l0.bB.length:Int)-1)).bind fun NV=>
  aX (!(!(!NV))||bA ((l0.bB.length:Int)-1))<|
  (dW (!(!NV)) default (sQ x55.To 0 ((l0.bB.length:Int)-1))).bind fun Xd=>
  (dW (!(((!NV)||(!Xd))||decide (x55.From=x55.To))) default (sQ x55.Weight 1 1048576)).bind fun y64=>
  if ((((!NV)||(!Xd))||decide (x55.From=x55.To))||(!y64)) then
   (some 4)
  else
   (aX (bA ((F4:Int)+1))<|
   acH (F4+1)))
 else
  (aaM ())
def VH(p0:Plan)(l0:Layout):Unit→Option Int:=fun _=>
 iter (VA p0 l0) FUEL 0
def Vz(p0:Plan)(l0:Layout)(acG:Nat→Option Int):Nat→Option Int:=fun F3=>
 if decide ((F3:Int)<(p0.dx.length:Int)) then
  ((idx p0.dx (F3:Int)).bind fun lG=>
  (Ie p0 lG.qN lG.qO).bind fun uM=>
  (dW (!(!uM)) default (Ie p0 lG.q8 lG.q9)).bind fun Eh=>
  aX (!(!(((!uM)||(!Eh))||(decide (lG.qN=lG.q8)&&decide (lG.qO=lG.q9))))||bA (p0.eX-1))<|
  (dW (!(((!uM)||(!Eh))||(decide (lG.qN=lG.q8)&&decide (lG.qO=lG.q9)))) default (sQ lG.Offset 0 (p0.eX-1))).bind fun jZ=>
  if ((((!uM)||(!Eh))||(decide (lG.qN=lG.q8)&&decide (lG.qO=lG.q9)))||(!jZ)) then
   (some 4)
  else
   (aX (bA ((F3:Int)+1))<|
   acG (F3+1)))
 else
  (VH p0 l0 ())
def VG(p0:Plan)(l0:Layout):Unit→Option Int:=fun _=>
 iter (Vz p0 l0) FUEL 0
def Vy(p0:Plan)(l0:Layout)(qx:Nat→Option Int):Nat→Option Int:=fun pE=>
 if decide ((pE:Int)<(p0.Turns.length:Int)) then
  ((Nh p0 (pE:Int)).bind fun Xa=>
  if decide (Xa≠0) then
   (some Xa)
  else
   (aX (bA ((pE:Int)+1))<|
   qx (pE+1)))
 else
  (VG p0 l0 ())
def VF(p0:Plan)(l0:Layout):Unit→Option Int:=fun _=>
 iter (Vy p0 l0) FUEL 0
def Vx(p0:Plan)(l0:Layout)(nG:Nat→Option Int):Nat→Option Int:=fun l7=>
 if decide ((l7:Int)<(p0.Changes.length:Int)) then
  ((idx p0.Changes (l7:Int)).bind fun x30=>
  (Nc l0 p0 x30).bind fun y32=>
  if decide (y32≠0) then
   (some y32)
  else
   (aX (bA ((l7:Int)+1))<|
   nG (l7+1)))
 else
  (VF p0 l0 ())
def VE(p0:Plan)(l0:Layout):Unit→Option Int:=fun _=>
 iter (Vx p0 l0) FUEL 0
def Vw(p0:Plan)(l0:Layout)(gY:Nat→Option Int):Nat→Option Int:=fun iU=>
 if decide ((iU:Int)<(p0.Lines.length:Int)) then
  ((Nf l0 p0 (iU:Int)).bind fun y25=>
  if decide (y25≠0) then
   (some y25)
  else
   (aX (bA ((iU:Int)+1))<|
   gY (iU+1)))
 else
  (VE p0 l0 ())
def VD(p0:Plan)(l0:Layout):Unit→Option Int:=fun _=>
 iter (Vw p0 l0) FUEL 0
def Vv(p0:Plan)(l0:Layout)(cu:Nat→Option Int):Nat→Option Int:=fun lV=>
 if decide ((lV:Int)<(p0.Routes.length:Int)) then
  ((idx p0.Routes (lV:Int)).bind fun x18=>
  (J4 l0 x18).bind fun y20=>
  if decide (y20≠0) then
   (some y20)
  else
   (aX (bA ((lV:Int)+1))<|
   cu (lV+1)))
 else
  (VD p0 l0 ())
def VB(p0:Plan)(l0:Layout):Unit→Option Int:=fun _=>
 iter (Vv p0 l0) FUEL 0
def Vu(p0:Plan)(l0:Layout)(aN:Nat→Option Int):Nat→Option Int:=fun bI=>
 if decide ((bI:Int)<(p0.bJ.length:Int)) then
  ((Ng p0 (bI:Int)).bind fun y13=>
  if decide (y13≠0) then
   (some y13)
  else
   (aX (bA ((bI:Int)+1))<|
   aN (bI+1)))
 else
  (VB p0 l0 ())
def Rt(l0:Layout)(p0:Plan):Option Int:=
 (MX l0).bind fun y3=>
 if decide (y3≠0) then
  (some 1)
 else
  ((Rv p0).bind fun y6=>
  if y6 then
   (some 7)
  else
   ((sQ p0.eX 2 7200).bind fun y9=>
   if (!y9) then
    (some 4)
   else
    (iter (Vu p0 l0) FUEL 0)))
theorem amH(S:bF)(w:World)(l0:Layout)(aG:ak.R Layout)(p0:Plan)(av:ak.R Plan)(y:Int)(hM:Rt l0 p0=some y)(hS:sB S w)(eT:ak.ok S w aG l0)(gB:ak.ok S w av p0):
   Calls Tryz.prog 19 #[.agg (lX l0 aG),.agg (mO p0 av)] w (dw w (vI y)):=by
 refine bW (args:=[_,_]) Tryz.func19 rfl ((pre_nil hS).start |>.ny eT|>.oL gB) rfl ?_;unfold Rt at hM;refine sr ?_;refine oB (eD l0 aG) fun b1=>?_;refine oB (fZ p0 av) fun b2=>?_
 refine aL ?_;refine aF fun K2 hK2=>?_;refine sr ?_;refine oe (bM (b:=b1)) ?_;obtain⟨y3,hy4,hM⟩:=bind_some hM;refine cv (fun hs=>afr _ _ l0 aG y3 hy4 (bq hs) ⟨(kM hs),(kM hs),(kM hs),(kM hs)⟩) ?_;refine oe gH ?_;refine on ?_;refine cc rfl hM (fun jO hM=>?_) (fun jO hM=>?_)
 ·refine bg ?_;exact aP (bD hM)
 refine aM (hK2 _ _ ?_);clear hK2;refine aF fun K5 bT=>?_;refine sr ?_;refine oe (bM (b:=b2)) ?_;obtain⟨y6,rZ,hM⟩:=bind_some hM;refine cv (fun hs=>amJ _ _ p0 av y6 rZ (bq hs) ⟨(kM hs),(kM hs),(kM hs),(kM hs),(kM hs),(kM hs),(kM hs)⟩) ?_;refine on ?_;refine cc rfl hM (fun hc8 hM=>?_) (fun hc8 hM=>?_)
 ·refine bg ?_;exact aP (bD hM)
 refine aM (bT _ _ ?_);clear bT;refine aF fun K8 fu=>?_;refine sr ?_;refine oe (ay 0) ?_;refine oe (aD (b:=b2)) ?_;obtain⟨y9,yO,hM⟩:=bind_some hM;refine cv (fun hs=>Ab _ _ p0.eX 2 7200 y9 yO (bq hs)) ?_;refine oe dN ?_;refine on ?_;refine cc rfl hM (fun uS hM=>?_) (fun uS hM=>?_)
 ·refine bg ?_;exact aP (bD hM)
 refine aM (fu _ _ ?_);clear fu;refine aF fun pR eH=>?_;refine bg ?_;refine aV ?_;refine lq hM (fun bI=>[(2,eP b1),(3,eP b2),(5,eI (bI:Int))]) (fun bI=>[iL l0.bB aG.1,iL l0.bN aG.2.1,iL l0.Sections aG.2.2.1,iL l0.Links aG.2.2.2,own b1 27 (eD l0 aG),iL p0.bJ av.1,iL p0.Routes av.2.1,iL p0.Lines av.2.2.1,iL p0.Changes av.2.2.2.1,iL p0.Turns av.2.2.2.2.1,iL p0.dx av.2.2.2.2.2.1,iL p0.dn av.2.2.2.2.2.2,own b2 36 (fZ p0 av)]) sS rI ?_
 clear hM;rintro aN bI hM fQ hL1;dsimp only[Vu] at hM ⊢;refine aF fun rU fT=>?_;refine aJ ?_;refine oe (ay 1) ?_;refine oe (aD (b:=b2)) ?_;refine oe bf ?_;refine oe bK ?_;refine on ?_;refine cc rfl hM (fun qQ hM=>?_) (fun qQ hM=>?_)
 ·refine aM (fT _ _ ?_);clear fT;refine aF fun yE jN=>?_;refine aV ?_;refine sr ?_;refine oe (bM (b:=b2)) ?_;refine om ?_;obtain⟨y13,FU,hM⟩:=bind_some hM;refine cv (fun hs=>amL _ _ p0 av (bI:Int) y13 FU (bq hs) ⟨(kM hs),(kM hs),(kM hs),(kM hs),(kM hs),(kM hs),(kM hs)⟩) ?_;refine aL ?_;refine aJ ?_;refine oe gH ?_;refine on ?_;refine cc rfl hM (fun zP hM=>?_) (fun zP hM=>?_)
  · refine aJ ?_;refine aL ?_;exact aP (bD hM)
  refine aM (jN _ _ ?_);clear jN;refine aT ?_;refine om ?_;refine oP hM fun hM=>?_;refine oa ?_;refine aU (hL1 hM sS rI)
 refine bX (eH _ _ ?_);clear eH;dsimp only[VB] at hM;refine aF fun CX mE=>?_;refine bg ?_;refine aV ?_;refine lq hM (fun lV=>[(2,eP b1),(3,eP b2),(7,eI (lV:Int))]) (fun lV=>[iL l0.bB aG.1,iL l0.bN aG.2.1,iL l0.Sections aG.2.2.1,iL l0.Links aG.2.2.2,own b1 27 (eD l0 aG),iL p0.bJ av.1,iL p0.Routes av.2.1,iL p0.Lines av.2.2.1,iL p0.Changes av.2.2.2.1,iL p0.Turns av.2.2.2.2.1,iL p0.dx av.2.2.2.2.2.1,iL p0.dn av.2.2.2.2.2.2,own b2 36 (fZ p0 av)]) sS rI ?_
 clear hM;rintro cu lV hM qM hL2;dsimp only[Vv] at hM ⊢;refine aF fun KC uw=>?_;refine aJ ?_;refine oe (ay 2) ?_;refine oe (aD (b:=b2)) ?_;refine oe bf ?_;refine oe bK ?_;refine on ?_;refine cc rfl hM (fun hc17 hM=>?_) (fun hc17 hM=>?_)
 ·refine aM (uw _ _ ?_);clear uw;refine aF fun SC xJ=>?_;refine aV ?_;refine aF fun Gy qz=>?_;refine fE _ (List.Sublist.refl _) ?_;refine aj 0 rfl (bM (b:=b1)) ?_;refine aj 1 rfl (ay 2) ?_;refine aj 2 rfl (aD (b:=b2)) ?_;refine aj 3 rfl aH ?_;obtain⟨x18,wT,hM⟩:=bind_some hM;refine aj 4 rfl (aQ (xs:=p0.Routes) 2 (kG p0.Routes av.2.1) (iS wT)) ?_;refine aj 5 rfl (eY (m:=2) (i:=(lV:Int)) (xs:=p0.Routes) (y:=x18) (l:=(jV x18 (av.2.1.es (lV:Int).toNat))) 0 (kG p0.Routes av.2.1) (fun _=>wT)) ?_;obtain⟨y20,Jm,hM⟩:=bind_some hM;refine dX 6 rfl (sV (fun hs=>afY _ _ l0 aG x18 (av.2.1.es (lV:Int).toNat) y20 Jm (bq hs) ⟨(kM hs),(kM hs),(kM hs),(kM hs)⟩ (Kn.lend ((Sk.elem (Sk.cO (α:=List aO) (r:=av.2.1) (x:=p0.Routes) hA) wT)).kn hs)) ⟨rI,?_⟩);refine aj 7 rfl dL ?_;refine dK (qz _ _ ?_);clear qz;refine aJ ?_;refine oe gH ?_;refine on ?_;refine cc rfl hM (fun hc22 hM=>?_) (fun hc22 hM=>?_)
  · refine aJ ?_;refine aL ?_;exact aP (bD hM)
  refine aM (xJ _ _ ?_);clear xJ;refine aT ?_;refine om ?_;refine oP hM fun hM=>?_;refine oa ?_;refine aU (hL2 hM sS rI)
 refine bX (mE _ _ ?_);clear mE;dsimp only[VD] at hM;refine aF fun N7 wR=>?_;refine bg ?_;refine aV ?_;refine lq hM (fun iU=>[(2,eP b1),(3,eP b2),(9,eI (iU:Int))]) (fun iU=>[iL l0.bB aG.1,iL l0.bN aG.2.1,iL l0.Sections aG.2.2.1,iL l0.Links aG.2.2.2,own b1 27 (eD l0 aG),iL p0.bJ av.1,iL p0.Routes av.2.1,iL p0.Lines av.2.2.1,iL p0.Changes av.2.2.2.1,iL p0.Turns av.2.2.2.2.1,iL p0.dx av.2.2.2.2.2.1,iL p0.dn av.2.2.2.2.2.2,own b2 36 (fZ p0 av)]) sS rI ?_
 clear hM;rintro gY iU hM zC hL3;dsimp only[Vw] at hM ⊢;refine aF fun IQ rX=>?_;refine aJ ?_;refine oe (ay 3) ?_;refine oe (aD (b:=b2)) ?_;refine oe bf ?_;refine oe bK ?_;refine on ?_;refine cc rfl hM (fun hc24 hM=>?_) (fun hc24 hM=>?_)
 ·refine aM (rX _ _ ?_);clear rX;refine aF fun SF zN=>?_;refine aV ?_;refine sr ?_;refine oe (bM (b:=b1)) ?_;refine oe (bM (b:=b2)) ?_;refine om ?_;obtain⟨y25,FX,hM⟩:=bind_some hM;refine cv (fun hs=>amK _ _ l0 aG p0 av (iU:Int) y25 FX (bq hs) ⟨(kM hs),(kM hs),(kM hs),(kM hs)⟩ ⟨(kM hs),(kM hs),(kM hs),(kM hs),(kM hs),(kM hs),(kM hs)⟩) ?_;refine aL ?_;refine aJ ?_;refine oe gH ?_;refine on ?_;refine cc rfl hM (fun hc27 hM=>?_) (fun hc27 hM=>?_)
  · refine aJ ?_;refine aL ?_;exact aP (bD hM)
  refine aM (zN _ _ ?_);clear zN;refine aT ?_;refine om ?_;refine oP hM fun hM=>?_;refine oa ?_;refine aU (hL3 hM sS rI)
 refine bX (wR _ _ ?_);clear wR;dsimp only[VE] at hM;refine aF fun Xj Dn=>?_;refine bg ?_;refine aV ?_;refine lq hM (fun l7=>[(2,eP b1),(3,eP b2),(11,eI (l7:Int))]) (fun l7=>[iL l0.bB aG.1,iL l0.bN aG.2.1,iL l0.Sections aG.2.2.1,iL l0.Links aG.2.2.2,own b1 27 (eD l0 aG),iL p0.bJ av.1,iL p0.Routes av.2.1,iL p0.Lines av.2.2.1,iL p0.Changes av.2.2.2.1,iL p0.Turns av.2.2.2.2.1,iL p0.dx av.2.2.2.2.2.1,iL p0.dn av.2.2.2.2.2.2,own b2 36 (fZ p0 av)]) sS rI ?_
 clear hM;rintro nG l7 hM KF hL4;dsimp only[Vx] at hM ⊢;refine aF fun Xk Dp=>?_;refine aJ ?_;refine oe (ay 4) ?_;refine oe (aD (b:=b2)) ?_;refine oe bf ?_;refine oe bK ?_;refine on ?_;refine cc rfl hM (fun hc29 hM=>?_) (fun hc29 hM=>?_)
 ·refine aM (Dp _ _ ?_);clear Dp;refine aF fun Xl Dq=>?_;refine aV ?_;refine aF fun K40 adQ=>?_;refine fE _ (List.Sublist.refl _) ?_;refine aj 0 rfl (bM (b:=b1)) ?_;refine aj 1 rfl (bM (b:=b2)) ?_;refine aj 2 rfl (ay 4) ?_;refine aj 3 rfl (aD (b:=b2)) ?_;refine aj 4 rfl aH ?_;obtain⟨x30,hx31,hM⟩:=bind_some hM;refine aj 5 rfl (aQ (xs:=p0.Changes) 7 (kG p0.Changes av.2.2.2.1) (iS hx31)) ?_;refine aj 6 rfl (eY (m:=7) (i:=(l7:Int)) (xs:=p0.Changes) (y:=x30) (l:=(Qq x30)) 0 (kG p0.Changes av.2.2.2.1) (fun _=>hx31)) ?_;obtain⟨y32,Zp,hM⟩:=bind_some hM;refine dX 7 rfl (sV (fun hs=>amI _ _ l0 aG p0 av x30 y32 Zp (bq hs) ⟨(kM hs),(kM hs),(kM hs),(kM hs)⟩ ⟨(kM hs),(kM hs),(kM hs),(kM hs),(kM hs),(kM hs),(kM hs)⟩) ⟨rI,?_⟩);refine aj 8 rfl dL ?_;refine dK (adQ _ _ ?_);clear adQ;refine aJ ?_;refine oe gH ?_;refine on ?_;refine cc rfl hM (fun hc34 hM=>?_) (fun hc34 hM=>?_)
  · refine aJ ?_;refine aL ?_;exact aP (bD hM)
  refine aM (Dq _ _ ?_);clear Dq;refine aT ?_;refine om ?_;refine oP hM fun hM=>?_;refine oa ?_;refine aU (hL4 hM sS rI)
 refine bX (Dn _ _ ?_);clear Dn;dsimp only[VF] at hM;refine aF fun K43 adS=>?_;refine bg ?_;refine aV ?_;refine lq hM (fun pE=>[(2,eP b1),(3,eP b2),(13,eI (pE:Int))]) (fun pE=>[iL l0.bB aG.1,iL l0.bN aG.2.1,iL l0.Sections aG.2.2.1,iL l0.Links aG.2.2.2,own b1 27 (eD l0 aG),iL p0.bJ av.1,iL p0.Routes av.2.1,iL p0.Lines av.2.2.1,iL p0.Changes av.2.2.2.1,iL p0.Turns av.2.2.2.2.1,iL p0.dx av.2.2.2.2.2.1,iL p0.dn av.2.2.2.2.2.2,own b2 36 (fZ p0 av)]) sS rI ?_
 clear hM;rintro qx pE hM SH hL5;dsimp only[Vy] at hM ⊢;refine aF fun K45 adT=>?_;refine aJ ?_;refine oe (ay 5) ?_;refine oe (aD (b:=b2)) ?_;refine oe bf ?_;refine oe bK ?_;refine on ?_;refine cc rfl hM (fun ajO hM=>?_) (fun ajO hM=>?_)
 ·refine aM (adT _ _ ?_);clear adT;refine aF fun K47 adU=>?_;refine aV ?_;refine sr ?_;refine oe (bM (b:=b2)) ?_;refine om ?_;obtain⟨Xa,hy38,hM⟩:=bind_some hM;refine cv (fun hs=>amM _ _ p0 av (pE:Int) Xa hy38 (bq hs) ⟨(kM hs),(kM hs),(kM hs),(kM hs),(kM hs),(kM hs),(kM hs)⟩) ?_;refine aL ?_;refine aJ ?_;refine oe gH ?_;refine on ?_;refine cc rfl hM (fun hc39 hM=>?_) (fun hc39 hM=>?_)
  · refine aJ ?_;refine aL ?_;exact aP (bD hM)
  refine aM (adU _ _ ?_);clear adU;refine aT ?_;refine om ?_;refine oP hM fun hM=>?_;refine oa ?_;refine aU (hL5 hM sS rI)
 refine bX (adS _ _ ?_);clear adS;dsimp only[VG] at hM;refine aF fun K51 adV=>?_;refine bg ?_;refine aV ?_;refine lq hM (fun F3=>[(2,eP b1),(3,eP b2),(15,eI (F3:Int))]) (fun F3=>[iL l0.bB aG.1,iL l0.bN aG.2.1,iL l0.Sections aG.2.2.1,iL l0.Links aG.2.2.2,own b1 27 (eD l0 aG),iL p0.bJ av.1,iL p0.Routes av.2.1,iL p0.Lines av.2.2.1,iL p0.Changes av.2.2.2.1,iL p0.Turns av.2.2.2.2.1,iL p0.dx av.2.2.2.2.2.1,iL p0.dn av.2.2.2.2.2.2,own b2 36 (fZ p0 av)]) sS rI ?_
 clear hM;rintro acG F3 hM KL6 hL6;dsimp only[Vz] at hM ⊢;refine aF fun K53 adW=>?_;refine aJ ?_;refine oe (ay 6) ?_;refine oe (aD (b:=b2)) ?_;refine oe bf ?_;refine oe bK ?_;refine on ?_;refine cc rfl hM (fun YN hM=>?_) (fun YN hM=>?_)
 ·refine aM (adW _ _ ?_);clear adW;refine aF fun K55 adX=>?_;refine aV ?_;refine sr ?_;refine oe (ay 6) ?_;refine oe (aD (b:=b2)) ?_;refine om ?_;obtain⟨lG,G7,hM⟩:=bind_some hM;refine oe (aQ (xs:=p0.dx) 5 (kG p0.dx av.2.2.2.2.2.1) (iS G7)) ?_;refine oe (eY (m:=5) (i:=(F3:Int)) (xs:=p0.dx) (y:=lG) (l:=(UR lG)) 0 (kG p0.dx av.2.2.2.2.2.1) (fun _=>G7)) ?_;refine oA rfl fun Ar=>?_;refine oS Ar (UR lG) ?_;refine on ?_;refine sr ?_;refine oe (bM (b:=b2)) ?_;refine oe (ay 0) ?_;refine oe (aD (b:=Ar)) ?_;refine oe (ay 1) ?_;refine oe (aD (b:=Ar)) ?_;obtain⟨uM,PL,hM⟩:=bind_some hM;refine cv (fun hs=>VN _ _ p0 av lG.qN lG.qO uM PL (bq hs) ⟨(kM hs),(kM hs),(kM hs),(kM hs),(kM hs),(kM hs),(kM hs)⟩) ?_;refine oe dN ?_;refine om ?_;refine au rfl (bM (b:=b2)) ?_;refine au rfl (ay 2) ?_
  refine au rfl (aD (b:=Ar)) ?_;refine au rfl (ay 3) ?_;refine au rfl (aD (b:=Ar)) ?_;obtain⟨Eh,Zr,hM⟩:=bind_some hM;refine cg rfl (fun hg hs=>VN _ _ p0 av lG.q8 lG.q9 Eh (dF Zr hg) (bq hs) ⟨(kM hs),(kM hs),(kM hs),(kM hs),(kM hs),(kM hs),(kM hs)⟩) ?_;refine au rfl dN ?_;refine oe bP ?_;refine om ?_;refine au rfl (ay 0) ?_;refine au rfl (aD (b:=Ar)) ?_;refine au rfl (ay 2) ?_;refine au rfl (aD (b:=Ar)) ?_;refine au rfl fI ?_;refine au rfl aH ?_;refine au rfl (ay 1) ?_;refine au rfl (aD (b:=Ar)) ?_;refine au rfl (ay 3) ?_;refine au rfl (aD (b:=Ar)) ?_;refine au rfl fI ?_;refine au rfl dB ?_;refine oe bP ?_;refine om ?_;refine au rfl (ay 4) ?_;refine au rfl (aD (b:=Ar)) ?_;refine au rfl (ay 0) ?_;refine au rfl (aD (b:=b2)) ?_;obtain⟨aiW,hM⟩:=bQ hM;refine au rfl (mQ (hr:=fun hg=>dI (tL aiW hg))) ?_;obtain⟨jZ,Zt,hM⟩:=bind_some hM;refine cg rfl (fun hg hs=>Ab _ _ lG.Offset 0 (p0.eX-1) jZ (dF Zt hg) (bq hs)) ?_;refine au rfl dN ?_;refine oe bP ?_;refine on ?_;refine cc rfl hM (fun YR hM=>?_) (fun YR hM=>?_)
  · refine bg ?_;exact aP (bD hM)
  refine aM (adX _ _ ?_);clear adX;refine aT ?_;refine om ?_;refine oP hM fun hM=>?_;refine oa ?_;refine aU (hL6 hM sS rI)
 refine bX (adV _ _ ?_);clear adV;dsimp only[VH] at hM;refine aF fun K59 adY=>?_;refine bg ?_;refine aV ?_;refine lq hM (fun F4=>[(2,eP b1),(3,eP b2),(17,eI (F4:Int))]) (fun F4=>[iL l0.bB aG.1,iL l0.bN aG.2.1,iL l0.Sections aG.2.2.1,iL l0.Links aG.2.2.2,own b1 27 (eD l0 aG),iL p0.bJ av.1,iL p0.Routes av.2.1,iL p0.Lines av.2.2.1,iL p0.Changes av.2.2.2.1,iL p0.Turns av.2.2.2.2.1,iL p0.dx av.2.2.2.2.2.1,iL p0.dn av.2.2.2.2.2.2,own b2 36 (fZ p0 av)]) sS rI ?_
 clear hM;rintro acH F4 hM KL7 hL7;dsimp only[VA] at hM ⊢;refine aF fun K61 adZ=>?_;refine aJ ?_;refine oe (ay 7) ?_;refine oe (aD (b:=b2)) ?_;refine oe bf ?_;refine oe bK ?_;refine on ?_;refine cc rfl hM (fun ajT hM=>?_) (fun ajT hM=>?_)
 ·refine aM (adZ _ _ ?_);clear adZ;refine aF fun K63 ad2=>?_;refine aV ?_;refine sr ?_;refine oe (ay 7) ?_;refine oe (aD (b:=b2)) ?_;refine om ?_;obtain⟨x55,FR,hM⟩:=bind_some hM;refine oe (aQ (xs:=p0.dn) 3 (kG p0.dn av.2.2.2.2.2.2) (iS FR)) ?_;refine oe (eY (m:=3) (i:=(F4:Int)) (xs:=p0.dn) (y:=x55) (l:=(UQ x55)) 0 (kG p0.dn av.2.2.2.2.2.2) (fun _=>FR)) ?_;refine oA rfl fun KM=>?_;refine oS KM (UQ x55) ?_;refine on ?_;refine sr ?_;refine oe (ay 0) ?_;refine oe (aD (b:=KM)) ?_;refine oe (ay 0) ?_;refine oe (aD (b:=b1)) ?_;refine oe bf ?_;refine oN hM fun hM=>?_;obtain⟨NV,akM,hM⟩:=bind_some hM;refine cv (fun hs=>Ab _ _ x55.From 0 ((l0.bB.length:Int)-1) NV akM (bq hs)) ?_;refine oe dN ?_;refine om ?_;refine au rfl (ay 1) ?_;refine au rfl (aD (b:=KM)) ?_;refine au rfl (ay 0) ?_
  refine au rfl (aD (b:=b1)) ?_;refine au rfl bf ?_;obtain⟨ai0,hM⟩:=bQ hM;refine au rfl (mQ (hr:=fun hg=>dI (tL ai0 hg))) ?_;obtain⟨Xd,akO,hM⟩:=bind_some hM;refine cg rfl (fun hg hs=>Ab _ _ x55.To 0 ((l0.bB.length:Int)-1) Xd (dF akO hg) (bq hs)) ?_;refine au rfl dN ?_;refine oe bP ?_;refine om ?_;refine au rfl (ay 0) ?_;refine au rfl (aD (b:=KM)) ?_;refine au rfl (ay 1) ?_;refine au rfl (aD (b:=KM)) ?_;refine au rfl fI ?_;refine oe bP ?_;refine om ?_;refine au rfl (ay 2) ?_;refine au rfl (aD (b:=KM)) ?_;obtain⟨y64,akP,hM⟩:=bind_some hM;refine cg rfl (fun hg hs=>Ab _ _ x55.Weight 1 1048576 y64 (dF akP hg) (bq hs)) ?_;refine au rfl dN ?_;refine oe bP ?_;refine on ?_;refine cc rfl hM (fun Pq hM=>?_) (fun Pq hM=>?_)
  · refine bg ?_;exact aP (bD hM)
  refine aM (ad2 _ _ ?_);clear ad2;refine aT ?_;refine om ?_;refine oP hM fun hM=>?_;refine oa ?_;refine aU (hL7 hM sS rI)
 refine bX (adY _ _ ?_);clear adY;dsimp only[aaM] at hM;refine bg ?_;exact aP (bD hM)
end Go.Proofs.YtcalibhfgdncaaaGreat
