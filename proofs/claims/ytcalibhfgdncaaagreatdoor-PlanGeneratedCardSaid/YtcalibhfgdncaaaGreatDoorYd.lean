/- Models of functions, and that the code computes them. -/
import Derived.Test.YtcalibhfgdncaaaGreatDoorYc
set_option linter.all false
namespace Go.Proofs.YtcalibhfgdncaaaGreatDoor
open Go.Dc Go.RowKit
set_option maxRecDepth 10000
def NK(s_1:Str)(jl:Int)(bA:(Int×Str)→Option Str):Int→Option Str:=fun E8=>
 bq (bJ (E8+1))<|
 (BH (⟨[48,49,50,51,52,53,54,55,56,57]⟩:Str) E8 (E8+1)).bind fun q7=>
 (dX q7 s_1).bind fun q9=>
 bq (decide (10≠0)&&bJ (jl.tdiv 10))<|
 bA ((jl.tdiv 10),q9)
def Sn:Str→Option Str:=fun CQ=>
 some CQ
def Wx(n0:Int)(s_1:Str):Unit→Option Str:=fun _=>
 if decide (n0<0) then
  ((dX (⟨[45]⟩:Str) s_1).bind fun q15=>
  Sn q15)
 else
  (Sn s_1)
def NJ(n0:Int)(bA:(Int×Str)→Option Str):(Int×Str)→Option Str:=fun (jl,s_1)=>
 if decide (jl≠0) then
  (if decide ((jl.tmod 10)<0) then
   (bq (bJ (-(jl.tmod 10)))<|
   NK s_1 jl bA (-(jl.tmod 10)))
  else
   (NK s_1 jl bA (jl.tmod 10)))
 else
  (Wx n0 s_1 ())
def FP(n0:Int):Option Str:=
 if (decide (0≤n0)&&decide (n0<10)) then
  (bq (bJ (n0+1))<|
  (BH (⟨[48,49,50,51,52,53,54,55,56,57]⟩:Str) n0 (n0+1)).bind fun q3=>
  some q3)
 else
  (iter (NJ n0) FUEL (n0,(⟨[]⟩:Str)))
theorem Wy(S:bO)(w:World)(n0:Int)(y:Str)(hM:FP n0=some y)(hS:sB S w):
   Calls Tryz.prog 94 #[vI n0] w (dz w (.string y.ba)):=by
 refine cu (args:=[_]) Tryz.func94 rfl ((pre_nil hS).start) rfl ?_;unfold FP at hM;refine bI ?_;refine aK fun K2 hK2=>?_;refine aW ?_;refine oe jK ?_;refine om ?_;refine aD rfl aL ?_;refine aD rfl bY ?_;refine oe dG ?_;refine on ?_;refine cc rfl hM (fun hc1 hM=>?_) (fun hc1 hM=>?_)
 ·refine aW ?_;refine om ?_;refine oP hM fun hM=>?_;obtain⟨q3,hq4,hM⟩:=bind_some hM;refine oe (Jp (ol:=some (.i64,n0)) (oh:=some (.i64,(n0+1))) (fun _=>hq4)) ?_;refine aT ?_;exact aY (bQ hM)
 refine aX (hK2 _ _ ?_);clear hK2;refine bI ?_;refine aW ?_;refine oe bY ?_;refine aT ?_;refine aK fun K7 eu=>?_;refine bH ?_;refine lq hM (fun (jl,s_1)=>[(0,eI jl),(3,.v (.string s_1.ba)),(4,.v (.bool (decide (n0<0))))]) (fun (jl,s_1)=>[]) sS rI ?_;clear hM;rintro bA ⟨jl,s_1⟩ hM iG hL1;dsimp only[NJ] at hM ⊢;refine aK fun K8 gV=>?_;refine aW ?_;refine oe gZ ?_;refine on ?_;refine cc rfl hM (fun jL hM=>?_) (fun jL hM=>?_)
 ·refine aX (gV _ _ ?_);clear gV;refine bH ?_;refine aW ?_;refine oe BZ ?_;refine aT ?_;refine jm y (k:=NK s_1 jl bA) (fun E8=>[(0,eI jl),(3,.v (.string s_1.ba)),(4,.v (.bool (decide (n0<0)))),(5,eI E8)]) (fun E8=>[]) ?_ ?_
  · intro zC hJ2;refine aW ?_;refine oe bY ?_;refine on ?_;refine cc rfl hM (fun qD hM=>?_) (fun qD hM=>?_)
    ·refine bB ?_;refine om ?_;obtain⟨akp,hM⟩:=bW hM;refine oe (Vd (hr:=fun hg=>dY akp)) ?_;refine oa ?_;refine bC (hJ2 hM sS rI)
    refine aX (hJ2 hM sS rI)
  clear hM;rintro E8 hM;dsimp only[NK] at hM ⊢;refine aW ?_;refine om ?_;refine oP hM fun hM=>?_;obtain⟨q7,hq8,hM⟩:=bind_some hM;refine oe (Jp (ol:=some (.i64,E8)) (oh:=some (.i64,(E8+1))) (fun _=>hq8)) ?_;refine om ?_;obtain⟨q9,QD,hM⟩:=bind_some hM;refine oe (eZ (fun _=>QD)) ?_;refine aT ?_;refine bB ?_;refine om ?_;obtain⟨aki,hM⟩:=bW hM;refine oe (zK (hr:=fun hg=>Ah aki)) ?_;refine oa ?_;refine bC (hL1 hM sS rI)
 refine dK (eu _ _ ?_);clear eu;dsimp only[Wx] at hM;refine jm y (k:=Sn) (fun CQ=>[(3,.v (.string CQ.ba))]) (fun CQ=>[]) ?_ ?_
 ·intro Gh hJ3;refine aW ?_;refine on ?_;refine cc rfl hM (fun vT hM=>?_) (fun vT hM=>?_)
  · refine bB ?_;refine om ?_;obtain⟨q15,amP,hM⟩:=bind_some hM;refine oe (eZ (fun _=>amP)) ?_;refine oa ?_;refine bC (hJ3 hM sS rI)
  refine aX (hJ3 hM sS rI)
 clear hM;rintro CQ hM;dsimp only[Sn] at hM ⊢;refine aW ?_;refine aT ?_;exact aY (bQ hM)
def uE(n0:Int):Option Str:=
 (FP n0).bind fun y1=>
 some y1
theorem yg(S:bO)(w:World)(n0:Int)(y:Str)(hM:uE n0=some y)(hS:sB S w):
  Calls Tryz.prog 40 #[vI n0] w (dz w (.string y.ba)):=by
 refine cu (args:=[_]) Tryz.func40 rfl ((pre_nil hS).start) rfl ?_;unfold uE at hM;refine bI ?_;refine aW ?_;obtain⟨y1,hy2,hM⟩:=bind_some hM;refine cv (fun hs=>Wy _ _ n0 y1 hy2 (bf hs)) ?_;refine aT ?_;exact aY (bQ hM)
def Ol(bg:Nat)(bA:(Str×Nat)→Option Str):Str→Option Str:=fun TS=>
 bq (bJ ((bg:Int)+1))<|
 bA (TS,bg+1)
def Om:Str→Option Str:=fun CQ=>
 (dX CQ (⟨[10]⟩:Str)).bind fun R6=>
 some R6
def ab6(r0:aO)(s_1:Str):Unit→Option Str:=fun _=>
 if decide (0<r0.Overlap) then
  ((FP r0.Overlap).bind fun y23=>
  (dX (⟨[32,111,118,101,114,108,97,112,32]⟩:Str) y23).bind fun q25=>
  (dX s_1 q25).bind fun R7=>
  Om R7)
 else
  (Om s_1)
def Tn(r0:aO)(l0:Layout)(bA:(Str×Nat)→Option Str):(Str×Nat)→Option Str:=fun (s_1,bg)=>
 if decide ((bg:Int)<(r0.Steps.length:Int)) then
  ((idx r0.Steps (bg:Int)).bind fun x5=>
  (idx l0.Sections x5.Section).bind fun x7=>
  (dX (⟨[32]⟩:Str) x7.Name).bind fun q9=>
  (dX s_1 q9).bind fun q11=>
  (idx r0.Steps (bg:Int)).bind fun l7=>
  if decide (l7.Dir=0) then
   ((dX q11 (⟨[32,117,112]⟩:Str)).bind fun q16=>
   Ol bg bA q16)
  else
   ((dX q11 (⟨[32,100,111,119,110]⟩:Str)).bind fun R5=>
   Ol bg bA R5))
 else
  (ab6 r0 s_1 ())
def Tp(l0:Layout)(r0:aO):Option Str:=
 iter (Tn r0 l0) FUEL ((⟨[114,111,117,116,101]⟩:Str),0)
theorem aqr(S:bO)(w:World)(l0:Layout)(ay:aC.R Layout)(r0:aO)(bS:aC.R aO)(y:Str)(hM:Tp l0 r0=some y)(hS:sB S w)(dZ:aC.ok S w ay l0)(qg:aC.ok S w bS r0):
   Calls Tryz.prog 41 #[.agg (jN l0 ay),.agg (xH r0 bS)] w (dz w (.string y.ba)):=by
 refine cu (args:=[_,_]) Tryz.func41 rfl ((pre_nil hS).start |>.lY dZ|>.gW (α:=List Step) (r:=bS) (x:=r0.Steps) qg) rfl ?_;unfold Tp at hM;refine sr ?_;refine oB (cK l0 ay) fun b1=>?_;refine oB (jC r0 bS) fun b2=>?_;refine aT ?_;refine bI ?_;refine aK fun K3 hK3=>?_;refine bI ?_;refine bH ?_;refine lq hM (fun (s_1,bg)=>[(2,eP b1),(3,eP b2),(5,.v (.string s_1.ba)),(6,eI (bg:Int))]) (fun (s_1,bg)=>[iL l0.aU ay.1,iL l0.bG ay.2.1,iL l0.Sections ay.2.2.1,iL l0.Links ay.2.2.2,own b1 26 (cK l0 ay),iL r0.Steps bS,own b2 90 (jC r0 bS)]) sS rI ?_
 clear hM;rintro bA ⟨s_1,bg⟩ hM iG hL1;dsimp only[Tn] at hM ⊢;refine aK fun K5 dI=>?_;refine aW ?_;refine oe (av 0) ?_;refine oe (aF (b:=b2)) ?_;refine oe bL ?_;refine oe bY ?_;refine on ?_;refine cc rfl hM (fun hc3 hM=>?_) (fun hc3 hM=>?_)
 ·refine aX (dI _ _ ?_);clear dI;refine jm y (k:=Ol bg bA) (fun TS=>[(2,eP b1),(3,eP b2),(5,.v (.string TS.ba)),(6,eI (bg:Int))]) (fun TS=>[iL l0.aU ay.1,iL l0.bG ay.2.1,iL l0.Sections ay.2.2.1,iL l0.Links ay.2.2.2,own b1 26 (cK l0 ay),iL r0.Steps bS,own b2 90 (jC r0 bS)]) ?_ ?_
  · intro zC hJ2;refine bH ?_;refine aK fun K7 eu=>?_;refine gy _ (List.Sublist.refl _) ?_;refine ak 0 rfl aL ?_;refine ak 1 rfl (av 2) ?_;refine ak 2 rfl (aF (b:=b1)) ?_;refine ak 3 rfl (av 0) ?_;refine ak 4 rfl (aF (b:=b2)) ?_;refine ak 5 rfl aL ?_;obtain⟨x5,hx6,hM⟩:=bind_some hM;refine ak 6 rfl (bD (xs:=r0.Steps) 2 (kG r0.Steps bS) (iS hx6)) ?_;refine ak 7 rfl (av 0) ?_;refine ak 8 rfl (bT (i:=(bg:Int)) (xs:=r0.Steps) (y:=x5) 0 (kG r0.Steps bS) (fun _=>hx6)) ?_;obtain⟨x7,yR,hM⟩:=bind_some hM;refine ak 9 rfl (bD (xs:=l0.Sections) 5 (kG l0.Sections ay.2.2.1) (iS yR)) ?_;refine ak 10 rfl (av 0) ?_;refine ak 11 rfl (bT (i:=x5.Section) (xs:=l0.Sections) (y:=x7) 0 (kG l0.Sections ay.2.2.1) (fun _=>yR)) ?_;obtain⟨q9,QD,hM⟩:=bind_some hM;refine ak 12 rfl (eZ (fun _=>QD)) ?_;obtain⟨q11,hq12,hM⟩:=bind_some hM;refine ak 13 rfl (eZ (fun _=>hq12)) ?_;refine ak 14 rfl dD ?_;refine dP (eu _ _ ?_);clear eu;refine sr ?_;refine oe (av 0) ?_;refine oe (aF (b:=b2)) ?_;refine om ?_;obtain⟨l7,uT,hM⟩:=bind_some hM;refine oe (bD (xs:=r0.Steps) 2 (kG r0.Steps bS) (iS uT)) ?_
    refine oe (av 1) ?_;refine oe (bT (i:=(bg:Int)) (xs:=r0.Steps) (y:=l7) 1 (kG r0.Steps bS) (fun _=>uT)) ?_;refine oe dU ?_;refine on ?_;refine cc rfl hM (fun xQ hM=>?_) (fun xQ hM=>?_)
    ·refine bB ?_;refine om ?_;obtain⟨q16,ZX,hM⟩:=bind_some hM;refine oe (eZ (fun _=>ZX)) ?_;refine oa ?_;refine bC (hJ2 hM sS rI)
    refine bB ?_;refine om ?_;obtain⟨R5,ZY,hM⟩:=bind_some hM;refine oe (eZ (fun _=>ZY)) ?_;refine oa ?_;refine bC (hJ2 hM sS rI)
  clear hM;rintro TS hM;dsimp only[Ol] at hM ⊢;refine bB ?_;refine om ?_;refine oP hM fun hM=>?_;refine oa ?_;refine bC (hL1 hM sS rI)
 refine dK (hK3 _ _ ?_);clear hK3;dsimp only[ab6] at hM;refine jm y (k:=Om) (fun CQ=>[(5,.v (.string CQ.ba))]) (fun CQ=>[]) ?_ ?_
 ·intro Gh hJ3;refine sr ?_;refine oe (av 1) ?_;refine oe (aF (b:=b2)) ?_;refine oe gM ?_;refine on ?_;refine cc rfl hM (fun hc22 hM=>?_) (fun hc22 hM=>?_)
  · refine bB ?_;refine om ?_;refine oe (av 1) ?_;refine oe (aF (b:=b2)) ?_;obtain⟨y23,hy24,hM⟩:=bind_some hM;refine cv (fun hs=>Wy _ _ r0.Overlap y23 hy24 (bf hs)) ?_;obtain⟨q25,ani,hM⟩:=bind_some hM;refine oe (eZ (fun _=>ani)) ?_;obtain⟨R7,Z4,hM⟩:=bind_some hM;refine oe (eZ (fun _=>Z4)) ?_;refine oa ?_;refine bC (hJ3 hM sS rI)
  refine aX (hJ3 hM sS rI)
 clear hM;rintro CQ hM;dsimp only[Om] at hM ⊢;refine aW ?_;obtain⟨R6,Z0,hM⟩:=bind_some hM;refine oe (eZ (fun _=>Z0)) ?_;refine aT ?_;exact aY (bQ hM)
def KF(jS:Int)(hi0:Int):Option Str:=
 (FP jS).bind fun y1=>
 (dX y1 (⟨[46,46]⟩:Str)).bind fun q3=>
 (FP hi0).bind fun y5=>
 (dX q3 y5).bind fun q7=>
 some q7
theorem ab7(S:bO)(w:World)(jS:Int)(hi0:Int)(y:Str)(hM:KF jS hi0=some y)(hS:sB S w):
  Calls Tryz.prog 42 #[vI jS,vI hi0] w (dz w (.string y.ba)):=by
 refine cu (args:=[_,_]) Tryz.func42 rfl ((pre_nil hS).start) rfl ?_;unfold KF at hM;refine bI ?_;refine aW ?_;obtain⟨y1,hy2,hM⟩:=bind_some hM;refine cv (fun hs=>Wy _ _ jS y1 hy2 (bf hs)) ?_;obtain⟨q3,hq4,hM⟩:=bind_some hM;refine oe (eZ (fun _=>hq4)) ?_;refine om ?_;obtain⟨y5,ug,hM⟩:=bind_some hM;refine cv (fun hs=>Wy _ _ hi0 y5 ug (bf hs)) ?_;obtain⟨q7,hq8,hM⟩:=bind_some hM;refine oe (eZ (fun _=>hq8)) ?_;refine aT ?_;exact aY (bQ hM)
def Od(ny:Nat)(oH:(Str×Nat)→Option (Str×Int)):Str→Option (Str×Int):=fun TU=>
 (dX TU (⟨[10]⟩:Str)).bind fun q94=>
 bq (bJ ((ny:Int)+1))<|
 oH (q94,ny+1)
def ab2(fO:Nat)(jX:(Str×Nat)→Option (Str×Int))(Iw:Str):Unit→Option (Str×Int):=fun _=>
 bq (bJ ((fO:Int)+1))<|
 jX (Iw,fO+1)
def N9(lF:Line)(fO:Nat)(jX:(Str×Nat)→Option (Str×Int))(oH:(Str×Nat)→Option (Str×Int)):(Str×Nat)→Option (Str×Int):=fun (Iw,ny)=>
 if decide ((ny:Int)<(lF.aJ.length:Int)) then
  ((idx lF.aJ (ny:Int)).bind fun tq=>
  (idx lF.aJ (ny:Int)).bind fun x80=>
  (uE tq.aO).bind fun zx=>
  (dX (⟨[114,105,100,101,32]⟩:Str) zx).bind fun q84=>
  (dX q84 (⟨[32]⟩:Str)).bind fun q86=>
  (uE x80.Extra).bind fun I7=>
  (dX q86 I7).bind fun q90=>
  (dX Iw q90).bind fun q92=>
  (idx lF.aJ (ny:Int)).bind fun x97=>
  if decide (0<x97.Max) then
   ((idx lF.aJ (ny:Int)).bind fun x100=>
   (idx lF.aJ (ny:Int)).bind fun x102=>
   (KF x100.Min x102.Max).bind fun y104=>
   (dX (⟨[32]⟩:Str) y104).bind fun af4=>
   (dX q92 af4).bind fun af5=>
   Od ny oH af5)
  else
   (Od ny oH q92))
 else
  (ab2 fO jX Iw ())
def ahm(IC:Str):Unit→Option (Str×Int):=fun _=>
 some (IC,0)
def Tg(p0:Plan)(l0:Layout)(PV:(Str×Nat)→Option (Str×Int)):(Str×Nat)→Option (Str×Int):=fun (IC,FB)=>
 if decide ((FB:Int)<(p0.bF.length:Int)) then
  ((idx p0.bF (FB:Int)).bind fun EJ=>
  (idx l0.aU EJ.From).bind fun ac1=>
  (dX (⟨[100,101,109,97,110,100,32]⟩:Str) ac1).bind fun agE=>
  (dX agE (⟨[32]⟩:Str)).bind fun agF=>
  (idx l0.aU EJ.To).bind fun ac2=>
  (dX agF ac2).bind fun agG=>
  (dX agG (⟨[32]⟩:Str)).bind fun agH=>
  (uE EJ.Weight).bind fun ac9=>
  (dX agH ac9).bind fun agI=>
  (dX agI (⟨[10]⟩:Str)).bind fun agJ=>
  (dX IC agJ).bind fun agK=>
  bq (bJ ((FB:Int)+1))<|
  PV (agK,FB+1))
 else
  (ahm IC ())
def Oh(p0:Plan)(l0:Layout)(IB:Str):Unit→Option (Str×Int):=fun _=>
 iter (Tg p0 l0) FUEL (IB,0)
def Tf(p0:Plan)(l0:Layout)(Gw:(Str×Nat)→Option (Str×Int)):(Str×Nat)→Option (Str×Int):=fun (IB,uo)=>
 if decide ((uo:Int)<(p0.bE.length:Int)) then
  ((idx p0.bE (uo:Int)).bind fun zu=>
  (idx p0.Lines zu.mJ).bind fun acZ=>
  (dX (⟨[115,121,110,99,32]⟩:Str) acZ.Name).bind fun agt=>
  (dX agt (⟨[32]⟩:Str)).bind fun agu=>
  (idx p0.Lines zu.mP).bind fun ac0=>
  (uE zu.lG).bind fun DI=>
  (dX agu DI).bind fun agv=>
  (dX agv (⟨[32]⟩:Str)).bind fun agw=>
  (dX agw ac0.Name).bind fun agx=>
  (dX agx (⟨[32]⟩:Str)).bind fun agy=>
  (uE zu.lN).bind fun ac7=>
  (dX agy ac7).bind fun agz=>
  (dX agz (⟨[32]⟩:Str)).bind fun agA=>
  (uE zu.Offset).bind fun ac8=>
  (dX agA ac8).bind fun agB=>
  (dX agB (⟨[10]⟩:Str)).bind fun agC=>
  (dX IB agC).bind fun agD=>
  bq (bJ ((uo:Int)+1))<|
  Gw (agD,uo+1))
 else
  (Oh p0 l0 IB ())
def Og(p0:Plan)(l0:Layout)(Iz:Str):Unit→Option (Str×Int):=fun _=>
 iter (Tf p0 l0) FUEL (Iz,0)
def Te(p0:Plan)(l0:Layout)(Gv:(Str×Nat)→Option (Str×Int)):(Str×Nat)→Option (Str×Int):=fun (Iz,um)=>
 if decide ((um:Int)<(p0.Turns.length:Int)) then
  ((idx p0.Turns (um:Int)).bind fun BJ=>
  (idx p0.Lines BJ.From).bind fun x158=>
  (dX (⟨[116,117,114,110,32]⟩:Str) x158.Name).bind fun agl=>
  (dX agl (⟨[32]⟩:Str)).bind fun agm=>
  (idx p0.Lines BJ.To).bind fun acY=>
  (dX agm acY.Name).bind fun agn=>
  (dX agn (⟨[32]⟩:Str)).bind fun agp=>
  (KF BJ.Min BJ.Max).bind fun ac6=>
  (dX agp ac6).bind fun agq=>
  (dX agq (⟨[10]⟩:Str)).bind fun agr=>
  (dX Iz agr).bind fun ags=>
  bq (bJ ((um:Int)+1))<|
  Gv (ags,um+1))
 else
  (Og p0 l0 Iz ())
def Oe(p0:Plan)(l0:Layout)(Iy:Str):Unit→Option (Str×Int):=fun _=>
 iter (Te p0 l0) FUEL (Iy,0)
def Td(p0:Plan)(l0:Layout)(BU:(Str×Nat)→Option (Str×Int)):(Str×Nat)→Option (Str×Int):=fun (Iy,uj)=>
 if decide ((uj:Int)<(p0.Changes.length:Int)) then
  ((idx p0.Changes (uj:Int)).bind fun x112=>
  (idx p0.Lines x112.fZ).bind fun x115=>
  (dX (⟨[99,104,97,110,103,101,32]⟩:Str) x115.Name).bind fun af6=>
  (dX af6 (⟨[32]⟩:Str)).bind fun af7=>
  (idx p0.Lines x112.iO).bind fun acX=>
  (uE x112.iE).bind fun yA=>
  (dX af7 yA).bind fun af8=>
  (dX af8 (⟨[32]⟩:Str)).bind fun af9=>
  (dX af9 acX.Name).bind fun aga=>
  (dX aga (⟨[32]⟩:Str)).bind fun agb=>
  (uE x112.kN).bind fun pF=>
  (dX agb pF).bind fun agc=>
  (dX agc (⟨[32]⟩:Str)).bind fun agd=>
  (KF x112.Min x112.Max).bind fun ac4=>
  (dX agd ac4).bind fun agf=>
  (dX agf (⟨[32]⟩:Str)).bind fun agh=>
  (uE x112.Weight).bind fun ac5=>
  (dX agh ac5).bind fun agi=>
  (dX agi (⟨[10]⟩:Str)).bind fun agj=>
  (dX Iy agj).bind fun agk=>
  bq (bJ ((uj:Int)+1))<|
  BU (agk,uj+1))
 else
  (Oe p0 l0 Iy ())
def Oc(p0:Plan)(l0:Layout)(Iu:Str):Unit→Option (Str×Int):=fun _=>
 iter (Td p0 l0) FUEL (Iu,0)
def Tc(p0:Plan)(l0:Layout)(jX:(Str×Nat)→Option (Str×Int)):(Str×Nat)→Option (Str×Int):=fun (Iu,fO)=>
 if decide ((fO:Int)<(p0.Lines.length:Int)) then
  ((idx p0.Lines (fO:Int)).bind fun lF=>
  (dX (⟨[108,105,110,101,32]⟩:Str) lF.Name).bind fun q59=>
  (dX q59 (⟨[32]⟩:Str)).bind fun q61=>
  (idx p0.aR lF.aH).bind fun EK=>
  (dX q61 EK.Name).bind fun q65=>
  (dX q65 (⟨[32]⟩:Str)).bind fun q67=>
  (uE lF.Weight).bind fun sD=>
  (dX q67 sD).bind fun q71=>
  (dX q71 (⟨[10]⟩:Str)).bind fun q73=>
  (dX Iu q73).bind fun q75=>
  iter (N9 lF fO jX) FUEL (q75,0))
 else
  (Oc p0 l0 Iu ())
def Ob(p0:Plan)(l0:Layout)(s_2:Str):Unit→Option (Str×Int):=fun _=>
 iter (Tc p0 l0) FUEL (s_2,0)
def Ta(p0:Plan)(l0:Layout)(fE:(Str×Nat)→Option (Str×Int)):(Str×Nat)→Option (Str×Int):=fun (s_2,jA)=>
 if decide ((jA:Int)<(p0.Routes.length:Int)) then
  ((idx p0.Routes (jA:Int)).bind fun UC=>
  (Tp l0 UC).bind fun jB=>
  (dX s_2 jB).bind fun q52=>
  bq (bJ ((jA:Int)+1))<|
  fE (q52,jA+1))
 else
  (Ob p0 l0 s_2 ())
def Oa(p0:Plan)(l0:Layout)(s_1:Str):Unit→Option (Str×Int):=fun _=>
 iter (Ta p0 l0) FUEL (s_1,0)
def N8(p0:Plan)(l0:Layout)(bA:(Str×Nat)→Option (Str×Int)):(Str×Nat)→Option (Str×Int):=fun (s_1,bg)=>
 if decide ((bg:Int)<(p0.aR.length:Int)) then
  ((idx p0.aR (bg:Int)).bind fun l7=>
  (dX (⟨[115,116,111,99,107,32]⟩:Str) l7.Name).bind fun q16=>
  (dX q16 (⟨[32]⟩:Str)).bind fun R5=>
  (uE l7.Length).bind fun y20=>
  (dX R5 y20).bind fun q22=>
  (dX q22 (⟨[32]⟩:Str)).bind fun q24=>
  (uE l7.qB).bind fun aP=>
  (dX q24 aP).bind fun q28=>
  (dX q28 (⟨[32]⟩:Str)).bind fun q30=>
  (uE l7.qy).bind fun y32=>
  (dX q30 y32).bind fun q34=>
  (dX q34 (⟨[32]⟩:Str)).bind fun q36=>
  (uE l7.qz).bind fun y38=>
  (dX q36 y38).bind fun q40=>
  (dX q40 (⟨[10]⟩:Str)).bind fun q42=>
  (dX s_1 q42).bind fun q44=>
  bq (bJ ((bg:Int)+1))<|
  bA (q44,bg+1))
 else
  (Oa p0 l0 s_1 ())
def Ti(l0:Layout)(p0:Plan):Option (Str×Int):=
 (N7 l0 p0).bind fun y3=>
 if decide (y3≠0) then
  (some ((⟨[]⟩:Str),1))
 else
  ((uE p0.bU).bind fun y6=>
  (dX (⟨[112,101,114,105,111,100,32]⟩:Str) y6).bind fun q8=>
  (dX q8 (⟨[10]⟩:Str)).bind fun q10=>
  iter (N8 p0 l0) FUEL (q10,0))
theorem aqm(S:bO)(w:World)(l0:Layout)(ay:aC.R Layout)(p0:Plan)(ah:aC.R Plan)(y:Str×Int)(hM:Ti l0 p0=some y)(hS:sB S w)(dZ:aC.ok S w ay l0)(fT:aC.ok S w ah p0):
   Calls Tryz.prog 15 #[.agg (jN l0 ay),.agg (iV p0 ah)] w (dz w (.tuple #[.string y.1.ba,vI y.2])):=by
 refine cu (args:=[_,_]) Tryz.func15 rfl ((pre_nil hS).start |>.lY dZ|>.nS fT) rfl ?_;unfold Ti at hM;refine sr ?_;refine oB (cK l0 ay) fun b1=>?_;refine oB (dh p0 ah) fun b2=>?_
 refine oa ?_;refine aT ?_;refine aK fun K2 hK2=>?_;refine sr ?_;refine oe (bR (b:=b1)) ?_;refine oe (bR (b:=b2)) ?_;obtain⟨y3,hy4,hM⟩:=bind_some hM;refine cv (fun hs=>ahl _ _ l0 ay p0 ah y3 hy4 (bf hs) ⟨(kM hs),(kM hs),(kM hs),(kM hs)⟩ ⟨(kM hs),(kM hs),(kM hs),(kM hs),(kM hs),(kM hs),(kM hs)⟩) ?_;refine oe gZ ?_;refine on ?_;refine cc rfl hM (fun jL hM=>?_) (fun jL hM=>?_)
 ·refine sr ?_;refine oa ?_;refine aT ?_;exact aY (zk hM)
 refine aX (hK2 _ _ ?_);clear hK2;refine sr ?_;refine oe (av 0) ?_;refine oe (aF (b:=b2)) ?_;obtain⟨y6,qh,hM⟩:=bind_some hM;refine cv (fun hs=>yg _ _ p0.bU y6 qh (bf hs)) ?_;obtain⟨q8,hq9,hM⟩:=bind_some hM;refine oe (eZ (fun _=>hq9)) ?_;obtain⟨q10,hq11,hM⟩:=bind_some hM;refine oe (eZ (fun _=>hq11)) ?_;refine aT ?_;refine aK fun K6 dn=>?_;refine bI ?_;refine bH ?_;refine lq hM (fun (s_1,bg)=>[(2,eP b1),(3,eP b2),(6,.v (.string s_1.ba)),(7,eI (bg:Int))]) (fun (s_1,bg)=>[iL l0.aU ay.1,iL l0.bG ay.2.1,iL l0.Sections ay.2.2.1,iL l0.Links ay.2.2.2,own b1 26 (cK l0 ay),iL p0.aR ah.1,iL p0.Routes ah.2.1,iL p0.Lines ah.2.2.1,iL p0.Changes ah.2.2.2.1,iL p0.Turns ah.2.2.2.2.1,iL p0.bE ah.2.2.2.2.2.1,iL p0.bF ah.2.2.2.2.2.2,own b2 35 (dh p0 ah)]) sS rI ?_
 clear hM;rintro bA ⟨s_1,bg⟩ hM iG hL1;dsimp only[N8] at hM ⊢;refine aK fun K8 gV=>?_;refine aW ?_;refine oe (av 1) ?_;refine oe (aF (b:=b2)) ?_;refine oe bL ?_;refine oe bY ?_;refine on ?_;refine cc rfl hM (fun qD hM=>?_) (fun qD hM=>?_)
 ·refine aX (gV _ _ ?_);clear gV;refine aK fun tK gU=>?_;refine bH ?_;refine sr ?_;refine oe (av 1) ?_;refine oe (aF (b:=b2)) ?_;refine om ?_;obtain⟨l7,uT,hM⟩:=bind_some hM;refine oe (bD (xs:=p0.aR) 5 (kG p0.aR ah.1) (iS uT)) ?_;refine oe (fM (m:=5) (i:=(bg:Int)) (xs:=p0.aR) (y:=l7) (l:=(ru l7)) 0 (kG p0.aR ah.1) (fun _=>uT)) ?_;refine oA rfl fun b15=>?_;refine oS b15 (ru l7) ?_;refine on ?_;refine gy _ (List.Sublist.refl _) ?_;refine ak 0 rfl aL ?_;refine ak 1 rfl (av 0) ?_;refine ak 2 rfl (aF (b:=b15)) ?_;obtain⟨q16,ZX,hM⟩:=bind_some hM;refine ak 3 rfl (eZ (fun _=>ZX)) ?_;obtain⟨R5,ZY,hM⟩:=bind_some hM;refine ak 4 rfl (eZ (fun _=>ZY)) ?_;refine ak 5 rfl (av 1) ?_;refine ak 6 rfl (aF (b:=b15)) ?_;refine ak 10 rfl (av 2) ?_;refine ak 11 rfl (aF (b:=b15)) ?_;refine ak 15 rfl (av 3) ?_;refine ak 16 rfl (aF (b:=b15)) ?_
  refine ak 20 rfl (av 4) ?_;refine ak 21 rfl (aF (b:=b15)) ?_;obtain⟨y20,Cq,hM⟩:=bind_some hM;refine dH 7 rfl (sV (fun hs=>yg _ _ l7.Length y20 Cq (bf hs)) ⟨rI,?_⟩);obtain⟨q22,anb,hM⟩:=bind_some hM;refine ak 8 rfl (eZ (fun _=>anb)) ?_;obtain⟨q24,anh,hM⟩:=bind_some hM;refine ak 9 rfl (eZ (fun _=>anh)) ?_;obtain⟨aP,hy27,hM⟩:=bind_some hM;refine dH 12 rfl (sV (fun hs=>yg _ _ l7.qB aP hy27 (bf hs)) ⟨rI,?_⟩);obtain⟨q28,anj,hM⟩:=bind_some hM;refine ak 13 rfl (eZ (fun _=>anj)) ?_;obtain⟨q30,anl,hM⟩:=bind_some hM;refine ak 14 rfl (eZ (fun _=>anl)) ?_;obtain⟨y32,QU,hM⟩:=bind_some hM;refine dH 17 rfl (sV (fun hs=>yg _ _ l7.qy y32 QU (bf hs)) ⟨rI,?_⟩);obtain⟨q34,anm,hM⟩:=bind_some hM;refine ak 18 rfl (eZ (fun _=>anm)) ?_;obtain⟨q36,anp,hM⟩:=bind_some hM;refine ak 19 rfl (eZ (fun _=>anp)) ?_;obtain⟨y38,hy39,hM⟩:=bind_some hM;refine dH 22 rfl (sV (fun hs=>yg _ _ l7.qz y38 hy39 (bf hs)) ⟨rI,?_⟩);obtain⟨q40,anq,hM⟩:=bind_some hM;refine ak 23 rfl (eZ (fun _=>anq)) ?_;obtain⟨q42,anr,hM⟩:=bind_some hM;refine ak 24 rfl (eZ (fun _=>anr)) ?_;obtain⟨q44,ant,hM⟩:=bind_some hM;refine ak 25 rfl (eZ (fun _=>ant)) ?_;refine ak 26 rfl dD ?_
  refine dP (gU _ _ ?_);clear gU;refine bB ?_;refine om ?_;refine oP hM fun hM=>?_;refine oa ?_;refine bC (hL1 hM sS rI)
 refine dK (dn _ _ ?_);clear dn;dsimp only[Oa] at hM;refine aK fun zy jY=>?_;refine bI ?_;refine bH ?_;refine lq hM (fun (s_2,jA)=>[(2,eP b1),(3,eP b2),(6,.v (.string s_2.ba)),(9,eI (jA:Int))]) (fun (s_2,jA)=>[iL l0.aU ay.1,iL l0.bG ay.2.1,iL l0.Sections ay.2.2.1,iL l0.Links ay.2.2.2,own b1 26 (cK l0 ay),iL p0.aR ah.1,iL p0.Routes ah.2.1,iL p0.Lines ah.2.2.1,iL p0.Changes ah.2.2.2.1,iL p0.Turns ah.2.2.2.2.1,iL p0.bE ah.2.2.2.2.2.1,iL p0.bF ah.2.2.2.2.2.2,own b2 35 (dh p0 ah)]) sS rI ?_
 clear hM;rintro fE ⟨s_2,jA⟩ hM wH hL2;dsimp only[Ta] at hM ⊢;refine aK fun BN mq=>?_;refine aW ?_;refine oe (av 2) ?_;refine oe (aF (b:=b2)) ?_;refine oe bL ?_;refine oe bY ?_;refine on ?_;refine cc rfl hM (fun hc47 hM=>?_) (fun hc47 hM=>?_)
 ·refine aX (mq _ _ ?_);clear mq;refine aK fun Ba kX=>?_;refine bH ?_;refine gy _ (List.Sublist.refl _) ?_;refine ak 0 rfl aL ?_;refine ak 1 rfl (bR (b:=b1)) ?_;refine ak 2 rfl (av 2) ?_;refine ak 3 rfl (aF (b:=b2)) ?_;refine ak 4 rfl aL ?_;obtain⟨UC,aai,hM⟩:=bind_some hM;refine ak 5 rfl (bD (xs:=p0.Routes) 2 (kG p0.Routes ah.2.1) (iS aai)) ?_;refine ak 6 rfl (fM (m:=2) (i:=(jA:Int)) (xs:=p0.Routes) (y:=UC) (l:=(jC UC (ah.2.1.es (jA:Int).toNat))) 0 (kG p0.Routes ah.2.1) (fun _=>aai)) ?_;obtain⟨jB,QV,hM⟩:=bind_some hM;refine dH 7 rfl (sV (fun hs=>aqr _ _ l0 ay UC (ah.2.1.es (jA:Int).toNat) jB QV (bf hs) ⟨(kM hs),(kM hs),(kM hs),(kM hs)⟩ (Kn.lend ((Sk.elem (Sk.dw (α:=List aO) (r:=ah.2.1) (x:=p0.Routes) hA) aai)).kn hs)) ⟨rI,?_⟩);obtain⟨q52,anu,hM⟩:=bind_some hM;refine ak 8 rfl (eZ (fun _=>anu)) ?_;refine ak 9 rfl dD ?_;refine dP (kX _ _ ?_);clear kX;refine bB ?_;refine om ?_;refine oP hM fun hM=>?_;refine oa ?_;refine bC (hL2 hM sS rI)
 refine dK (jY _ _ ?_);clear jY;dsimp only[Ob] at hM;refine aK fun LA sI=>?_;refine bI ?_;refine bH ?_;refine lq hM (fun (Iu,fO)=>[(2,eP b1),(3,eP b2),(6,.v (.string Iu.ba)),(10,eI (fO:Int))]) (fun (Iu,fO)=>[iL l0.aU ay.1,iL l0.bG ay.2.1,iL l0.Sections ay.2.2.1,iL l0.Links ay.2.2.2,own b1 26 (cK l0 ay),iL p0.aR ah.1,iL p0.Routes ah.2.1,iL p0.Lines ah.2.2.1,iL p0.Changes ah.2.2.2.1,iL p0.Turns ah.2.2.2.2.1,iL p0.bE ah.2.2.2.2.2.1,iL p0.bF ah.2.2.2.2.2.2,own b2 35 (dh p0 ah)]) sS rI ?_
 clear hM;rintro jX ⟨Iu,fO⟩ hM Gi hL3;dsimp only[Tc] at hM ⊢;refine aK fun EN nX=>?_;refine aW ?_;refine oe (av 3) ?_;refine oe (aF (b:=b2)) ?_;refine oe bL ?_;refine oe bY ?_;refine on ?_;refine cc rfl hM (fun Qy hM=>?_) (fun Qy hM=>?_)
 ·refine aX (nX _ _ ?_);clear nX;refine aK fun Ph vS=>?_;refine bH ?_;refine sr ?_;refine oe (av 3) ?_;refine oe (aF (b:=b2)) ?_;refine om ?_;obtain⟨lF,xR,hM⟩:=bind_some hM;refine oe (bD (xs:=p0.Lines) 4 (kG p0.Lines ah.2.2.1) (iS xR)) ?_;refine oe (fM (m:=4) (i:=(fO:Int)) (xs:=p0.Lines) (y:=lF) (l:=(kZ lF (ah.2.2.1.es (fO:Int).toNat))) 0 (kG p0.Lines ah.2.2.1) (fun _=>xR)) ?_;refine oA rfl fun yJ=>?_;refine oS yJ (kZ lF (ah.2.2.1.es (fO:Int).toNat)) ?_;refine on ?_;refine aK fun Pj tX=>?_;refine gy _ (List.Sublist.refl _) ?_;refine ak 0 rfl aL ?_;refine ak 1 rfl (av 0) ?_;refine ak 2 rfl (aF (b:=yJ)) ?_;obtain⟨q59,anv,hM⟩:=bind_some hM;refine ak 3 rfl (eZ (fun _=>anv)) ?_;obtain⟨q61,anw,hM⟩:=bind_some hM;refine ak 4 rfl (eZ (fun _=>anw)) ?_;refine ak 5 rfl (av 1) ?_;refine ak 6 rfl (aF (b:=b2)) ?_;refine ak 7 rfl (av 1) ?_
  refine ak 8 rfl (aF (b:=yJ)) ?_;obtain⟨EK,QJ,hM⟩:=bind_some hM;refine ak 9 rfl (bD (xs:=p0.aR) 5 (kG p0.aR ah.1) (iS QJ)) ?_;refine ak 10 rfl (av 0) ?_;refine ak 11 rfl (bT (i:=lF.aH) (xs:=p0.aR) (y:=EK) 0 (kG p0.aR ah.1) (fun _=>QJ)) ?_;obtain⟨q65,anx,hM⟩:=bind_some hM;refine ak 12 rfl (eZ (fun _=>anx)) ?_;obtain⟨q67,anz,hM⟩:=bind_some hM;refine ak 13 rfl (eZ (fun _=>anz)) ?_;refine ak 14 rfl (av 2) ?_;refine ak 15 rfl (aF (b:=yJ)) ?_;obtain⟨sD,aax,hM⟩:=bind_some hM;refine dH 16 rfl (sV (fun hs=>yg _ _ lF.Weight sD aax (bf hs)) ⟨rI,?_⟩);obtain⟨q71,anA,hM⟩:=bind_some hM;refine ak 17 rfl (eZ (fun _=>anA)) ?_;obtain⟨q73,anB,hM⟩:=bind_some hM;refine ak 18 rfl (eZ (fun _=>anB)) ?_;obtain⟨q75,anC,hM⟩:=bind_some hM;refine ak 19 rfl (eZ (fun _=>anC)) ?_;refine ak 20 rfl dD ?_;refine dP (tX _ _ ?_);clear tX;refine bI ?_;refine bH ?_;refine lq hM (fun (Iw,ny)=>[(2,eP b1),(3,eP b2),(6,.v (.string Iw.ba)),(10,eI (fO:Int)),(11,eP yJ),(12,eI (ny:Int))]) (fun (Iw,ny)=>[iL l0.aU ay.1,iL l0.bG ay.2.1,iL l0.Sections ay.2.2.1,iL l0.Links ay.2.2.2,own b1 26 (cK l0 ay),iL p0.aR ah.1,iL p0.Routes ah.2.1,iL p0.Lines ah.2.2.1,iL p0.Changes ah.2.2.2.1,iL p0.Turns ah.2.2.2.2.1,iL p0.bE ah.2.2.2.2.2.1,iL p0.bF ah.2.2.2.2.2.2,own b2 35 (dh p0 ah),own yJ 56 (kZ lF (ah.2.2.1.es (fO:Int).toNat))]) sS rI ?_
  clear hM;rintro oH ⟨Iw,ny⟩ hM Pm hL4;dsimp only[N9] at hM ⊢;refine aK fun Ym Cc=>?_;refine aW ?_;refine oe (av 3) ?_;refine oe (aF (b:=yJ)) ?_;refine oe bL ?_;refine oe bY ?_;refine on ?_;refine cc rfl hM (fun al1 hM=>?_) (fun al1 hM=>?_)
  · refine aX (Cc _ _ ?_);clear Cc;refine aK fun UH yN=>?_;refine bH ?_;refine aK fun Yn Ce=>?_;refine gy _ (List.Sublist.refl _) ?_;refine ak 0 rfl aL ?_;refine ak 1 rfl (av 3) ?_;refine ak 2 rfl (aF (b:=yJ)) ?_;refine ak 3 rfl aL ?_;obtain⟨tq,Co,hM⟩:=bind_some hM;refine ak 4 rfl (bD (xs:=lF.aJ) 4 ((Sk.elem (Sk.dw (α:=List Line) (r:=ah.2.2.1) (x:=p0.Lines) hA) xR)).kn (iS Co)) ?_;refine ak 5 rfl (av 0) ?_;refine ak 6 rfl (bT (i:=(ny:Int)) (xs:=lF.aJ) (y:=tq) 0 ((Sk.elem (Sk.dw (α:=List Line) (r:=ah.2.2.1) (x:=p0.Lines) hA) xR)).kn (fun _=>Co)) ?_;refine ak 10 rfl (av 3) ?_;refine ak 11 rfl (aF (b:=yJ)) ?_;refine ak 12 rfl aL ?_;obtain⟨x80,Mv,hM⟩:=bind_some hM;refine ak 13 rfl (bD (xs:=lF.aJ) 4 ((Sk.elem (Sk.dw (α:=List Line) (r:=ah.2.2.1) (x:=p0.Lines) hA) xR)).kn (iS Mv)) ?_;refine ak 14 rfl (av 1) ?_;refine ak 15 rfl (bT (i:=(ny:Int)) (xs:=lF.aJ) (y:=x80) 1 ((Sk.elem (Sk.dw (α:=List Line) (r:=ah.2.2.1) (x:=p0.Lines) hA) xR)).kn (fun _=>Mv)) ?_;obtain⟨zx,aaB,hM⟩:=bind_some hM;refine dH 7 rfl (sV (fun hs=>yg _ _ tq.aO zx aaB (bf hs)) ⟨rI,?_⟩);obtain⟨q84,anD,hM⟩:=bind_some hM;refine ak 8 rfl (eZ (fun _=>anD)) ?_;obtain⟨q86,anE,hM⟩:=bind_some hM
    refine ak 9 rfl (eZ (fun _=>anE)) ?_;obtain⟨I7,aaC,hM⟩:=bind_some hM;refine dH 16 rfl (sV (fun hs=>yg _ _ x80.Extra I7 aaC (bf hs)) ⟨rI,?_⟩);obtain⟨q90,anF,hM⟩:=bind_some hM;refine ak 17 rfl (eZ (fun _=>anF)) ?_;obtain⟨q92,anG,hM⟩:=bind_some hM;refine ak 18 rfl (eZ (fun _=>anG)) ?_;refine ak 19 rfl dD ?_;refine dP (Ce _ _ ?_);clear Ce;refine jm y (k:=Od ny oH) (fun TU=>[(2,eP b1),(3,eP b2),(6,.v (.string TU.ba)),(10,eI (fO:Int)),(11,eP yJ),(12,eI (ny:Int))]) (fun TU=>[iL l0.aU ay.1,iL l0.bG ay.2.1,iL l0.Sections ay.2.2.1,iL l0.Links ay.2.2.2,own b1 26 (cK l0 ay),iL p0.aR ah.1,iL p0.Routes ah.2.1,iL p0.Lines ah.2.2.1,iL p0.Changes ah.2.2.2.1,iL p0.Turns ah.2.2.2.2.1,iL p0.bE ah.2.2.2.2.2.1,iL p0.bF ah.2.2.2.2.2.2,own b2 35 (dh p0 ah),own yJ 56 (kZ lF (ah.2.2.1.es (fO:Int).toNat))]) ?_ ?_
    ·intro Pk vR;refine sr ?_;refine oe (av 3) ?_;refine oe (aF (b:=yJ)) ?_;refine om ?_;obtain⟨x97,hx98,hM⟩:=bind_some hM;refine oe (bD (xs:=lF.aJ) 4 ((Sk.elem (Sk.dw (α:=List Line) (r:=ah.2.2.1) (x:=p0.Lines) hA) xR)).kn (iS hx98)) ?_;refine oe (av 3) ?_;refine oe (bT (i:=(ny:Int)) (xs:=lF.aJ) (y:=x97) 3 ((Sk.elem (Sk.dw (α:=List Line) (r:=ah.2.2.1) (x:=p0.Lines) hA) xR)).kn (fun _=>hx98)) ?_;refine oe gM ?_;refine on ?_;refine cc rfl hM (fun hc99 hM=>?_) (fun hc99 hM=>?_)
     ·refine gy _ (List.Sublist.refl _) ?_;refine ak 0 rfl aL ?_;refine ak 1 rfl (av 3) ?_;refine ak 2 rfl (aF (b:=yJ)) ?_;refine ak 3 rfl aL ?_;obtain⟨x100,hx101,hM⟩:=bind_some hM;refine ak 4 rfl (bD (xs:=lF.aJ) 4 ((Sk.elem (Sk.dw (α:=List Line) (r:=ah.2.2.1) (x:=p0.Lines) hA) xR)).kn (iS hx101)) ?_;refine ak 5 rfl (av 2) ?_;refine ak 6 rfl (bT (i:=(ny:Int)) (xs:=lF.aJ) (y:=x100) 2 ((Sk.elem (Sk.dw (α:=List Line) (r:=ah.2.2.1) (x:=p0.Lines) hA) xR)).kn (fun _=>hx101)) ?_;refine ak 7 rfl (av 3) ?_;refine ak 8 rfl (aF (b:=yJ)) ?_;refine ak 9 rfl aL ?_;obtain⟨x102,aeJ,hM⟩:=bind_some hM;refine ak 10 rfl (bD (xs:=lF.aJ) 4 ((Sk.elem (Sk.dw (α:=List Line) (r:=ah.2.2.1) (x:=p0.Lines) hA) xR)).kn (iS aeJ)) ?_;refine ak 11 rfl (av 3) ?_;refine ak 12 rfl (bT (i:=(ny:Int)) (xs:=lF.aJ) (y:=x102) 3 ((Sk.elem (Sk.dw (α:=List Line) (r:=ah.2.2.1) (x:=p0.Lines) hA) xR)).kn (fun _=>aeJ)) ?_;obtain⟨y104,anN,hM⟩:=bind_some hM;refine dH 13 rfl (sV (fun hs=>ab7 _ _ x100.Min x102.Max y104 anN (bf hs)) ⟨rI,?_⟩);obtain⟨af4,amA,hM⟩:=bind_some hM;refine ak 14 rfl (eZ (fun _=>amA)) ?_;obtain⟨af5,amB,hM⟩:=bind_some hM;refine ak 15 rfl (eZ (fun _=>amB)) ?_;refine ak 16 rfl dD ?_;refine dP (vR hM sS rI)
     refine aX (vR hM sS rI)
    clear hM;rintro TU hM;dsimp only[Od] at hM ⊢;refine bB ?_;refine om ?_;obtain⟨q94,anH,hM⟩:=bind_some hM;refine oe (eZ (fun _=>anH)) ?_;refine oa ?_;refine bC (yN _ _ ?_);clear yN;refine bB ?_;refine om ?_;refine oP hM fun hM=>?_;refine oa ?_;refine bC (hL4 hM sS rI)
  refine dK (vS _ _ ?_);clear vS;dsimp only[ab2] at hM;refine bB ?_;refine om ?_;refine oP hM fun hM=>?_;refine oa ?_;refine bC (hL3 hM sS rI)
 refine dK (sI _ _ ?_);clear sI;dsimp only[Oc] at hM;refine aK fun UJ yO=>?_;refine bI ?_;refine bH ?_;refine lq hM (fun (Iy,uj)=>[(2,eP b1),(3,eP b2),(6,.v (.string Iy.ba)),(13,eI (uj:Int))]) (fun (Iy,uj)=>[iL l0.aU ay.1,iL l0.bG ay.2.1,iL l0.Sections ay.2.2.1,iL l0.Links ay.2.2.2,own b1 26 (cK l0 ay),iL p0.aR ah.1,iL p0.Routes ah.2.1,iL p0.Lines ah.2.2.1,iL p0.Changes ah.2.2.2.1,iL p0.Turns ah.2.2.2.2.1,iL p0.bE ah.2.2.2.2.2.1,iL p0.bF ah.2.2.2.2.2.2,own b2 35 (dh p0 ah)]) sS rI ?_
 clear hM;rintro BU ⟨Iy,uj⟩ hM Yr hL5;dsimp only[Td] at hM ⊢;refine aK fun K32 GK=>?_;refine aW ?_;refine oe (av 4) ?_;refine oe (aF (b:=b2)) ?_;refine oe bL ?_;refine oe bY ?_;refine on ?_;refine cc rfl hM (fun alH hM=>?_) (fun alH hM=>?_)
 ·refine aX (GK _ _ ?_);clear GK;refine aK fun Yo Cg=>?_;refine bH ?_;refine sr ?_;refine oe (av 4) ?_;refine oe (aF (b:=b2)) ?_;refine om ?_;obtain⟨x112,hx113,hM⟩:=bind_some hM;refine oe (bD (xs:=p0.Changes) 7 (kG p0.Changes ah.2.2.2.1) (iS hx113)) ?_;refine oe (fM (m:=7) (i:=(uj:Int)) (xs:=p0.Changes) (y:=x112) (l:=(Ep x112)) 0 (kG p0.Changes ah.2.2.2.1) (fun _=>hx113)) ?_;refine oA rfl fun Gr=>?_;refine oS Gr (Ep x112) ?_;refine on ?_;refine gy _ (List.Sublist.refl _) ?_;refine ak 0 rfl aL ?_;refine ak 1 rfl (av 3) ?_;refine ak 2 rfl (aF (b:=b2)) ?_;refine ak 3 rfl (av 0) ?_;refine ak 4 rfl (aF (b:=Gr)) ?_;obtain⟨x115,aeM,hM⟩:=bind_some hM;refine ak 5 rfl (bD (xs:=p0.Lines) 4 (kG p0.Lines ah.2.2.1) (iS aeM)) ?_;refine ak 6 rfl (av 0) ?_;refine ak 7 rfl (bT (i:=x112.fZ) (xs:=p0.Lines) (y:=x115) 0 (kG p0.Lines ah.2.2.1) (fun _=>aeM)) ?_
  obtain⟨af6,amC,hM⟩:=bind_some hM;refine ak 8 rfl (eZ (fun _=>amC)) ?_;obtain⟨af7,amD,hM⟩:=bind_some hM;refine ak 9 rfl (eZ (fun _=>amD)) ?_;refine ak 10 rfl (av 1) ?_;refine ak 11 rfl (aF (b:=Gr)) ?_;refine ak 15 rfl (av 3) ?_;refine ak 16 rfl (aF (b:=b2)) ?_;refine ak 17 rfl (av 2) ?_;refine ak 18 rfl (aF (b:=Gr)) ?_;obtain⟨acX,aeN,hM⟩:=bind_some hM;refine ak 19 rfl (bD (xs:=p0.Lines) 4 (kG p0.Lines ah.2.2.1) (iS aeN)) ?_;refine ak 20 rfl (av 0) ?_;refine ak 21 rfl (bT (i:=x112.iO) (xs:=p0.Lines) (y:=acX) 0 (kG p0.Lines ah.2.2.1) (fun _=>aeN)) ?_;refine ak 24 rfl (av 3) ?_;refine ak 25 rfl (aF (b:=Gr)) ?_;refine ak 29 rfl (av 4) ?_;refine ak 30 rfl (aF (b:=Gr)) ?_;refine ak 31 rfl (av 5) ?_;refine ak 32 rfl (aF (b:=Gr)) ?_;refine ak 36 rfl (av 6) ?_;refine ak 37 rfl (aF (b:=Gr)) ?_;obtain⟨yA,aap,hM⟩:=bind_some hM;refine dH 12 rfl (sV (fun hs=>yg _ _ x112.iE yA aap (bf hs)) ⟨rI,?_⟩);obtain⟨af8,amE,hM⟩:=bind_some hM;refine ak 13 rfl (eZ (fun _=>amE)) ?_;obtain⟨af9,amF,hM⟩:=bind_some hM;refine ak 14 rfl (eZ (fun _=>amF)) ?_;obtain⟨aga,amG,hM⟩:=bind_some hM
  refine ak 22 rfl (eZ (fun _=>amG)) ?_;obtain⟨agb,amH,hM⟩:=bind_some hM;refine ak 23 rfl (eZ (fun _=>amH)) ?_;obtain⟨pF,aaq,hM⟩:=bind_some hM;refine dH 26 rfl (sV (fun hs=>yg _ _ x112.kN pF aaq (bf hs)) ⟨rI,?_⟩);obtain⟨agc,amI,hM⟩:=bind_some hM;refine ak 27 rfl (eZ (fun _=>amI)) ?_;obtain⟨agd,amJ,hM⟩:=bind_some hM;refine ak 28 rfl (eZ (fun _=>amJ)) ?_;obtain⟨ac4,anS,hM⟩:=bind_some hM;refine dH 33 rfl (sV (fun hs=>ab7 _ _ x112.Min x112.Max ac4 anS (bf hs)) ⟨rI,?_⟩);obtain⟨agf,amK,hM⟩:=bind_some hM;refine ak 34 rfl (eZ (fun _=>amK)) ?_;obtain⟨agh,amL,hM⟩:=bind_some hM;refine ak 35 rfl (eZ (fun _=>amL)) ?_;obtain⟨ac5,anU,hM⟩:=bind_some hM;refine dH 38 rfl (sV (fun hs=>yg _ _ x112.Weight ac5 anU (bf hs)) ⟨rI,?_⟩);obtain⟨agi,amM,hM⟩:=bind_some hM;refine ak 39 rfl (eZ (fun _=>amM)) ?_;obtain⟨agj,amN,hM⟩:=bind_some hM;refine ak 40 rfl (eZ (fun _=>amN)) ?_;obtain⟨agk,amO,hM⟩:=bind_some hM;refine ak 41 rfl (eZ (fun _=>amO)) ?_;refine ak 42 rfl dD ?_;refine dP (Cg _ _ ?_);clear Cg;refine bB ?_;refine om ?_;refine oP hM fun hM=>?_;refine oa ?_;refine bC (hL5 hM sS rI)
 refine dK (yO _ _ ?_);clear yO;dsimp only[Oe] at hM;refine aK fun K36 Qk=>?_;refine bI ?_;refine bH ?_;refine lq hM (fun (Iz,um)=>[(2,eP b1),(3,eP b2),(6,.v (.string Iz.ba)),(15,eI (um:Int))]) (fun (Iz,um)=>[iL l0.aU ay.1,iL l0.bG ay.2.1,iL l0.Sections ay.2.2.1,iL l0.Links ay.2.2.2,own b1 26 (cK l0 ay),iL p0.aR ah.1,iL p0.Routes ah.2.1,iL p0.Lines ah.2.2.1,iL p0.Changes ah.2.2.2.1,iL p0.Turns ah.2.2.2.2.1,iL p0.bE ah.2.2.2.2.2.1,iL p0.bF ah.2.2.2.2.2.2,own b2 35 (dh p0 ah)]) sS rI ?_
 clear hM;rintro Gv ⟨Iz,um⟩ hM KL6 hL6;dsimp only[Te] at hM ⊢;refine aK fun K38 Ql=>?_;refine aW ?_;refine oe (av 5) ?_;refine oe (aF (b:=b2)) ?_;refine oe bL ?_;refine oe bY ?_;refine on ?_;refine cc rfl hM (fun alL hM=>?_) (fun alL hM=>?_)
 ·refine aX (Ql _ _ ?_);clear Ql;refine aK fun K40 GL=>?_;refine bH ?_;refine sr ?_;refine oe (av 5) ?_;refine oe (aF (b:=b2)) ?_;refine om ?_;obtain⟨BJ,aeO,hM⟩:=bind_some hM;refine oe (bD (xs:=p0.Turns) 4 (kG p0.Turns ah.2.2.2.2.1) (iS aeO)) ?_;refine oe (fM (m:=4) (i:=(um:Int)) (xs:=p0.Turns) (y:=BJ) (l:=(vg BJ)) 0 (kG p0.Turns ah.2.2.2.2.1) (fun _=>aeO)) ?_;refine oA rfl fun Pv=>?_;refine oS Pv (vg BJ) ?_;refine on ?_;refine gy _ (List.Sublist.refl _) ?_;refine ak 0 rfl aL ?_;refine ak 1 rfl (av 3) ?_;refine ak 2 rfl (aF (b:=b2)) ?_;refine ak 3 rfl (av 0) ?_;refine ak 4 rfl (aF (b:=Pv)) ?_;obtain⟨x158,hx159,hM⟩:=bind_some hM;refine ak 5 rfl (bD (xs:=p0.Lines) 4 (kG p0.Lines ah.2.2.1) (iS hx159)) ?_;refine ak 6 rfl (av 0) ?_;refine ak 7 rfl (bT (i:=BJ.From) (xs:=p0.Lines) (y:=x158) 0 (kG p0.Lines ah.2.2.1) (fun _=>hx159)) ?_;obtain⟨agl,amQ,hM⟩:=bind_some hM
  refine ak 8 rfl (eZ (fun _=>amQ)) ?_;obtain⟨agm,amR,hM⟩:=bind_some hM;refine ak 9 rfl (eZ (fun _=>amR)) ?_;refine ak 10 rfl (av 3) ?_;refine ak 11 rfl (aF (b:=b2)) ?_;refine ak 12 rfl (av 1) ?_;refine ak 13 rfl (aF (b:=Pv)) ?_;obtain⟨acY,aeP,hM⟩:=bind_some hM;refine ak 14 rfl (bD (xs:=p0.Lines) 4 (kG p0.Lines ah.2.2.1) (iS aeP)) ?_;refine ak 15 rfl (av 0) ?_;refine ak 16 rfl (bT (i:=BJ.To) (xs:=p0.Lines) (y:=acY) 0 (kG p0.Lines ah.2.2.1) (fun _=>aeP)) ?_;obtain⟨agn,amS,hM⟩:=bind_some hM;refine ak 17 rfl (eZ (fun _=>amS)) ?_;obtain⟨agp,amT,hM⟩:=bind_some hM;refine ak 18 rfl (eZ (fun _=>amT)) ?_;refine ak 19 rfl (av 2) ?_;refine ak 20 rfl (aF (b:=Pv)) ?_;refine ak 21 rfl (av 3) ?_;refine ak 22 rfl (aF (b:=Pv)) ?_;obtain⟨ac6,anX,hM⟩:=bind_some hM;refine dH 23 rfl (sV (fun hs=>ab7 _ _ BJ.Min BJ.Max ac6 anX (bf hs)) ⟨rI,?_⟩);obtain⟨agq,amU,hM⟩:=bind_some hM;refine ak 24 rfl (eZ (fun _=>amU)) ?_;obtain⟨agr,amV,hM⟩:=bind_some hM;refine ak 25 rfl (eZ (fun _=>amV)) ?_;obtain⟨ags,amW,hM⟩:=bind_some hM;refine ak 26 rfl (eZ (fun _=>amW)) ?_;refine ak 27 rfl dD ?_;refine dP (GL _ _ ?_);clear GL
  refine bB ?_;refine om ?_;refine oP hM fun hM=>?_;refine oa ?_;refine bC (hL6 hM sS rI)
 refine dK (Qk _ _ ?_);clear Qk;dsimp only[Og] at hM;refine aK fun K42 aem=>?_;refine bI ?_;refine bH ?_;refine lq hM (fun (IB,uo)=>[(2,eP b1),(3,eP b2),(6,.v (.string IB.ba)),(17,eI (uo:Int))]) (fun (IB,uo)=>[iL l0.aU ay.1,iL l0.bG ay.2.1,iL l0.Sections ay.2.2.1,iL l0.Links ay.2.2.2,own b1 26 (cK l0 ay),iL p0.aR ah.1,iL p0.Routes ah.2.1,iL p0.Lines ah.2.2.1,iL p0.Changes ah.2.2.2.1,iL p0.Turns ah.2.2.2.2.1,iL p0.bE ah.2.2.2.2.2.1,iL p0.bF ah.2.2.2.2.2.2,own b2 35 (dh p0 ah)]) sS rI ?_
 clear hM;rintro Gw ⟨IB,uo⟩ hM KL7 hL7;dsimp only[Tf] at hM ⊢;refine aK fun K44 aen=>?_;refine aW ?_;refine oe (av 6) ?_;refine oe (aF (b:=b2)) ?_;refine oe bL ?_;refine oe bY ?_;refine on ?_;refine cc rfl hM (fun alN hM=>?_) (fun alN hM=>?_)
 ·refine aX (aen _ _ ?_);clear aen;refine aK fun K46 Qp=>?_;refine bH ?_;refine sr ?_;refine oe (av 6) ?_;refine oe (aF (b:=b2)) ?_;refine om ?_;obtain⟨zu,aag,hM⟩:=bind_some hM;refine oe (bD (xs:=p0.bE) 5 (kG p0.bE ah.2.2.2.2.2.1) (iS aag)) ?_;refine oe (fM (m:=5) (i:=(uo:Int)) (xs:=p0.bE) (y:=zu) (l:=(FK zu)) 0 (kG p0.bE ah.2.2.2.2.2.1) (fun _=>aag)) ?_;refine oA rfl fun LP=>?_;refine oS LP (FK zu) ?_;refine on ?_;refine gy _ (List.Sublist.refl _) ?_;refine ak 0 rfl aL ?_;refine ak 1 rfl (av 3) ?_;refine ak 2 rfl (aF (b:=b2)) ?_;refine ak 3 rfl (av 0) ?_;refine ak 4 rfl (aF (b:=LP)) ?_;obtain⟨acZ,aeQ,hM⟩:=bind_some hM;refine ak 5 rfl (bD (xs:=p0.Lines) 4 (kG p0.Lines ah.2.2.1) (iS aeQ)) ?_;refine ak 6 rfl (av 0) ?_;refine ak 7 rfl (bT (i:=zu.mJ) (xs:=p0.Lines) (y:=acZ) 0 (kG p0.Lines ah.2.2.1) (fun _=>aeQ)) ?_
  obtain⟨agt,amX,hM⟩:=bind_some hM;refine ak 8 rfl (eZ (fun _=>amX)) ?_;obtain⟨agu,amY,hM⟩:=bind_some hM;refine ak 9 rfl (eZ (fun _=>amY)) ?_;refine ak 10 rfl (av 1) ?_;refine ak 11 rfl (aF (b:=LP)) ?_;refine ak 15 rfl (av 3) ?_;refine ak 16 rfl (aF (b:=b2)) ?_;refine ak 17 rfl (av 2) ?_;refine ak 18 rfl (aF (b:=LP)) ?_;obtain⟨ac0,aeR,hM⟩:=bind_some hM;refine ak 19 rfl (bD (xs:=p0.Lines) 4 (kG p0.Lines ah.2.2.1) (iS aeR)) ?_;refine ak 20 rfl (av 0) ?_;refine ak 21 rfl (bT (i:=zu.mP) (xs:=p0.Lines) (y:=ac0) 0 (kG p0.Lines ah.2.2.1) (fun _=>aeR)) ?_;refine ak 24 rfl (av 3) ?_;refine ak 25 rfl (aF (b:=LP)) ?_;refine ak 29 rfl (av 4) ?_;refine ak 30 rfl (aF (b:=LP)) ?_;obtain⟨DI,aar,hM⟩:=bind_some hM;refine dH 12 rfl (sV (fun hs=>yg _ _ zu.lG DI aar (bf hs)) ⟨rI,?_⟩);obtain⟨agv,amZ,hM⟩:=bind_some hM;refine ak 13 rfl (eZ (fun _=>amZ)) ?_;obtain⟨agw,am0,hM⟩:=bind_some hM;refine ak 14 rfl (eZ (fun _=>am0)) ?_;obtain⟨agx,am1,hM⟩:=bind_some hM;refine ak 22 rfl (eZ (fun _=>am1)) ?_;obtain⟨agy,am2,hM⟩:=bind_some hM;refine ak 23 rfl (eZ (fun _=>am2)) ?_;obtain⟨ac7,an4,hM⟩:=bind_some hM
  refine dH 26 rfl (sV (fun hs=>yg _ _ zu.lN ac7 an4 (bf hs)) ⟨rI,?_⟩);obtain⟨agz,am3,hM⟩:=bind_some hM;refine ak 27 rfl (eZ (fun _=>am3)) ?_;obtain⟨agA,am4,hM⟩:=bind_some hM;refine ak 28 rfl (eZ (fun _=>am4)) ?_;obtain⟨ac8,an5,hM⟩:=bind_some hM;refine dH 31 rfl (sV (fun hs=>yg _ _ zu.Offset ac8 an5 (bf hs)) ⟨rI,?_⟩);obtain⟨agB,am5,hM⟩:=bind_some hM;refine ak 32 rfl (eZ (fun _=>am5)) ?_;obtain⟨agC,am6,hM⟩:=bind_some hM;refine ak 33 rfl (eZ (fun _=>am6)) ?_;obtain⟨agD,am7,hM⟩:=bind_some hM;refine ak 34 rfl (eZ (fun _=>am7)) ?_;refine ak 35 rfl dD ?_;refine dP (Qp _ _ ?_);clear Qp;refine bB ?_;refine om ?_;refine oP hM fun hM=>?_;refine oa ?_;refine bC (hL7 hM sS rI)
 refine dK (aem _ _ ?_);clear aem;dsimp only[Oh] at hM;refine aK fun K48 aep=>?_;refine bI ?_;refine bH ?_;refine lq hM (fun (IC,FB)=>[(2,eP b1),(3,eP b2),(6,.v (.string IC.ba)),(19,eI (FB:Int))]) (fun (IC,FB)=>[iL l0.aU ay.1,iL l0.bG ay.2.1,iL l0.Sections ay.2.2.1,iL l0.Links ay.2.2.2,own b1 26 (cK l0 ay),iL p0.aR ah.1,iL p0.Routes ah.2.1,iL p0.Lines ah.2.2.1,iL p0.Changes ah.2.2.2.1,iL p0.Turns ah.2.2.2.2.1,iL p0.bE ah.2.2.2.2.2.1,iL p0.bF ah.2.2.2.2.2.2,own b2 35 (dh p0 ah)]) sS rI ?_
 clear hM;rintro PV ⟨IC,FB⟩ hM KL8 Zn;dsimp only[Tg] at hM ⊢;refine aK fun K50 aes=>?_;refine aW ?_;refine oe (av 7) ?_;refine oe (aF (b:=b2)) ?_;refine oe bL ?_;refine oe bY ?_;refine on ?_;refine cc rfl hM (fun alP hM=>?_) (fun alP hM=>?_)
 ·refine aX (aes _ _ ?_);clear aes;refine aK fun K52 Qr=>?_;refine bH ?_;refine sr ?_;refine oe (av 7) ?_;refine oe (aF (b:=b2)) ?_;refine om ?_;obtain⟨EJ,aeX,hM⟩:=bind_some hM;refine oe (bD (xs:=p0.bF) 3 (kG p0.bF ah.2.2.2.2.2.2) (iS aeX)) ?_;refine oe (fM (m:=3) (i:=(FB:Int)) (xs:=p0.bF) (y:=EJ) (l:=(FJ EJ)) 0 (kG p0.bF ah.2.2.2.2.2.2) (fun _=>aeX)) ?_;refine oA rfl fun U0=>?_;refine oS U0 (FJ EJ) ?_;refine on ?_;refine gy _ (List.Sublist.refl _) ?_;refine ak 0 rfl aL ?_;refine ak 1 rfl (av 0) ?_;refine ak 2 rfl (aF (b:=b1)) ?_;refine ak 3 rfl (av 0) ?_;refine ak 4 rfl (aF (b:=U0)) ?_;obtain⟨ac1,aeY,hM⟩:=bind_some hM;refine ak 5 rfl (bD (xs:=l0.aU) 1 (kG l0.aU ay.1) (iS aeY)) ?_;refine ak 6 rfl (bT (i:=EJ.From) (xs:=l0.aU) (y:=ac1) 0 (kG l0.aU ay.1) (fun _=>aeY)) ?_;obtain⟨agE,am8,hM⟩:=bind_some hM;refine ak 7 rfl (eZ (fun _=>am8)) ?_
  obtain⟨agF,am9,hM⟩:=bind_some hM;refine ak 8 rfl (eZ (fun _=>am9)) ?_;refine ak 9 rfl (av 0) ?_;refine ak 10 rfl (aF (b:=b1)) ?_;refine ak 11 rfl (av 1) ?_;refine ak 12 rfl (aF (b:=U0)) ?_;obtain⟨ac2,aeZ,hM⟩:=bind_some hM;refine ak 13 rfl (bD (xs:=l0.aU) 1 (kG l0.aU ay.1) (iS aeZ)) ?_;refine ak 14 rfl (bT (i:=EJ.To) (xs:=l0.aU) (y:=ac2) 0 (kG l0.aU ay.1) (fun _=>aeZ)) ?_;obtain⟨agG,ana,hM⟩:=bind_some hM;refine ak 15 rfl (eZ (fun _=>ana)) ?_;obtain⟨agH,anc,hM⟩:=bind_some hM;refine ak 16 rfl (eZ (fun _=>anc)) ?_;refine ak 17 rfl (av 2) ?_;refine ak 18 rfl (aF (b:=U0)) ?_;obtain⟨ac9,an6,hM⟩:=bind_some hM;refine dH 19 rfl (sV (fun hs=>yg _ _ EJ.Weight ac9 an6 (bf hs)) ⟨rI,?_⟩);obtain⟨agI,ane,hM⟩:=bind_some hM;refine ak 20 rfl (eZ (fun _=>ane)) ?_;obtain⟨agJ,anf,hM⟩:=bind_some hM;refine ak 21 rfl (eZ (fun _=>anf)) ?_;obtain⟨agK,ang,hM⟩:=bind_some hM;refine ak 22 rfl (eZ (fun _=>ang)) ?_;refine ak 23 rfl dD ?_;refine dP (Qr _ _ ?_);clear Qr;refine bB ?_;refine om ?_;refine oP hM fun hM=>?_;refine oa ?_
  refine bC (Zn hM sS rI)
 refine dK (aep _ _ ?_);clear aep;dsimp only[ahm] at hM;refine aW ?_;refine oa ?_;refine aT ?_;exact aY (zk hM)
end Go.Proofs.YtcalibhfgdncaaaGreatDoor
