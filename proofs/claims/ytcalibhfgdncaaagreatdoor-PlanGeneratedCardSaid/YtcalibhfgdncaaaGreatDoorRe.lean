/- Models of functions, and that the code computes them. -/
import Derived.Test.YtcalibhfgdncaaaGreatDoorRd
set_option linter.all false
namespace Go.Proofs.YtcalibhfgdncaaaGreatDoor
open Go.Dc Go.RowKit
set_option maxRecDepth 10000
def YK(x0:Int)(p1:Int):Option (Int×Int):=
 some ((IntKind.u64.wrap ((IntKind.u64.wrap ((IntKind.u64.wrap ((ED .u64 x0 32)*(ED .u64 p1 32)))+(ED .u64 (IntKind.u64.wrap ((IntKind.u64.wrap ((ED .u64 x0 32)*(E5 .u64 p1 4294967295)))+(ED .u64 (IntKind.u64.wrap ((E5 .u64 x0 4294967295)*(E5 .u64 p1 4294967295))) 32))) 32)))+(ED .u64 (IntKind.u64.wrap ((E5 .u64 (IntKind.u64.wrap ((IntKind.u64.wrap ((ED .u64 x0 32)*(E5 .u64 p1 4294967295)))+(ED .u64 (IntKind.u64.wrap ((E5 .u64 x0 4294967295)*(E5 .u64 p1 4294967295))) 32))) 4294967295)+(IntKind.u64.wrap ((E5 .u64 x0 4294967295)*(ED .u64 p1 32))))) 32))),(IntKind.u64.wrap (x0*p1)))
theorem ai0(S:bO)(w:World)(x0:Int)(p1:Int)(y:Int×Int)(hM:YK x0 p1=some y)(hS:sB S w):
  Calls Tryz.prog 219 #[.int .u64 x0,.int .u64 p1] w (dz w (.tuple #[.int .u64 y.1,.int .u64 y.2])):=by
 refine cu (args:=[_,_]) Tryz.func219 rfl ((pre_nil hS).start) rfl ?_;unfold YK at hM;refine sr ?_;refine oa ?_;refine aT ?_;refine aW ?_;refine oe Y4 ?_;refine aT ?_;refine aW ?_;refine oe (P7 (q:=32) (fun _=>by decide)) ?_;refine aT ?_;refine aW ?_;refine oe Y4 ?_;refine aT ?_;refine aW ?_;refine oe (P7 (q:=32) (fun _=>by decide)) ?_;refine aT ?_;refine aW ?_;refine om ?_;refine oe Mj ?_;refine aT ?_;refine aW ?_;refine om ?_;refine oe Mj ?_;refine om ?_;refine oe (P7 (q:=32) (fun _=>by decide)) ?_;refine oe Me ?_;refine aT ?_;refine aW ?_;refine oe Y4 ?_;refine oa ?_
 refine on ?_;refine aW ?_;refine oe (P7 (q:=32) (fun _=>by decide)) ?_;refine aT ?_;refine aW ?_;refine om ?_;refine om ?_;refine oe Mj ?_;refine oe Me ?_;refine aT ?_;refine aW ?_;refine om ?_;refine oe Mj ?_;refine om ?_;refine oe Me ?_;refine om ?_;refine oe (P7 (q:=32) (fun _=>by decide)) ?_;refine oe Me ?_;refine aT ?_;refine aW ?_;refine om ?_;refine oe Mj ?_;refine aT ?_;exact aY (zk hM)
def U3(x0:Int)(p1:Int):Option (Int×Int):=
 (YK x0 p1).bind fun y1=>
 some (y1.1,y1.2)
theorem ai1(S:bO)(w:World)(x0:Int)(p1:Int)(y:Int×Int)(hM:U3 x0 p1=some y)(hS:sB S w):
  Calls Tryz.prog 213 #[.int .u64 x0,.int .u64 p1] w (dz w (.tuple #[.int .u64 y.1,.int .u64 y.2])):=by
 refine cu (args:=[_,_]) Tryz.func213 rfl ((pre_nil hS).start) rfl ?_;unfold U3 at hM;refine sr ?_;refine oa ?_;refine aT ?_;refine aK fun K2 hK2=>?_;refine U6 rfl rfl ?_;refine aX (hK2 _ _ ?_);clear hK2;refine aW ?_;refine om ?_;obtain⟨y1,hy2,hM⟩:=bind_some hM;refine cv (fun hs=>ai0 _ _ x0 p1 y1 hy2 (bf hs)) ?_;refine om ?_;refine oe (jv (vs:=[.int .u64 y1.1,.int .u64 y1.2])) ?_;refine oe (jv (vs:=[.int .u64 y1.1,.int .u64 y1.2])) ?_;refine oa ?_;refine aT ?_;refine aW ?_;refine om ?_;refine oa ?_;refine aT ?_;exact aY (zk hM)
def ahR(wT:List Cell):Unit→Option (List Cell):=fun _=>
 some wT
def XA(bA:((List Cell)×Int)→Option (List Cell)):((List Cell)×Int)→Option (List Cell):=fun (wT,jl)=>
 if decide (jl<(wT.length:Int)) then
  ((sub wT jl (wT.length:Int)).bind fun l9=>
  (sub wT 0 jl).bind fun Rh=>
  (DZ wT (jl.toNat) l9.length Rh).bind fun Cu=>
  bq (bJ (jl+((Nat.min Rh.length l9.length:Nat):Int)))<|
  bA (Cu,(jl+((Nat.min Rh.length l9.length:Nat):Int))))
 else
  (ahR wT ())
def XC(y1:Int×Int)(x0:List Cell):Unit→Option (List Cell):=fun _=>
 (mk (α:=Cell) (Cell.mk 0 0) (IntKind.i64.wrap y1.2)).bind fun m3=>
 (DZ m3 0 m3.length x0).bind fun l6=>
 iter (XA) FUEL (l6,((Nat.min x0.length m3.length:Nat):Int))
def XB(x0:List Cell)(DX:Int):Unit→Option (List Cell):=fun _=>
 (U3 (IntKind.u64.wrap (x0.length:Int)) (IntKind.u64.wrap DX)).bind fun y1=>
 if (decide (0<y1.1)||decide (9223372036854775807<y1.2)) then
  (none)
 else
  (XC y1 x0 ())
def Ua(x0:List Cell)(DX:Int):Option (List Cell):=
 if decide (DX<0) then
  (none)
 else
  (XB x0 DX ())
theorem aru(S:bO)(w:World)(x0:List Cell)(HZ:aC.R (List Cell))(DX:Int)(y:(List Cell))(hM:Ua x0 DX=some y)(hS:sB S w)(alb:aC.ok S w HZ x0):
   Calls Tryz.prog 202 #[sL HZ x0,vI DX] w (Post (β:=(aC.R (List Cell))) S [] (fun g=>sL g y) (fun g=>[aj 254 g y]) w):=by
 refine cu (args:=[_,_]) Tryz.func202 rfl ((pre_nil hS).start |>.gW (α:=List Cell) (r:=HZ) (x:=x0) alb) rfl ?_;unfold Ua at hM;refine bI ?_;refine jm y (k:=XB x0 DX) (fun _=>[(0,eS HZ x0),(1,eI DX)]) (fun _=>[iL x0 HZ]) ?_ ?_
 ·intro zB fu;refine aW ?_;refine oe bY ?_;refine on ?_;refine cc rfl hM (fun hc19 hM=>?_) (fun hc19 hM=>?_)
  · refine bB ?_;cases hM
  refine aX (fu hM sS rI)
 clear hM;rintro⟨⟩ hM;dsimp only[XB] at hM ⊢;refine aW ?_;refine oe bL ?_;refine oe (GI .u64) ?_;refine om ?_;refine oe (GI .u64) ?_;obtain⟨y1,hy2,hM⟩:=bind_some hM;refine cv (fun hs=>ai1 _ _ (IntKind.u64.wrap (x0.length:Int)) (IntKind.u64.wrap DX) y1 hy2 (bf hs)) ?_;refine om ?_;refine oe (jv (vs:=[.int .u64 y1.1,.int .u64 y1.2])) ?_;refine oe (jv (vs:=[.int .u64 y1.1,.int .u64 y1.2])) ?_;refine oa ?_;refine aT ?_;refine jm y (k:=XC y1 x0) (fun _=>[(0,eS HZ x0),(6,.v (.int .u64 y1.2))]) (fun _=>[iL x0 HZ]) ?_ ?_
 ·intro zC hJ2;refine aW ?_;refine oe gM ?_;refine om ?_;refine aD rfl aL ?_;refine aD rfl gM ?_;refine oe dQ ?_;refine on ?_;refine cc rfl hM (fun hc18 hM=>?_) (fun hc18 hM=>?_)
  · refine bB ?_;cases hM
  refine aX (hJ2 hM sS rI)
 clear hM;rintro⟨⟩ hM;dsimp only[XC] at hM ⊢;refine aW ?_;refine oe (GI .i64) ?_;obtain⟨m3,hm4,hM⟩:=bind_some hM;refine bM (ahX (α:=Cell) (e:=254) (Cell.mk 0 0) () hm4 (fun _ _=>trivial) (fun r5 hr5=>?_));refine aT ?_;refine aW ?_;refine om ?_;obtain⟨l6,VJ,hM⟩:=bind_some hM;refine bM (ahW (r:=r5) (xs:=m3) uA (kG x0 HZ) VJ From.all (fun _ _ _ _=>trivial) (fun _ _ _=>rfl) ?_);refine abm 30 (v':=sL r5 l6) rfl (by simp only[Jj VJ,List.length_set,eS,sL]) ?_;refine abm 7 (v':=sL r5 l6) rfl (by simp only[Jj VJ,List.length_set,eS,sL]) ?_;refine abm 31 (v':=sL r5 l6) rfl (by simp only[Jj VJ,List.length_set,eS,sL]) ?_;refine aT ?_;refine aK fun K5 dI=>?_;refine bH ?_;refine lq hM (fun (wT,jl)=>[(7,eS r5 wT),(8,eI jl)]) (fun (wT,jl)=>[aj 254 r5 wT]) sS rI ?_;clear hM;rintro bA ⟨wT,jl⟩ hM iG hL1;dsimp only[XA] at hM ⊢;refine aK fun K6 dn=>?_;refine aW ?_
 refine om ?_;refine oe bL ?_;refine oe bY ?_;refine on ?_;refine cc rfl hM (fun hc8 hM=>?_) (fun hc8 hM=>?_)
 ·refine aX (dn _ _ ?_);clear dn;refine bH ?_;refine gy [] (by repeat (first|exact List.Sublist.refl _|apply List.Sublist.cons_cons|apply List.Sublist.cons)) ?_;refine ak 0 rfl aL ?_;refine ak 1 rfl aL ?_;refine ak 2 rfl aL ?_;obtain⟨l9,amn,hM⟩:=bind_some hM;refine YG (fun w hm=>Kn.adM (Kn.aj (e:=254) (r:=r5) hA) hm) fun amf=>?_;refine ak 3 rfl (ad7 (xs:=wT) (ol:=some (.i64,jl)) (oh:=none) amf (fun _=>amn)) ?_;refine ak 4 rfl aL ?_;refine ak 5 rfl aL ?_;obtain⟨Rh,aeG,hM⟩:=bind_some hM;refine YG (fun w hm=>Kn.adM (Kn.aj (e:=254) (r:=r5) hA) hm) fun amg=>?_;refine ak 6 rfl (ad7 (xs:=wT) (ol:=none) (oh:=some (.i64,jl)) amg (fun _=>aeG)) ?_;obtain⟨Cu,QW,hM⟩:=bind_some hM;refine dH 7 rfl (ahW (r:=r5) (xs:=wT) uA (Kn.arL (Kn.aj (e:=254) (r:=r5) hA) aeG) QW From.sub (fun _ _ _ _=>trivial) (fun _ _ _=>rfl) ⟨rI,?_⟩);refine UY 7 (v':=sL r5 Cu) rfl (by simp only[Jj QW,List.length_set,eS,sL]) ?_;refine UY 35 (v':=sL r5 Cu) rfl (by simp only[Jj QW,List.length_set,eS,sL]) ?_;refine UY 39 (v':=sL r5 Cu) rfl (by simp only[Jj QW,List.length_set,eS,sL]) ?_;refine UY 42 (v':=sL r5 Cu) rfl (by simp only[Jj QW,List.length_set,eS,sL]) ?_;obtain⟨Zk,hM⟩:=bW hM;refine ak 8 rfl (eH (hr:=fun hg=>dY Zk)) ?_
  refine ak 9 rfl dD ?_;refine dP (hL1 hM sS rI)
 refine dK (dI _ _ ?_);clear dI;dsimp only[ahR] at hM;refine aW ?_;refine aT ?_;obtain rfl:=some_inj hM;refine aY (mD (fun w hm=>fU r5 hm rfl))
def Ij(jV:Section)(vZ:List Cell)(bA:((List Cell)×Nat)→Option ((List Cell)×Int×Int))(AB:Nat):Int→Option ((List Cell)×Int×Int):=fun Ji=>
 (Ua ([(Cell.mk jV.Limit Ji)]:List Cell) jV.Length).bind fun y22=>
 bq (decide ((vZ.length+y22.length)*16≤140737488355328))<|
 bA ((vZ++y22),AB+1)
def acg(vZ:List Cell)(r0:aO)(l0:Layout):Unit→Option ((List Cell)×Int×Int):=fun _=>
 if decide (4000<(vZ.length:Int)) then
  (some (([]:List Cell),0,7))
 else
  ((idx r0.Steps 0).bind fun x31=>
  (idx l0.Sections x31.Section).bind fun au=>
  some (vZ,au.Length,0))
def Tz(l8:List Step)(l0:Layout)(r0:aO)(bA:((List Cell)×Nat)→Option ((List Cell)×Int×Int)):((List Cell)×Nat)→Option ((List Cell)×Int×Int):=fun (vZ,AB)=>
 if decide ((AB:Int)<(l8.length:Int)) then
  ((idx l8 (AB:Int)).bind fun jP=>
  (idx l0.Sections jP.Section).bind fun jV=>
  if decide (jP.Dir=1) then
   (bq (bJ (-jV.jQ))<|
   Ij jV vZ bA AB (-jV.jQ))
  else
   (Ij jV vZ bA AB jV.jQ))
 else
  (acg vZ r0 l0 ())
def TA(l0:Layout)(r0:aO):Option ((List Cell)×Int×Int):=
 (Ov l0 r0).bind fun y3=>
 if decide (y3≠0) then
  (some (([]:List Cell),0,y3))
 else
  (bq (bJ ((r0.Steps.length:Int)-r0.Overlap))<|
  (sub r0.Steps 0 ((r0.Steps.length:Int)-r0.Overlap)).bind fun l8=>
  iter (Tz l8 l0 r0) FUEL (([]:List Cell),0))
theorem aqK(S:bO)(w:World)(l0:Layout)(ay:aC.R Layout)(r0:aO)(bS:aC.R aO)(y:(List Cell)×Int×Int)(hM:TA l0 r0=some y)(hS:sB S w)(dZ:aC.ok S w ay l0)(qg:aC.ok S w bS r0):
   Calls Tryz.prog 193 #[.agg (jN l0 ay),.agg (xH r0 bS)] w (Post (β:=(aC.R (List Cell))) S [] (fun g=> .tuple #[sL g y.1,vI y.2.1,vI y.2.2]) (fun g=>[aj 254 g y.1]) w):=by
 refine cu (args:=[_,_]) Tryz.func193 rfl ((pre_nil hS).start |>.lY dZ|>.gW (α:=List Step) (r:=bS) (x:=r0.Steps) qg) rfl ?_;unfold TA at hM;refine sr ?_;refine oB (cK l0 ay) fun b1=>?_;refine oB (jC r0 bS) fun b2=>?_;refine oa ?_;refine oa ?_;refine aT ?_;refine aK fun K2 hK2=>?_;refine sr ?_;refine oe (bR (b:=b1)) ?_;refine oe (bR (b:=b2)) ?_;obtain⟨y3,hy4,hM⟩:=bind_some hM;refine cv (fun hs=>ahq _ _ l0 ay r0 bS y3 hy4 (bf hs) ⟨(kM hs),(kM hs),(kM hs),(kM hs)⟩ (kM hs)) ?_;refine aT ?_;refine aW ?_;refine oe gZ ?_;refine on ?_
 refine cc rfl hM (fun jL hM=>?_) (fun jL hM=>?_)
 ·refine aW ?_;refine oa ?_;refine oa ?_;refine aT ?_;refine cZ (fun w hm=>hm.dR (α:=Cell) 254 (fun _=>())) ?_;obtain rfl:=some_inj hM;refine aY (yT (fun w hm=>fU Eo hm rfl))
 refine aX (hK2 _ _ ?_);clear hK2;refine bI ?_;refine aK fun K7 eu=>?_;refine sr ?_;refine oe (av 0) ?_;refine oe (aF (b:=b2)) ?_;refine oe (av 0) ?_;refine oe (aF (b:=b2)) ?_;refine oe bL ?_;refine oe (av 1) ?_;refine oe (aF (b:=b2)) ?_;refine oN hM fun hM=>?_;obtain⟨l8,hl9,hM⟩:=bind_some hM;refine bM (La (r:=bS) (xs:=r0.Steps) (ol:=none) (oh:=some (.i64,((r0.Steps.length:Int)-r0.Overlap))) (Sk.dw (α:=List Step) (r:=bS) (x:=r0.Steps) hA) hl9 (fun Ki=>?_));refine mF (fun w hm=>Kn.len (kG l8 Ki) hm) fun amq=>?_;refine oe bL ?_;refine om ?_;refine on ?_;refine bH ?_;refine cZ (fun w hm=>hm.dR (α:=Cell) 254 (fun _=>())) ?_;refine lp Eo hM (fun (vZ,AB) H7=>[(2,eP b1),(3,eP b2),(8,eS H7 vZ),(27,eS Ki l8),(28,eI (l8.length:Int)),(29,eI (AB:Int))]) (fun (vZ,AB) H7=>[iL l0.aU ay.1,iL l0.bG ay.2.1,iL l0.Sections ay.2.2.1,iL l0.Links ay.2.2.2,own b1 26 (cK l0 ay),iL r0.Steps bS,own b2 90 (jC r0 bS),aj 254 H7 vZ,iL l8 Ki]) sS rI ?_
 clear hM;rintro bA ⟨vZ,AB⟩ H7 hM iG hL1;dsimp only[Tz] at hM ⊢;refine sr ?_;refine oe bY ?_;refine on ?_;refine aK fun tK gU=>?_;refine cc rfl hM (fun zM hM=>?_) (fun zM hM=>?_)
 ·have alK:=of_decide_eq_true zM;refine aX (gU _ _ ?_);clear gU;refine aK fun rQ gG=>?_;refine bH ?_;refine sr ?_;obtain⟨jP,Bg,hM⟩:=bind_some hM;refine oe (bD (xs:=l8) 2 (kG l8 Ki) (iS Bg)) ?_;refine oe (fM (m:=2) (i:=(AB:Int)) (xs:=l8) (y:=jP) (l:=(o9 jP)) 0 (kG l8 Ki) (fun _=>Bg)) ?_;refine oA rfl fun b16=>?_;refine oS b16 (o9 jP) ?_;refine on ?_;refine sr ?_;refine oe (av 2) ?_;refine oe (aF (b:=b1)) ?_;refine oe (av 0) ?_;refine oe (aF (b:=b16)) ?_;obtain⟨jV,wP,hM⟩:=bind_some hM;refine oe (bD (xs:=l0.Sections) 5 (kG l0.Sections ay.2.2.1) (iS wP)) ?_;refine oe (fM (m:=5) (i:=jP.Section) (xs:=l0.Sections) (y:=jV) (l:=(Ae jV)) 0 (kG l0.Sections ay.2.2.1) (fun _=>wP)) ?_;refine oA rfl fun b19=>?_;refine oS b19 (Ae jV) ?_
  refine on ?_;refine sr ?_;refine oe (av 2) ?_;refine oe (aF (b:=b19)) ?_;refine oe (av 3) ?_;refine oe (aF (b:=b19)) ?_;refine oe (gI [vI jV.Limit,vI jV.jQ]) ?_;refine oA rfl fun b20=>?_;refine oS b20 [vI jV.Limit,vI jV.jQ] ?_;refine on ?_;refine jm y (k:=Ij jV vZ bA AB) (fun Ji=>[(2,eP b1),(3,eP b2),(8,eS H7 vZ),(11,eP b19),(12,eP b20),(27,eS Ki l8),(28,eI (l8.length:Int)),(29,eI (AB:Int))]) (fun Ji=>[iL l0.aU ay.1,iL l0.bG ay.2.1,iL l0.Sections ay.2.2.1,iL l0.Links ay.2.2.2,own b1 26 (cK l0 ay),iL r0.Steps bS,own b2 90 (jC r0 bS),aj 254 H7 vZ,own b19 81 (Ae jV),own b20 254 [vI jV.Limit,vI Ji],iL l8 Ki]) ?_ ?_
  · intro zC hJ2;refine sr ?_;refine oe (av 1) ?_;refine oe (aF (b:=b16)) ?_;refine oe dU ?_;refine on ?_;refine cc rfl hM (fun hc27 hM=>?_) (fun hc27 hM=>?_)
    ·refine bB ?_;refine oe (av 1) ?_;refine oe (aF (b:=b20)) ?_;obtain⟨akN,hM⟩:=bW hM;refine oe (Vd (hr:=fun hg=>dY akN)) ?_;refine oe (av 1) ?_;refine bM (iD (b:=b20) (l':=[vI jV.Limit,vI (-jV.jQ)]) (k:=?_));refine bC (hJ2 hM sS rI)
    refine aX (hJ2 hM sS rI)
  clear hM;rintro Ji hM;dsimp only[Ij] at hM ⊢;refine bB ?_;refine om ?_;refine oe (bR (b:=b20)) ?_;refine bM (fD (α:=Cell) 254 (fun _=>()) ([(Cell.mk jV.Limit Ji)]:List Cell) oF (fun Aj=>?_));refine oe (av 1) ?_;refine oe (aF (b:=b19)) ?_;obtain⟨y22,zS,hM⟩:=bind_some hM;refine bM (fJ jM.nil (fun S w hs hP=>aru _ w ([(Cell.mk jV.Limit Ji)]:List Cell) Aj jV.Length y22 zS (bf hs) (kT hs)) gq (fun rD=>?_));dsimp only[cA,nA];obtain⟨alq,hM⟩:=bW hM;refine bM (jc (r:=H7) (r2:=rD) uR (Kn.aj (e:=254) (r:=rD) hA) oF (of_decide_eq_true alq) (fun Hy=>?_));refine oa ?_;refine bC (gG _ _ ?_);clear gG;refine bB ?_;refine oe (eH (hr:=fun _=>by unfold gF;omega)) ?_;refine om ?_;refine bC (hL1 Hy hM sS rI)
 refine dK (eu _ _ ?_);clear eu;dsimp only[acg] at hM;refine aK fun Ba kX=>?_;refine aW ?_;refine oe bL ?_;refine oe gM ?_;refine on ?_;refine cc rfl hM (fun hc29 hM=>?_) (fun hc29 hM=>?_)
 ·refine sr ?_;refine oa ?_;refine oa ?_;refine aT ?_;refine cZ (fun w hm=>hm.dR (α:=Cell) 254 (fun _=>())) ?_;obtain rfl:=some_inj hM;refine aY (yT (fun w hm=>fU Eo hm rfl))
 refine aX (kX _ _ ?_);clear kX;refine aK fun EN nX=>?_;refine gy _ (List.Sublist.refl _) ?_;refine ak 0 rfl aL ?_;refine ak 1 rfl (av 2) ?_;refine ak 2 rfl (aF (b:=b1)) ?_;refine ak 3 rfl (av 0) ?_;refine ak 4 rfl (aF (b:=b2)) ?_;obtain⟨x31,hx32,hM⟩:=bind_some hM;refine ak 5 rfl (bD (xs:=r0.Steps) 2 (kG r0.Steps bS) (iS hx32)) ?_;refine ak 6 rfl (av 0) ?_;refine ak 7 rfl (bT (i:=0) (xs:=r0.Steps) (y:=x31) 0 (kG r0.Steps bS) (fun _=>hx32)) ?_;obtain⟨au,hx34,hM⟩:=bind_some hM;refine ak 8 rfl (bD (xs:=l0.Sections) 5 (kG l0.Sections ay.2.2.1) (iS hx34)) ?_;refine ak 9 rfl (av 1) ?_;refine ak 10 rfl (bT (i:=x31.Section) (xs:=l0.Sections) (y:=au) 1 (kG l0.Sections ay.2.2.1) (fun _=>hx34)) ?_;refine ak 11 rfl dD ?_;refine ak 12 rfl dD ?_;refine ak 13 rfl dD ?_;refine dP (nX _ _ ?_);clear nX;obtain rfl:=some_inj hM;refine aY (yT (fun w hm=>fU H7 hm rfl))
end Go.Proofs.YtcalibhfgdncaaaGreatDoor
