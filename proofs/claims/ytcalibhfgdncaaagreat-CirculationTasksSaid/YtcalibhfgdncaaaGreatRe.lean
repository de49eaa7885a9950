/- Models of functions, and that the code computes them. -/
import Derived.Test.YtcalibhfgdncaaaGreatRd
set_option linter.all false
namespace Go.Proofs.YtcalibhfgdncaaaGreat
open Go.Dc Go.RowKit
set_option maxRecDepth 10000
def XF(x0:Int)(p1:Int):Option (Int×Int):=
 some ((IntKind.u64.wrap ((IntKind.u64.wrap ((IntKind.u64.wrap ((E8 .u64 x0 32)*(E8 .u64 p1 32)))+(E8 .u64 (IntKind.u64.wrap ((IntKind.u64.wrap ((E8 .u64 x0 32)*(FB .u64 p1 4294967295)))+(E8 .u64 (IntKind.u64.wrap ((FB .u64 x0 4294967295)*(FB .u64 p1 4294967295))) 32))) 32)))+(E8 .u64 (IntKind.u64.wrap ((FB .u64 (IntKind.u64.wrap ((IntKind.u64.wrap ((E8 .u64 x0 32)*(FB .u64 p1 4294967295)))+(E8 .u64 (IntKind.u64.wrap ((FB .u64 x0 4294967295)*(FB .u64 p1 4294967295))) 32))) 4294967295)+(IntKind.u64.wrap ((FB .u64 x0 4294967295)*(E8 .u64 p1 32))))) 32))),(IntKind.u64.wrap (x0*p1)))
theorem ahr(S:bF)(w:World)(x0:Int)(p1:Int)(y:Int×Int)(hM:XF x0 p1=some y)(hS:sB S w):
  Calls Tryz.prog 135 #[.int .u64 x0,.int .u64 p1] w (dw w (.tuple #[.int .u64 y.1,.int .u64 y.2])):=by
 refine bW (args:=[_,_]) Tryz.func135 rfl ((pre_nil hS).start) rfl ?_;unfold XF at hM;refine sr ?_;refine oa ?_;refine aL ?_;refine aJ ?_;refine oe XU ?_;refine aL ?_;refine aJ ?_;refine oe (OM (q:=32) (fun _=>by decide)) ?_;refine aL ?_;refine aJ ?_;refine oe XU ?_;refine aL ?_;refine aJ ?_;refine oe (OM (q:=32) (fun _=>by decide)) ?_;refine aL ?_;refine aJ ?_;refine om ?_;refine oe Ld ?_;refine aL ?_;refine aJ ?_;refine om ?_;refine oe Ld ?_;refine om ?_;refine oe (OM (q:=32) (fun _=>by decide)) ?_;refine oe KZ ?_;refine aL ?_;refine aJ ?_;refine oe XU ?_;refine oa ?_
 refine on ?_;refine aJ ?_;refine oe (OM (q:=32) (fun _=>by decide)) ?_;refine aL ?_;refine aJ ?_;refine om ?_;refine om ?_;refine oe Ld ?_;refine oe KZ ?_;refine aL ?_;refine aJ ?_;refine om ?_;refine oe Ld ?_;refine om ?_;refine oe KZ ?_;refine om ?_;refine oe (OM (q:=32) (fun _=>by decide)) ?_;refine oe KZ ?_;refine aL ?_;refine aJ ?_;refine om ?_;refine oe Ld ?_;refine aL ?_;exact aP (CF hM)
def Te(x0:Int)(p1:Int):Option (Int×Int):=
 (XF x0 p1).bind fun y1=>
 some (y1.1,y1.2)
theorem ahs(S:bF)(w:World)(x0:Int)(p1:Int)(y:Int×Int)(hM:Te x0 p1=some y)(hS:sB S w):
  Calls Tryz.prog 133 #[.int .u64 x0,.int .u64 p1] w (dw w (.tuple #[.int .u64 y.1,.int .u64 y.2])):=by
 refine bW (args:=[_,_]) Tryz.func133 rfl ((pre_nil hS).start) rfl ?_;unfold Te at hM;refine sr ?_;refine oa ?_;refine aL ?_;refine aF fun K2 hK2=>?_;refine Tw rfl rfl ?_;refine aM (hK2 _ _ ?_);clear hK2;refine aJ ?_;refine om ?_;obtain⟨y1,hy2,hM⟩:=bind_some hM;refine cv (fun hs=>ahr _ _ x0 p1 y1 hy2 (bq hs)) ?_;refine om ?_;refine oe (jl (vs:=[.int .u64 y1.1,.int .u64 y1.2])) ?_;refine oe (jl (vs:=[.int .u64 y1.1,.int .u64 y1.2])) ?_;refine oa ?_;refine aL ?_;refine aJ ?_;refine om ?_;refine oa ?_;refine aL ?_;exact aP (CF hM)
def agB(xQ:List Cell):Unit→Option (List Cell):=fun _=>
 some xQ
def Wi(aN:((List Cell)×Int)→Option (List Cell)):((List Cell)×Int)→Option (List Cell):=fun (xQ,mH)=>
 if decide (mH<(xQ.length:Int)) then
  ((sub xQ mH (xQ.length:Int)).bind fun l9=>
  (sub xQ 0 mH).bind fun Qf=>
  (Et xQ (mH.toNat) l9.length Qf).bind fun DC=>
  aX (bA (mH+((Nat.min Qf.length l9.length:Nat):Int)))<|
  aN (DC,(mH+((Nat.min Qf.length l9.length:Nat):Int))))
 else
  (agB xQ ())
def Wm(y1:Int×Int)(x0:List Cell):Unit→Option (List Cell):=fun _=>
 (mk (α:=Cell) (Cell.mk 0 0) (IntKind.i64.wrap y1.2)).bind fun m3=>
 (Et m3 0 m3.length x0).bind fun l6=>
 iter (Wi) FUEL (l6,((Nat.min x0.length m3.length:Nat):Int))
def Wj(x0:List Cell)(Er:Int):Unit→Option (List Cell):=fun _=>
 (Te (IntKind.u64.wrap (x0.length:Int)) (IntKind.u64.wrap Er)).bind fun y1=>
 if (decide (0<y1.1)||decide (9223372036854775807<y1.2)) then
  (none)
 else
  (Wm y1 x0 ())
def R7(x0:List Cell)(Er:Int):Option (List Cell):=
 if decide (Er<0) then
  (none)
 else
  (Wj x0 Er ())
theorem anC(S:bF)(w:World)(x0:List Cell)(HY:ak.R (List Cell))(Er:Int)(y:(List Cell))(hM:R7 x0 Er=some y)(hS:sB S w)(ajd:ak.ok S w HY x0):
   Calls Tryz.prog 132 #[sL HY x0,vI Er] w (Post (β:=(ak.R (List Cell))) S [] (fun g=>sL g y) (fun g=>[ah 212 g y]) w):=by
 refine bW (args:=[_,_]) Tryz.func132 rfl ((pre_nil hS).start |>.dZ (α:=List Cell) (r:=HY) (x:=x0) ajd) rfl ?_;unfold R7 at hM;refine bg ?_;refine jm y (k:=Wj x0 Er) (fun _=>[(0,eS HY x0),(1,eI Er)]) (fun _=>[iL x0 HY]) ?_ ?_
 ·intro Fj iR;refine aJ ?_;refine oe bK ?_;refine on ?_;refine cc rfl hM (fun hc19 hM=>?_) (fun hc19 hM=>?_)
  · refine aT ?_;cases hM
  refine aM (iR hM sS rI)
 clear hM;rintro⟨⟩ hM;dsimp only[Wj] at hM ⊢;refine aJ ?_;refine oe bf ?_;refine oe (Jd .u64) ?_;refine om ?_;refine oe (Jd .u64) ?_;obtain⟨y1,hy2,hM⟩:=bind_some hM;refine cv (fun hs=>ahs _ _ (IntKind.u64.wrap (x0.length:Int)) (IntKind.u64.wrap Er) y1 hy2 (bq hs)) ?_;refine om ?_;refine oe (jl (vs:=[.int .u64 y1.1,.int .u64 y1.2])) ?_;refine oe (jl (vs:=[.int .u64 y1.1,.int .u64 y1.2])) ?_;refine oa ?_;refine aL ?_;refine jm y (k:=Wm y1 x0) (fun _=>[(0,eS HY x0),(6,.v (.int .u64 y1.2))]) (fun _=>[iL x0 HY]) ?_ ?_
 ·intro zB hJ2;refine aJ ?_;refine oe eO ?_;refine om ?_;refine au rfl aH ?_;refine au rfl eO ?_;refine oe bP ?_;refine on ?_;refine cc rfl hM (fun hc18 hM=>?_) (fun hc18 hM=>?_)
  · refine aT ?_;cases hM
  refine aM (hJ2 hM sS rI)
 clear hM;rintro⟨⟩ hM;dsimp only[Wm] at hM ⊢;refine aJ ?_;refine oe (Jd .i64) ?_;obtain⟨m3,Pv,hM⟩:=bind_some hM;refine aY (yw (α:=Cell) (e:=212) (Cell.mk 0 0) () Pv (fun _ _=>trivial) (fun r5 hr5=>?_));refine aL ?_;refine aJ ?_;refine om ?_;obtain⟨l6,Uv,hM⟩:=bind_some hM;refine aY (agG (r:=r5) (xs:=m3) uA (kG x0 HY) Uv From.all (fun _ _ _ _=>trivial) (fun _ _ _=>rfl) ?_);refine aak 30 (v':=sL r5 l6) rfl (by simp only[Ja Uv,List.length_set,eS,sL]) ?_;refine aak 7 (v':=sL r5 l6) rfl (by simp only[Ja Uv,List.length_set,eS,sL]) ?_;refine aak 31 (v':=sL r5 l6) rfl (by simp only[Ja Uv,List.length_set,eS,sL]) ?_;refine aL ?_;refine aF fun K5 bT=>?_;refine aV ?_;refine lq hM (fun (xQ,mH)=>[(7,eS r5 xQ),(8,eI mH)]) (fun (xQ,mH)=>[ah 212 r5 xQ]) sS rI ?_;clear hM;rintro aN ⟨xQ,mH⟩ hM fQ hL1;dsimp only[Wi] at hM ⊢;refine aF fun K6 bU=>?_;refine aJ ?_
 refine om ?_;refine oe bf ?_;refine oe bK ?_;refine on ?_;refine cc rfl hM (fun hc8 hM=>?_) (fun hc8 hM=>?_)
 ·refine aM (bU _ _ ?_);clear bU;refine aV ?_;refine fE [] (by repeat (first|exact List.Sublist.refl _|apply List.Sublist.cons_cons|apply List.Sublist.cons)) ?_;refine aj 0 rfl aH ?_;refine aj 1 rfl aH ?_;refine aj 2 rfl aH ?_;obtain⟨l9,akk,hM⟩:=bind_some hM;refine XB (fun w hm=>Kn.abQ (Kn.ah (e:=212) (r:=r5) hA) hm) fun akc=>?_;refine aj 3 rfl (acT (xs:=xQ) (ol:=some (.i64,mH)) (oh:=none) akc (fun _=>akk)) ?_;refine aj 4 rfl aH ?_;refine aj 5 rfl aH ?_;obtain⟨Qf,aea,hM⟩:=bind_some hM;refine XB (fun w hm=>Kn.abQ (Kn.ah (e:=212) (r:=r5) hA) hm) fun akd=>?_;refine aj 6 rfl (acT (xs:=xQ) (ol:=none) (oh:=some (.i64,mH)) akd (fun _=>aea)) ?_;obtain⟨DC,PS,hM⟩:=bind_some hM;refine dX 7 rfl (agG (r:=r5) (xs:=xQ) uA (Kn.anP (Kn.ah (e:=212) (r:=r5) hA) aea) PS From.sub (fun _ _ _ _=>trivial) (fun _ _ _=>rfl) ⟨rI,?_⟩);refine SY 7 (v':=sL r5 DC) rfl (by simp only[Ja PS,List.length_set,eS,sL]) ?_;refine SY 35 (v':=sL r5 DC) rfl (by simp only[Ja PS,List.length_set,eS,sL]) ?_;refine SY 39 (v':=sL r5 DC) rfl (by simp only[Ja PS,List.length_set,eS,sL]) ?_;refine SY 42 (v':=sL r5 DC) rfl (by simp only[Ja PS,List.length_set,eS,sL]) ?_;obtain⟨Yl,hM⟩:=bQ hM;refine aj 8 rfl (dh (hr:=fun hg=>dI Yl)) ?_
  refine aj 9 rfl dL ?_;refine dK (hL1 hM sS rI)
 refine bX (bT _ _ ?_);clear bT;dsimp only[agB] at hM;refine aJ ?_;refine aL ?_;obtain rfl:=some_inj hM;refine aP (tO (fun w hm=>gK r5 hm rfl))
def Ih(fK:Section)(wZ:List Cell)(aN:((List Cell)×Nat)→Option ((List Cell)×Int×Int))(sZ:Nat):Int→Option ((List Cell)×Int×Int):=fun I8=>
 (R7 ([(Cell.mk fK.Limit I8)]:List Cell) fK.Length).bind fun y22=>
 aX (decide ((wZ.length+y22.length)*16≤140737488355328))<|
 aN ((wZ++y22),sZ+1)
def aaS(wZ:List Cell)(r0:aO)(l0:Layout):Unit→Option ((List Cell)×Int×Int):=fun _=>
 if decide (4000<(wZ.length:Int)) then
  (some (([]:List Cell),0,7))
 else
  ((idx r0.Steps 0).bind fun x31=>
  (idx l0.Sections x31.Section).bind fun iW=>
  some (wZ,iW.Length,0))
def RB(l8:List Step)(l0:Layout)(r0:aO)(aN:((List Cell)×Nat)→Option ((List Cell)×Int×Int)):((List Cell)×Nat)→Option ((List Cell)×Int×Int):=fun (wZ,sZ)=>
 if decide ((sZ:Int)<(l8.length:Int)) then
  ((idx l8 (sZ:Int)).bind fun qL=>
  (idx l0.Sections qL.Section).bind fun fK=>
  if decide (qL.Dir=1) then
   (aX (bA (-fK.kr))<|
   Ih fK wZ aN sZ (-fK.kr))
  else
   (Ih fK wZ aN sZ fK.kr))
 else
  (aaS wZ r0 l0 ())
def RD(l0:Layout)(r0:aO):Option ((List Cell)×Int×Int):=
 (Nk l0 r0).bind fun y3=>
 if decide (y3≠0) then
  (some (([]:List Cell),0,y3))
 else
  (aX (bA ((r0.Steps.length:Int)-r0.Overlap))<|
  (sub r0.Steps 0 ((r0.Steps.length:Int)-r0.Overlap)).bind fun l8=>
  iter (RB l8 l0 r0) FUEL (([]:List Cell),0))
theorem amT(S:bF)(w:World)(l0:Layout)(aG:ak.R Layout)(r0:aO)(aC:ak.R aO)(y:(List Cell)×Int×Int)(hM:RD l0 r0=some y)(hS:sB S w)(eT:ak.ok S w aG l0)(ku:ak.ok S w aC r0):
   Calls Tryz.prog 130 #[.agg (lX l0 aG),.agg (Ao r0 aC)] w (Post (β:=(ak.R (List Cell))) S [] (fun g=> .tuple #[sL g y.1,vI y.2.1,vI y.2.2]) (fun g=>[ah 212 g y.1]) w):=by
 refine bW (args:=[_,_]) Tryz.func130 rfl ((pre_nil hS).start |>.ny eT|>.dZ (α:=List Step) (r:=aC) (x:=r0.Steps) ku) rfl ?_;unfold RD at hM;refine sr ?_;refine oB (eD l0 aG) fun b1=>?_;refine oB (jV r0 aC) fun b2=>?_;refine oa ?_;refine oa ?_;refine aL ?_;refine aF fun K2 hK2=>?_;refine sr ?_;refine oe (bM (b:=b1)) ?_;refine oe (bM (b:=b2)) ?_;obtain⟨y3,hy4,hM⟩:=bind_some hM;refine cv (fun hs=>af7 _ _ l0 aG r0 aC y3 hy4 (bq hs) ⟨(kM hs),(kM hs),(kM hs),(kM hs)⟩ (kM hs)) ?_;refine aL ?_;refine aJ ?_;refine oe gH ?_;refine on ?_
 refine cc rfl hM (fun jO hM=>?_) (fun jO hM=>?_)
 ·refine aJ ?_;refine oa ?_;refine oa ?_;refine aL ?_;refine dJ (fun w hm=>hm.dR (α:=Cell) 212 (fun _=>())) ?_;obtain rfl:=some_inj hM;refine aP (EB (fun w hm=>gK EP hm rfl))
 refine aM (hK2 _ _ ?_);clear hK2;refine bg ?_;refine aF fun K7 eU=>?_;refine sr ?_;refine oe (ay 0) ?_;refine oe (aD (b:=b2)) ?_;refine oe (ay 0) ?_;refine oe (aD (b:=b2)) ?_;refine oe bf ?_;refine oe (ay 1) ?_;refine oe (aD (b:=b2)) ?_;refine oN hM fun hM=>?_;obtain⟨l8,Ue,hM⟩:=bind_some hM;refine aY (NG (r:=aC) (xs:=r0.Steps) (ol:=none) (oh:=some (.i64,((r0.Steps.length:Int)-r0.Overlap))) (Sk.cO (α:=List Step) (r:=aC) (x:=r0.Steps) hA) Ue (fun jr=>?_));refine gU (fun w hm=>Kn.len (kG l8 jr) hm) fun ad9=>?_;refine oe bf ?_;refine om ?_;refine on ?_;refine aV ?_;refine dJ (fun w hm=>hm.dR (α:=Cell) 212 (fun _=>())) ?_;refine lp EP hM (fun (wZ,sZ) H8=>[(2,eP b1),(3,eP b2),(8,eS H8 wZ),(27,eS jr l8),(28,eI (l8.length:Int)),(29,eI (sZ:Int))]) (fun (wZ,sZ) H8=>[iL l0.bB aG.1,iL l0.bN aG.2.1,iL l0.Sections aG.2.2.1,iL l0.Links aG.2.2.2,own b1 27 (eD l0 aG),iL r0.Steps aC,own b2 85 (jV r0 aC),ah 212 H8 wZ,iL l8 jr]) sS rI ?_
 clear hM;rintro aN ⟨wZ,sZ⟩ H8 hM fQ hL1;dsimp only[RB] at hM ⊢;refine sr ?_;refine oe bK ?_;refine on ?_;refine aF fun sK gy=>?_;refine cc rfl hM (fun zO hM=>?_) (fun zO hM=>?_)
 ·have an9:=of_decide_eq_true zO;refine aM (gy _ _ ?_);clear gy;refine aF fun pR eH=>?_;refine aV ?_;refine sr ?_;obtain⟨qL,zR,hM⟩:=bind_some hM;refine oe (aQ (xs:=l8) 2 (kG l8 jr) (iS zR)) ?_;refine oe (eY (m:=2) (i:=(sZ:Int)) (xs:=l8) (y:=qL) (l:=(rM qL)) 0 (kG l8 jr) (fun _=>zR)) ?_;refine oA rfl fun b16=>?_;refine oS b16 (rM qL) ?_;refine on ?_;refine sr ?_;refine oe (ay 2) ?_;refine oe (aD (b:=b1)) ?_;refine oe (ay 0) ?_;refine oe (aD (b:=b16)) ?_;obtain⟨fK,pW,hM⟩:=bind_some hM;refine oe (aQ (xs:=l0.Sections) 5 (kG l0.Sections aG.2.2.1) (iS pW)) ?_;refine oe (eY (m:=5) (i:=qL.Section) (xs:=l0.Sections) (y:=fK) (l:=(Bc fK)) 0 (kG l0.Sections aG.2.2.1) (fun _=>pW)) ?_;refine oA rfl fun b19=>?_;refine oS b19 (Bc fK) ?_
  refine on ?_;refine sr ?_;refine oe (ay 2) ?_;refine oe (aD (b:=b19)) ?_;refine oe (ay 3) ?_;refine oe (aD (b:=b19)) ?_;refine oe (gD [vI fK.Limit,vI fK.kr]) ?_;refine oA rfl fun b20=>?_;refine oS b20 [vI fK.Limit,vI fK.kr] ?_;refine on ?_;refine jm y (k:=Ih fK wZ aN sZ) (fun I8=>[(2,eP b1),(3,eP b2),(8,eS H8 wZ),(11,eP b19),(12,eP b20),(27,eS jr l8),(28,eI (l8.length:Int)),(29,eI (sZ:Int))]) (fun I8=>[iL l0.bB aG.1,iL l0.bN aG.2.1,iL l0.Sections aG.2.2.1,iL l0.Links aG.2.2.2,own b1 27 (eD l0 aG),iL r0.Steps aC,own b2 85 (jV r0 aC),ah 212 H8 wZ,own b19 72 (Bc fK),own b20 212 [vI fK.Limit,vI I8],iL l8 jr]) ?_ ?_
  · intro zB hJ2;refine sr ?_;refine oe (ay 1) ?_;refine oe (aD (b:=b16)) ?_;refine oe fI ?_;refine on ?_;refine cc rfl hM (fun hc27 hM=>?_) (fun hc27 hM=>?_)
    ·refine aT ?_;refine oe (ay 1) ?_;refine oe (aD (b:=b20)) ?_;obtain⟨Yo,hM⟩:=bQ hM;refine oe (GX (hr:=fun hg=>dI Yo)) ?_;refine oe (ay 1) ?_;refine aY (jT (b:=b20) (l':=[vI fK.Limit,vI (-fK.kr)]) (k:=?_));refine aU (hJ2 hM sS rI)
    refine aM (hJ2 hM sS rI)
  clear hM;rintro I8 hM;dsimp only[Ih] at hM ⊢;refine aT ?_;refine om ?_;refine oe (bM (b:=b20)) ?_;refine aY (fH (α:=Cell) 212 (fun _=>()) ([(Cell.mk fK.Limit I8)]:List Cell) oF (fun vv=>?_));refine oe (ay 1) ?_;refine oe (aD (b:=b19)) ?_;obtain⟨y22,yR,hM⟩:=bind_some hM;refine aY (fP jL.nil (fun S w hs hP=>anC _ w ([(Cell.mk fK.Limit I8)]:List Cell) vv fK.Length y22 yR (bq hs) (kT hs)) fO (fun xq=>?_));dsimp only[cA,nA];obtain⟨YG,hM⟩:=bQ hM;refine aY (jy (r:=H8) (r2:=xq) uR (Kn.ah (e:=212) (r:=xq) hA) oF (of_decide_eq_true YG) (fun Co=>?_));refine oa ?_;refine aU (eH _ _ ?_);clear eH;refine aT ?_;refine oe (dh (hr:=fun _=>by unfold dS;omega)) ?_;refine om ?_;refine aU (hL1 Co hM sS rI)
 refine bX (eU _ _ ?_);clear eU;dsimp only[aaS] at hM;refine aF fun yF jC=>?_;refine aJ ?_;refine oe bf ?_;refine oe eO ?_;refine on ?_;refine cc rfl hM (fun hc29 hM=>?_) (fun hc29 hM=>?_)
 ·refine sr ?_;refine oa ?_;refine oa ?_;refine aL ?_;refine dJ (fun w hm=>hm.dR (α:=Cell) 212 (fun _=>())) ?_;obtain rfl:=some_inj hM;refine aP (EB (fun w hm=>gK EP hm rfl))
 refine aM (jC _ _ ?_);clear jC;refine aF fun CX mE=>?_;refine fE _ (List.Sublist.refl _) ?_;refine aj 0 rfl aH ?_;refine aj 1 rfl (ay 2) ?_;refine aj 2 rfl (aD (b:=b1)) ?_;refine aj 3 rfl (ay 0) ?_;refine aj 4 rfl (aD (b:=b2)) ?_;obtain⟨x31,hx32,hM⟩:=bind_some hM;refine aj 5 rfl (aQ (xs:=r0.Steps) 2 (kG r0.Steps aC) (iS hx32)) ?_;refine aj 6 rfl (ay 0) ?_;refine aj 7 rfl (bE (i:=0) (xs:=r0.Steps) (y:=x31) 0 (kG r0.Steps aC) (fun _=>hx32)) ?_;obtain⟨iW,hx34,hM⟩:=bind_some hM;refine aj 8 rfl (aQ (xs:=l0.Sections) 5 (kG l0.Sections aG.2.2.1) (iS hx34)) ?_;refine aj 9 rfl (ay 1) ?_;refine aj 10 rfl (bE (i:=x31.Section) (xs:=l0.Sections) (y:=iW) 1 (kG l0.Sections aG.2.2.1) (fun _=>hx34)) ?_;refine aj 11 rfl dL ?_;refine aj 12 rfl dL ?_;refine aj 13 rfl dL ?_;refine dK (mE _ _ ?_);clear mE;obtain rfl:=some_inj hM;refine aP (EB (fun w hm=>gK H8 hm rfl))
end Go.Proofs.YtcalibhfgdncaaaGreat
