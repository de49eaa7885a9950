/- Functions: models, proved of the code. -/
import Derived.Test.YtcalibhfgdncaaaGreatDoorRd
namespace Go.Proofs.YtcalibhfgdncaaaGreatDoor
open Go.Dc Go.RowKit
attribute [local irreducible] CW OW AW AZ Ev
set_option maxHeartbeats 0
set_option maxRecDepth 10000
set_option linter.all false
def abQ(x0:Int)(p1:Int):Option (Int×Int):=
 some ((IntKind.u64.wrap ((IntKind.u64.wrap ((IntKind.u64.wrap ((Fy .u64 x0 32)*(Fy .u64 p1 32)))+(Fy .u64 (IntKind.u64.wrap ((IntKind.u64.wrap ((Fy .u64 x0 32)*(F6 .u64 p1 4294967295)))+(Fy .u64 (IntKind.u64.wrap ((F6 .u64 x0 4294967295)*(F6 .u64 p1 4294967295))) 32))) 32)))+(Fy .u64 (IntKind.u64.wrap ((F6 .u64 (IntKind.u64.wrap ((IntKind.u64.wrap ((Fy .u64 x0 32)*(F6 .u64 p1 4294967295)))+(Fy .u64 (IntKind.u64.wrap ((F6 .u64 x0 4294967295)*(F6 .u64 p1 4294967295))) 32))) 4294967295)+(IntKind.u64.wrap ((F6 .u64 x0 4294967295)*(Fy .u64 p1 32))))) 32))),(IntKind.u64.wrap (x0*p1)))
theorem amv(S:aW)(w:World)(x0:Int)(p1:Int)(y:Int×Int)(hM:abQ x0 p1=some y)(hS:sB S w):
  Calls Tryz.prog 219 #[.int .u64 x0,.int .u64 p1] w (bM w (.tuple #[.int .u64 y.1,.int .u64 y.2])):=by
 refine bF (args:=[_,_]) Tryz.func219 rfl ((pre_nil hS).start) rfl ?_;unfold abQ at hM;refine go ?_;refine oe ab6 ?_;refine aN ?_;refine aR ?_;refine oe (R5 (q:=32) (fun _=>by decide)) ?_;refine aN ?_;refine aR ?_;refine oe ab6 ?_;refine aN ?_;refine aR ?_;refine oe (R5 (q:=32) (fun _=>by decide)) ?_;refine aN ?_;refine aR ?_;refine om ?_;refine oe R4 ?_;refine aN ?_;refine aR ?_;refine om ?_;refine oe R4 ?_;refine om ?_;refine oe (R5 (q:=32) (fun _=>by decide)) ?_;refine oe RZ ?_;refine aN ?_;refine aR ?_;refine oe ab6 ?_;refine oa ?_;refine on ?_;refine aR ?_;refine oe (R5 (q:=32) (fun _=>by decide)) ?_;refine go ?_;refine oe R4 ?_;refine oe RZ ?_;refine aN ?_;refine aR ?_;refine om ?_;refine oe R4 ?_;refine om ?_;refine oe RZ ?_;refine om ?_;refine oe (R5 (q:=32) (fun _=>by decide)) ?_;refine oe RZ ?_;refine aN ?_;refine aR ?_;refine om ?_;refine oe R4 ?_;refine aN ?_;exact aF (uS hM)
def XZ(x0:Int)(p1:Int):Option (Int×Int):=
 (abQ x0 p1).bind fun y1=>
 some (y1.1,y1.2)
theorem amw(S:aW)(w:World)(x0:Int)(p1:Int)(y:Int×Int)(hM:XZ x0 p1=some y)(hS:sB S w):
  Calls Tryz.prog 213 #[.int .u64 x0,.int .u64 p1] w (bM w (.tuple #[.int .u64 y.1,.int .u64 y.2])):=by
 refine bF (args:=[_,_]) Tryz.func213 rfl ((pre_nil hS).start) rfl ?_;unfold XZ at hM;refine sr ?_;refine oa ?_;refine aN ?_;refine au fun K2 hK2=>?_;refine RO rfl rfl ?_;refine cs hK2 ?_;refine aR ?_;refine om ?_;obtain⟨y1,hy2,hM⟩:=bind_some hM;refine cv (fun hs=>amv _ _ x0 p1 y1 hy2 (aM hs)) ?_;refine om ?_;refine oe (bU (vs:=[.int .u64 y1.1,.int .u64 y1.2])) ?_;refine oe (bU (vs:=[.int .u64 y1.1,.int .u64 y1.2])) ?_;refine go ?_;exact aF (uS hM)
def akT(xR:List Cell):Unit→Option (List Cell):=fun _=>
 some xR
def aaV(aK:((List Cell)×Int)→Option (List Cell)):((List Cell)×Int)→Option (List Cell):=fun (xR,gB)=>
 if decide (gB<(xR.length:Int)) then
  ((sub xR gB (xR.length:Int)).bind fun l9=>
  (sub xR 0 gB).bind fun Ue=>
  (EH xR (gB.toNat) l9.length Ue).bind fun DX=>
  aO (aX (gB+((Nat.min Ue.length l9.length:Nat):Int)))<|
  aK (DX,(gB+((Nat.min Ue.length l9.length:Nat):Int))))
 else
  (akT xR ())
def aaX(y1:Int×Int)(x0:List Cell):Unit→Option (List Cell):=fun _=>
 (mk (α:=Cell) (Cell.mk 0 0) (IntKind.i64.wrap y1.2)).bind fun m3=>
 (EH m3 0 m3.length x0).bind fun l6=>
 iter (aaV) FUEL (l6,((Nat.min x0.length m3.length:Nat):Int))
def aaW(x0:List Cell)(F7:Int):Unit→Option (List Cell):=fun _=>
 (XZ (IntKind.u64.wrap (x0.length:Int)) (IntKind.u64.wrap F7)).bind fun y1=>
 if (decide (0<y1.1)||decide (9223372036854775807<y1.2)) then
  (none)
 else
  (aaX y1 x0 ())
def WL(x0:List Cell)(F7:Int):Option (List Cell):=
 if decide (F7<0) then
  (none)
 else
  (aaW x0 F7 ())
theorem awp(S:aW)(w:World)(x0:List Cell)(aC:ah.R (List Cell))(F7:Int)(y:(List Cell))(hM:WL x0 F7=some y)(hS:sB S w)(EP:ah.ok S w aC x0):
   Calls Tryz.prog 202 #[sL aC x0,vI F7] w (Post (β:=(ah.R (List Cell))) S [] (fun g=>sL g y) (fun g=>[aj 254 g y]) w):=by
 refine bF (args:=[_,_]) Tryz.func202 rfl ((pre_nil hS).start |>.bG EP) rfl ?_;unfold WL at hM;refine aJ ?_;refine jl y (k:=aaW x0 F7) [0,1] (fun _=>[]) [] (fun _=>[]) ?_ ?_
 ·intro rM dK;refine aR ?_;refine oe gq ?_;refine oc hM (fun hc19 hM=>?_) (fun hc19 hM=>?_)
  · refine bg ?_;cases hM
  refine gG (dK hM sS rI)
 clear hM;rintro⟨⟩ hM;dsimp only[aaW,cA,nA] at hM ⊢;refine aR ?_;refine oe jq ?_;refine oe (IC .u64) ?_;refine om ?_;refine oe (IC .u64) ?_;obtain⟨y1,hy2,hM⟩:=bind_some hM;refine cv (fun hs=>amw _ _ (IntKind.u64.wrap (x0.length:Int)) (IntKind.u64.wrap F7) y1 hy2 (aM hs)) ?_;refine om ?_;refine oe (bU (vs:=[.int .u64 y1.1,.int .u64 y1.2])) ?_;refine oe (bU (vs:=[.int .u64 y1.1,.int .u64 y1.2])) ?_;refine oa ?_;refine aN ?_;refine jl y (k:=aaX y1 x0) [0,6] (fun _=>[]) [] (fun _=>[]) ?_ ?_
 ·intro zB hJ2;refine go ?_;refine co hM (fun hc18 hM=>?_) (fun hc18 hM=>?_)
  · refine bg ?_;cases hM
  refine gG (hJ2 hM sS rI)
 clear hM;rintro⟨⟩ hM;dsimp only[aaX,cA,nA] at hM ⊢;refine aR ?_;refine oe (IC .i64) ?_;obtain⟨m3,hm4,hM⟩:=bind_some hM;refine bf (ak1 (α:=Cell) (e:=254) (Cell.mk 0 0) () hm4 (fun _ _=>trivial) (fun r5 hr5=>?_));refine aN ?_;refine aR ?_;refine om ?_;obtain⟨l6,YW,hM⟩:=bind_some hM;refine bf (ak0 (r:=r5) (xs:=m3) uA (kG x0 aC) YW From.all (fun _ _ _ _=>trivial) (fun _ _ _=>rfl) ?_);refine aes 30 (v':=sL r5 l6) rfl (by simp only[KN YW,List.length_set,eS,sL]) ?_;refine aes 7 (v':=sL r5 l6) rfl (by simp only[KN YW,List.length_set,eS,sL]) ?_;refine aes 31 (v':=sL r5 l6) rfl (by simp only[KN YW,List.length_set,eS,sL]) ?_;refine aN ?_;refine au fun K5 dx=>?_;refine bI ?_;refine lk hM [] (fun (xR,gB)=>[(7,eS r5 xR),(8,eI gB)]) [0,0] (fun (xR,gB)=>[aj 254 r5 xR]) ?_;clear hM;rintro aK ⟨xR,gB⟩ hM eO hL1;dsimp only[aaV,cA,nA] at hM ⊢;refine au fun K6 dG=>?_;refine go ?_;refine co hM (fun hc8 hM=>?_) (fun hc8 hM=>?_)
 ·refine cs dG ?_;refine bI ?_;refine dS [] (by repeat (first|exact List.Sublist.refl _|apply List.Sublist.cons_cons|apply List.Sublist.cons)) ?_;refine am 0 ?_;refine am 1 ?_;refine am 2 ?_;obtain⟨l9,apB,hM⟩:=bind_some hM;refine agF (fun w hm=>Kn.agJ (Kn.aj (e:=254) (r:=r5) hA) hm) fun apt=>?_;refine ay 3 rfl (ag9 (xs:=xR) (ol:=some (.i64,gB)) (oh:=none) apt (fun _=>apB)) ?_;refine am 4 ?_;refine am 5 ?_;obtain⟨Ue,ahy,hM⟩:=bind_some hM;refine agF (fun w hm=>Kn.agJ (Kn.aj (e:=254) (r:=r5) hA) hm) fun apu=>?_;refine ay 6 rfl (ag9 (xs:=xR) (ol:=none) (oh:=some (.i64,gB)) apu (fun _=>ahy)) ?_;obtain⟨DX,Tm,hM⟩:=bind_some hM;refine bT 7 rfl (ak0 (r:=r5) (xs:=xR) uA (Kn.awQ (Kn.aj (e:=254) (r:=r5) hA) ahy) Tm From.sub (fun _ _ _ _=>trivial) (fun _ _ _=>rfl) ⟨rI,?_⟩);refine XF 7 (v':=sL r5 DX) rfl (by simp only[KN Tm,List.length_set,eS,sL]) ?_;refine XF 35 (v':=sL r5 DX) rfl (by simp only[KN Tm,List.length_set,eS,sL]) ?_;refine XF 39 (v':=sL r5 DX) rfl (by simp only[KN Tm,List.length_set,eS,sL]) ?_;refine XF 42 (v':=sL r5 DX) rfl (by simp only[KN Tm,List.length_set,eS,sL]) ?_;obtain⟨acu,hM⟩:=bQ hM;refine ay 8 rfl (dP (hr:=fun hg=>dU acu)) ?_;refine ay 9 rfl eX ?_;refine bS (hL1 hM sS rI)
 refine cx dx ?_;dsimp only[akT] at hM;refine aR ?_;refine aN ?_;obtain rfl:=some_inj hM;refine aF (eG (fun w hm=>bR r5 hm rfl))
def JL(kr:Section)(yQ:List Cell)(aK:((List Cell)×Nat)→Option ((List Cell)×Int×Int))(Ew:Nat):Int→Option ((List Cell)×Int×Int):=fun KM=>
 (WL ([(Cell.mk kr.Limit KM)]:List Cell) kr.Length).bind fun y22=>
 aO (decide ((yQ.length+y22.length)*16≤140737488355328))<|
 aK ((yQ++y22),Ew+1)
def afm(yQ:List Cell)(r0:aG)(l0:Layout):Unit→Option ((List Cell)×Int×Int):=fun _=>
 if decide (4000<(yQ.length:Int)) then
  (some (([]:List Cell),0,7))
 else
  ((idx r0.Steps 0).bind fun x31=>
  (idx l0.Sections x31.Section).bind fun pO=>
  some (yQ,pO.Length,0))
def Wp(l8:List Step)(l0:Layout)(r0:aG)(aK:((List Cell)×Nat)→Option ((List Cell)×Int×Int)):((List Cell)×Nat)→Option ((List Cell)×Int×Int):=fun (yQ,Ew)=>
 if decide ((Ew:Int)<(l8.length:Int)) then
  ((idx l8 (Ew:Int)).bind fun qm=>
  (idx l0.Sections qm.Section).bind fun kr=>
  if decide (qm.Dir=1) then
   (aO (aX (-kr.jM))<|
   JL kr yQ aK Ew (-kr.jM))
  else
   (JL kr yQ aK Ew kr.jM))
 else
  (afm yQ r0 l0 ())
def Wq(l0:Layout)(r0:aG):Option ((List Cell)×Int×Int):=
 (QC l0 r0).bind fun y3=>
 if decide (y3≠0) then
  (some (([]:List Cell),0,y3))
 else
  (aO (aX ((r0.Steps.length:Int)-r0.Overlap))<|
  (sub r0.Steps 0 ((r0.Steps.length:Int)-r0.Overlap)).bind fun l8=>
  iter (Wp l8 l0 r0) FUEL (([]:List Cell),0))
theorem avn(S:aW)(w:World)(l0:Layout)(aD:ah.R Layout)(r0:aG)(ak:ah.R aG)(y:(List Cell)×Int×Int)(hM:Wq l0 r0=some y)(hS:sB S w)(dQ:ah.ok S w aD l0)(oL:ah.ok S w ak r0):
   Calls Tryz.prog 193 #[.agg (jy l0 aD),.agg (xC r0 ak)] w (Post (β:=(ah.R (List Cell))) S [] (fun g=> .tuple #[sL g y.1,vI y.2.1,vI y.2.2]) (fun g=>[aj 254 g y.1]) w):=by
 refine bF (args:=[_,_]) Tryz.func193 rfl ((pre_nil hS).start |>.je dQ|>.bG oL) rfl ?_;unfold Wq at hM;refine sr ?_;refine oB (iR l0 aD) fun b1=>?_;refine oB (nV r0 ak) fun b2=>?_;refine oa ?_;refine oa ?_;refine aN ?_;refine au fun K2 hK2=>?_;refine go ?_;obtain⟨y3,hy4,hM⟩:=bind_some hM;refine cv (fun hs=>akg _ _ l0 aD r0 ak y3 hy4 (aM hs) ⟨(kM hs),(kM hs),(kM hs),(kM hs)⟩ (kM hs)) ?_;refine go ?_;refine co hM (fun iH hM=>?_) (fun iH hM=>?_)
 ·refine go ?_;refine rn Cell 254 (fun _=>()) ?_;obtain rfl:=some_inj hM;refine aF (qp (fun w hm=>bR Gy hm rfl))
 refine cs hK2 ?_;refine aJ ?_;refine au fun K7 gu=>?_;refine go ?_;refine oN hM fun hM=>?_;obtain⟨l8,hl9,hM⟩:=bind_some hM;refine bf (J3 (r:=ak) (xs:=r0.Steps) (ol:=none) (oh:=some (.i64,((r0.Steps.length:Int)-r0.Overlap))) (Sk.dw (α:=List Step) (r:=ak) (x:=r0.Steps) hA) hl9 (fun MB=>?_));refine kK (fun w hm=>Kn.len (kG l8 MB) hm) fun apC=>?_;refine go ?_;refine rn Cell 254 (fun _=>()) ?_;refine lr Gy hM [2,3,27,28] (fun (yQ,Ew) PN=>[(8,eS PN yQ),(29,eI (Ew:Int))]) [0] (fun (yQ,Ew) PN=>[aj 254 PN yQ]) ?_;clear hM;rintro aK ⟨yQ,Ew⟩ PN hM eO hL1;dsimp only[Wp,cA,nA] at hM ⊢;refine sr ?_;refine oe gq ?_;refine on ?_;refine au fun tC jC=>?_;refine co hM (fun zM hM=>?_) (fun zM hM=>?_)
 ·have axg:=of_decide_eq_true zM;refine cs jC ?_;refine au fun nG gH=>?_;refine bI ?_;refine sr ?_;refine ixs 2 2 (fun qm=>(qd qm)) (kG l8 MB) hM fun qm Lm hM=>?_;refine oA rfl fun b16=>?_;refine oS b16 (qd qm) ?_;refine go ?_;refine ixs 5 5 (fun kr=>(Eb kr)) (kG l0.Sections aD.2.2.1) hM fun kr AU hM=>?_;refine oA rfl fun b19=>?_;refine oS b19 (Eb kr) ?_;refine go ?_;refine oe (dO [vI kr.Limit,vI kr.jM]) ?_;refine oA rfl fun b20=>?_;refine oS b20 [vI kr.Limit,vI kr.jM] ?_;refine on ?_;refine jl y (k:=JL kr yQ aK Ew) [2,3,8,11,12,27,28,29] (fun KM=>[]) [0,1] (fun KM=>[own b20 254 [vI kr.Limit,vI KM]]) ?_ ?_
  · intro zB hJ2;refine go ?_;refine co hM (fun hc27 hM=>?_) (fun hc27 hM=>?_)
    ·refine bg ?_;refine fo 1 ?_;obtain⟨anT,hM⟩:=bQ hM;refine oe (Yj (hr:=fun hg=>dU anT)) ?_;refine oe (aY 1) ?_;refine kY ?_;refine bq (hJ2 hM sS rI)
    refine gG (hJ2 hM sS rI)
  clear hM;rintro KM hM;dsimp only[JL,cA,nA] at hM ⊢;refine bg ?_;refine om ?_;refine oe fC ?_;refine bf (fI (α:=Cell) 254 (fun _=>()) ([(Cell.mk kr.Limit KM)]:List Cell) oF (fun ze=>?_));refine fo 1 ?_;obtain⟨y22,uD,hM⟩:=bind_some hM;refine bf (fu iO.nil (fun S w hs hP=>awp _ w ([(Cell.mk kr.Limit KM)]:List Cell) ze kr.Length y22 uD (aM hs) (kT hs)) fG (fun qy=>?_));dsimp only[cA,nA];obtain⟨aoF,hM⟩:=bQ hM;refine bf (iq (r:=PN) (r2:=qy) uR (Kn.aj (e:=254) (r:=qy) hA) oF (of_decide_eq_true aoF) (fun CB=>?_));refine oa ?_;refine bq (gH _ _ ?_);refine bg ?_;refine oe (dP (hr:=fun _=>by unfold gN;omega)) ?_;refine om ?_;refine bq (hL1 CB hM sS rI)
 refine cx gu ?_;dsimp only[afm] at hM;refine au fun EB rU=>?_;refine go ?_;refine co hM (fun hc29 hM=>?_) (fun hc29 hM=>?_)
 ·refine go ?_;refine rn Cell 254 (fun _=>()) ?_;obtain rfl:=some_inj hM;refine aF (qp (fun w hm=>bR Gy hm rfl))
 refine cs rU ?_;refine au fun Ca pY=>?_;refine dS _ (List.Sublist.refl _) ?_;refine am 0 ?_;refine fa 1 2 ?_;refine fa 3 0 ?_;refine iQ 5 2 0 (kG r0.Steps ak) hM fun x31 hx32 hM=>?_;refine iQ 8 5 1 (kG l0.Sections aD.2.2.1) hM fun pO hx34 hM=>?_;refine ay 11 rfl eX ?_;refine ay 12 rfl eX ?_;refine ay 13 rfl eX ?_;refine bS (pY _ _ ?_);obtain rfl:=some_inj hM;refine aF (qp (fun w hm=>bR PN hm rfl))
end Go.Proofs.YtcalibhfgdncaaaGreatDoor
