/- Models of functions, and that the code computes them. -/
import Derived.Test.YtcalibhfgdncaaaGreatXa
set_option linter.all false
namespace Go.Proofs.YtcalibhfgdncaaaGreat
open Go.Dc Go.RowKit
set_option maxRecDepth 10000
def OU(r0:fD)(iE:Int)(vG:Int)(limit0:Int)(BL:Int):Option ((List Int)×(List Int)×(List Int)×(List (List Int))):=
 (idx r0.from_ iE).bind fun x1=>
 aX (decide ((x1.length+([(r0.to.length:Int)]:List Int).length)*8≤140737488355328))<|
 (idx r0.from_ iE).bind fun x6=>
 (idx (r0.from_.set iE.toNat (x1++([(r0.to.length:Int)]:List Int))) vG).bind fun x8=>
 aX (bA ((r0.to.length:Int)+1))<|
 aX (decide ((x8.length+([((r0.to.length:Int)+1)]:List Int).length)*8≤140737488355328))<|
 (idx (r0.from_.set iE.toNat (x1++([(r0.to.length:Int)]:List Int))) vG).bind fun qL=>
 aX (decide ((r0.to.length+([vG,iE]:List Int).length)*8≤140737488355328))<|
 aX (decide ((r0.left.length+([limit0,0]:List Int).length)*8≤140737488355328))<|
 aX (bA (-BL))<|
 aX (decide ((r0.cost.length+([BL,(-BL)]:List Int).length)*8≤140737488355328))<|
 some ((r0.to++([vG,iE]:List Int)),(r0.left++([limit0,0]:List Int)),(r0.cost++([BL,(-BL)]:List Int)),((r0.from_.set iE.toNat (x1++([(r0.to.length:Int)]:List Int))).set vG.toNat (x8++([((r0.to.length:Int)+1)]:List Int))))
theorem Yb(S:bF)(w:World)(bV:Nat)(r0:fD)(aC:ak.R fD)(iE:Int)(vG:Int)(limit0:Int)(BL:Int)(y:(List Int)×(List Int)×(List Int)×(List (List Int)))(hM:OU r0 iE vG limit0 BL=some y)(hP:Pre S [own bV 172 (nT r0 aC),ah 3 aC.1 r0.to,ah 3 aC.2.1 r0.left,ah 3 aC.2.2.1 r0.cost,gI (fun _=>True) 22 3 aC.2.2.2.1 r0.from_,ah 3 aC.2.2.2.2.1 r0.excess,ah 3 aC.2.2.2.2.2 r0.price] w):
  Calls Tryz.prog 115 #[vP bV,vI iE,vI vG,vI limit0,vI BL] w (Post (β:=(SR (ak.R Int))×(SR (ak.R Int))×(SR (ak.R Int))×(SR (ak.R (List Int)))) S [own bV 172 (nT r0 aC),ah 3 aC.1 r0.to,ah 3 aC.2.1 r0.left,ah 3 aC.2.2.1 r0.cost,gI (fun _=>True) 22 3 aC.2.2.2.1 r0.from_,ah 3 aC.2.2.2.2.1 r0.excess,ah 3 aC.2.2.2.2.2 r0.price] (fun g=> .tuple #[]) (fun g=>[own bV 172 [vI r0.nodes,vI r0.kW,sL g.1 y.1,sL g.2.1 y.2.1,sL g.2.2.1 y.2.2.1,sL g.2.2.2 y.2.2.2,sL aC.2.2.2.2.1 r0.excess,sL aC.2.2.2.2.2 r0.price],ah 3 g.1 y.1,ah 3 g.2.1 y.2.1,ah 3 g.2.2.1 y.2.2.1,gI (fun _=>True) 22 3 g.2.2.2 y.2.2.2,ah 3 aC.2.2.2.2.1 r0.excess,ah 3 aC.2.2.2.2.2 r0.price]) w):=by
 refine bW (args:=[_,_,_,_,_]) Tryz.func115 rfl (hP.start) rfl ?_;unfold OU at hM;refine aF fun K1 hK1=>?_;refine mZ [own bV 172 (nT r0 aC),ah 3 aC.1 r0.to,ah 3 aC.2.1 r0.left,ah 3 aC.2.2.1 r0.cost,gI (fun _=>False) 22 3 aC.2.2.2.1 r0.from_,ah 3 aC.2.2.2.2.1 r0.excess,ah 3 aC.2.2.2.2.2 r0.price] 20 ?_;refine aI 0 rfl aH ?_ (himp:=fun w hm=>(hm.kN (on':=fun _=>False) (r:=aC.2.2.2.1) (fun _ h=>h.elim) uA).jw);refine aI 1 rfl dH ?_ (himp:=fun w hm=>(hm.kN (on':=fun _=>False) (r:=aC.2.2.2.1) (fun _ h=>h.elim) uA).jw);refine aI 2 rfl (ay 5) ?_ (himp:=fun w hm=>(hm.kN (on':=fun _=>False) (r:=aC.2.2.2.1) (fun _ h=>h.elim) uA).jw);refine aI 3 rfl (aD (b:=bV)) ?_ (himp:=fun w hm=>(hm.kN (on':=fun _=>False) (r:=aC.2.2.2.1) (fun _ h=>h.elim) uA).jw);refine aI 4 rfl aH ?_ (himp:=fun w hm=>(hm.kN (on':=fun _=>False) (r:=aC.2.2.2.1) (fun _ h=>h.elim) uA).jw);refine aI 5 rfl aH ?_ (himp:=fun w hm=>(hm.kN (on':=fun _=>False) (r:=aC.2.2.2.1) (fun _ h=>h.elim) uA).jw)
 refine aI 6 rfl dH ?_ (himp:=fun w hm=>(hm.kN (on':=fun _=>False) (r:=aC.2.2.2.1) (fun _ h=>h.elim) uA).jw);refine aI 7 rfl (ay 5) ?_ (himp:=fun w hm=>(hm.kN (on':=fun _=>False) (r:=aC.2.2.2.1) (fun _ h=>h.elim) uA).jw);refine aI 8 rfl (aD (b:=bV)) ?_ (himp:=fun w hm=>(hm.kN (on':=fun _=>False) (r:=aC.2.2.2.1) (fun _ h=>h.elim) uA).jw);refine aI 9 rfl aH ?_ (himp:=fun w hm=>(hm.kN (on':=fun _=>False) (r:=aC.2.2.2.1) (fun _ h=>h.elim) uA).jw);obtain⟨x1,hx2,hM⟩:=bind_some hM;refine aI 10 rfl (OJ (r:=aC.2.2.2.1) (xs:=r0.from_) hA (iS hx2)) ?_ (himp:=fun w hm=>(hm.kN (on':=fun _=>False) (r:=aC.2.2.2.1) (fun _ h=>h.elim) uA).jw);refine aI 11 rfl (XW (r:=aC.2.2.2.1) (xs:=r0.from_) (i:=iE) hA (fun _=>hx2)) ?_ (himp:=fun w hm=>(hm.kN (on':=fun _=>False) (r:=aC.2.2.2.1) (fun _ h=>h.elim) uA).jw);refine aI 12 rfl aH ?_ (himp:=fun w hm=>(hm.kN (on':=fun _=>False) (r:=aC.2.2.2.1) (fun _ h=>h.elim) uA).jw);refine aI 13 rfl dH ?_ (himp:=fun w hm=>(hm.kN (on':=fun _=>False) (r:=aC.2.2.2.1) (fun _ h=>h.elim) uA).jw);refine aI 14 rfl (ay 2) ?_ (himp:=fun w hm=>(hm.kN (on':=fun _=>False) (r:=aC.2.2.2.1) (fun _ h=>h.elim) uA).jw);refine aI 15 rfl (aD (b:=bV)) ?_ (himp:=fun w hm=>(hm.kN (on':=fun _=>False) (r:=aC.2.2.2.1) (fun _ h=>h.elim) uA).jw)
 refine aI 16 rfl bf ?_ (himp:=fun w hm=>(hm.kN (on':=fun _=>False) (r:=aC.2.2.2.1) (fun _ h=>h.elim) uA).jw);refine jf 17 rfl (fH (α:=Int) 3 (fun _=>()) ([(r0.to.length:Int)]:List Int) oF (fun r3=>⟨fun w hm=>(hm.kN (on':=fun _=>False) (r:=aC.2.2.2.1) (fun _ h=>h.elim) uA).jw,?_⟩));refine yG (fun w hm=>hm.ae5 (e:=22) (e2:=3) (r:=aC.2.2.2.1) (xs:=r0.from_) hx2 s1) ?_;obtain⟨hb5,hM⟩:=bQ hM;refine jf 18 rfl (jy (r:=(aC.2.2.2.1.es iE.toNat)) (r2:=r3) uR (Kn.ah (e:=3) (r:=r3) hA) oF (of_decide_eq_true hb5) (fun r4=>⟨fun w hm=>(hm.kN (on':=fun _=>False) (r:=aC.2.2.2.1) (fun _ h=>h.elim) uA).jw,?_⟩));obtain⟨x6,hx7,hM⟩:=bind_some hM;refine aI 19 rfl (OJ (r:=aC.2.2.2.1) (xs:=r0.from_) hA (iS hx7)) ?_ (himp:=fun w hm=>(hm.kN (on':=fun _=>False) (r:=aC.2.2.2.1) (fun _ h=>h.elim) uA).jw);refine mX rfl (agI (r:=aC.2.2.2.1) (xs:=r0.from_) (i:=iE) (q:=r4) (u':=(x1++([(r0.to.length:Int)]:List Int))) hx2 uA ?_);refine yG (fun w hm=>hm.ags (e:=22) (e2:=3) (r:=aC.2.2.2.1) (xs:=r0.from_) (q:=r4) (u':=(x1++([(r0.to.length:Int)]:List Int))) hx2 s1 s1) ?_;refine mW (hK1 _ _ ?_);clear hK1;refine aF fun K2 hK2=>?_;refine mZ [gI (fun _=>False) 22 3 (aC.2.2.2.1.upd iE.toNat r4) (r0.from_.set iE.toNat (x1++([(r0.to.length:Int)]:List Int))),ah 3 r3 ([(r0.to.length:Int)]:List Int),own bV 172 [vI r0.nodes,vI r0.kW,sL aC.1 r0.to,sL aC.2.1 r0.left,sL aC.2.2.1 r0.cost,sL (aC.2.2.2.1.upd iE.toNat r4) r0.from_,sL aC.2.2.2.2.1 r0.excess,sL aC.2.2.2.2.2 r0.price],ah 3 aC.1 r0.to,ah 3 aC.2.1 r0.left,ah 3 aC.2.2.1 r0.cost,ah 3 aC.2.2.2.2.1 r0.excess,ah 3 aC.2.2.2.2.2 r0.price] 21 ?_
 refine aI 0 rfl aH ?_ (himp:=fun w hm=>(hm.kN (on':=fun _=>False) (r:=(aC.2.2.2.1.upd iE.toNat r4)) (fun _ h=>h.elim) uA).jw);refine aI 1 rfl dH ?_ (himp:=fun w hm=>(hm.kN (on':=fun _=>False) (r:=(aC.2.2.2.1.upd iE.toNat r4)) (fun _ h=>h.elim) uA).jw);refine aI 2 rfl (ay 5) ?_ (himp:=fun w hm=>(hm.kN (on':=fun _=>False) (r:=(aC.2.2.2.1.upd iE.toNat r4)) (fun _ h=>h.elim) uA).jw);refine aI 3 rfl (aD (b:=bV)) ?_ (himp:=fun w hm=>(hm.kN (on':=fun _=>False) (r:=(aC.2.2.2.1.upd iE.toNat r4)) (fun _ h=>h.elim) uA).jw);refine aI 4 rfl aH ?_ (himp:=fun w hm=>(hm.kN (on':=fun _=>False) (r:=(aC.2.2.2.1.upd iE.toNat r4)) (fun _ h=>h.elim) uA).jw);refine aI 5 rfl aH ?_ (himp:=fun w hm=>(hm.kN (on':=fun _=>False) (r:=(aC.2.2.2.1.upd iE.toNat r4)) (fun _ h=>h.elim) uA).jw);refine aI 6 rfl dH ?_ (himp:=fun w hm=>(hm.kN (on':=fun _=>False) (r:=(aC.2.2.2.1.upd iE.toNat r4)) (fun _ h=>h.elim) uA).jw);refine aI 7 rfl (ay 5) ?_ (himp:=fun w hm=>(hm.kN (on':=fun _=>False) (r:=(aC.2.2.2.1.upd iE.toNat r4)) (fun _ h=>h.elim) uA).jw);refine aI 8 rfl (aD (b:=bV)) ?_ (himp:=fun w hm=>(hm.kN (on':=fun _=>False) (r:=(aC.2.2.2.1.upd iE.toNat r4)) (fun _ h=>h.elim) uA).jw);refine aI 9 rfl aH ?_ (himp:=fun w hm=>(hm.kN (on':=fun _=>False) (r:=(aC.2.2.2.1.upd iE.toNat r4)) (fun _ h=>h.elim) uA).jw)
 obtain⟨x8,og,hM⟩:=bind_some hM;refine aI 10 rfl (OJ (r:=(aC.2.2.2.1.upd iE.toNat r4)) (xs:=(r0.from_.set iE.toNat (x1++([(r0.to.length:Int)]:List Int)))) hA (iS og)) ?_ (himp:=fun w hm=>(hm.kN (on':=fun _=>False) (r:=(aC.2.2.2.1.upd iE.toNat r4)) (fun _ h=>h.elim) uA).jw);refine aI 11 rfl (XW (r:=(aC.2.2.2.1.upd iE.toNat r4)) (xs:=(r0.from_.set iE.toNat (x1++([(r0.to.length:Int)]:List Int)))) (i:=vG) hA (fun _=>og)) ?_ (himp:=fun w hm=>(hm.kN (on':=fun _=>False) (r:=(aC.2.2.2.1.upd iE.toNat r4)) (fun _ h=>h.elim) uA).jw);refine aI 12 rfl aH ?_ (himp:=fun w hm=>(hm.kN (on':=fun _=>False) (r:=(aC.2.2.2.1.upd iE.toNat r4)) (fun _ h=>h.elim) uA).jw);refine aI 13 rfl dH ?_ (himp:=fun w hm=>(hm.kN (on':=fun _=>False) (r:=(aC.2.2.2.1.upd iE.toNat r4)) (fun _ h=>h.elim) uA).jw);refine aI 14 rfl (ay 2) ?_ (himp:=fun w hm=>(hm.kN (on':=fun _=>False) (r:=(aC.2.2.2.1.upd iE.toNat r4)) (fun _ h=>h.elim) uA).jw);refine aI 15 rfl (aD (b:=bV)) ?_ (himp:=fun w hm=>(hm.kN (on':=fun _=>False) (r:=(aC.2.2.2.1.upd iE.toNat r4)) (fun _ h=>h.elim) uA).jw);refine aI 16 rfl bf ?_ (himp:=fun w hm=>(hm.kN (on':=fun _=>False) (r:=(aC.2.2.2.1.upd iE.toNat r4)) (fun _ h=>h.elim) uA).jw);obtain⟨aiK,hM⟩:=bQ hM;refine aI 17 rfl (dh (hr:=fun hg=>dI aiK)) ?_ (himp:=fun w hm=>(hm.kN (on':=fun _=>False) (r:=(aC.2.2.2.1.upd iE.toNat r4)) (fun _ h=>h.elim) uA).jw)
 refine jf 18 rfl (fH (α:=Int) 3 (fun _=>()) ([((r0.to.length:Int)+1)]:List Int) oF (fun Cm=>⟨fun w hm=>(hm.kN (on':=fun _=>False) (r:=(aC.2.2.2.1.upd iE.toNat r4)) (fun _ h=>h.elim) uA).jw,?_⟩));refine yG (fun w hm=>hm.ae5 (e:=22) (e2:=3) (r:=(aC.2.2.2.1.upd iE.toNat r4)) (xs:=(r0.from_.set iE.toNat (x1++([(r0.to.length:Int)]:List Int)))) og s1) ?_;obtain⟨ajh,hM⟩:=bQ hM;refine jf 19 rfl (jy (r:=((aC.2.2.2.1.upd iE.toNat r4).es vG.toNat)) (r2:=Cm) uR (Kn.ah (e:=3) (r:=Cm) hA) oF (of_decide_eq_true ajh) (fun Cn=>⟨fun w hm=>(hm.kN (on':=fun _=>False) (r:=(aC.2.2.2.1.upd iE.toNat r4)) (fun _ h=>h.elim) uA).jw,?_⟩));obtain⟨qL,zR,hM⟩:=bind_some hM;refine aI 20 rfl (OJ (r:=(aC.2.2.2.1.upd iE.toNat r4)) (xs:=(r0.from_.set iE.toNat (x1++([(r0.to.length:Int)]:List Int)))) hA (iS zR)) ?_ (himp:=fun w hm=>(hm.kN (on':=fun _=>False) (r:=(aC.2.2.2.1.upd iE.toNat r4)) (fun _ h=>h.elim) uA).jw);refine mX rfl (agI (r:=(aC.2.2.2.1.upd iE.toNat r4)) (xs:=(r0.from_.set iE.toNat (x1++([(r0.to.length:Int)]:List Int)))) (i:=vG) (q:=Cn) (u':=(x8++([((r0.to.length:Int)+1)]:List Int))) og uA ?_);refine yG (fun w hm=>hm.ags (e:=22) (e2:=3) (r:=(aC.2.2.2.1.upd iE.toNat r4)) (xs:=(r0.from_.set iE.toNat (x1++([(r0.to.length:Int)]:List Int)))) (q:=Cn) (u':=(x8++([((r0.to.length:Int)+1)]:List Int))) og s1 s1) ?_
 refine mW (hK2 _ _ ?_);clear hK2;refine aJ ?_;refine om ?_;refine oe dH ?_;refine oe (ay 2) ?_;refine oe (aD (b:=bV)) ?_;refine om ?_;refine om ?_;refine aY (fH (α:=Int) 3 (fun _=>()) ([vG,iE]:List Int) oF (fun r16=>?_));obtain⟨Pk,hM⟩:=bQ hM;refine aY (jy (r:=aC.1) (r2:=r16) uR (Kn.ah (e:=3) (r:=r16) hA) oF (of_decide_eq_true Pk) (fun jv=>?_));refine oe dH ?_;refine oe (ay 2) ?_;refine aY (jT (b:=bV) (l':=[vI r0.nodes,vI r0.kW,.slice jv.a ((r0.to++([vG,iE]:List Int)).length) jv.cap,sL aC.2.1 r0.left,sL aC.2.2.1 r0.cost,sL ((aC.2.2.2.1.upd iE.toNat r4).upd vG.toNat Cn) r0.from_,sL aC.2.2.2.2.1 r0.excess,sL aC.2.2.2.2.2 r0.price]) (k:=?_));refine on ?_;refine aJ ?_;refine om ?_;refine oe dH ?_;refine oe (ay 3) ?_;refine oe (aD (b:=bV)) ?_;refine om ?_;refine aY (fH (α:=Int) 3 (fun _=>()) ([limit0,0]:List Int) oF (fun rO=>?_));obtain⟨aji,hM⟩:=bQ hM
 refine aY (jy (r:=aC.2.1) (r2:=rO) uR (Kn.ah (e:=3) (r:=rO) hA) oF (of_decide_eq_true aji) (fun kE=>?_));refine oe dH ?_;refine oe (ay 3) ?_;refine aY (jT (b:=bV) (l':=[vI r0.nodes,vI r0.kW,.slice jv.a ((r0.to++([vG,iE]:List Int)).length) jv.cap,.slice kE.a ((r0.left++([limit0,0]:List Int)).length) kE.cap,sL aC.2.2.1 r0.cost,sL ((aC.2.2.2.1.upd iE.toNat r4).upd vG.toNat Cn) r0.from_,sL aC.2.2.2.2.1 r0.excess,sL aC.2.2.2.2.2 r0.price]) (k:=?_));refine on ?_;refine aT ?_;refine om ?_;refine om ?_;refine oe dH ?_;refine oe (ay 4) ?_;refine oe (aD (b:=bV)) ?_;refine om ?_;refine om ?_;obtain⟨aiP,hM⟩:=bQ hM;refine oe (GX (hr:=fun hg=>dI aiP)) ?_;refine aY (fH (α:=Int) 3 (fun _=>()) ([BL,(-BL)]:List Int) oF (fun Bh=>?_));obtain⟨ajk,hM⟩:=bQ hM;refine aY (jy (r:=aC.2.2.1) (r2:=Bh) uR (Kn.ah (e:=3) (r:=Bh) hA) oF (of_decide_eq_true ajk) (fun xq=>?_));refine oe dH ?_;refine oe (ay 4) ?_;refine aY (jT (b:=bV) (l':=[vI r0.nodes,vI r0.kW,.slice jv.a ((r0.to++([vG,iE]:List Int)).length) jv.cap,.slice kE.a ((r0.left++([limit0,0]:List Int)).length) kE.cap,.slice xq.a ((r0.cost++([BL,(-BL)]:List Int)).length) xq.cap,sL ((aC.2.2.2.1.upd iE.toNat r4).upd vG.toNat Cn) r0.from_,sL aC.2.2.2.2.1 r0.excess,sL aC.2.2.2.2.2 r0.price]) (k:=?_))
 obtain rfl:=some_inj hM;refine aU (G8 rfl (fun w hm=>by simp only[List.length_set,eS,sL];exact gK (jv,kE,xq,((aC.2.2.2.1.upd iE.toNat r4).upd vG.toNat Cn)) hm rfl))
def adf(xk:List Int)(g0:Graph)(DJ:List Int)(DK:List Int)(DL:List Int)(DN:List (List Int))(qE:List Int):Unit→Option fD:=fun _=>
 aX (decide ((xk.length+([0]:List Int).length)*8≤140737488355328))<|
 some (fD.mk (g0.gX.length:Int) (g0.iH.length:Int) DJ DK DL DN (xk++([0]:List Int)) qE)
def adb(g0:Graph)(qE:List Int)(cu:((List Int)×(List Int)×(List Int)×(List (List Int))×(List Int)×Nat)→Option fD):((List Int)×(List Int)×(List Int)×(List (List Int))×(List Int)×Nat)→Option fD:=fun (DJ,DK,DL,DN,xk,CJ)=>
 if decide ((CJ:Int)<(g0.gX.length:Int)) then
  ((idx g0.gX (CJ:Int)).bind fun uj=>
  (OU (fD.mk (g0.gX.length:Int) (g0.iH.length:Int) DJ DK DL DN xk qE) (CJ:Int) (g0.gX.length:Int) 1099511627776 201326592).bind fun jE=>
  (OU (fD.mk (g0.gX.length:Int) (g0.iH.length:Int) jE.1 jE.2.1 jE.2.2.1 jE.2.2.2 xk qE) (g0.gX.length:Int) (CJ:Int) 1099511627776 201326592).bind fun y21=>
  aX (decide ((xk.length+([uj]:List Int).length)*8≤140737488355328))<|
  cu (y21.1,y21.2.1,y21.2.2.1,y21.2.2.2,(xk++([uj]:List Int)),CJ+1))
 else
  (adf xk g0 DJ DK DL DN qE ())
def ade(g0:Graph)(qE:List Int)(EJ:List Int)(EK:List Int)(EL:List Int)(EM:List (List Int)):Unit→Option fD:=fun _=>
 iter (adb g0 qE) FUEL (EJ,EK,EL,EM,([]:List Int),0)
def ada(g0:Graph)(qE:List Int)(aN:((List Int)×(List Int)×(List Int)×(List (List Int))×Nat)→Option fD):((List Int)×(List Int)×(List Int)×(List (List Int))×Nat)→Option fD:=fun (EJ,EK,EL,EM,oC)=>
 if decide ((oC:Int)<(g0.iH.length:Int)) then
  ((idx g0.iH (oC:Int)).bind fun x8=>
  (OU (fD.mk (g0.gX.length:Int) (g0.iH.length:Int) EJ EK EL EM ([]:List Int) qE) x8.From x8.To x8.Cap x8.wN).bind fun fF=>
  aN (fF.1,fF.2.1,fF.2.2.1,fF.2.2.2,oC+1))
 else
  (ade g0 qE EJ EK EL EM ())
def X9(g0:Graph):((List (List Int))×(List Int))→Option fD:=fun (Ml,qE)=>
 iter (ada g0 qE) FUEL (([]:List Int),([]:List Int),([]:List Int),Ml,0)
def Ya(g0:Graph):Option fD:=
 aX (bA ((g0.gX.length:Int)+1))<|
 aX (bA ((g0.gX.length:Int)+1))<|
 (mk (α:=List Int) ([]:List Int) ((g0.gX.length:Int)+1)).bind fun m32=>
 (mk (α:=Int) 0 ((g0.gX.length:Int)+1)).bind fun Ms=>
 X9 g0 (m32,Ms)
theorem aiA(S:bF)(w:World)(g0:Graph)(jW:ak.R Graph)(y:fD)(hM:Ya g0=some y)(hS:sB S w)(Ph:ak.ok S w jW g0):
   Calls Tryz.prog 93 #[.agg (Xy g0 jW)] w (Post (β:=Nat×(ak.R (List Int))×(ak.R (List Int))×(ak.R (List Int))×(ak.R (List (List Int)))×(ak.R (List Int))×(ak.R (List Int))) S [] (fun g=>vP g.1) (fun g=>[own g.1 172 (nT y g.2),ah 3 g.2.1 y.to,ah 3 g.2.2.1 y.left,ah 3 g.2.2.2.1 y.cost,gI (fun _=>True) 22 3 g.2.2.2.2.1 y.from_,ah 3 g.2.2.2.2.2.1 y.excess,ah 3 g.2.2.2.2.2.2 y.price]) w):=by
 refine bW (args:=[_]) Tryz.func93 rfl ((pre_nil hS).start |>.aam Ph) rfl ?_;unfold Ya at hM;refine sr ?_;refine oB (JJ g0 jW) fun b1=>?_;refine aL ?_;refine sr ?_;refine oe (ay 0) ?_;refine oe (aD (b:=b1)) ?_;refine oe bf ?_;refine aL ?_;refine jn (Nat×(SR (ak.R (List Int)))×(SR (ak.R Int))) y (k:=X9 g0) (fun (Ml,qE) (xE,RU,Ad)=>[(1,eP b1),(3,eI (g0.gX.length:Int)),(4,eP xE)]) (fun (Ml,qE) (xE,RU,Ad)=>[iL g0.gX jW.1,iL g0.iH jW.2,own b1 129 (JJ g0 jW),gI (fun _=>True) 22 3 RU Ml,ah 3 Ad qE,own xE 172 [vI (g0.gX.length:Int),vI (g0.iH.length:Int),z0,z0,z0,sL RU Ml,z0,sL Ad qE]]) ?_ ?_
 ·intro Fj iR;refine fE _ (List.Sublist.refl _) ?_;refine aj 0 rfl aH ?_;refine aj 1 rfl (ay 1) ?_;refine aj 2 rfl (aD (b:=b1)) ?_;refine aj 3 rfl bf ?_;refine aj 4 rfl aH ?_;obtain⟨Yq,hM⟩:=bQ hM;refine aj 5 rfl (dh (hr:=fun hg=>dI Yq)) ?_;refine aj 7 rfl aH ?_;obtain⟨Yr,hM⟩:=bQ hM;refine aj 8 rfl (dh (hr:=fun hg=>dI Yr)) ?_;obtain⟨m32,Uf,hM⟩:=bind_some hM;obtain⟨Ms,aec,hM⟩:=bind_some hM;refine mP 6 9 (⟨_,rfl,rfl,yw (α:=List Int) (e:=22) ([]:List Int) eB Uf (fun S w=>ae2 S w) (fun wC akA=>⟨rI,?_⟩)⟩) (⟨_,rfl,rfl,yw (α:=Int) (e:=3) 0 () aec (fun _ _=>trivial) (fun yg aoD=>⟨rI,?_⟩)⟩)
  · refine Db (fun w hm=>hm.aeZ (e2:=3) (r:=wC) Uf akA uA) ?_;refine dX 9 rfl (yw (α:=Int) (e:=3) 0 () aec (fun _ _=>trivial) (fun Cu aoE=>⟨rI,?_⟩));refine aj 10 rfl (gD [vI (g0.gX.length:Int),vI (g0.iH.length:Int),z0,z0,z0,sL wC m32,z0,sL Cu Ms]) ?_;refine dX 11 rfl (zi (l:=[vI (g0.gX.length:Int),vI (g0.iH.length:Int),z0,z0,z0,sL wC m32,z0,sL Cu Ms]) (k:=fun IY=>⟨rI,?_⟩));refine aj 12 rfl dL ?_;refine dK (iR (IY,wC,Cu) hM sS rI)
  refine dX 6 rfl (yw (α:=List Int) (e:=22) ([]:List Int) eB Uf (fun S w=>ae2 S w) (fun Bj akB=>⟨rI,?_⟩));refine Db (fun w hm=>hm.aeZ (e2:=3) (r:=Bj) Uf akB uA) ?_;refine aj 10 rfl (gD [vI (g0.gX.length:Int),vI (g0.iH.length:Int),z0,z0,z0,sL Bj m32,z0,sL yg Ms]) ?_;refine dX 11 rfl (zi (l:=[vI (g0.gX.length:Int),vI (g0.iH.length:Int),z0,z0,z0,sL Bj m32,z0,sL yg Ms]) (k:=fun Fu=>⟨rI,?_⟩));refine aj 12 rfl dL ?_;refine dK (iR (Fu,Bj,yg) hM sS rI)
 clear hM;rintro⟨Ml,qE⟩ ⟨xE,RU,Ad⟩ hM;dsimp only[X9] at hM ⊢;refine aF fun K3 hK3=>?_;refine sr ?_;refine oe (ay 1) ?_;refine oe (aD (b:=b1)) ?_;refine gU (fun w hm=>Kn.len (kG g0.iH jW.2) hm) fun hl2=>?_;refine oe bf ?_;refine om ?_;refine on ?_;refine aV ?_;refine dJ (fun w hm=>hm.dR (α:=Int) 3 (fun _=>())) ?_;refine dJ (fun w hm=>hm.dR (α:=Int) 3 (fun _=>())) ?_;refine dJ (fun w hm=>hm.dR (α:=Int) 3 (fun _=>())) ?_;refine dJ (fun w hm=>hm.dR (α:=Int) 3 (fun _=>())) ?_;refine lp (eB,eB,eB,RU) hM (fun (EJ,EK,EL,EM,oC) (Nq,Nr,Ns,Nt)=>[(1,eP b1),(3,eI (g0.gX.length:Int)),(4,eP xE),(25,eS jW.2 g0.iH),(26,eI (g0.iH.length:Int)),(27,eI (oC:Int))]) (fun (EJ,EK,EL,EM,oC) (Nq,Nr,Ns,Nt)=>[iL g0.gX jW.1,iL g0.iH jW.2,own b1 129 (JJ g0 jW),ah 3 Nq EJ,ah 3 Nr EK,ah 3 Ns EL,gI (fun _=>True) 22 3 Nt EM,ah 3 eB ([]:List Int),ah 3 Ad qE,own xE 172 [vI (g0.gX.length:Int),vI (g0.iH.length:Int),sL Nq EJ,sL Nr EK,sL Ns EL,sL Nt EM,z0,sL Ad qE]]) sS rI ?_
 clear hM;rintro aN ⟨EJ,EK,EL,EM,oC⟩ ⟨Nq,Nr,Ns,Nt⟩ hM fQ hL1;dsimp only[ada] at hM ⊢;refine sr ?_;refine oe bK ?_;refine on ?_;refine aF fun K6 bU=>?_;refine cc rfl hM (fun lY hM=>?_) (fun lY hM=>?_)
 ·have ad7:=of_decide_eq_true lY;refine aM (bU _ _ ?_);clear bU;refine aF fun K7 eU=>?_;refine aV ?_;refine sr ?_;obtain⟨x8,og,hM⟩:=bind_some hM;refine oe (aQ (xs:=g0.iH) 4 (kG g0.iH jW.2) (iS og)) ?_;refine oe (eY (m:=4) (i:=(oC:Int)) (xs:=g0.iH) (y:=x8) (l:=(Mw x8)) 0 (kG g0.iH jW.2) (fun _=>og)) ?_;refine oA rfl fun b10=>?_;refine oS b10 (Mw x8) ?_;refine on ?_;refine aT ?_;refine om ?_;refine oe (ay 0) ?_;refine oe (aD (b:=b10)) ?_;refine oe (ay 1) ?_;refine oe (aD (b:=b10)) ?_;refine oe (ay 2) ?_;refine oe (aD (b:=b10)) ?_;refine oe (ay 3) ?_;refine oe (aD (b:=b10)) ?_;obtain⟨fF,yP,hM⟩:=bind_some hM;refine aY (nV sA (fun S w hs hP=>Yb _ w xE (fD.mk (g0.gX.length:Int) (g0.iH.length:Int) EJ EK EL EM ([]:List Int) qE) (Nq,Nr,Ns,Nt,eB,Ad) x8.From x8.To x8.Cap x8.wN fF yP hP) (fun gN=>?_));dsimp only[cA,nA]
  refine aU (eU _ _ ?_);clear eU;refine aT ?_;refine oe (dh (hr:=fun _=>by unfold dS;omega)) ?_;refine om ?_;refine aU (hL1 (gN.1,gN.2.1,gN.2.2.1,gN.2.2.2) hM sS rI)
 refine bX (hK3 _ _ ?_);clear hK3;dsimp only[ade] at hM;refine aF fun K9 dY=>?_;refine sr ?_;refine oe (ay 0) ?_;refine oe (aD (b:=b1)) ?_;refine gU (fun w hm=>Kn.len (kG g0.gX jW.1) hm) fun aol=>?_;refine oe bf ?_;refine om ?_;refine on ?_;refine aV ?_;refine lp (Nq,Nr,Ns,Nt,eB) hM (fun (DJ,DK,DL,DN,xk,CJ) (Kc,Ke,Kg,Kh,Il)=>[(3,eI (g0.gX.length:Int)),(4,eP xE),(43,eS jW.1 g0.gX),(44,eI (g0.gX.length:Int)),(45,eI (CJ:Int))]) (fun (DJ,DK,DL,DN,xk,CJ) (Kc,Ke,Kg,Kh,Il)=>[ah 3 Kc DJ,ah 3 Ke DK,ah 3 Kg DL,gI (fun _=>True) 22 3 Kh DN,ah 3 Il xk,ah 3 Ad qE,own xE 172 [vI (g0.gX.length:Int),vI (g0.iH.length:Int),sL Kc DJ,sL Ke DK,sL Kg DL,sL Kh DN,sL Il xk,sL Ad qE],iL g0.gX jW.1]) sS rI ?_
 clear hM;rintro cu ⟨DJ,DK,DL,DN,xk,CJ⟩ ⟨Kc,Ke,Kg,Kh,Il⟩ hM qM hL2;dsimp only[adb] at hM ⊢;refine sr ?_;refine oe bK ?_;refine on ?_;refine aF fun vN iI=>?_;refine cc rfl hM (fun zP hM=>?_) (fun zP hM=>?_)
 ·have aoa:=of_decide_eq_true zP;refine aM (iI _ _ ?_);clear iI;refine aF fun rU fT=>?_;refine aV ?_;refine aJ ?_;obtain⟨uj,zS,hM⟩:=bind_some hM;refine oe (aQ (xs:=g0.gX) 1 (kG g0.gX jW.1) (iS zS)) ?_;refine oe (bE (i:=(CJ:Int)) (xs:=g0.gX) (y:=uj) 0 (kG g0.gX jW.1) (fun _=>zS)) ?_;refine oa ?_;refine aL ?_;refine aJ ?_;refine om ?_;refine om ?_;obtain⟨jE,yQ,hM⟩:=bind_some hM;refine aY (nV sA (fun S w hs hP=>Yb _ w xE (fD.mk (g0.gX.length:Int) (g0.iH.length:Int) DJ DK DL DN xk qE) (Kc,Ke,Kg,Kh,Il,Ad) (CJ:Int) (g0.gX.length:Int) 1099511627776 201326592 jE yQ hP) (fun kE=>?_));dsimp only[cA,nA];refine on ?_;refine aJ ?_;refine om ?_;refine om ?_;obtain⟨y21,Jo,hM⟩:=bind_some hM;refine aY (nV sA (fun S w hs hP=>Yb _ w xE (fD.mk (g0.gX.length:Int) (g0.iH.length:Int) jE.1 jE.2.1 jE.2.2.1 jE.2.2.2 xk qE) (kE.1,kE.2.1,kE.2.2.1,kE.2.2.2,Il,Ad) (g0.gX.length:Int) (CJ:Int) 1099511627776 201326592 y21 Jo hP) (fun Bh=>?_))
  dsimp only[cA,nA];refine on ?_;refine aT ?_;refine om ?_;refine om ?_;refine oe dH ?_;refine oe (ay 6) ?_;refine oe (aD (b:=xE)) ?_;refine om ?_;refine aY (fH (α:=Int) 3 (fun _=>()) ([uj]:List Int) oF (fun xq=>?_));obtain⟨YG,hM⟩:=bQ hM;refine aY (jy (r:=Il) (r2:=xq) uR (Kn.ah (e:=3) (r:=xq) hA) oF (of_decide_eq_true YG) (fun Co=>?_));refine oe dH ?_;refine oe (ay 6) ?_;refine aY (jT (b:=xE) (l':=[vI (g0.gX.length:Int),vI (g0.iH.length:Int),sL Bh.1 y21.1,sL Bh.2.1 y21.2.1,sL Bh.2.2.1 y21.2.2.1,sL Bh.2.2.2 y21.2.2.2,.slice Co.a ((xk++([uj]:List Int)).length) Co.cap,sL Ad qE]) (k:=?_));refine aU (fT _ _ ?_);clear fT;refine aT ?_;refine oe (dh (hr:=fun _=>by unfold dS;omega)) ?_;refine om ?_;refine aU (hL2 (Bh.1,Bh.2.1,Bh.2.2.1,Bh.2.2.2,Co) hM sS rI)
 refine bX (dY _ _ ?_);clear dY;dsimp only[adf] at hM;refine aJ ?_;refine om ?_;refine oe dH ?_;refine oe (ay 6) ?_;refine oe (aD (b:=xE)) ?_;refine aY (fH (α:=Int) 3 (fun _=>()) ([0]:List Int) oF (fun JR=>?_));obtain⟨ajn,hM⟩:=bQ hM;refine aY (jy (r:=Il) (r2:=JR) uR (Kn.ah (e:=3) (r:=JR) hA) oF (of_decide_eq_true ajn) (fun Cq=>?_));refine oe dH ?_;refine oe (ay 6) ?_;refine aY (jT (b:=xE) (l':=[vI (g0.gX.length:Int),vI (g0.iH.length:Int),sL Kc DJ,sL Ke DK,sL Kg DL,sL Kh DN,.slice Cq.a ((xk++([0]:List Int)).length) Cq.cap,sL Ad qE]) (k:=?_));refine on ?_;refine aJ ?_;refine aL ?_;obtain rfl:=some_inj hM;refine aP (tO (fun w hm=>gK (xE,Kc,Ke,Kg,Kh,Cq,Ad) hm rfl))
def TH(r0:fD)(h0:Int):Option Int:=
 (idx r0.cost h0).bind fun x1=>
 (idx r0.to (vQ .i64 h0 1)).bind fun x3=>
 (idx r0.price x3).bind fun x5=>
 aX (bA (x1+x5))<|
 (idx r0.to h0).bind fun x8=>
 (idx r0.price x8).bind fun x10=>
 aX (bA ((x1+x5)-x10))<|
 some ((x1+x5)-x10)
theorem adA(S:bF)(w:World)(bV:Nat)(r0:fD)(aC:ak.R fD)(h0:Int)(y:Int)(hM:TH r0 h0=some y)(hS:sB S w)(Po:S bV∧w.heap[bV]?=some (.cells (nT r0 aC).toArray 172 (0,0)))(ku:ak.ok S w aC r0):
  Calls Tryz.prog 116 #[vP bV,vI h0] w (dw w (vI y)):=by
 refine bW (args:=[_,_]) Tryz.func116 rfl ((pre_nil hS).start |>.z8 Po|>.aal ku) rfl ?_;unfold TH at hM;refine bg ?_;refine aF fun K2 hK2=>?_;refine fE _ (List.Sublist.refl _) ?_;refine aj 0 rfl aH ?_;refine aj 1 rfl dH ?_;refine aj 2 rfl (ay 4) ?_;refine aj 3 rfl (pV (b:=bV)) ?_;refine aj 4 rfl aH ?_;obtain⟨x1,hx2,hM⟩:=bind_some hM;refine aj 5 rfl (aQ (xs:=r0.cost) 1 (kG r0.cost aC.2.2.1) (iS hx2)) ?_;refine aj 6 rfl (bE (i:=h0) (xs:=r0.cost) (y:=x1) 0 (kG r0.cost aC.2.2.1) (fun _=>hx2)) ?_;refine aj 7 rfl aH ?_;refine aj 8 rfl dH ?_;refine aj 9 rfl (ay 7) ?_;refine aj 10 rfl (pV (b:=bV)) ?_;refine aj 11 rfl aH ?_;refine aj 12 rfl dH ?_;refine aj 13 rfl (ay 2) ?_;refine aj 14 rfl (pV (b:=bV)) ?_
 refine aj 15 rfl aH ?_;refine aj 16 rfl Lg ?_;obtain⟨x3,hx4,hM⟩:=bind_some hM;refine aj 17 rfl (aQ (xs:=r0.to) 1 (kG r0.to aC.1) (iS hx4)) ?_;refine aj 18 rfl (bE (i:=(vQ .i64 h0 1)) (xs:=r0.to) (y:=x3) 0 (kG r0.to aC.1) (fun _=>hx4)) ?_;obtain⟨x5,hx6,hM⟩:=bind_some hM;refine aj 19 rfl (aQ (xs:=r0.price) 1 (kG r0.price aC.2.2.2.2.2) (iS hx6)) ?_;refine aj 20 rfl (bE (i:=x3) (xs:=r0.price) (y:=x5) 0 (kG r0.price aC.2.2.2.2.2) (fun _=>hx6)) ?_;obtain⟨Yx,hM⟩:=bQ hM;refine aj 21 rfl (dh (hr:=fun hg=>dI Yx)) ?_;refine aj 22 rfl aH ?_;refine aj 23 rfl dH ?_;refine aj 24 rfl (ay 7) ?_;refine aj 25 rfl (pV (b:=bV)) ?_;refine aj 26 rfl aH ?_;refine aj 27 rfl dH ?_;refine aj 28 rfl (ay 2) ?_;refine aj 29 rfl (pV (b:=bV)) ?_;refine aj 30 rfl aH ?_;obtain⟨x8,og,hM⟩:=bind_some hM;refine aj 31 rfl (aQ (xs:=r0.to) 1 (kG r0.to aC.1) (iS og)) ?_;refine aj 32 rfl (bE (i:=h0) (xs:=r0.to) (y:=x8) 0 (kG r0.to aC.1) (fun _=>og)) ?_;obtain⟨x10,lT,hM⟩:=bind_some hM;refine aj 33 rfl (aQ (xs:=r0.price) 1 (kG r0.price aC.2.2.2.2.2) (iS lT)) ?_
 refine aj 34 rfl (bE (i:=x8) (xs:=r0.price) (y:=x10) 0 (kG r0.price aC.2.2.2.2.2) (fun _=>lT)) ?_;obtain⟨Je,hM⟩:=bQ hM;refine aj 35 rfl (mQ (hr:=fun hg=>dI Je)) ?_;refine aj 36 rfl dL ?_;refine dK (hK2 _ _ ?_);clear hK2;exact aP (bD hM)
def TI(r0:fD)(h0:Int)(kP:Int):Option ((List Int)×(List Int)):=
 (idx r0.left h0).bind fun x1=>
 aX (bA (x1-kP))<|
 (idx r0.left h0).bind fun x4=>
 (idx (r0.left.set h0.toNat (x1-kP)) (vQ .i64 h0 1)).bind fun x7=>
 aX (bA (x7+kP))<|
 (idx (r0.left.set h0.toNat (x1-kP)) (vQ .i64 h0 1)).bind fun x10=>
 (idx r0.to (vQ .i64 h0 1)).bind fun iw=>
 (idx r0.excess iw).bind fun iX=>
 aX (bA (iX-kP))<|
 (idx r0.excess iw).bind fun x18=>
 (idx r0.to h0).bind fun x21=>
 (idx (r0.excess.set iw.toNat (iX-kP)) x21).bind fun x23=>
 aX (bA (x23+kP))<|
 (idx (r0.excess.set iw.toNat (iX-kP)) x21).bind fun Ai=>
 some (((r0.left.set h0.toNat (x1-kP)).set (vQ .i64 h0 1).toNat (x7+kP)),((r0.excess.set iw.toNat (iX-kP)).set x21.toNat (x23+kP)))
theorem adB(S:bF)(w:World)(bV:Nat)(r0:fD)(aC:ak.R fD)(h0:Int)(kP:Int)(y:(List Int)×(List Int))(hM:TI r0 h0 kP=some y)(hP:Pre S [own bV 172 (nT r0 aC),ah 3 aC.1 r0.to,ah 3 aC.2.1 r0.left,ah 3 aC.2.2.1 r0.cost,gI (fun _=>True) 22 3 aC.2.2.2.1 r0.from_,ah 3 aC.2.2.2.2.1 r0.excess,ah 3 aC.2.2.2.2.2 r0.price] w):
  Calls Tryz.prog 117 #[vP bV,vI h0,vI kP] w (Post (β:=(SR (ak.R Int))×(SR (ak.R Int))) S [own bV 172 (nT r0 aC),ah 3 aC.1 r0.to,ah 3 aC.2.1 r0.left,ah 3 aC.2.2.1 r0.cost,gI (fun _=>True) 22 3 aC.2.2.2.1 r0.from_,ah 3 aC.2.2.2.2.1 r0.excess,ah 3 aC.2.2.2.2.2 r0.price] (fun g=> .tuple #[]) (fun g=>[own bV 172 [vI r0.nodes,vI r0.kW,sL aC.1 r0.to,sL g.1 y.1,sL aC.2.2.1 r0.cost,sL aC.2.2.2.1 r0.from_,sL g.2 y.2,sL aC.2.2.2.2.2 r0.price],ah 3 aC.1 r0.to,ah 3 g.1 y.1,ah 3 aC.2.2.1 r0.cost,gI (fun _=>True) 22 3 aC.2.2.2.1 r0.from_,ah 3 g.2 y.2,ah 3 aC.2.2.2.2.2 r0.price]) w):=by
 refine bW (args:=[_,_,_]) Tryz.func117 rfl (hP.start) rfl ?_;unfold TI at hM;refine aJ ?_;refine oe dH ?_;refine oe (ay 3) ?_;refine oe (aD (b:=bV)) ?_;refine om ?_;obtain⟨x1,hx2,hM⟩:=bind_some hM;refine oe (aQ (xs:=r0.left) 1 (Kn.ah (e:=3) (r:=aC.2.1) hA) (iS hx2)) ?_;refine oe (bE (i:=h0) (xs:=r0.left) (y:=x1) 0 (Kn.ah (e:=3) (r:=aC.2.1) hA) (fun _=>hx2)) ?_;refine om ?_;refine oN hM fun hM=>?_;obtain⟨x4,hx5,hM⟩:=bind_some hM;refine oe (aQ (xs:=r0.left) 1 (Kn.ah (e:=3) (r:=aC.2.1) hA) (iS hx5)) ?_;refine aY (qm (r:=aC.2.1) (i:=h0) (xs:=r0.left) (u:=x4) (vs:=[vI (x1-kP)]) 0 (x1-kP) hx5 rfl (fun _ _ h=>h) uA ?_);have hx6:=nP (u:=(x1-kP)) hx5;refine on ?_;refine aJ ?_;refine oe dH ?_;refine oe (ay 3) ?_;refine oe (aD (b:=bV)) ?_;refine om ?_;refine oe Lg ?_;obtain⟨x7,wU,hM⟩:=bind_some hM;refine oe (aQ (xs:=(r0.left.set h0.toNat (x1-kP))) 1 (Kn.ah (e:=3) (r:=aC.2.1) hA) (iS wU)) ?_;refine oe (bE (i:=(vQ .i64 h0 1)) (xs:=(r0.left.set h0.toNat (x1-kP))) (y:=x7) 0 (Kn.ah (e:=3) (r:=aC.2.1) hA) (fun _=>wU)) ?_
 refine om ?_;refine oP hM fun hM=>?_;obtain⟨x10,lT,hM⟩:=bind_some hM;refine oe (aQ (xs:=(r0.left.set h0.toNat (x1-kP))) 1 (Kn.ah (e:=3) (r:=aC.2.1) hA) (iS lT)) ?_;refine aY (qm (r:=aC.2.1) (i:=(vQ .i64 h0 1)) (xs:=(r0.left.set h0.toNat (x1-kP))) (u:=x10) (vs:=[vI (x7+kP)]) 0 (x7+kP) lT rfl (fun _ _ h=>h) uA ?_);have zQ:=nP (u:=(x7+kP)) lT;refine on ?_;refine aF fun K3 hK3=>?_;refine mZ [own bV 172 (nT r0 aC),ah 3 aC.1 r0.to,ah 3 aC.2.1 ((r0.left.set h0.toNat (x1-kP)).set (vQ .i64 h0 1).toNat (x7+kP)),ah 3 aC.2.2.1 r0.cost,gI (fun _=>True) 22 3 aC.2.2.2.1 r0.from_,ah 3 aC.2.2.2.2.1 r0.excess,ah 3 aC.2.2.2.2.2 r0.price] 17 ?_;refine aI 0 rfl aH ?_;refine aI 1 rfl dH ?_;refine aI 2 rfl (ay 6) ?_;refine aI 3 rfl (aD (b:=bV)) ?_;refine aI 4 rfl aH ?_;refine aI 5 rfl dH ?_;refine aI 6 rfl (ay 2) ?_
 refine aI 7 rfl (aD (b:=bV)) ?_;refine aI 8 rfl aH ?_;refine aI 9 rfl Lg ?_;obtain⟨iw,qB,hM⟩:=bind_some hM;refine aI 10 rfl (aQ (xs:=r0.to) 1 (Kn.ah (e:=3) (r:=aC.1) hA) (iS qB)) ?_;refine aI 11 rfl (bE (i:=(vQ .i64 h0 1)) (xs:=r0.to) (y:=iw) 0 (Kn.ah (e:=3) (r:=aC.1) hA) (fun _=>qB)) ?_;obtain⟨iX,hx16,hM⟩:=bind_some hM;refine aI 12 rfl (aQ (xs:=r0.excess) 1 (Kn.ah (e:=3) (r:=aC.2.2.2.2.1) hA) (iS hx16)) ?_;refine aI 13 rfl (bE (i:=iw) (xs:=r0.excess) (y:=iX) 0 (Kn.ah (e:=3) (r:=aC.2.2.2.2.1) hA) (fun _=>hx16)) ?_;refine aI 14 rfl aH ?_;obtain⟨Yl,hM⟩:=bQ hM;refine aI 15 rfl (mQ (hr:=fun hg=>dI Yl)) ?_;obtain⟨x18,wT,hM⟩:=bind_some hM;refine aI 16 rfl (aQ (xs:=r0.excess) 1 (Kn.ah (e:=3) (r:=aC.2.2.2.2.1) hA) (iS wT)) ?_;refine mX rfl (qm (r:=aC.2.2.2.2.1) (i:=iw) (xs:=r0.excess) (u:=x18) (vs:=[vI (iX-kP)]) 0 (iX-kP) wT rfl (fun _ _ h=>h) uA ?_);have uV:=nP (u:=(iX-kP)) wT;refine mW (hK3 _ _ ?_);clear hK3;refine mZ [own bV 172 (nT r0 aC),ah 3 aC.1 r0.to,ah 3 aC.2.1 ((r0.left.set h0.toNat (x1-kP)).set (vQ .i64 h0 1).toNat (x7+kP)),ah 3 aC.2.2.1 r0.cost,gI (fun _=>True) 22 3 aC.2.2.2.1 r0.from_,ah 3 aC.2.2.2.2.1 (r0.excess.set iw.toNat (iX-kP)),ah 3 aC.2.2.2.2.2 r0.price] 16 ?_
 refine aI 0 rfl aH ?_;refine aI 1 rfl dH ?_;refine aI 2 rfl (ay 6) ?_;refine aI 3 rfl (aD (b:=bV)) ?_;refine aI 4 rfl aH ?_;refine aI 5 rfl dH ?_;refine aI 6 rfl (ay 2) ?_;refine aI 7 rfl (aD (b:=bV)) ?_;refine aI 8 rfl aH ?_;obtain⟨x21,vT,hM⟩:=bind_some hM;refine aI 9 rfl (aQ (xs:=r0.to) 1 (Kn.ah (e:=3) (r:=aC.1) hA) (iS vT)) ?_;refine aI 10 rfl (bE (i:=h0) (xs:=r0.to) (y:=x21) 0 (Kn.ah (e:=3) (r:=aC.1) hA) (fun _=>vT)) ?_;obtain⟨x23,hx24,hM⟩:=bind_some hM;refine aI 11 rfl (aQ (xs:=(r0.excess.set iw.toNat (iX-kP))) 1 (Kn.ah (e:=3) (r:=aC.2.2.2.2.1) hA) (iS hx24)) ?_;refine aI 12 rfl (bE (i:=x21) (xs:=(r0.excess.set iw.toNat (iX-kP))) (y:=x23) 0 (Kn.ah (e:=3) (r:=aC.2.2.2.2.1) hA) (fun _=>hx24)) ?_;refine aI 13 rfl aH ?_;obtain⟨Yn,hM⟩:=bQ hM;refine aI 14 rfl (dh (hr:=fun hg=>dI Yn)) ?_;obtain⟨Ai,hx27,hM⟩:=bind_some hM;refine aI 15 rfl (aQ (xs:=(r0.excess.set iw.toNat (iX-kP))) 1 (Kn.ah (e:=3) (r:=aC.2.2.2.2.1) hA) (iS hx27)) ?_;refine mX rfl (qm (r:=aC.2.2.2.2.1) (i:=x21) (xs:=(r0.excess.set iw.toNat (iX-kP))) (u:=Ai) (vs:=[vI (x23+kP)]) 0 (x23+kP) hx27 rfl (fun _ _ h=>h) uA ?_);have hx28:=nP (u:=(x23+kP)) hx27;obtain rfl:=some_inj hM;refine mW (G8 rfl (fun w hm=>by simp only[List.length_set,eS,sL];exact gK (aC.2.1,aC.2.2.2.2.1) hm rfl))
def adu(CK:Int)(Ba:List Int)(wY:List Int):Unit→Option (Int×(List Int)×(List Int)):=fun _=>
 some (CK,Ba,wY)
def adr(uY:List Int)(CK:Int)(Ba:List Int)(qx:((List Int)×Nat)→Option (Int×(List Int)×(List Int))):((List Int)×Nat)→Option (Int×(List Int)×(List Int)):=fun (wY,Bt)=>
 if decide ((Bt:Int)<(uY.length:Int)) then
  ((idx uY (Bt:Int)).bind fun x3=>
  (idx wY (Bt:Int)).bind fun x5=>
  (idx uY CK).bind fun x7=>
  aX (bA (x5+(if x7<x3 then x7 else x3)))<|
  (idx wY (Bt:Int)).bind fun x10=>
  qx ((wY.set (Bt:Int).toNat (x5+(if x7<x3 then x7 else x3))),Bt+1))
 else
  (adu CK Ba wY ())
def Yd(r0:fD):((List Int)×(List Int)×Int)→Option (Int×(List Int)×(List Int)):=fun (uY,Ba,CK)=>
 iter (adr uY CK Ba) FUEL (r0.price,0)
def TD(gY:(Int×Nat)→Option (Int×(List Int)×(List Int)))(yx:Nat):Int→Option (Int×(List Int)×(List Int)):=fun Sn=>
 gY (Sn,yx+1)
def TF(nG:((List Int)×(List Int)×Nat)→Option (Int×(List Int)×(List Int)))(Bu:Nat):((List Int)×(List Int))→Option (Int×(List Int)×(List Int)):=fun (L9,Mr)=>
 nG (L9,Mr,Bu+1)
def adq(oD:List Int)(r0:fD)(jY:Int)(jX:Int)(oI:List Bool)(cu:((List Int)×(List Int)×(List Bool))→Option (Int×(List Int)×(List Int)))(nG:((List Int)×(List Int)×Nat)→Option (Int×(List Int)×(List Int))):((List Int)×(List Int)×Nat)→Option (Int×(List Int)×(List Int)):=fun (xg,DR,Bu)=>
 if decide ((Bu:Int)<(oD.length:Int)) then
  ((idx oD (Bu:Int)).bind fun CS=>
  (idx r0.to CS).bind fun mI=>
  (idx xg jY).bind fun x55=>
  (TH r0 CS).bind fun lQ=>
  aX (bA (x55+lQ))<|
  (idx r0.left CS).bind fun SA=>
  (dW (decide (jX≤SA)) default (idx (oI.set jY.toNat true) mI)).bind fun WY=>
  (dW (decide (jX≤SA)&&(!WY)) default (idx xg mI)).bind fun x64=>
  if ((decide (jX≤SA)&&(!WY))&&decide ((x55+lQ)<x64)) then
   ((idx xg mI).bind fun x67=>
   (idx DR mI).bind fun x70=>
   TF nG Bu ((xg.set mI.toNat (x55+lQ)),(DR.set mI.toNat CS)))
  else
   (TF nG Bu (xg,DR)))
 else
  (cu (xg,DR,(oI.set jY.toNat true)))
def adt(r0:fD)(jY:Int)(jX:Int)(qb:List Int)(xX:List Int)(oI:List Bool)(cu:((List Int)×(List Int)×(List Bool))→Option (Int×(List Int)×(List Int))):Unit→Option (Int×(List Int)×(List Int)):=fun _=>
 (idx r0.excess jY).bind fun x40=>
 aX (bA (-jX))<|
 if decide (x40≤(-jX)) then
  (Yd r0 (qb,xX,jY))
 else
  ((idx oI jY).bind fun II=>
  (idx r0.from_ jY).bind fun oD=>
  iter (adq oD r0 jY jX oI cu) FUEL (qb,xX,0))
def adp(qb:List Int)(oI:List Bool)(r0:fD)(jX:Int)(xX:List Int)(cu:((List Int)×(List Int)×(List Bool))→Option (Int×(List Int)×(List Int)))(gY:(Int×Nat)→Option (Int×(List Int)×(List Int))):(Int×Nat)→Option (Int×(List Int)×(List Int)):=fun (jY,yx)=>
 if decide ((yx:Int)<(qb.length:Int)) then
  ((idx qb (yx:Int)).bind fun iW=>
  (idx oI (yx:Int)).bind fun tJ=>
  (dW ((!tJ)&& !(decide (jY<0))) default (idx qb jY)).bind fun yC=>
  if ((!tJ)&&(decide (jY<0)||decide (iW<yC))) then
   (TD gY yx (yx:Int))
  else
   (TD gY yx jY))
 else
  (adt r0 jY jX qb xX oI cu ())
def ado(r0:fD)(jX:Int)(cu:((List Int)×(List Int)×(List Bool))→Option (Int×(List Int)×(List Int))):((List Int)×(List Int)×(List Bool))→Option (Int×(List Int)×(List Int)):=fun (qb,xX,oI)=>
 iter (adp qb oI r0 jX xX cu) FUEL ((-1),0)
def ads(yU:List Int)(Ed:Int)(r0:fD)(jX:Int)(m17:List Int)(m20:List Bool):Unit→Option (Int×(List Int)×(List Int)):=fun _=>
 (idx yU Ed).bind fun x28=>
 iter (ado r0 jX) FUEL ((yU.set Ed.toNat 0),m17,m20)
def adn(m14:List Int)(Ed:Int)(r0:fD)(jX:Int)(m17:List Int)(m20:List Bool)(aN:((List Int)×Nat)→Option (Int×(List Int)×(List Int))):((List Int)×Nat)→Option (Int×(List Int)×(List Int)):=fun (yU,lN)=>
 if decide ((lN:Int)<(m14.length:Int)) then
  ((idx yU (lN:Int)).bind fun x25=>
  aN ((yU.set (lN:Int).toNat 1152921504606846976),lN+1))
 else
  (ads yU Ed r0 jX m17 m20 ())
def Ye(r0:fD)(Ed:Int)(jX:Int):Option (Int×(List Int)×(List Int)):=
 aX (bA (r0.nodes+1))<|
 (mk (α:=Int) 0 (r0.nodes+1)).bind fun m14=>
 (mk (α:=Int) 0 (r0.nodes+1)).bind fun m17=>
 (mk (α:=Bool) false (r0.nodes+1)).bind fun m20=>
 iter (adn m14 Ed r0 jX m17 m20) FUEL (m14,0)
theorem aiC(S:bF)(w:World)(bV:Nat)(r0:fD)(aC:ak.R fD)(Ed:Int)(jX:Int)(y:Int×(List Int)×(List Int))(hM:Ye r0 Ed jX=some y)(hP:Pre S [own bV 172 (nT r0 aC),ah 3 aC.1 r0.to,ah 3 aC.2.1 r0.left,ah 3 aC.2.2.1 r0.cost,gI (fun _=>True) 22 3 aC.2.2.2.1 r0.from_,ah 3 aC.2.2.2.2.1 r0.excess,ah 3 aC.2.2.2.2.2 r0.price] w):
   Calls Tryz.prog 127 #[vP bV,vI Ed,vI jX] w (Post (β:=(ak.R (List Int))×(SR (ak.R Int))) S [own bV 172 (nT r0 aC),ah 3 aC.1 r0.to,ah 3 aC.2.1 r0.left,ah 3 aC.2.2.1 r0.cost,gI (fun _=>True) 22 3 aC.2.2.2.1 r0.from_,ah 3 aC.2.2.2.2.1 r0.excess,ah 3 aC.2.2.2.2.2 r0.price] (fun g=> .tuple #[vI y.1,sL g.1 y.2.1]) (fun g=>[ah 3 g.1 y.2.1,own bV 172 [vI r0.nodes,vI r0.kW,sL aC.1 r0.to,sL aC.2.1 r0.left,sL aC.2.2.1 r0.cost,sL aC.2.2.2.1 r0.from_,sL aC.2.2.2.2.1 r0.excess,sL g.2 y.2.2],ah 3 aC.1 r0.to,ah 3 aC.2.1 r0.left,ah 3 aC.2.2.1 r0.cost,gI (fun _=>True) 22 3 aC.2.2.2.1 r0.from_,ah 3 aC.2.2.2.2.1 r0.excess,ah 3 g.2 y.2.2]) w):=by
 refine bW (args:=[_,_,_]) Tryz.func127 rfl (hP.start) rfl ?_;unfold Ye at hM;refine sr ?_;refine oa ?_;refine aL ?_;refine ah8 0 (γ:=((List Int)×(List Int)×Int)×((SR (ak.R Int))×(SR (ak.R Int)))) (fun ((uY,Ba,CK),(Bo,Io))=>[(0,eP bV),(9,eS Bo uY),(10,eS Io Ba),(13,eI CK)]) (fun ((uY,Ba,CK),(Bo,Io))=>[ah 3 aC.1 r0.to,ah 3 aC.2.1 r0.left,ah 3 aC.2.2.1 r0.cost,gI (fun _=>True) 22 3 aC.2.2.2.1 r0.from_,ah 3 aC.2.2.2.2.1 r0.excess,ah 3 aC.2.2.2.2.2 r0.price,own bV 172 (nT r0 aC),ah 3 Bo uY,ah 3 Io Ba]) (fun g=>Yd r0 g.1=some y) rfl ?_ ?_
 ·intro KG1 hG1;refine aJ ?_;refine oe dH ?_;refine oe (ay 0) ?_;refine oe (aD (b:=bV)) ?_;refine oP hM fun hM=>?_;refine aL ?_;refine aJ ?_;obtain⟨m14,akq,hM⟩:=bind_some hM;refine aY (yw (α:=Int) (e:=3) 0 () akq (fun _ _=>trivial) (fun r16 aoz=>?_));refine aL ?_;refine aJ ?_;obtain⟨m17,hm18,hM⟩:=bind_some hM;refine aY (yw (α:=Int) (e:=3) 0 () hm18 (fun _ _=>trivial) (fun rO aoB=>?_));refine aL ?_;refine aJ ?_;obtain⟨m20,Y5,hM⟩:=bind_some hM;refine aY (yw (α:=Bool) (e:=4) false () Y5 (fun _ _=>trivial) (fun oM akz=>?_));refine aL ?_;refine aF fun zA kg=>?_;refine aJ ?_;refine gU (fun w hm=>Kn.len (Kn.ah (e:=3) (r:=r16) hA) hm) fun aeb=>?_;refine oe bf ?_;refine om ?_;refine on ?_;refine aV ?_;refine lq hM (fun (yU,lN)=>[(0,eP bV),(1,eI Ed),(2,eI jX),(9,eS r16 yU),(10,eS rO m17),(11,eS oM m20),(34,eI (m14.length:Int)),(35,eI (lN:Int))]) (fun (yU,lN)=>[ah 3 aC.1 r0.to,ah 3 aC.2.1 r0.left,ah 3 aC.2.2.1 r0.cost,gI (fun _=>True) 22 3 aC.2.2.2.1 r0.from_,ah 3 aC.2.2.2.2.1 r0.excess,ah 3 aC.2.2.2.2.2 r0.price,own bV 172 (nT r0 aC),ah 3 r16 yU,ah 3 rO m17,ah 4 oM m20]) sS rI ?_
  clear hM;rintro aN ⟨yU,lN⟩ hM fQ hL1;dsimp only[adn] at hM ⊢;refine sr ?_;refine oe bK ?_;refine on ?_;refine aF fun Fh oG=>?_;refine cc rfl hM (fun hc24 hM=>?_) (fun hc24 hM=>?_)
  · have ajN:=of_decide_eq_true hc24;refine aM (oG _ _ ?_);clear oG;refine aF fun El nH=>?_;refine aV ?_;refine aJ ?_;refine aL ?_;refine aT ?_;refine om ?_;refine om ?_;obtain⟨x25,vU,hM⟩:=bind_some hM;refine oe (aQ (xs:=yU) 1 (Kn.ah (e:=3) (r:=r16) hA) (iS vU)) ?_;refine aY (qm (r:=r16) (i:=(lN:Int)) (xs:=yU) (u:=x25) (vs:=[vI 1152921504606846976]) 0 1152921504606846976 vU rfl (fun _ _ h=>h) uA ?_);have hx27:=nP (u:=1152921504606846976) vU;refine aU (nH _ _ ?_);clear nH;refine aT ?_;refine oe (dh (hr:=fun _=>by unfold dS;omega)) ?_;refine om ?_;refine aU (hL1 hM ⟨rfl,rfl,rfl,(by simp only[List.length_set,eS,sL];rfl),rfl,rfl,rfl,rfl,trivial⟩ rI)
  refine bX (kg _ _ ?_);clear kg;dsimp only[ads] at hM;refine aJ ?_;refine om ?_;obtain⟨x28,hx29,hM⟩:=bind_some hM;refine oe (aQ (xs:=yU) 1 (Kn.ah (e:=3) (r:=r16) hA) (iS hx29)) ?_;refine aY (qm (r:=r16) (i:=Ed) (xs:=yU) (u:=x28) (vs:=[vI 0]) 0 0 hx29 rfl (fun _ _ h=>h) uA ?_);have FP:=nP (u:=0) hx29;refine on ?_;refine bg ?_;refine aF fun CZ ni=>?_;refine aV ?_;refine lq hM (fun (qb,xX,oI)=>[(0,eP bV),(2,eI jX),(9,eS r16 qb),(10,eS rO xX),(11,eS oM oI)]) (fun (qb,xX,oI)=>[ah 3 aC.1 r0.to,ah 3 aC.2.1 r0.left,ah 3 aC.2.2.1 r0.cost,gI (fun _=>True) 22 3 aC.2.2.2.1 r0.from_,ah 3 aC.2.2.2.2.1 r0.excess,ah 3 aC.2.2.2.2.2 r0.price,own bV 172 (nT r0 aC),ah 3 r16 qb,ah 3 rO xX,ah 4 oM oI]) ⟨rfl,rfl,(by simp only[List.length_set,eS,sL];rfl),rfl,rfl,trivial⟩ rI ?_
  clear hM;rintro cu ⟨qb,xX,oI⟩ hM qM hL2;dsimp only[ado] at hM ⊢;refine aV ?_;refine bg ?_;refine aF fun Gy qz=>?_;refine aJ ?_;refine gU (fun w hm=>Kn.len (Kn.ah (e:=3) (r:=r16) hA) hm) fun aor=>?_;refine oe bf ?_;refine om ?_;refine on ?_;refine aV ?_;refine lq hM (fun (jY,yx)=>[(0,eP bV),(2,eI jX),(9,eS r16 qb),(10,eS rO xX),(11,eS oM oI),(13,eI jY),(45,eS r16 qb),(46,eI (qb.length:Int)),(47,eI (yx:Int))]) (fun (jY,yx)=>[ah 3 aC.1 r0.to,ah 3 aC.2.1 r0.left,ah 3 aC.2.2.1 r0.cost,gI (fun _=>True) 22 3 aC.2.2.2.1 r0.from_,ah 3 aC.2.2.2.2.1 r0.excess,ah 3 aC.2.2.2.2.2 r0.price,own bV 172 (nT r0 aC),ah 3 r16 qb,ah 3 rO xX,ah 4 oM oI]) sS rI ?_
  clear hM;rintro gY ⟨jY,yx⟩ hM zC hL3;dsimp only[adp] at hM ⊢;refine sr ?_;refine oe bK ?_;refine on ?_;refine aF fun N7 wR=>?_;refine cc rfl hM (fun hc32 hM=>?_) (fun hc32 hM=>?_)
  · have aog:=of_decide_eq_true hc32;refine aM (wR _ _ ?_);clear wR;refine jm y (k:=TD gY yx) (fun Sn=>[(0,eP bV),(2,eI jX),(9,eS r16 qb),(10,eS rO xX),(11,eS oM oI),(13,eI Sn),(45,eS r16 qb),(46,eI (qb.length:Int)),(47,eI (yx:Int))]) (fun Sn=>[ah 3 aC.1 r0.to,ah 3 aC.2.1 r0.left,ah 3 aC.2.2.1 r0.cost,gI (fun _=>True) 22 3 aC.2.2.2.1 r0.from_,ah 3 aC.2.2.2.2.1 r0.excess,ah 3 aC.2.2.2.2.2 r0.price,own bV 172 (nT r0 aC),ah 3 r16 qb,ah 3 rO xX,ah 4 oM oI]) ?_ ?_
    ·intro KE rD;refine aV ?_;refine aJ ?_;obtain⟨iW,hx34,hM⟩:=bind_some hM;refine oe (aQ (xs:=qb) 1 (Kn.ah (e:=3) (r:=r16) hA) (iS hx34)) ?_;refine oe (bE (i:=(yx:Int)) (xs:=qb) (y:=iW) 0 (Kn.ah (e:=3) (r:=r16) hA) (fun _=>hx34)) ?_;refine oa ?_;refine aL ?_;refine aJ ?_;refine om ?_;obtain⟨tJ,Dx,hM⟩:=bind_some hM;refine oe (aQ (xs:=oI) 1 (Kn.ah (e:=4) (r:=oM) hA) (iS Dx)) ?_;refine oe (bE (i:=(yx:Int)) (xs:=oI) (y:=tJ) 0 (Kn.ah (e:=4) (r:=oM) hA) (fun _=>Dx)) ?_;refine oe dN ?_;refine om ?_;refine au rfl aH ?_;refine au rfl bK ?_;refine au rfl aH ?_;refine au rfl aH ?_;refine au rfl aH ?_;refine au rfl aH ?_;obtain⟨yC,hx38,hM⟩:=bind_some hM;refine au rfl (aQ (xs:=qb) 1 (Kn.ah (e:=3) (r:=r16) hA) (fun hg=>let h:=jG (dF hx38 hg);⟨h.1,h.2.1⟩)) ?_;refine au rfl (bE (i:=jY) (xs:=qb) (y:=yC) 0 (Kn.ah (e:=3) (r:=r16) hA) (fun hg=>dF hx38 hg)) ?_;refine au rfl bK ?_;refine au rfl bP ?_;refine oe dB ?_;refine on ?_;refine cc rfl hM (fun hc39 hM=>?_) (fun hc39 hM=>?_)
     ·refine aT ?_;refine om ?_;refine oa ?_;refine aU (rD hM sS rI)
     refine aM (rD hM sS rI)
    clear hM;rintro Sn hM;dsimp only[TD] at hM ⊢;refine aT ?_;refine oe (dh (hr:=fun _=>by unfold dS;omega)) ?_;refine om ?_;refine aU (hL3 hM sS rI)
  refine bX (qz _ _ ?_);clear qz;dsimp only[adt] at hM;refine aF fun KD uy=>?_;refine aJ ?_;refine oe dH ?_;refine oe (ay 6) ?_;refine oe (aD (b:=bV)) ?_;refine om ?_;obtain⟨x40,aeg,hM⟩:=bind_some hM;refine oe (aQ (xs:=r0.excess) 1 (Kn.ah (e:=3) (r:=aC.2.2.2.2.1) hA) (iS aeg)) ?_;refine oe (bE (i:=jY) (xs:=r0.excess) (y:=x40) 0 (Kn.ah (e:=3) (r:=aC.2.2.2.2.1) hA) (fun _=>aeg)) ?_;refine om ?_;obtain⟨Yw,hM⟩:=bQ hM;refine oe (GX (hr:=fun hg=>dI Yw)) ?_;refine oe kD ?_;refine on ?_;refine cc rfl hM (fun ajS hM=>?_) (fun ajS hM=>?_)
  · refine ah5 (ah6 (hG1 ((qb,xX,jY),(r16,rO)) _ _ hM ⟨rfl,rfl,rfl,rfl,trivial⟩ rI))
  refine aM (uy _ _ ?_);clear uy;refine aJ ?_;refine om ?_;obtain⟨II,FQ,hM⟩:=bind_some hM;refine oe (aQ (xs:=oI) 1 (Kn.ah (e:=4) (r:=oM) hA) (iS FQ)) ?_;refine aY (qm (r:=oM) (i:=jY) (xs:=oI) (u:=II) (vs:=[.bool true]) 0 true FQ rfl (fun _ _ h=>h) uA ?_);have aoG:=nP (u:=true) FQ;refine on ?_;refine aJ ?_;refine oe dH ?_;refine oe (ay 5) ?_;refine oe (aD (b:=bV)) ?_;refine om ?_;obtain⟨oD,zT,hM⟩:=bind_some hM;refine oe (OJ (r:=aC.2.2.2.1) (xs:=r0.from_) hA (iS zT)) ?_;refine oe (XW (r:=aC.2.2.2.1) (xs:=r0.from_) (i:=jY) hA (fun _=>zT)) ?_;refine gU (fun w hm=>Kn.len (Kn.aaV (e:=22) (e2:=3) (r:=aC.2.2.2.1) (xs:=r0.from_) hA zT) hm) fun aou=>?_;refine oe bf ?_;refine om ?_;refine on ?_;refine aV ?_;refine lq hM (fun (xg,DR,Bu)=>[(0,eP bV),(2,eI jX),(9,eS r16 xg),(10,eS rO DR),(11,.v (.slice oM.a ((oI.set jY.toNat true).length) oM.cap)),(13,eI jY),(90,eS (aC.2.2.2.1.es jY.toNat) oD),(91,eI (oD.length:Int)),(92,eI (Bu:Int))]) (fun (xg,DR,Bu)=>[ah 3 aC.1 r0.to,ah 3 aC.2.1 r0.left,ah 3 aC.2.2.1 r0.cost,gI (fun _=>True) 22 3 aC.2.2.2.1 r0.from_,ah 3 aC.2.2.2.2.1 r0.excess,ah 3 aC.2.2.2.2.2 r0.price,own bV 172 (nT r0 aC),ah 3 r16 xg,ah 3 rO DR,ah 4 oM (oI.set jY.toNat true)]) ⟨rfl,rfl,rfl,rfl,(by simp only[List.length_set,eS,sL];rfl),rfl,rfl,rfl,rfl,trivial⟩ rI ?_
  clear hM;rintro nG ⟨xg,DR,Bu⟩ hM KF hL4;dsimp only[adq] at hM ⊢;refine sr ?_;refine oe bK ?_;refine on ?_;refine aF fun Xj Dn=>?_;refine cc rfl hM (fun ad6 hM=>?_) (fun ad6 hM=>?_)
  · have aoh:=of_decide_eq_true ad6;refine aM (Dn _ _ ?_);clear Dn;refine jm y (k:=TF nG Bu) (fun (L9,Mr)=>[(0,eP bV),(2,eI jX),(9,eS r16 L9),(10,eS rO Mr),(11,.v (.slice oM.a ((oI.set jY.toNat true).length) oM.cap)),(13,eI jY),(90,eS (aC.2.2.2.1.es jY.toNat) oD),(91,eI (oD.length:Int)),(92,eI (Bu:Int))]) (fun (L9,Mr)=>[ah 3 aC.1 r0.to,ah 3 aC.2.1 r0.left,ah 3 aC.2.2.1 r0.cost,gI (fun _=>True) 22 3 aC.2.2.2.1 r0.from_,ah 3 aC.2.2.2.2.1 r0.excess,ah 3 aC.2.2.2.2.2 r0.price,own bV 172 (nT r0 aC),ah 3 r16 L9,ah 3 rO Mr,ah 4 oM (oI.set jY.toNat true)]) ?_ ?_
    ·intro N8 vS;refine aV ?_;refine sr ?_;obtain⟨CS,Ze,hM⟩:=bind_some hM;refine oe (aQ (xs:=oD) 1 (Kn.aaV (e:=22) (e2:=3) (r:=aC.2.2.2.1) (xs:=r0.from_) hA zT) (iS Ze)) ?_;refine oe (bE (i:=(Bu:Int)) (xs:=oD) (y:=CS) 0 (Kn.aaV (e:=22) (e2:=3) (r:=aC.2.2.2.1) (xs:=r0.from_) hA zT) (fun _=>Ze)) ?_;refine aL ?_;refine aJ ?_;refine oe dH ?_;refine oe (ay 2) ?_;refine oe (aD (b:=bV)) ?_;refine om ?_;obtain⟨mI,BR,hM⟩:=bind_some hM;refine oe (aQ (xs:=r0.to) 1 (Kn.ah (e:=3) (r:=aC.1) hA) (iS BR)) ?_;refine oe (bE (i:=CS) (xs:=r0.to) (y:=mI) 0 (Kn.ah (e:=3) (r:=aC.1) hA) (fun _=>BR)) ?_;refine aL ?_;refine aF fun K38 Pf=>?_;refine fE _ (List.Sublist.refl _) ?_;refine aj 0 rfl aH ?_;refine aj 1 rfl aH ?_;obtain⟨x55,FR,hM⟩:=bind_some hM;refine aj 2 rfl (aQ (xs:=xg) 1 (Kn.ah (e:=3) (r:=r16) hA) (iS FR)) ?_;refine aj 3 rfl (bE (i:=jY) (xs:=xg) (y:=x55) 0 (Kn.ah (e:=3) (r:=r16) hA) (fun _=>FR)) ?_;refine aj 4 rfl aH ?_;refine aj 5 rfl aH ?_;obtain⟨lQ,PO,hM⟩:=bind_some hM;refine dX 6 rfl (sV (fun hs=>adA _ _ bV r0 aC CS lQ PO (bq hs) (JK hA hs) ⟨(kT hs),(kT hs),(kT hs),(Kn.lend (Kn.Wy (e:=22) (r:=aC.2.2.2.1) hA) hs),(kT hs),(kT hs)⟩) ⟨rI,?_⟩)
     obtain⟨aiZ,hM⟩:=bQ hM;refine aj 7 rfl (dh (hr:=fun hg=>dI aiZ)) ?_;refine aj 8 rfl dL ?_;refine dK (Pf _ _ ?_);clear Pf;refine aJ ?_;refine oe dH ?_;refine oe (ay 3) ?_;refine oe (aD (b:=bV)) ?_;refine om ?_;obtain⟨SA,aei,hM⟩:=bind_some hM;refine oe (aQ (xs:=r0.left) 1 (Kn.ah (e:=3) (r:=aC.2.1) hA) (iS aei)) ?_;refine oe (bE (i:=CS) (xs:=r0.left) (y:=SA) 0 (Kn.ah (e:=3) (r:=aC.2.1) hA) (fun _=>aei)) ?_;refine om ?_;refine oe ig ?_;refine om ?_;refine au rfl aH ?_;refine au rfl aH ?_;obtain⟨WY,aek,hM⟩:=bind_some hM;refine au rfl (aQ (xs:=(oI.set jY.toNat true)) 1 (Kn.ah (e:=4) (r:=oM) hA) (fun hg=>let h:=jG (dF aek hg);⟨h.1,h.2.1⟩)) ?_;refine au rfl (bE (i:=mI) (xs:=(oI.set jY.toNat true)) (y:=WY) 0 (Kn.ah (e:=4) (r:=oM) hA) (fun hg=>dF aek hg)) ?_;refine au rfl dN ?_;refine oe dB ?_;refine om ?_;refine au rfl aH ?_;refine au rfl aH ?_;refine au rfl aH ?_;obtain⟨x64,ael,hM⟩:=bind_some hM;refine au rfl (aQ (xs:=xg) 1 (Kn.ah (e:=3) (r:=r16) hA) (fun hg=>let h:=jG (dF ael hg);⟨h.1,h.2.1⟩)) ?_;refine au rfl (bE (i:=mI) (xs:=xg) (y:=x64) 0 (Kn.ah (e:=3) (r:=r16) hA) (fun hg=>dF ael hg)) ?_
     refine au rfl bK ?_;refine oe dB ?_;refine on ?_;refine cc rfl hM (fun Pq hM=>?_) (fun Pq hM=>?_)
     ·refine aJ ?_;refine om ?_;refine om ?_;obtain⟨x67,Zi,hM⟩:=bind_some hM;refine oe (aQ (xs:=xg) 1 (Kn.ah (e:=3) (r:=r16) hA) (iS Zi)) ?_;refine aY (qm (r:=r16) (i:=mI) (xs:=xg) (u:=x67) (vs:=[vI (x55+lQ)]) 0 (x55+lQ) Zi rfl (fun _ _ h=>h) uA ?_);have Zj:=nP (u:=(x55+lQ)) Zi;refine on ?_;refine aT ?_;refine om ?_;refine om ?_;refine om ?_;obtain⟨x70,Zk,hM⟩:=bind_some hM;refine oe (aQ (xs:=DR) 1 (Kn.ah (e:=3) (r:=rO) hA) (iS Zk)) ?_;refine aY (qm (r:=rO) (i:=mI) (xs:=DR) (u:=x70) (vs:=[vI CS]) 0 CS Zk rfl (fun _ _ h=>h) uA ?_);have Ls:=nP (u:=CS) Zk;refine aU (vS hM ⟨rfl,rfl,(by simp only[List.length_set,eS,sL];rfl),(by simp only[List.length_set,eS,sL];rfl),rfl,rfl,rfl,rfl,rfl,trivial⟩ rI)
     refine aM (vS hM sS rI)
    clear hM;rintro⟨L9,Mr⟩ hM;dsimp only[TF] at hM ⊢;refine aT ?_;refine oe (dh (hr:=fun _=>by unfold dS;omega)) ?_;refine om ?_;refine aU (hL4 hM sS rI)
  refine bX (hL2 hM sS rI)
 clear hM;intro g hM;obtain⟨⟨uY,Ba,CK⟩,⟨Bo,Io⟩⟩:=g;dsimp only at hM ⊢;dsimp only[Yd] at hM;refine aF fun K2 hK2=>?_;refine aM (hK2 _ _ ?_);clear hK2;refine aF fun K3 hK3=>?_;refine aJ ?_;refine gU (fun w hm=>Kn.len (Kn.ah (e:=3) (r:=Bo) hA) hm) fun hl1=>?_;refine oe bf ?_;refine om ?_;refine on ?_;refine aV ?_;refine lq hM (fun (wY,Bt)=>[(0,eP bV),(9,eS Bo uY),(10,eS Io Ba),(13,eI CK),(144,eS Bo uY),(145,eI (uY.length:Int)),(146,eI (Bt:Int))]) (fun (wY,Bt)=>[ah 3 aC.1 r0.to,ah 3 aC.2.1 r0.left,ah 3 aC.2.2.1 r0.cost,gI (fun _=>True) 22 3 aC.2.2.2.1 r0.from_,ah 3 aC.2.2.2.2.1 r0.excess,ah 3 aC.2.2.2.2.2 wY,own bV 172 [vI r0.nodes,vI r0.kW,sL aC.1 r0.to,sL aC.2.1 r0.left,sL aC.2.2.1 r0.cost,sL aC.2.2.2.1 r0.from_,sL aC.2.2.2.2.1 r0.excess,sL aC.2.2.2.2.2 wY],ah 3 Bo uY,ah 3 Io Ba]) sS rI ?_
 clear hM;rintro qx ⟨wY,Bt⟩ hM SH hL5;dsimp only[adr] at hM ⊢;refine sr ?_;refine oe bK ?_;refine on ?_;refine aF fun K6 bU=>?_;refine cc rfl hM (fun hc2 hM=>?_) (fun hc2 hM=>?_)
 ·have FL:=of_decide_eq_true hc2;refine aM (bU _ _ ?_);clear bU;refine aF fun K7 eU=>?_;refine aV ?_;refine aJ ?_;obtain⟨x3,hx4,hM⟩:=bind_some hM;refine oe (aQ (xs:=uY) 1 (Kn.ah (e:=3) (r:=Bo) hA) (iS hx4)) ?_;refine oe (bE (i:=(Bt:Int)) (xs:=uY) (y:=x3) 0 (Kn.ah (e:=3) (r:=Bo) hA) (fun _=>hx4)) ?_;refine oa ?_;refine aL ?_;refine mZ [ah 3 aC.1 r0.to,ah 3 aC.2.1 r0.left,ah 3 aC.2.2.1 r0.cost,gI (fun _=>True) 22 3 aC.2.2.2.1 r0.from_,ah 3 aC.2.2.2.2.1 r0.excess,ah 3 aC.2.2.2.2.2 wY,own bV 172 [vI r0.nodes,vI r0.kW,sL aC.1 r0.to,sL aC.2.1 r0.left,sL aC.2.2.1 r0.cost,sL aC.2.2.2.1 r0.from_,sL aC.2.2.2.2.1 r0.excess,sL aC.2.2.2.2.2 wY],ah 3 Bo uY,ah 3 Io Ba] 15 ?_;refine aI 0 rfl aH ?_;refine aI 1 rfl dH ?_;refine aI 2 rfl (ay 7) ?_;refine aI 3 rfl (aD (b:=bV)) ?_;refine aI 4 rfl aH ?_;obtain⟨x5,hx6,hM⟩:=bind_some hM;refine aI 5 rfl (aQ (xs:=wY) 1 (Kn.ah (e:=3) (r:=aC.2.2.2.2.2) hA) (iS hx6)) ?_
  refine aI 6 rfl (bE (i:=(Bt:Int)) (xs:=wY) (y:=x5) 0 (Kn.ah (e:=3) (r:=aC.2.2.2.2.2) hA) (fun _=>hx6)) ?_;refine aI 7 rfl aH ?_;refine aI 8 rfl aH ?_;refine aI 9 rfl aH ?_;obtain⟨x7,wU,hM⟩:=bind_some hM;refine aI 10 rfl (aQ (xs:=uY) 1 (Kn.ah (e:=3) (r:=Bo) hA) (iS wU)) ?_;refine aI 11 rfl (bE (i:=CK) (xs:=uY) (y:=x7) 0 (Kn.ah (e:=3) (r:=Bo) hA) (fun _=>wU)) ?_;refine aI 12 rfl X0 ?_;obtain⟨O8,hM⟩:=bQ hM;refine aI 13 rfl (dh (hr:=fun hg=>dI O8)) ?_;obtain⟨x10,lT,hM⟩:=bind_some hM;refine aI 14 rfl (aQ (xs:=wY) 1 (Kn.ah (e:=3) (r:=aC.2.2.2.2.2) hA) (iS lT)) ?_;refine mX rfl (qm (r:=aC.2.2.2.2.2) (i:=(Bt:Int)) (xs:=wY) (u:=x10) (vs:=[vI (x5+(if x7<x3 then x7 else x3))]) 0 (x5+(if x7<x3 then x7 else x3)) lT rfl (fun _ _ h=>h) uA ?_);have zQ:=nP (u:=(x5+(if x7<x3 then x7 else x3))) lT;refine mW (eU _ _ ?_);clear eU;refine aT ?_;refine oe (dh (hr:=fun _=>by unfold dS;omega)) ?_;refine om ?_;refine aU (hL5 hM sS (fun w hm=>by simp only[List.length_set,eS,sL];exact hm.jw))
 refine bX (hK3 _ _ ?_);clear hK3;dsimp only[adu] at hM;refine aJ ?_;refine om ?_;refine oa ?_;refine aL ?_;obtain rfl:=some_inj hM;refine aP (nu (fun w hm=>gK (Io,aC.2.2.2.2.2) hm rfl))
def TB(zV:Bool)(jX:Int)(aN:(Int×Bool×Nat)→Option (Bool×(List Int)×(List Int)×(List Int)))(x3:Int)(oz:Nat):Int→Option (Bool×(List Int)×(List Int)×(List Int)):=fun R8=>
 aX (!(!zV)||bA (-jX))<|
 aN (R8,(zV||decide (x3≤(-jX))),oz+1)
def adl(vW:List Int)(vX:List Int)(y8:Int×(List Int)×(List Int)):Unit→Option (Bool×(List Int)×(List Int)×(List Int)):=fun _=>
 some (true,vW,vX,y8.2.2)
def adi(sD:Int)(y8:Int×(List Int)×(List Int))(r0:fD)(Ap:Int)(gY:((List Int)×(List Int)×Int)→Option (Bool×(List Int)×(List Int)×(List Int))):((List Int)×(List Int)×Int)→Option (Bool×(List Int)×(List Int)×(List Int)):=fun (vW,vX,jY)=>
 if decide (jY≠sD) then
  ((idx y8.2.1 jY).bind fun Ai=>
  (TI (fD.mk r0.nodes r0.kW r0.to vW r0.cost r0.from_ vX y8.2.2) Ai Ap).bind fun y28=>
  (idx y8.2.1 jY).bind fun x31=>
  (idx r0.to (vQ .i64 x31 1)).bind fun iW=>
  gY (y28.1,y28.2,iW))
 else
  (adl vW vX y8 ())
def adk(sD:Int)(y8:Int×(List Int)×(List Int))(r0:fD)(Ap:Int):Unit→Option (Bool×(List Int)×(List Int)×(List Int)):=fun _=>
 iter (adi sD y8 r0 Ap) FUEL (r0.left,r0.excess,y8.1)
def adh(sD:Int)(y8:Int×(List Int)×(List Int))(r0:fD)(cu:(Int×Int)→Option (Bool×(List Int)×(List Int)×(List Int))):(Int×Int)→Option (Bool×(List Int)×(List Int)×(List Int)):=fun (Ap,Gv)=>
 if decide (Gv≠sD) then
  ((idx y8.2.1 Gv).bind fun fK=>
  (idx r0.left fK).bind fun lF=>
  (idx y8.2.1 Gv).bind fun x21=>
  (idx r0.to (vQ .i64 x21 1)).bind fun x23=>
  cu ((if lF<Ap then lF else Ap),x23))
 else
  (adk sD y8 r0 Ap ())
def adj(sD:Int)(zV:Bool)(r0:fD)(jX:Int):Unit→Option (Bool×(List Int)×(List Int)×(List Int)):=fun _=>
 if (decide (sD<0)||(!zV)) then
  (some (false,r0.left,r0.excess,r0.price))
 else
  ((Ye r0 sD jX).bind fun y8=>
  (idx r0.excess sD).bind fun qK=>
  (idx r0.excess y8.1).bind fun iw=>
  aX (bA (-iw))<|
  iter (adh sD y8 r0) FUEL ((if (-iw)<qK then (-iw) else qK),y8.1))
def adg(r0:fD)(jX:Int)(aN:(Int×Bool×Nat)→Option (Bool×(List Int)×(List Int)×(List Int))):(Int×Bool×Nat)→Option (Bool×(List Int)×(List Int)×(List Int)):=fun (sD,zV,oz)=>
 if decide ((oz:Int)<(r0.excess.length:Int)) then
  ((idx r0.excess (oz:Int)).bind fun x3=>
  if (decide (jX≤x3)&&decide (sD<0)) then
   (TB zV jX aN x3 oz (oz:Int))
  else
   (TB zV jX aN x3 oz sD))
 else
  (adj sD zV r0 jX ())
def Yc(r0:fD)(jX:Int):Option (Bool×(List Int)×(List Int)×(List Int)):=
 iter (adg r0 jX) FUEL ((-1),false,0)
theorem aiB(S:bF)(w:World)(bV:Nat)(r0:fD)(aC:ak.R fD)(jX:Int)(y:Bool×(List Int)×(List Int)×(List Int))(hM:Yc r0 jX=some y)(hP:Pre S [own bV 172 (nT r0 aC),ah 3 aC.1 r0.to,ah 3 aC.2.1 r0.left,ah 3 aC.2.2.1 r0.cost,gI (fun _=>True) 22 3 aC.2.2.2.1 r0.from_,ah 3 aC.2.2.2.2.1 r0.excess,ah 3 aC.2.2.2.2.2 r0.price] w):
   Calls Tryz.prog 118 #[vP bV,vI jX] w (Post (β:=(SR (ak.R Int))×(SR (ak.R Int))×(SR (ak.R Int))) S [own bV 172 (nT r0 aC),ah 3 aC.1 r0.to,ah 3 aC.2.1 r0.left,ah 3 aC.2.2.1 r0.cost,gI (fun _=>True) 22 3 aC.2.2.2.1 r0.from_,ah 3 aC.2.2.2.2.1 r0.excess,ah 3 aC.2.2.2.2.2 r0.price] (fun g=> .bool y.1) (fun g=>[own bV 172 [vI r0.nodes,vI r0.kW,sL aC.1 r0.to,sL g.1 y.2.1,sL aC.2.2.1 r0.cost,sL aC.2.2.2.1 r0.from_,sL g.2.1 y.2.2.1,sL g.2.2 y.2.2.2],ah 3 aC.1 r0.to,ah 3 g.1 y.2.1,ah 3 aC.2.2.1 r0.cost,gI (fun _=>True) 22 3 aC.2.2.2.1 r0.from_,ah 3 g.2.1 y.2.2.1,ah 3 g.2.2 y.2.2.2]) w):=by
 refine bW (args:=[_,_]) Tryz.func118 rfl (hP.start) rfl ?_;unfold Yc at hM;refine bg ?_;refine sr ?_;refine oa ?_;refine aL ?_;refine aF fun K3 hK3=>?_;refine aJ ?_;refine oe dH ?_;refine oe (ay 6) ?_;refine oe (aD (b:=bV)) ?_;refine gU (fun w hm=>Kn.len (Kn.ah (e:=3) (r:=aC.2.2.2.2.1) hA) hm) fun hl1=>?_;refine oe bf ?_;refine om ?_;refine on ?_;refine aV ?_;refine lq hM (fun (sD,zV,oz)=>[(0,eP bV),(1,eI jX),(5,eI sD),(6,.v (.bool zV)),(17,eS aC.2.2.2.2.1 r0.excess),(18,eI (r0.excess.length:Int)),(19,eI (oz:Int))]) (fun (sD,zV,oz)=>[ah 3 aC.1 r0.to,ah 3 aC.2.1 r0.left,ah 3 aC.2.2.1 r0.cost,gI (fun _=>True) 22 3 aC.2.2.2.1 r0.from_,ah 3 aC.2.2.2.2.1 r0.excess,ah 3 aC.2.2.2.2.2 r0.price,own bV 172 (nT r0 aC)]) sS rI ?_
 clear hM;rintro aN ⟨sD,zV,oz⟩ hM fQ hL1;dsimp only[adg] at hM ⊢;refine sr ?_;refine oe bK ?_;refine on ?_;refine aF fun K6 bU=>?_;refine cc rfl hM (fun hc2 hM=>?_) (fun hc2 hM=>?_)
 ·have FL:=of_decide_eq_true hc2;refine aM (bU _ _ ?_);clear bU;refine aF fun K7 eU=>?_;refine aV ?_;refine aJ ?_;obtain⟨x3,hx4,hM⟩:=bind_some hM;refine oe (aQ (xs:=r0.excess) 1 (Kn.ah (e:=3) (r:=aC.2.2.2.2.1) hA) (iS hx4)) ?_;refine oe (bE (i:=(oz:Int)) (xs:=r0.excess) (y:=x3) 0 (Kn.ah (e:=3) (r:=aC.2.2.2.2.1) hA) (fun _=>hx4)) ?_;refine oa ?_;refine aL ?_;refine jm y (k:=TB zV jX aN x3 oz) (fun R8=>[(0,eP bV),(1,eI jX),(5,eI R8),(6,.v (.bool zV)),(8,eI x3),(17,eS aC.2.2.2.2.1 r0.excess),(18,eI (r0.excess.length:Int)),(19,eI (oz:Int))]) (fun R8=>[ah 3 aC.1 r0.to,ah 3 aC.2.1 r0.left,ah 3 aC.2.2.1 r0.cost,gI (fun _=>True) 22 3 aC.2.2.2.1 r0.from_,ah 3 aC.2.2.2.2.1 r0.excess,ah 3 aC.2.2.2.2.2 r0.price,own bV 172 (nT r0 aC)]) ?_ ?_
  · intro zB hJ2;refine aJ ?_;refine om ?_;refine oe ig ?_;refine om ?_;refine au rfl aH ?_;refine au rfl bK ?_;refine oe dB ?_;refine on ?_;refine cc rfl hM (fun hc6 hM=>?_) (fun hc6 hM=>?_)
    ·refine aT ?_;refine om ?_;refine oa ?_;refine aU (hJ2 hM sS rI)
    refine aM (hJ2 hM sS rI)
  clear hM;rintro R8 hM;dsimp only[TB] at hM ⊢;refine aT ?_;refine om ?_;refine om ?_;refine au rfl aH ?_;refine au rfl aH ?_;obtain⟨FI,hM⟩:=bQ hM;refine au rfl (GX (hr:=fun hg=>dI (tL FI hg))) ?_;refine au rfl kD ?_;refine oe bP ?_;refine oa ?_;refine aU (eU _ _ ?_);clear eU;refine aT ?_;refine oe (dh (hr:=fun _=>by unfold dS;omega)) ?_;refine om ?_;refine aU (hL1 hM sS rI)
 refine bX (hK3 _ _ ?_);clear hK3;dsimp only[adj] at hM;refine aF fun sK gy=>?_;refine aJ ?_;refine oe bK ?_;refine om ?_;refine au rfl aH ?_;refine au rfl dN ?_;refine oe bP ?_;refine on ?_;refine cc rfl hM (fun lY hM=>?_) (fun lY hM=>?_)
 ·refine bg ?_;obtain rfl:=some_inj hM;refine aP (tO (fun w hm=>gK (aC.2.1,aC.2.2.2.2.1,aC.2.2.2.2.2) hm rfl))
 refine aM (gy _ _ ?_);clear gy;refine aJ ?_;refine om ?_;refine om ?_;obtain⟨y8,qR,hM⟩:=bind_some hM;refine aY (nV sA (fun S w hs hP=>aiC _ w bV r0 aC sD jX y8 qR hP) (fun jr=>?_));dsimp only[cA,nA];refine om ?_;refine oe (jl (vs:=[vI y8.1,sL jr.1 y8.2.1])) ?_;refine oe (jl (vs:=[vI y8.1,sL jr.1 y8.2.1])) ?_;refine oa ?_;refine aL ?_;refine aF fun zA kg=>?_;refine fE _ (List.Sublist.refl _) ?_;refine aj 0 rfl aH ?_;refine aj 1 rfl dH ?_;refine aj 2 rfl (ay 6) ?_;refine aj 3 rfl (aD (b:=bV)) ?_;refine aj 4 rfl aH ?_;obtain⟨qK,zQ,hM⟩:=bind_some hM;refine aj 5 rfl (aQ (xs:=r0.excess) 1 (Kn.ah (e:=3) (r:=aC.2.2.2.2.1) hA) (iS zQ)) ?_;refine aj 6 rfl (bE (i:=sD) (xs:=r0.excess) (y:=qK) 0 (Kn.ah (e:=3) (r:=aC.2.2.2.2.1) hA) (fun _=>zQ)) ?_;refine aj 7 rfl aH ?_;refine aj 8 rfl dH ?_;refine aj 9 rfl (ay 6) ?_;refine aj 10 rfl (aD (b:=bV)) ?_;refine aj 11 rfl aH ?_;obtain⟨iw,qB,hM⟩:=bind_some hM;refine aj 12 rfl (aQ (xs:=r0.excess) 1 (Kn.ah (e:=3) (r:=aC.2.2.2.2.1) hA) (iS qB)) ?_
 refine aj 13 rfl (bE (i:=y8.1) (xs:=r0.excess) (y:=iw) 0 (Kn.ah (e:=3) (r:=aC.2.2.2.2.1) hA) (fun _=>qB)) ?_;obtain⟨OZ,hM⟩:=bQ hM;refine aj 14 rfl (GX (hr:=fun hg=>dI OZ)) ?_;refine aj 15 rfl X0 ?_;refine aj 16 rfl dL ?_;refine dK (kg _ _ ?_);clear kg;refine aF fun yE jN=>?_;refine aJ ?_;refine aL ?_;refine aV ?_;refine lq hM (fun (Ap,Gv)=>[(0,eP bV),(5,eI sD),(9,eI y8.1),(10,eS jr.1 y8.2.1),(11,eI Ap),(12,eI Gv)]) (fun (Ap,Gv)=>[ah 3 aC.1 r0.to,ah 3 aC.2.1 r0.left,ah 3 aC.2.2.1 r0.cost,gI (fun _=>True) 22 3 aC.2.2.2.1 r0.from_,ah 3 aC.2.2.2.2.1 r0.excess,ah 3 jr.2 y8.2.2,own bV 172 [vI r0.nodes,vI r0.kW,sL aC.1 r0.to,sL aC.2.1 r0.left,sL aC.2.2.1 r0.cost,sL aC.2.2.2.1 r0.from_,sL aC.2.2.2.2.1 r0.excess,sL jr.2 y8.2.2],ah 3 jr.1 y8.2.1]) sS rI ?_;clear hM;rintro cu ⟨Ap,Gv⟩ hM qM hL2;dsimp only[adh] at hM ⊢;refine aF fun Fh oG=>?_
 refine aJ ?_;refine om ?_;refine oe gH ?_;refine on ?_;refine cc rfl hM (fun hc16 hM=>?_) (fun hc16 hM=>?_)
 ·refine aM (oG _ _ ?_);clear oG;refine aF fun CX mE=>?_;refine aV ?_;refine fE _ (List.Sublist.refl _) ?_;refine aj 0 rfl aH ?_;refine aj 1 rfl aH ?_;refine aj 2 rfl dH ?_;refine aj 3 rfl (ay 3) ?_;refine aj 4 rfl (aD (b:=bV)) ?_;refine aj 5 rfl aH ?_;refine aj 6 rfl aH ?_;obtain⟨fK,pW,hM⟩:=bind_some hM;refine aj 7 rfl (aQ (xs:=y8.2.1) 1 (Kn.ah (e:=3) (r:=jr.1) hA) (iS pW)) ?_;refine aj 8 rfl (bE (i:=Gv) (xs:=y8.2.1) (y:=fK) 0 (Kn.ah (e:=3) (r:=jr.1) hA) (fun _=>pW)) ?_;obtain⟨lF,uV,hM⟩:=bind_some hM;refine aj 9 rfl (aQ (xs:=r0.left) 1 (Kn.ah (e:=3) (r:=aC.2.1) hA) (iS uV)) ?_;refine aj 10 rfl (bE (i:=fK) (xs:=r0.left) (y:=lF) 0 (Kn.ah (e:=3) (r:=aC.2.1) hA) (fun _=>uV)) ?_;refine aj 11 rfl X0 ?_;refine aj 12 rfl dL ?_;refine dK (mE _ _ ?_);clear mE;refine fE _ (List.Sublist.refl _) ?_;refine aj 0 rfl aH ?_;refine aj 1 rfl dH ?_;refine aj 2 rfl (ay 2) ?_;refine aj 3 rfl (aD (b:=bV)) ?_;refine aj 4 rfl aH ?_;refine aj 5 rfl aH ?_;obtain⟨x21,vT,hM⟩:=bind_some hM;refine aj 6 rfl (aQ (xs:=y8.2.1) 1 (Kn.ah (e:=3) (r:=jr.1) hA) (iS vT)) ?_;refine aj 7 rfl (bE (i:=Gv) (xs:=y8.2.1) (y:=x21) 0 (Kn.ah (e:=3) (r:=jr.1) hA) (fun _=>vT)) ?_;refine aj 8 rfl Lg ?_
  obtain⟨x23,hx24,hM⟩:=bind_some hM;refine aj 9 rfl (aQ (xs:=r0.to) 1 (Kn.ah (e:=3) (r:=aC.1) hA) (iS hx24)) ?_;refine aj 10 rfl (bE (i:=(vQ .i64 x21 1)) (xs:=r0.to) (y:=x23) 0 (Kn.ah (e:=3) (r:=aC.1) hA) (fun _=>hx24)) ?_;refine aj 11 rfl dL ?_;refine dK (hL2 hM sS rI)
 refine bX (jN _ _ ?_);clear jN;dsimp only[adk] at hM;refine aF fun CY mF=>?_;refine aJ ?_;refine aL ?_;refine aV ?_;refine lp (aC.2.1,aC.2.2.2.2.1) hM (fun (vW,vX,jY) (Cy,Cz)=>[(0,eP bV),(5,eI sD),(10,eS jr.1 y8.2.1),(11,eI Ap),(13,eI jY)]) (fun (vW,vX,jY) (Cy,Cz)=>[ah 3 aC.1 r0.to,ah 3 Cy vW,ah 3 aC.2.2.1 r0.cost,gI (fun _=>True) 22 3 aC.2.2.2.1 r0.from_,ah 3 Cz vX,ah 3 jr.2 y8.2.2,own bV 172 [vI r0.nodes,vI r0.kW,sL aC.1 r0.to,sL Cy vW,sL aC.2.2.1 r0.cost,sL aC.2.2.2.1 r0.from_,sL Cz vX,sL jr.2 y8.2.2],ah 3 jr.1 y8.2.1]) sS rI ?_;clear hM;rintro gY ⟨vW,vX,jY⟩ ⟨Cy,Cz⟩ hM zC hL3;dsimp only[adi] at hM ⊢;refine aF fun CZ ni=>?_;refine aJ ?_;refine om ?_;refine oe gH ?_;refine on ?_
 refine cc rfl hM (fun hc25 hM=>?_) (fun hc25 hM=>?_)
 ·refine aM (ni _ _ ?_);clear ni;refine aF fun Gy qz=>?_;refine aV ?_;refine aT ?_;refine om ?_;refine om ?_;refine om ?_;obtain⟨Ai,hx27,hM⟩:=bind_some hM;refine oe (aQ (xs:=y8.2.1) 1 (Kn.ah (e:=3) (r:=jr.1) hA) (iS hx27)) ?_;refine oe (bE (i:=jY) (xs:=y8.2.1) (y:=Ai) 0 (Kn.ah (e:=3) (r:=jr.1) hA) (fun _=>hx27)) ?_;refine om ?_;obtain⟨y28,hy29,hM⟩:=bind_some hM;refine aY (nV sA (fun S w hs hP=>adB _ w bV (fD.mk r0.nodes r0.kW r0.to vW r0.cost r0.from_ vX y8.2.2) (aC.1,Cy,aC.2.2.1,aC.2.2.2.1,Cz,jr.2) Ai Ap y28 hy29 hP) (fun Cr=>?_));dsimp only[cA,nA];refine aU (qz _ _ ?_);clear qz;refine fE _ (List.Sublist.refl _) ?_;refine aj 0 rfl aH ?_;refine aj 1 rfl dH ?_;refine aj 2 rfl (ay 2) ?_;refine aj 3 rfl (aD (b:=bV)) ?_;refine aj 4 rfl aH ?_;refine aj 5 rfl aH ?_;obtain⟨x31,hx32,hM⟩:=bind_some hM;refine aj 6 rfl (aQ (xs:=y8.2.1) 1 (Kn.ah (e:=3) (r:=jr.1) hA) (iS hx32)) ?_;refine aj 7 rfl (bE (i:=jY) (xs:=y8.2.1) (y:=x31) 0 (Kn.ah (e:=3) (r:=jr.1) hA) (fun _=>hx32)) ?_;refine aj 8 rfl Lg ?_;obtain⟨iW,hx34,hM⟩:=bind_some hM;refine aj 9 rfl (aQ (xs:=r0.to) 1 (Kn.ah (e:=3) (r:=aC.1) hA) (iS hx34)) ?_;refine aj 10 rfl (bE (i:=(vQ .i64 x31 1)) (xs:=r0.to) (y:=iW) 0 (Kn.ah (e:=3) (r:=aC.1) hA) (fun _=>hx34)) ?_
  refine aj 11 rfl dL ?_;refine dK (hL3 (Cr.1,Cr.2) hM sS rI)
 refine bX (mF _ _ ?_);clear mF;dsimp only[adl] at hM;refine bg ?_;obtain rfl:=some_inj hM;refine aP (tO (fun w hm=>gK (Cy,Cz,jr.2) hm rfl))
def TJ(cu:((List Int)×(List Int)×Nat)→Option ((List Int)×(List Int)×(List Int)))(vC:Nat):((List Int)×(List Int))→Option ((List Int)×(List Int)×(List Int)):=fun (LX,LY)=>
 cu (LX,LY,vC+1)
def adF(tF:Int)(aN:((List Int)×(List Int)×(List Int)×Int)→Option ((List Int)×(List Int)×(List Int)))(bZ:Bool×(List Int)×(List Int)×(List Int)):Unit→Option ((List Int)×(List Int)×(List Int)):=fun _=>
 aX (decide (2≠0)&&bA (tF.tdiv 2))<|
 aN (bZ.2.1,bZ.2.2.1,bZ.2.2.2,(tF.tdiv 2))
def adE(r0:fD)(tF:Int)(aN:((List Int)×(List Int)×(List Int)×Int)→Option ((List Int)×(List Int)×(List Int)))(gY:((List Int)×(List Int)×(List Int))→Option ((List Int)×(List Int)×(List Int))):((List Int)×(List Int)×(List Int))→Option ((List Int)×(List Int)×(List Int)):=fun (vW,vX,JE)=>
 (Yc (fD.mk r0.nodes r0.kW r0.to vW r0.cost r0.from_ vX JE) tF).bind fun bZ=>
 if bZ.1 then
  (gY (bZ.2.1,bZ.2.2.1,bZ.2.2.2))
 else
  (adF tF aN bZ ())
def adG(r0:fD)(tF:Int)(aN:((List Int)×(List Int)×(List Int)×Int)→Option ((List Int)×(List Int)×(List Int)))(uX:List Int)(AU:List Int)(uW:List Int):Unit→Option ((List Int)×(List Int)×(List Int)):=fun _=>
 iter (adE r0 tF aN) FUEL (uX,AU,uW)
def adD(r0:fD)(tF:Int)(uW:List Int)(aN:((List Int)×(List Int)×(List Int)×Int)→Option ((List Int)×(List Int)×(List Int)))(cu:((List Int)×(List Int)×Nat)→Option ((List Int)×(List Int)×(List Int))):((List Int)×(List Int)×Nat)→Option ((List Int)×(List Int)×(List Int)):=fun (uX,AU,vC)=>
 if decide ((vC:Int)<(r0.to.length:Int)) then
  ((idx uX (vC:Int)).bind fun x4=>
  (dW (decide (tF≤x4)) default (TH (fD.mk r0.nodes r0.kW r0.to uX r0.cost r0.from_ AU uW) (vC:Int))).bind fun y6=>
  if (decide (tF≤x4)&&decide (y6<0)) then
   ((idx uX (vC:Int)).bind fun x9=>
   (TI (fD.mk r0.nodes r0.kW r0.to uX r0.cost r0.from_ AU uW) (vC:Int) x9).bind fun fF=>
   TJ cu vC (fF.1,fF.2))
  else
   (TJ cu vC (uX,AU)))
 else
  (adG r0 tF aN uX AU uW ())
def adC(r0:fD)(aN:((List Int)×(List Int)×(List Int)×Int)→Option ((List Int)×(List Int)×(List Int))):((List Int)×(List Int)×(List Int)×Int)→Option ((List Int)×(List Int)×(List Int)):=fun (JC,JD,uW,tF)=>
 if decide (1≤tF) then
  (iter (adD r0 tF uW aN) FUEL (JC,JD,0))
 else
  (some (JC,JD,uW))
def Yh(r0:fD):Option ((List Int)×(List Int)×(List Int)):=
 iter (adC r0) FUEL (r0.left,r0.excess,r0.price,2097152)
theorem aiF(S:bF)(w:World)(bV:Nat)(r0:fD)(aC:ak.R fD)(y:(List Int)×(List Int)×(List Int))(hM:Yh r0=some y)(hP:Pre S [own bV 172 (nT r0 aC),ah 3 aC.1 r0.to,ah 3 aC.2.1 r0.left,ah 3 aC.2.2.1 r0.cost,gI (fun _=>True) 22 3 aC.2.2.2.1 r0.from_,ah 3 aC.2.2.2.2.1 r0.excess,ah 3 aC.2.2.2.2.2 r0.price] w):
   Calls Tryz.prog 94 #[vP bV] w (Post (β:=(SR (ak.R Int))×(SR (ak.R Int))×(SR (ak.R Int))) S [own bV 172 (nT r0 aC),ah 3 aC.1 r0.to,ah 3 aC.2.1 r0.left,ah 3 aC.2.2.1 r0.cost,gI (fun _=>True) 22 3 aC.2.2.2.1 r0.from_,ah 3 aC.2.2.2.2.1 r0.excess,ah 3 aC.2.2.2.2.2 r0.price] (fun g=> .tuple #[]) (fun g=>[own bV 172 [vI r0.nodes,vI r0.kW,sL aC.1 r0.to,sL g.1 y.1,sL aC.2.2.1 r0.cost,sL aC.2.2.2.1 r0.from_,sL g.2.1 y.2.1,sL g.2.2 y.2.2],ah 3 aC.1 r0.to,ah 3 g.1 y.1,ah 3 aC.2.2.1 r0.cost,gI (fun _=>True) 22 3 aC.2.2.2.1 r0.from_,ah 3 g.2.1 y.2.1,ah 3 g.2.2 y.2.2]) w):=by
 refine bW (args:=[_]) Tryz.func94 rfl (hP.start) rfl ?_;unfold Yh at hM;refine bg ?_;refine aV ?_;refine lp (aC.2.1,aC.2.2.2.2.1,aC.2.2.2.2.2) hM (fun (JC,JD,uW,tF) (MU,MV,Cw)=>[(0,eP bV),(2,eI tF)]) (fun (JC,JD,uW,tF) (MU,MV,Cw)=>[ah 3 aC.1 r0.to,ah 3 MU JC,ah 3 aC.2.2.1 r0.cost,gI (fun _=>True) 22 3 aC.2.2.2.1 r0.from_,ah 3 MV JD,ah 3 Cw uW,own bV 172 [vI r0.nodes,vI r0.kW,sL aC.1 r0.to,sL MU JC,sL aC.2.2.1 r0.cost,sL aC.2.2.2.1 r0.from_,sL MV JD,sL Cw uW]]) sS rI ?_;clear hM;rintro aN ⟨JC,JD,uW,tF⟩ ⟨MU,MV,Cw⟩ hM fQ hL1;dsimp only[adC] at hM ⊢;refine aF fun K2 hK2=>?_;refine aJ ?_;refine oe ig ?_;refine on ?_;refine cc rfl hM (fun hc1 hM=>?_) (fun hc1 hM=>?_)
 ·refine aM (hK2 _ _ ?_);clear hK2;refine aF fun K4 hK4=>?_;refine aV ?_;refine aF fun K5 bT=>?_;refine aJ ?_;refine oe dH ?_;refine oe (ay 2) ?_;refine oe (aD (b:=bV)) ?_;refine gU (fun w hm=>Kn.len (Kn.ah (e:=3) (r:=aC.1) hA) hm) fun hl2=>?_;refine oe bf ?_;refine om ?_;refine on ?_;refine aV ?_;refine lp (MU,MV) hM (fun (uX,AU,vC) (Cx,HZ)=>[(0,eP bV),(2,eI tF),(12,eI (r0.to.length:Int)),(13,eI (vC:Int))]) (fun (uX,AU,vC) (Cx,HZ)=>[ah 3 aC.1 r0.to,ah 3 Cx uX,ah 3 aC.2.2.1 r0.cost,gI (fun _=>True) 22 3 aC.2.2.2.1 r0.from_,ah 3 HZ AU,ah 3 Cw uW,own bV 172 [vI r0.nodes,vI r0.kW,sL aC.1 r0.to,sL Cx uX,sL aC.2.2.1 r0.cost,sL aC.2.2.2.1 r0.from_,sL HZ AU,sL Cw uW]]) sS rI ?_;clear hM;rintro cu ⟨uX,AU,vC⟩ ⟨Cx,HZ⟩ hM qM hL2;dsimp only[adD] at hM ⊢;refine aF fun K7 eU=>?_
  refine aT ?_;refine oe bK ?_;refine aU (eU _ _ ?_);clear eU;refine aF fun K8 fu=>?_;refine cc rfl hM (fun hc3 hM=>?_) (fun hc3 hM=>?_)
  · have YM:=of_decide_eq_true hc3;refine aM (fu _ _ ?_);clear fu;refine jn ((SR (ak.R Int))×(SR (ak.R Int))) y (k:=TJ cu vC) (fun (LX,LY) (QO,QS)=>[(0,eP bV),(2,eI tF),(12,eI (r0.to.length:Int)),(13,eI (vC:Int))]) (fun (LX,LY) (QO,QS)=>[ah 3 aC.1 r0.to,ah 3 QO LX,ah 3 aC.2.2.1 r0.cost,gI (fun _=>True) 22 3 aC.2.2.2.1 r0.from_,ah 3 QS LY,ah 3 Cw uW,own bV 172 [vI r0.nodes,vI r0.kW,sL aC.1 r0.to,sL QO LX,sL aC.2.2.1 r0.cost,sL aC.2.2.2.1 r0.from_,sL QS LY,sL Cw uW]]) ?_ ?_
    ·intro IU hJ3;refine aV ?_;refine aJ ?_;refine aL ?_;refine aJ ?_;refine oe dH ?_;refine oe (ay 3) ?_;refine oe (aD (b:=bV)) ?_;refine om ?_;obtain⟨x4,hx5,hM⟩:=bind_some hM;refine oe (aQ (xs:=uX) 1 (Kn.ah (e:=3) (r:=Cx) hA) (iS hx5)) ?_;refine oe (bE (i:=(vC:Int)) (xs:=uX) (y:=x4) 0 (Kn.ah (e:=3) (r:=Cx) hA) (fun _=>hx5)) ?_;refine om ?_;refine oe ig ?_;refine om ?_;refine au rfl aH ?_;refine au rfl aH ?_;obtain⟨y6,rZ,hM⟩:=bind_some hM;refine cg rfl (fun hg hs=>adA _ _ bV (fD.mk r0.nodes r0.kW r0.to uX r0.cost r0.from_ AU uW) (aC.1,Cx,aC.2.2.1,aC.2.2.2.1,HZ,Cw) (vC:Int) y6 (dF rZ hg) (bq hs) (JK hA hs) ⟨(kT hs),(kT hs),(kT hs),(Kn.lend (Kn.Wy (e:=22) (r:=aC.2.2.2.1) hA) hs),(kT hs),(kT hs)⟩) ?_;refine au rfl bK ?_;refine oe dB ?_;refine on ?_;refine cc rfl hM (fun hc8 hM=>?_) (fun hc8 hM=>?_)
     ·refine aT ?_;refine om ?_;refine om ?_;refine om ?_;refine oe dH ?_;refine oe (ay 3) ?_;refine oe (aD (b:=bV)) ?_;refine om ?_;obtain⟨x9,mG,hM⟩:=bind_some hM;refine oe (aQ (xs:=uX) 1 (Kn.ah (e:=3) (r:=Cx) hA) (iS mG)) ?_;refine oe (bE (i:=(vC:Int)) (xs:=uX) (y:=x9) 0 (Kn.ah (e:=3) (r:=Cx) hA) (fun _=>mG)) ?_;obtain⟨fF,yP,hM⟩:=bind_some hM;refine aY (nV sA (fun S w hs hP=>adB _ w bV (fD.mk r0.nodes r0.kW r0.to uX r0.cost r0.from_ AU uW) (aC.1,Cx,aC.2.2.1,aC.2.2.2.1,HZ,Cw) (vC:Int) x9 fF yP hP) (fun gN=>?_));dsimp only[cA,nA];refine aU (hJ3 (gN.1,gN.2) hM sS rI)
     refine aM (hJ3 (Cx,HZ) hM sS rI)
    clear hM;rintro⟨LX,LY⟩ ⟨QO,QS⟩ hM;dsimp only[TJ] at hM ⊢;refine aT ?_;refine oe (dh (hr:=fun _=>by unfold dS;omega)) ?_;refine om ?_;refine aU (hL2 (QO,QS) hM sS rI)
  refine bX (bT _ _ ?_);clear bT;dsimp only[adG] at hM;refine aV ?_;refine lp (Cx,HZ,Cw) hM (fun (vW,vX,JE) (Cy,Cz,QN)=>[(0,eP bV),(2,eI tF)]) (fun (vW,vX,JE) (Cy,Cz,QN)=>[ah 3 aC.1 r0.to,ah 3 Cy vW,ah 3 aC.2.2.1 r0.cost,gI (fun _=>True) 22 3 aC.2.2.2.1 r0.from_,ah 3 Cz vX,ah 3 QN JE,own bV 172 [vI r0.nodes,vI r0.kW,sL aC.1 r0.to,sL Cy vW,sL aC.2.2.1 r0.cost,sL aC.2.2.2.1 r0.from_,sL Cz vX,sL QN JE]]) sS rI ?_;clear hM;rintro gY ⟨vW,vX,JE⟩ ⟨Cy,Cz,QN⟩ hM zC hL3;dsimp only[adE] at hM ⊢;refine aF fun pR eH=>?_;refine aJ ?_;refine om ?_;obtain⟨bZ,pX,hM⟩:=bind_some hM;refine aY (nV sA (fun S w hs hP=>aiB _ w bV (fD.mk r0.nodes r0.kW r0.to vW r0.cost r0.from_ vX JE) (aC.1,Cy,aC.2.2.1,aC.2.2.2.1,Cz,QN) tF bZ pX hP) (fun r16=>?_))
  dsimp only[cA,nA];refine on ?_;refine cc rfl hM (fun hc17 hM=>?_) (fun hc17 hM=>?_)
  · refine aM (eH _ _ ?_);clear eH;refine aV ?_;refine aM (hL3 (r16.1,r16.2.1,r16.2.2) hM sS rI)
  refine bX (hK4 _ _ ?_);clear hK4;dsimp only[adF] at hM;refine aT ?_;refine om ?_;obtain⟨O1,hM⟩:=bQ hM;refine oe (acS (hr:=fun hg=>afm O1)) ?_;refine oa ?_;refine aU (hL1 (r16.1,r16.2.1,r16.2.2) hM sS rI)
 obtain rfl:=some_inj hM;refine bX (G8 rfl (fun w hm=>gK (MU,MV,Cw) hm rfl))
def adw:Unit→Option Bool:=fun _=>
 some true
def adv(r0:fD)(aN:Int→Option Bool):Int→Option Bool:=fun bI=>
 aX (decide (2≠0)&&bA ((r0.to.length:Int).tdiv 2))<|
 if decide (bI<((r0.to.length:Int).tdiv 2)) then
  (aX (bA (2*bI))<|
  aX (bA ((2*bI)+1))<|
  (idx r0.left ((2*bI)+1)).bind fun x5=>
  if decide (0<x5) then
   (some false)
  else
   (aX (bA (bI+1))<|
   aN (bI+1)))
 else
  (adw ())
def Yf(r0:fD):Option Bool:=
 iter (adv r0) FUEL r0.kW
theorem aiD(S:bF)(w:World)(bV:Nat)(r0:fD)(aC:ak.R fD)(y:Bool)(hM:Yf r0=some y)(hS:sB S w)(Po:S bV∧w.heap[bV]?=some (.cells (nT r0 aC).toArray 172 (0,0)))(ku:ak.ok S w aC r0):
   Calls Tryz.prog 95 #[vP bV] w (dw w (.bool y)):=by
 refine bW (args:=[_]) Tryz.func95 rfl ((pre_nil hS).start |>.z8 Po|>.aal ku) rfl ?_;unfold Yf at hM;refine bg ?_;refine aF fun K2 hK2=>?_;refine aJ ?_;refine oe dH ?_;refine oe (ay 1) ?_;refine oe (pV (b:=bV)) ?_;refine aL ?_;refine aV ?_;refine lq hM (fun bI=>[(0,eP bV),(3,eI bI)]) (fun bI=>[iL r0.to aC.1,iL r0.left aC.2.1,iL r0.cost aC.2.2.1,iL r0.from_ aC.2.2.2.1,iL r0.excess aC.2.2.2.2.1,iL r0.price aC.2.2.2.2.2,kV bV 172 (nT r0 aC)]) sS rI ?_
 clear hM;rintro aN bI hM fQ hL1;dsimp only[adv] at hM ⊢;refine aF fun K4 hK4=>?_;refine aJ ?_;refine om ?_;refine oe dH ?_;refine oe (ay 2) ?_;refine oe (pV (b:=bV)) ?_;refine oe bf ?_;obtain⟨hI1,hM⟩:=bQ hM;refine oe (acS (hr:=fun hg=>afm hI1)) ?_;refine oe bK ?_;refine on ?_;refine cc rfl hM (fun hc2 hM=>?_) (fun hc2 hM=>?_)
 ·refine aM (hK4 _ _ ?_);clear hK4;refine aF fun K6 bU=>?_;refine aV ?_;refine aJ ?_;refine oe dH ?_;refine oe (ay 3) ?_;refine oe (pV (b:=bV)) ?_;refine om ?_;obtain⟨Yp,hM⟩:=bQ hM;refine oe (rC (hr:=fun hg=>dI Yp)) ?_;refine oP hM fun hM=>?_;obtain⟨x5,hx6,hM⟩:=bind_some hM;refine oe (aQ (xs:=r0.left) 1 (kG r0.left aC.2.1) (iS hx6)) ?_;refine oe (bE (i:=((2*bI)+1)) (xs:=r0.left) (y:=x5) 0 (kG r0.left aC.2.1) (fun _=>hx6)) ?_;refine oe eO ?_;refine on ?_;refine cc rfl hM (fun lY hM=>?_) (fun lY hM=>?_)
  · refine bg ?_;exact aP (bD hM)
  refine aM (bU _ _ ?_);clear bU;refine aT ?_;refine om ?_;refine oP hM fun hM=>?_;refine oa ?_;refine aU (hL1 hM sS rI)
 refine bX (hK2 _ _ ?_);clear hK2;dsimp only[adw] at hM;refine bg ?_;exact aP (bD hM)
def TG(sW:Nat)(cu:((List Int)×Bool×Nat)→Option (List Int)):((List Int)×Bool)→Option (List Int):=fun (Mi,Ow)=>
 aX (bA ((sW:Int)+1))<|
 cu (Mi,Ow,sW+1)
def ady(r0:fD)(aN:((List Int)×Bool)→Option (List Int))(cu:((List Int)×Bool×Nat)→Option (List Int)):((List Int)×Bool×Nat)→Option (List Int):=fun (tV,KT,sW)=>
 if decide ((sW:Int)<(2*r0.kW)) then
  ((idx r0.to (vQ .i64 (sW:Int) 1)).bind fun x8=>
  (idx r0.to (sW:Int)).bind fun x10=>
  (idx r0.left (sW:Int)).bind fun dz=>
  (dW (decide (0<dz)) default (idx tV x8)).bind fun qL=>
  (dW (decide (0<dz)) default (idx r0.cost (sW:Int))).bind fun uj=>
  aX (!(decide (0<dz))||bA (qL+uj))<|
  (dW (decide (0<dz)) default (idx tV x10)).bind fun lF=>
  if (decide (0<dz)&&decide ((qL+uj)<lF)) then
   ((idx tV x8).bind fun ko=>
   (idx r0.cost (sW:Int)).bind fun x24=>
   aX (bA (ko+x24))<|
   (idx tV x10).bind fun x27=>
   TG sW cu ((tV.set x10.toNat (ko+x24)),true))
  else
   (TG sW cu (tV,KT)))
 else
  (aN (tV,KT))
def adz(Gb:List Int):Unit→Option (List Int):=fun _=>
 some Gb
def adx(r0:fD)(aN:((List Int)×Bool)→Option (List Int)):((List Int)×Bool)→Option (List Int):=fun (Gb,Ov)=>
 if Ov then
  (aX (bA (2*r0.kW))<|
  iter (ady r0 aN) FUEL (Gb,false,0))
 else
  (adz Gb ())
def Yg(r0:fD):Option (List Int):=
 (mk (α:=Int) 0 r0.nodes).bind fun m1=>
 iter (adx r0) FUEL (m1,true)
theorem aiE(S:bF)(w:World)(bV:Nat)(r0:fD)(aC:ak.R fD)(y:(List Int))(hM:Yg r0=some y)(hS:sB S w)(Po:S bV∧w.heap[bV]?=some (.cells (nT r0 aC).toArray 172 (0,0)))(ku:ak.ok S w aC r0):
   Calls Tryz.prog 96 #[vP bV] w (Post (β:=(ak.R (List Int))) S [] (fun g=>sL g y) (fun g=>[ah 3 g y]) w):=by
 refine bW (args:=[_]) Tryz.func96 rfl ((pre_nil hS).start |>.z8 Po|>.aal ku) rfl ?_;unfold Yg at hM;refine bg ?_;refine aJ ?_;refine oe dH ?_;refine oe (ay 0) ?_;refine oe (pV (b:=bV)) ?_;obtain⟨m1,hm2,hM⟩:=bind_some hM;refine aY (yw (α:=Int) (e:=3) 0 () hm2 (fun _ _=>trivial) (fun r3 hr3=>?_));refine aL ?_;refine aF fun K3 hK3=>?_;refine bg ?_;refine aV ?_;refine lq hM (fun (Gb,Ov)=>[(0,eP bV),(3,eS r3 Gb),(4,.v (.bool Ov))]) (fun (Gb,Ov)=>[iL r0.to aC.1,iL r0.left aC.2.1,iL r0.cost aC.2.2.1,iL r0.from_ aC.2.2.2.1,iL r0.excess aC.2.2.2.2.1,iL r0.price aC.2.2.2.2.2,kV bV 172 (nT r0 aC),ah 3 r3 Gb]) sS rI ?_
 clear hM;rintro aN ⟨Gb,Ov⟩ hM fQ hL1;dsimp only[adx] at hM ⊢;refine aF fun K5 bT=>?_;refine aJ ?_;refine on ?_;refine cc rfl hM (fun hc4 hM=>?_) (fun hc4 hM=>?_)
 ·refine aM (bT _ _ ?_);clear bT;refine aV ?_;refine bg ?_;refine aJ ?_;refine oe dH ?_;refine oe (ay 1) ?_;refine oe (pV (b:=bV)) ?_;obtain⟨FI,hM⟩:=bQ hM;refine oe (rC (hr:=fun hg=>dI FI)) ?_;refine om ?_;refine on ?_;refine aV ?_;refine lq hM (fun (tV,KT,sW)=>[(0,eP bV),(3,eS r3 tV),(4,.v (.bool KT)),(18,eI (2*r0.kW)),(19,eI (sW:Int))]) (fun (tV,KT,sW)=>[iL r0.to aC.1,iL r0.left aC.2.1,iL r0.cost aC.2.2.1,iL r0.from_ aC.2.2.2.1,iL r0.excess aC.2.2.2.2.1,iL r0.price aC.2.2.2.2.2,kV bV 172 (nT r0 aC),ah 3 r3 tV]) sS rI ?_;clear hM;rintro cu ⟨tV,KT,sW⟩ hM qM hL2
  dsimp only[ady] at hM ⊢;refine sr ?_;refine oe bK ?_;refine on ?_;refine aF fun sK gy=>?_;refine cc rfl hM (fun hc6 hM=>?_) (fun hc6 hM=>?_)
  · refine aM (gy _ _ ?_);clear gy;refine jm y (k:=TG sW cu) (fun (Mi,Ow)=>[(0,eP bV),(3,eS r3 Mi),(4,.v (.bool Ow)),(18,eI (2*r0.kW)),(19,eI (sW:Int))]) (fun (Mi,Ow)=>[iL r0.to aC.1,iL r0.left aC.2.1,iL r0.cost aC.2.2.1,iL r0.from_ aC.2.2.2.1,iL r0.excess aC.2.2.2.2.1,iL r0.price aC.2.2.2.2.2,kV bV 172 (nT r0 aC),ah 3 r3 Mi]) ?_ ?_
    ·intro zB hJ2;refine aV ?_;refine aJ ?_;refine aL ?_;refine aF fun vN iI=>?_;refine fE _ (List.Sublist.refl _) ?_;refine aj 0 rfl aH ?_;refine aj 1 rfl dH ?_;refine aj 2 rfl (ay 2) ?_;refine aj 3 rfl (pV (b:=bV)) ?_;refine aj 4 rfl aH ?_;refine aj 5 rfl Lg ?_;obtain⟨x8,og,hM⟩:=bind_some hM;refine aj 6 rfl (aQ (xs:=r0.to) 1 (kG r0.to aC.1) (iS og)) ?_;refine aj 7 rfl (bE (i:=(vQ .i64 (sW:Int) 1)) (xs:=r0.to) (y:=x8) 0 (kG r0.to aC.1) (fun _=>og)) ?_;refine aj 8 rfl aH ?_;refine aj 9 rfl dH ?_;refine aj 10 rfl (ay 2) ?_;refine aj 11 rfl (pV (b:=bV)) ?_;refine aj 12 rfl aH ?_;obtain⟨x10,lT,hM⟩:=bind_some hM;refine aj 13 rfl (aQ (xs:=r0.to) 1 (kG r0.to aC.1) (iS lT)) ?_;refine aj 14 rfl (bE (i:=(sW:Int)) (xs:=r0.to) (y:=x10) 0 (kG r0.to aC.1) (fun _=>lT)) ?_;refine aj 15 rfl dL ?_;refine aj 16 rfl dL ?_;refine dK (iI _ _ ?_);clear iI;refine aF fun rU fT=>?_;refine fE _ (List.Sublist.refl _) ?_;refine aj 0 rfl aH ?_;refine aj 1 rfl dH ?_;refine aj 2 rfl (ay 3) ?_
     refine aj 3 rfl (pV (b:=bV)) ?_;refine aj 4 rfl aH ?_;obtain⟨dz,lU,hM⟩:=bind_some hM;refine aj 5 rfl (aQ (xs:=r0.left) 1 (kG r0.left aC.2.1) (iS lU)) ?_;refine aj 6 rfl (bE (i:=(sW:Int)) (xs:=r0.left) (y:=dz) 0 (kG r0.left aC.2.1) (fun _=>lU)) ?_;refine aj 7 rfl eO ?_;refine aj 8 rfl aH ?_;refine bO 9 rfl rfl aH ?_;refine bO 10 rfl rfl aH ?_;obtain⟨qL,zR,hM⟩:=bind_some hM;refine bO 11 rfl rfl (aQ (xs:=tV) 1 (Kn.ah (e:=3) (r:=r3) hA) (fun hg=>let h:=jG (dF zR hg);⟨h.1,h.2.1⟩)) ?_;refine bO 12 rfl rfl (bE (i:=x8) (xs:=tV) (y:=qL) 0 (Kn.ah (e:=3) (r:=r3) hA) (fun hg=>dF zR hg)) ?_;refine bO 13 rfl rfl aH ?_;refine bO 14 rfl rfl dH ?_;refine bO 15 rfl rfl (ay 4) ?_;refine bO 16 rfl rfl (pV (b:=bV)) ?_;refine bO 17 rfl rfl aH ?_;obtain⟨uj,zS,hM⟩:=bind_some hM;refine bO 18 rfl rfl (aQ (xs:=r0.cost) 1 (kG r0.cost aC.2.2.1) (fun hg=>let h:=jG (dF zS hg);⟨h.1,h.2.1⟩)) ?_;refine bO 19 rfl rfl (bE (i:=(sW:Int)) (xs:=r0.cost) (y:=uj) 0 (kG r0.cost aC.2.2.1) (fun hg=>dF zS hg)) ?_;obtain⟨O1,hM⟩:=bQ hM;refine bO 20 rfl rfl (dh (hr:=fun hg=>dI (tL O1 hg))) ?_
     refine bO 21 rfl rfl aH ?_;refine bO 22 rfl rfl aH ?_;obtain⟨lF,uV,hM⟩:=bind_some hM;refine bO 23 rfl rfl (aQ (xs:=tV) 1 (Kn.ah (e:=3) (r:=r3) hA) (fun hg=>let h:=jG (dF uV hg);⟨h.1,h.2.1⟩)) ?_;refine bO 24 rfl rfl (bE (i:=x10) (xs:=tV) (y:=lF) 0 (Kn.ah (e:=3) (r:=r3) hA) (fun hg=>dF uV hg)) ?_;refine bO 25 rfl rfl bK ?_;refine aj 26 rfl dB ?_;refine dK (fT _ _ ?_);clear fT;refine cc rfl hM (fun hc21 hM=>?_) (fun hc21 hM=>?_)
     ·refine aF fun zA kg=>?_;refine mZ [iL r0.to aC.1,iL r0.left aC.2.1,iL r0.cost aC.2.2.1,iL r0.from_ aC.2.2.2.1,iL r0.excess aC.2.2.2.2.1,iL r0.price aC.2.2.2.2.2,kV bV 172 (nT r0 aC),ah 3 r3 tV] 15 ?_;refine aI 0 rfl aH ?_;refine aI 1 rfl aH ?_;refine aI 2 rfl aH ?_;refine aI 3 rfl aH ?_;obtain⟨ko,Dw,hM⟩:=bind_some hM;refine aI 4 rfl (aQ (xs:=tV) 1 (Kn.ah (e:=3) (r:=r3) hA) (iS Dw)) ?_;refine aI 5 rfl (bE (i:=x8) (xs:=tV) (y:=ko) 0 (Kn.ah (e:=3) (r:=r3) hA) (fun _=>Dw)) ?_;refine aI 6 rfl aH ?_;refine aI 7 rfl dH ?_;refine aI 8 rfl (ay 4) ?_;refine aI 9 rfl (pV (b:=bV)) ?_;refine aI 10 rfl aH ?_;obtain⟨x24,hx25,hM⟩:=bind_some hM;refine aI 11 rfl (aQ (xs:=r0.cost) 1 (kG r0.cost aC.2.2.1) (iS hx25)) ?_;refine aI 12 rfl (bE (i:=(sW:Int)) (xs:=r0.cost) (y:=x24) 0 (kG r0.cost aC.2.2.1) (fun _=>hx25)) ?_
      obtain⟨Jf,hM⟩:=bQ hM;refine aI 13 rfl (dh (hr:=fun hg=>dI Jf)) ?_;obtain⟨x27,hx28,hM⟩:=bind_some hM;refine aI 14 rfl (aQ (xs:=tV) 1 (Kn.ah (e:=3) (r:=r3) hA) (iS hx28)) ?_;refine mX rfl (qm (r:=r3) (i:=x10) (xs:=tV) (u:=x27) (vs:=[vI (ko+x24)]) 0 (ko+x24) hx28 rfl (fun _ _ h=>h) uA ?_);have hx29:=nP (u:=(ko+x24)) hx28;refine mW (kg _ _ ?_);clear kg;refine aT ?_;refine oa ?_;refine aU (hJ2 hM ⟨rfl,(by simp only[List.length_set,eS,sL];rfl),rfl,rfl,rfl,trivial⟩ rI)
     refine aM (hJ2 hM sS rI)
    clear hM;rintro⟨Mi,Ow⟩ hM;dsimp only[TG] at hM ⊢;refine aT ?_;refine oP hM fun hM=>?_;refine om ?_;refine aU (hL2 hM sS rI)
  refine bX (hL1 hM sS rI)
 refine bX (hK3 _ _ ?_);clear hK3;dsimp only[adz] at hM;refine aJ ?_;refine aL ?_;obtain rfl:=some_inj hM;refine aP (tO (fun w hm=>gK r3 hm rfl))
end Go.Proofs.YtcalibhfgdncaaaGreat
