/- Models of functions, and that the code computes them. -/
import Derived.Test.YtcalibhfgdncaaaGreatPq
import Derived.Test.YtcalibhfgdncaaaGreatPr
import Derived.Test.YtcalibhfgdncaaaGreatWa
set_option linter.all false
namespace Go.Proofs.YtcalibhfgdncaaaGreat
open Go.Dc Go.RowKit
set_option maxRecDepth 10000
def aap(p0:Plan):Unit→Option Int:=fun _=>
 if (decide (p0.eX<2)||decide (7200<p0.eX)) then
  (some 4)
 else
  (some 0)
def QJ(p0:Plan)(aN:Nat→Option Int):Nat→Option Int:=fun qW=>
 if decide ((qW:Int)<(p0.Lines.length:Int)) then
  ((idx p0.Lines (qW:Int)).bind fun x9=>
  if decide (12<(x9.bC.length:Int)) then
   (some 7)
  else
   (aN (qW+1)))
 else
  (aap p0 ())
def DZ(p0:Plan):Bool→Option Int:=fun R9=>
 if R9 then
  (some 7)
 else
  (iter (QJ p0) FUEL 0)
def MH(l0:Layout)(p0:Plan):Option Int:=
 (Qg l0).bind fun y3=>
 if decide (y3≠0) then
  (some 1)
 else
  (if decide (8<(p0.bJ.length:Int)) then
   (DZ p0 (decide (8<(p0.bJ.length:Int))))
  else
   (if decide (48<(p0.Routes.length:Int)) then
    (DZ p0 (decide (48<(p0.Routes.length:Int))))
   else
    (if decide (16<(p0.Lines.length:Int)) then
     (DZ p0 (decide (16<(p0.Lines.length:Int))))
    else
     (if decide (32<(p0.Changes.length:Int)) then
      (DZ p0 (decide (32<(p0.Changes.length:Int))))
     else
      (if decide (32<(p0.Turns.length:Int)) then
       (DZ p0 (decide (32<(p0.Turns.length:Int))))
      else
       (if decide (32<(p0.dx.length:Int)) then
        (DZ p0 (decide (32<(p0.dx.length:Int))))
       else
        (DZ p0 (decide (32<(p0.dn.length:Int))))))))))
theorem amh(S:bF)(w:World)(l0:Layout)(aG:ak.R Layout)(p0:Plan)(av:ak.R Plan)(y:Int)(hM:MH l0 p0=some y)(hS:sB S w)(eT:ak.ok S w aG l0)(gB:ak.ok S w av p0):
   Calls Tryz.prog 36 #[.agg (lX l0 aG),.agg (mO p0 av)] w (dw w (vI y)):=by
 refine bW (args:=[_,_]) Tryz.func36 rfl ((pre_nil hS).start |>.ny eT|>.oL gB) rfl ?_;unfold MH at hM;refine sr ?_;refine oB (eD l0 aG) fun b1=>?_;refine oB (fZ p0 av) fun b2=>?_
 refine aL ?_;refine aF fun K2 hK2=>?_;refine aV ?_;refine sr ?_;refine oe (bM (b:=b1)) ?_;obtain⟨y3,hy4,hM⟩:=bind_some hM;refine cv (fun hs=>aeJ _ _ l0 aG y3 hy4 (bq hs) ⟨(kM hs),(kM hs),(kM hs),(kM hs)⟩) ?_;refine oe gH ?_;refine aL ?_;refine cc rfl hM (fun jO hM=>?_) (fun jO hM=>?_)
 ·refine bg ?_;exact aP (bD hM)
 refine jm y (k:=DZ p0) (fun R9=>[(3,eP b2),(11,.v (.bool R9))]) (fun R9=>[iL p0.bJ av.1,iL p0.Routes av.2.1,iL p0.Lines av.2.2.1,iL p0.Changes av.2.2.2.1,iL p0.Turns av.2.2.2.2.1,iL p0.dx av.2.2.2.2.2.1,iL p0.dn av.2.2.2.2.2.2,own b2 36 (fZ p0 av)]) ?_ ?_
 ·intro Fj iR;refine sr ?_;refine oe (ay 1) ?_;refine oe (aD (b:=b2)) ?_;refine oe bf ?_;refine oe eO ?_;refine aL ?_;refine cc rfl hM (fun uT hM=>?_) (fun uT hM=>?_)
  · refine aM (iR hM sS rI)
  refine sr ?_;refine oe (ay 2) ?_;refine oe (aD (b:=b2)) ?_;refine oe bf ?_;refine oe eO ?_;refine aL ?_;refine cc rfl hM (fun zP hM=>?_) (fun zP hM=>?_)
  · refine aM (iR hM sS rI)
  refine sr ?_;refine oe (ay 3) ?_;refine oe (aD (b:=b2)) ?_;refine oe bf ?_;refine oe eO ?_;refine aL ?_;refine cc rfl hM (fun hc16 hM=>?_) (fun hc16 hM=>?_)
  · refine aM (iR hM sS rI)
  refine sr ?_;refine oe (ay 4) ?_;refine oe (aD (b:=b2)) ?_;refine oe bf ?_;refine oe eO ?_;refine aL ?_;refine cc rfl hM (fun hc17 hM=>?_) (fun hc17 hM=>?_)
  · refine aM (iR hM sS rI)
  refine sr ?_;refine oe (ay 5) ?_;refine oe (aD (b:=b2)) ?_;refine oe bf ?_;refine oe eO ?_;refine aL ?_;refine cc rfl hM (fun hc18 hM=>?_) (fun hc18 hM=>?_)
  · refine aM (iR hM sS rI)
  refine sr ?_;refine oe (ay 6) ?_;refine oe (aD (b:=b2)) ?_;refine oe bf ?_;refine oe eO ?_;refine aL ?_;refine cc rfl hM (fun hc19 hM=>?_) (fun hc19 hM=>?_)
  · refine aM (iR hM sS rI)
  refine aT ?_;refine oe (ay 7) ?_;refine oe (aD (b:=b2)) ?_;refine oe bf ?_;refine oe eO ?_;refine oa ?_;refine aU (iR hM sS rI)
 clear hM;rintro R9 hM;dsimp only[DZ] at hM ⊢;refine cc rfl hM (fun hc6 hM=>?_) (fun hc6 hM=>?_)
 ·refine bg ?_;exact aP (bD hM)
 refine aM (hK2 _ _ ?_);clear hK2;refine aF fun K6 bU=>?_;refine sr ?_;refine oe (ay 3) ?_;refine oe (aD (b:=b2)) ?_;refine gU (fun w hm=>Kn.len (kG p0.Lines av.2.2.1) hm) fun Y4=>?_;refine oe bf ?_;refine om ?_;refine on ?_;refine aV ?_;refine lq hM (fun qW=>[(3,eP b2),(41,eS av.2.2.1 p0.Lines),(42,eI (p0.Lines.length:Int)),(43,eI (qW:Int))]) (fun qW=>[iL p0.bJ av.1,iL p0.Routes av.2.1,iL p0.Lines av.2.2.1,iL p0.Changes av.2.2.2.1,iL p0.Turns av.2.2.2.2.1,iL p0.dx av.2.2.2.2.2.1,iL p0.dn av.2.2.2.2.2.2,own b2 36 (fZ p0 av)]) sS rI ?_;clear hM;rintro aN qW hM fQ hL1;dsimp only[QJ] at hM ⊢
 refine sr ?_;refine oe bK ?_;refine on ?_;refine aF fun K9 dY=>?_;refine cc rfl hM (fun hc8 hM=>?_) (fun hc8 hM=>?_)
 ·have YT:=of_decide_eq_true hc8;refine aM (dY _ _ ?_);clear dY;refine aF fun sK gy=>?_;refine aV ?_;refine sr ?_;obtain⟨x9,mG,hM⟩:=bind_some hM;refine oe (aQ (xs:=p0.Lines) 4 (kG p0.Lines av.2.2.1) (iS mG)) ?_;refine oe (eY (m:=4) (i:=(qW:Int)) (xs:=p0.Lines) (y:=x9) (l:=(mR x9 (av.2.2.1.es (qW:Int).toNat))) 0 (kG p0.Lines av.2.2.1) (fun _=>mG)) ?_;refine oA rfl fun b11=>?_;refine oS b11 (mR x9 (av.2.2.1.es (qW:Int).toNat)) ?_;refine on ?_;refine sr ?_;refine oe (ay 3) ?_;refine oe (aD (b:=b11)) ?_;refine oe bf ?_;refine oe eO ?_;refine on ?_;refine cc rfl hM (fun qQ hM=>?_) (fun qQ hM=>?_)
  · refine bg ?_;exact aP (bD hM)
  refine aM (gy _ _ ?_);clear gy;refine aT ?_;refine oe (dh (hr:=fun _=>by unfold dS;omega)) ?_;refine om ?_;refine aU (hL1 hM sS rI)
 refine bX (bU _ _ ?_);clear bU;dsimp only[aap] at hM;refine aF fun zA kg=>?_;refine sr ?_;refine oe (ay 0) ?_;refine oe (aD (b:=b2)) ?_;refine oe bK ?_;refine om ?_;refine au rfl (ay 0) ?_;refine au rfl (aD (b:=b2)) ?_;refine au rfl eO ?_;refine oe bP ?_;refine on ?_;refine cc rfl hM (fun zO hM=>?_) (fun zO hM=>?_)
 ·refine bg ?_;exact aP (bD hM)
 refine aM (kg _ _ ?_);clear kg;refine bg ?_;exact aP (bD hM)
def afh:Unit→Option Int:=fun _=>
 some 0
def U3(p0:Plan)(aN:Nat→Option Int):Nat→Option Int:=fun pK=>
 if decide ((pK:Int)<(p0.bJ.length:Int)) then
  ((idx p0.bJ (pK:Int)).bind fun x5=>
  (NT x5.Name).bind fun y8=>
  if (!y8) then
   (some 3)
  else
   ((sub p0.bJ 0 (pK:Int)).bind fun JA=>
   (R5 JA x5).bind fun bZ=>
   if bZ then
    (some 5)
   else
    ((OH x5).bind fun zw=>
    if (!zw) then
     (some 4)
    else
     (aN (pK+1)))))
 else
  (afh ())
def MI(l0:Layout)(p0:Plan):Option Int:=
 iter (U3 p0) FUEL 0
theorem amj(S:bF)(w:World)(l0:Layout)(aG:ak.R Layout)(p0:Plan)(av:ak.R Plan)(y:Int)(hM:MI l0 p0=some y)(hS:sB S w)(eT:ak.ok S w aG l0)(gB:ak.ok S w av p0):
   Calls Tryz.prog 37 #[.agg (lX l0 aG),.agg (mO p0 av)] w (dw w (vI y)):=by
 refine bW (args:=[_,_]) Tryz.func37 rfl ((pre_nil hS).start |>.ny eT|>.oL gB) rfl ?_;unfold MI at hM;refine sr ?_;refine oB (eD l0 aG) fun b1=>?_;refine oB (fZ p0 av) fun b2=>?_
 refine aL ?_;refine aF fun K2 hK2=>?_;refine sr ?_;refine oe (ay 1) ?_;refine oe (aD (b:=b2)) ?_;refine gU (fun w hm=>Kn.len (kG p0.bJ av.1) hm) fun hl3=>?_;refine oe bf ?_;refine om ?_;refine on ?_;refine aV ?_;refine lq hM (fun pK=>[(3,eP b2),(8,eS av.1 p0.bJ),(9,eI (p0.bJ.length:Int)),(10,eI (pK:Int))]) (fun pK=>[iL p0.bJ av.1,iL p0.Routes av.2.1,iL p0.Lines av.2.2.1,iL p0.Changes av.2.2.2.1,iL p0.Turns av.2.2.2.2.1,iL p0.dx av.2.2.2.2.2.1,iL p0.dn av.2.2.2.2.2.2,own b2 36 (fZ p0 av)]) sS rI ?_;clear hM;rintro aN pK hM fQ hL1;dsimp only[U3] at hM ⊢
 refine sr ?_;refine oe bK ?_;refine on ?_;refine aF fun K5 bT=>?_;refine cc rfl hM (fun hc4 hM=>?_) (fun hc4 hM=>?_)
 ·have Du:=of_decide_eq_true hc4;refine aM (bT _ _ ?_);clear bT;refine aF fun K6 bU=>?_;refine aV ?_;refine aJ ?_;obtain⟨x5,hx6,hM⟩:=bind_some hM;refine oe (aQ (xs:=p0.bJ) 5 (kG p0.bJ av.1) (iS hx6)) ?_;refine oe (eY (m:=5) (i:=(pK:Int)) (xs:=p0.bJ) (y:=x5) (l:=(vg x5)) 0 (kG p0.bJ av.1) (fun _=>hx6)) ?_;refine oA rfl fun b7=>?_;refine oa ?_;refine oS b7 (vg x5) ?_;refine on ?_;refine aV ?_;refine sr ?_;refine oe (ay 0) ?_;refine oe (aD (b:=b7)) ?_;obtain⟨y8,qR,hM⟩:=bind_some hM;refine cv (fun hs=>agY _ _ x5.Name y8 qR (bq hs)) ?_;refine oe dN ?_;refine aL ?_;refine cc rfl hM (fun uQ hM=>?_) (fun uQ hM=>?_)
  · refine bg ?_;exact aP (bD hM)
  refine sr ?_;refine oe (ay 1) ?_;refine oe (aD (b:=b2)) ?_;refine om ?_;obtain⟨JA,hl12,hM⟩:=bind_some hM;refine aY (NG (r:=av.1) (xs:=p0.bJ) (ol:=none) (oh:=some (.i64,(pK:Int))) (Sk.cO (α:=List bL) (r:=av.1) (x:=p0.bJ) hA) hl12 (fun gN=>?_));refine oe XZ ?_;obtain⟨bZ,pX,hM⟩:=bind_some hM;refine cv (fun hs=>anv _ _ JA gN b7 x5 bZ pX (bq hs) (kM hs) (JK hA hs)) ?_;refine aL ?_;refine cc rfl hM (fun hc16 hM=>?_) (fun hc16 hM=>?_)
  · refine bg ?_;exact aP (bD hM)
  refine sr ?_;refine oe (bM (b:=b7)) ?_;obtain⟨zw,Jl,hM⟩:=bind_some hM;refine cv (fun hs=>acL _ _ x5 zw Jl (bq hs)) ?_;refine oe dN ?_;refine aL ?_;refine cc rfl hM (fun hc19 hM=>?_) (fun hc19 hM=>?_)
  · refine bg ?_;exact aP (bD hM)
  refine aM (bU _ _ ?_);clear bU;refine aT ?_;refine oe (dh (hr:=fun _=>by unfold dS;omega)) ?_;refine om ?_;refine aU (hL1 hM sS rI)
 refine bX (hK2 _ _ ?_);clear hK2;dsimp only[afh] at hM;refine bg ?_;exact aP (bD hM)
def afg:Unit→Option Int:=fun _=>
 some 0
def U2(p0:Plan)(l0:Layout)(aN:Nat→Option Int):Nat→Option Int:=fun vw=>
 if decide ((vw:Int)<(p0.Routes.length:Int)) then
  ((idx p0.Routes (vw:Int)).bind fun x5=>
  (Nk l0 x5).bind fun y8=>
  if decide (y8≠0) then
   (some y8)
  else
   (aN (vw+1)))
 else
  (afg ())
def MG(l0:Layout)(p0:Plan):Option Int:=
 iter (U2 p0 l0) FUEL 0
theorem amg(S:bF)(w:World)(l0:Layout)(aG:ak.R Layout)(p0:Plan)(av:ak.R Plan)(y:Int)(hM:MG l0 p0=some y)(hS:sB S w)(eT:ak.ok S w aG l0)(gB:ak.ok S w av p0):
   Calls Tryz.prog 38 #[.agg (lX l0 aG),.agg (mO p0 av)] w (dw w (vI y)):=by
 refine bW (args:=[_,_]) Tryz.func38 rfl ((pre_nil hS).start |>.ny eT|>.oL gB) rfl ?_;unfold MG at hM;refine sr ?_;refine oB (eD l0 aG) fun b1=>?_;refine oB (fZ p0 av) fun b2=>?_
 refine aL ?_;refine aF fun K2 hK2=>?_;refine sr ?_;refine oe (ay 2) ?_;refine oe (aD (b:=b2)) ?_;refine gU (fun w hm=>Kn.len (kG p0.Routes av.2.1) hm) fun hl3=>?_;refine oe bf ?_;refine om ?_;refine on ?_;refine aV ?_;refine lq hM (fun vw=>[(2,eP b1),(9,eS av.2.1 p0.Routes),(10,eI (p0.Routes.length:Int)),(11,eI (vw:Int))]) (fun vw=>[iL l0.bB aG.1,iL l0.bN aG.2.1,iL l0.Sections aG.2.2.1,iL l0.Links aG.2.2.2,own b1 27 (eD l0 aG),iL p0.Routes av.2.1]) sS rI ?_;clear hM;rintro aN vw hM fQ hL1;dsimp only[U2] at hM ⊢;refine sr ?_;refine oe bK ?_;refine on ?_;refine aF fun K5 bT=>?_;refine cc rfl hM (fun hc4 hM=>?_) (fun hc4 hM=>?_)
 ·have Du:=of_decide_eq_true hc4;refine aM (bT _ _ ?_);clear bT;refine aF fun K6 bU=>?_;refine aV ?_;refine sr ?_;obtain⟨x5,hx6,hM⟩:=bind_some hM;refine oe (aQ (xs:=p0.Routes) 2 (kG p0.Routes av.2.1) (iS hx6)) ?_;refine oe (eY (m:=2) (i:=(vw:Int)) (xs:=p0.Routes) (y:=x5) (l:=(jV x5 (av.2.1.es (vw:Int).toNat))) 0 (kG p0.Routes av.2.1) (fun _=>hx6)) ?_;refine oA rfl fun b7=>?_;refine oS b7 (jV x5 (av.2.1.es (vw:Int).toNat)) ?_;refine on ?_;refine sr ?_;refine oe (bM (b:=b1)) ?_;refine oe (bM (b:=b7)) ?_;obtain⟨y8,qR,hM⟩:=bind_some hM;refine cv (fun hs=>af7 _ _ l0 aG x5 (av.2.1.es (vw:Int).toNat) y8 qR (bq hs) ⟨(kM hs),(kM hs),(kM hs),(kM hs)⟩ (Kn.lend ((Sk.elem (Sk.cO (α:=List aO) (r:=av.2.1) (x:=p0.Routes) hA) hx6)).kn hs)) ?_;refine aL ?_;refine aJ ?_;refine oe gH ?_;refine on ?_
  refine cc rfl hM (fun uQ hM=>?_) (fun uQ hM=>?_)
  · refine aJ ?_;refine aL ?_;exact aP (bD hM)
  refine aM (bU _ _ ?_);clear bU;refine aT ?_;refine oe (dh (hr:=fun _=>by unfold dS;omega)) ?_;refine om ?_;refine aU (hL1 hM sS rI)
 refine bX (hK2 _ _ ?_);clear hK2;dsimp only[afg] at hM;refine bg ?_;exact aP (bD hM)
def DY(p0:Plan)(x4:gL)(iK:Line)(l0:Layout)(k0:Int):Bool→Option Int:=fun Sb=>
 if Sb then
  (some 4)
 else
  ((idx p0.Routes x4.aO).bind fun x8=>
  (idx p0.bJ iK.bL).bind fun x10=>
  (Oo l0 x8 x10).bind fun um=>
  if decide (um≠0) then
   (some um)
  else
   (aX (!(decide (0<k0))||bA (k0-1))<|
   (dW (decide (0<k0)) default (idx iK.bC (k0-1))).bind fun uj=>
   (dW (decide (0<k0)) default (JO p0 x4)).bind fun jE=>
   (dW (decide (0<k0)) default (JQ p0 uj)).bind fun y20=>
   if (decide (0<k0)&&decide (jE≠y20)) then
    (some 11)
   else
    (some 0)))
def MF(l0:Layout)(p0:Plan)(iK:Line)(k0:Int):Option Int:=
 (idx iK.bC k0).bind fun x4=>
 if decide (x4.aO<0) then
  (DY p0 x4 iK l0 k0 (decide (x4.aO<0)))
 else
  (if decide ((p0.Routes.length:Int)≤x4.aO) then
   (DY p0 x4 iK l0 k0 (decide ((p0.Routes.length:Int)≤x4.aO)))
  else
   (if decide (x4.Extra<0) then
    (DY p0 x4 iK l0 k0 (decide (x4.Extra<0)))
   else
    (if decide (p0.eX≤x4.Extra) then
     (DY p0 x4 iK l0 k0 (decide (p0.eX≤x4.Extra)))
    else
     ((JL p0 x4.Min x4.Max).bind fun y27=>
     if (!y27) then
      (DY p0 x4 iK l0 k0 (!y27))
     else
      (aX (bA ((iK.bC.length:Int)-1))<|
      DY p0 x4 iK l0 k0 (decide (k0=((iK.bC.length:Int)-1))&&(decide (x4.Min≠0)||decide (x4.Max≠0))))))))
theorem amf(S:bF)(w:World)(l0:Layout)(aG:ak.R Layout)(p0:Plan)(av:ak.R Plan)(iK:Line)(EU:ak.R Line)(k0:Int)(y:Int)(hM:MF l0 p0 iK k0=some y)(hS:sB S w)(eT:ak.ok S w aG l0)(gB:ak.ok S w av p0)(aja:ak.ok S w EU iK):
   Calls Tryz.prog 73 #[.agg (lX l0 aG),.agg (mO p0 av),.agg (Xz iK EU),vI k0] w (dw w (vI y)):=by
 refine bW (args:=[_,_,_,_]) Tryz.func73 rfl ((pre_nil hS).start |>.ny eT|>.oL gB|>.dZ (α:=List gL) (r:=EU) (x:=iK.bC) aja) rfl ?_;unfold MF at hM;refine sr ?_;refine oB (eD l0 aG) fun b1=>?_;refine oB (fZ p0 av) fun b2=>?_
 refine oB (mR iK EU) fun b3=>?_;refine aL ?_;refine sr ?_;refine oe (ay 3) ?_;refine oe (aD (b:=b3)) ?_;refine om ?_;obtain⟨x4,hx5,hM⟩:=bind_some hM;refine oe (aQ (xs:=iK.bC) 4 (kG iK.bC EU) (iS hx5)) ?_;refine oe (eY (m:=4) (i:=k0) (xs:=iK.bC) (y:=x4) (l:=(Bb x4)) 0 (kG iK.bC EU) (fun _=>hx5)) ?_;refine oA rfl fun b6=>?_;refine oS b6 (Bb x4) ?_;refine on ?_;refine aF fun K3 hK3=>?_;refine aV ?_;refine jm y (k:=DY p0 x4 iK l0 k0) (fun Sb=>[(3,eI k0),(4,eP b1),(5,eP b2),(6,eP b3),(9,eP b6),(16,.v (.bool Sb))]) (fun Sb=>[iL l0.bB aG.1,iL l0.bN aG.2.1,iL l0.Sections aG.2.2.1,iL l0.Links aG.2.2.2,own b1 27 (eD l0 aG),iL p0.bJ av.1,iL p0.Routes av.2.1,iL p0.Lines av.2.2.1,iL p0.Changes av.2.2.2.1,iL p0.Turns av.2.2.2.2.1,iL p0.dx av.2.2.2.2.2.1,iL p0.dn av.2.2.2.2.2.2,own b2 36 (fZ p0 av),iL iK.bC EU,own b3 47 (mR iK EU),own b6 87 (Bb x4)]) ?_ ?_
 ·intro Fj iR;refine sr ?_;refine oe (ay 0) ?_;refine oe (aD (b:=b6)) ?_;refine oe bK ?_;refine aL ?_;refine cc rfl hM (fun yN hM=>?_) (fun yN hM=>?_)
  · refine aM (iR hM sS rI)
  refine sr ?_;refine oe (ay 0) ?_;refine oe (aD (b:=b6)) ?_;refine oe (ay 2) ?_;refine oe (aD (b:=b2)) ?_;refine oe bf ?_;refine oe ig ?_;refine aL ?_;refine cc rfl hM (fun hc24 hM=>?_) (fun hc24 hM=>?_)
  · refine aM (iR hM sS rI)
  refine sr ?_;refine oe (ay 1) ?_;refine oe (aD (b:=b6)) ?_;refine oe bK ?_;refine aL ?_;refine cc rfl hM (fun hc25 hM=>?_) (fun hc25 hM=>?_)
  · refine aM (iR hM sS rI)
  refine sr ?_;refine oe (ay 1) ?_;refine oe (aD (b:=b6)) ?_;refine oe (ay 0) ?_;refine oe (aD (b:=b2)) ?_;refine oe ig ?_;refine aL ?_;refine cc rfl hM (fun Ll hM=>?_) (fun Ll hM=>?_)
  · refine aM (iR hM sS rI)
  refine sr ?_;refine oe (bM (b:=b2)) ?_;refine oe (ay 2) ?_;refine oe (aD (b:=b6)) ?_;refine oe (ay 3) ?_;refine oe (aD (b:=b6)) ?_;obtain⟨y27,hy28,hM⟩:=bind_some hM;refine cv (fun hs=>aan _ _ p0 av x4.Min x4.Max y27 hy28 (bq hs) ⟨(kM hs),(kM hs),(kM hs),(kM hs),(kM hs),(kM hs),(kM hs)⟩) ?_;refine oe dN ?_;refine aL ?_;refine cc rfl hM (fun hc29 hM=>?_) (fun hc29 hM=>?_)
  · refine aM (iR hM sS rI)
  refine aT ?_;refine om ?_;refine oe (ay 3) ?_;refine oe (aD (b:=b3)) ?_;refine oe bf ?_;refine oN hM fun hM=>?_;refine oe fI ?_;refine om ?_;refine au rfl (ay 2) ?_;refine au rfl (aD (b:=b6)) ?_;refine au rfl gH ?_;refine au rfl aH ?_;refine au rfl (ay 3) ?_;refine au rfl (aD (b:=b6)) ?_;refine au rfl gH ?_;refine au rfl bP ?_;refine oe dB ?_;refine oa ?_;refine aU (iR hM sS rI)
 clear hM;rintro Sb hM;dsimp only[DY] at hM ⊢;refine cc rfl hM (fun lY hM=>?_) (fun lY hM=>?_)
 ·refine bg ?_;exact aP (bD hM)
 refine aM (hK3 _ _ ?_);clear hK3;refine aF fun K5 bT=>?_;refine aF fun K6 bU=>?_;refine fE _ (List.Sublist.refl _) ?_;refine aj 0 rfl (bM (b:=b1)) ?_;refine aj 1 rfl (ay 2) ?_;refine aj 2 rfl (aD (b:=b2)) ?_;refine aj 3 rfl (ay 0) ?_;refine aj 4 rfl (aD (b:=b6)) ?_;obtain⟨x8,og,hM⟩:=bind_some hM;refine aj 5 rfl (aQ (xs:=p0.Routes) 2 (kG p0.Routes av.2.1) (iS og)) ?_;refine aj 6 rfl (eY (m:=2) (i:=x4.aO) (xs:=p0.Routes) (y:=x8) (l:=(jV x8 (av.2.1.es x4.aO.toNat))) 0 (kG p0.Routes av.2.1) (fun _=>og)) ?_;refine aj 7 rfl (ay 1) ?_;refine aj 8 rfl (aD (b:=b2)) ?_;refine aj 9 rfl (ay 1) ?_;refine aj 10 rfl (aD (b:=b3)) ?_;obtain⟨x10,lT,hM⟩:=bind_some hM;refine aj 11 rfl (aQ (xs:=p0.bJ) 5 (kG p0.bJ av.1) (iS lT)) ?_;refine aj 12 rfl (eY (m:=5) (i:=iK.bL) (xs:=p0.bJ) (y:=x10) (l:=(vg x10)) 0 (kG p0.bJ av.1) (fun _=>lT)) ?_;obtain⟨um,FT,hM⟩:=bind_some hM;refine dX 13 rfl (sV (fun hs=>aht _ _ l0 aG x8 (av.2.1.es x4.aO.toNat) x10 um FT (bq hs) ⟨(kM hs),(kM hs),(kM hs),(kM hs)⟩ (Kn.lend ((Sk.elem (Sk.cO (α:=List aO) (r:=av.2.1) (x:=p0.Routes) hA) og)).kn hs)) ⟨rI,?_⟩)
 refine aj 14 rfl dL ?_;refine dK (bU _ _ ?_);clear bU;refine aJ ?_;refine oe gH ?_;refine on ?_;refine cc rfl hM (fun uT hM=>?_) (fun uT hM=>?_)
 ·refine aJ ?_;refine aL ?_;exact aP (bD hM)
 refine aM (bT _ _ ?_);clear bT;refine aF fun K9 dY=>?_;refine aF fun sK gy=>?_;refine fE _ (List.Sublist.refl _) ?_;refine aj 0 rfl aH ?_;refine aj 1 rfl eO ?_;refine aj 2 rfl aH ?_;refine bO 3 rfl rfl (bM (b:=b2)) ?_;refine bO 4 rfl rfl (bM (b:=b6)) ?_;refine bO 6 rfl rfl (bM (b:=b2)) ?_;refine bO 7 rfl rfl (ay 3) ?_;refine bO 8 rfl rfl (aD (b:=b3)) ?_;refine bO 9 rfl rfl aH ?_;obtain⟨OZ,hM⟩:=bQ hM;refine bO 10 rfl rfl (mQ (hr:=fun hg=>dI (tL OZ hg))) ?_;obtain⟨uj,zS,hM⟩:=bind_some hM;refine bO 11 rfl rfl (aQ (xs:=iK.bC) 4 (kG iK.bC EU) (fun hg=>let h:=jG (dF zS hg);⟨h.1,h.2.1⟩)) ?_;refine bO 12 rfl rfl (eY (m:=4) (i:=(k0-1)) (xs:=iK.bC) (y:=uj) (l:=(Bb uj)) 0 (kG iK.bC EU) (fun hg=>dF zS hg)) ?_;obtain⟨jE,yQ,hM⟩:=bind_some hM;refine GJ 5 rfl rfl (fun hg w hm=>let ⟨S,hs⟩:=hm;aat _ w p0 av x4 jE (dF yQ hg) (bq hs) ⟨(kM hs),(kM hs),(kM hs),(kM hs),(kM hs),(kM hs),(kM hs)⟩) ?_;obtain⟨y20,Jm,hM⟩:=bind_some hM;refine GJ 13 rfl rfl (fun hg w hm=>let ⟨S,hs⟩:=hm;aau _ w p0 av uj y20 (dF Jm hg) (bq hs) ⟨(kM hs),(kM hs),(kM hs),(kM hs),(kM hs),(kM hs),(kM hs)⟩) ?_
 refine bO 14 rfl rfl gH ?_;refine aj 15 rfl dB ?_;refine dK (gy _ _ ?_);clear gy;refine cc rfl hM (fun hc22 hM=>?_) (fun hc22 hM=>?_)
 ·refine bg ?_;exact aP (bD hM)
 refine aM (dY _ _ ?_);clear dY;refine bg ?_;exact aP (bD hM)
def aff(aN:Nat→Option Int)(jh:Nat):Unit→Option Int:=fun _=>
 aN (jh+1)
def QI(x5:Line)(l0:Layout)(p0:Plan)(aN:Nat→Option Int)(jh:Nat)(cu:Nat→Option Int):Nat→Option Int:=fun Iz=>
 if decide ((Iz:Int)<(x5.bC.length:Int)) then
  ((MF l0 p0 x5 (Iz:Int)).bind fun y21=>
  if decide (y21≠0) then
   (some y21)
  else
   (cu (Iz+1)))
 else
  (aff aN jh ())
def JM(x5:Line)(l0:Layout)(p0:Plan)(aN:Nat→Option Int)(jh:Nat):Bool→Option Int:=fun Sg=>
 if Sg then
  (some 4)
 else
  (if decide ((x5.bC.length:Int)=0) then
   (some 1)
  else
   (iter (QI x5 l0 p0 aN jh) FUEL 0))
def afe:Unit→Option Int:=fun _=>
 some 0
def U1(p0:Plan)(l0:Layout)(aN:Nat→Option Int):Nat→Option Int:=fun jh=>
 if decide ((jh:Int)<(p0.Lines.length:Int)) then
  ((idx p0.Lines (jh:Int)).bind fun x5=>
  (NT x5.Name).bind fun y8=>
  if (!y8) then
   (some 3)
  else
   ((sub p0.Lines 0 (jh:Int)).bind fun JA=>
   (R4 JA x5).bind fun bZ=>
   if bZ then
    (some 5)
   else
    (if decide (x5.bL<0) then
     (JM x5 l0 p0 aN jh (decide (x5.bL<0)))
    else
     (if decide ((p0.bJ.length:Int)≤x5.bL) then
      (JM x5 l0 p0 aN jh (decide ((p0.bJ.length:Int)≤x5.bL)))
     else
      ((QK x5.Weight).bind fun Aj=>
      JM x5 l0 p0 aN jh (!Aj))))))
 else
  (afe ())
def ME(l0:Layout)(p0:Plan):Option Int:=
 iter (U1 p0 l0) FUEL 0
theorem ame(S:bF)(w:World)(l0:Layout)(aG:ak.R Layout)(p0:Plan)(av:ak.R Plan)(y:Int)(hM:ME l0 p0=some y)(hS:sB S w)(eT:ak.ok S w aG l0)(gB:ak.ok S w av p0):
   Calls Tryz.prog 39 #[.agg (lX l0 aG),.agg (mO p0 av)] w (dw w (vI y)):=by
 refine bW (args:=[_,_]) Tryz.func39 rfl ((pre_nil hS).start |>.ny eT|>.oL gB) rfl ?_;unfold ME at hM;refine sr ?_;refine oB (eD l0 aG) fun b1=>?_;refine oB (fZ p0 av) fun b2=>?_
 refine aL ?_;refine aF fun K2 hK2=>?_;refine sr ?_;refine oe (ay 3) ?_;refine oe (aD (b:=b2)) ?_;refine gU (fun w hm=>Kn.len (kG p0.Lines av.2.2.1) hm) fun hl3=>?_;refine oe bf ?_;refine om ?_;refine on ?_;refine aV ?_;refine lq hM (fun jh=>[(2,eP b1),(3,eP b2),(10,eS av.2.2.1 p0.Lines),(11,eI (p0.Lines.length:Int)),(12,eI (jh:Int))]) (fun jh=>[iL l0.bB aG.1,iL l0.bN aG.2.1,iL l0.Sections aG.2.2.1,iL l0.Links aG.2.2.2,own b1 27 (eD l0 aG),iL p0.bJ av.1,iL p0.Routes av.2.1,iL p0.Lines av.2.2.1,iL p0.Changes av.2.2.2.1,iL p0.Turns av.2.2.2.2.1,iL p0.dx av.2.2.2.2.2.1,iL p0.dn av.2.2.2.2.2.2,own b2 36 (fZ p0 av)]) sS rI ?_
 clear hM;rintro aN jh hM fQ hL1;dsimp only[U1] at hM ⊢;refine sr ?_;refine oe bK ?_;refine on ?_;refine aF fun K5 bT=>?_;refine cc rfl hM (fun hc4 hM=>?_) (fun hc4 hM=>?_)
 ·have Du:=of_decide_eq_true hc4;refine aM (bT _ _ ?_);clear bT;refine aF fun K6 bU=>?_;refine aV ?_;refine aJ ?_;obtain⟨x5,hx6,hM⟩:=bind_some hM;refine oe (aQ (xs:=p0.Lines) 4 (kG p0.Lines av.2.2.1) (iS hx6)) ?_;refine oe (eY (m:=4) (i:=(jh:Int)) (xs:=p0.Lines) (y:=x5) (l:=(mR x5 (av.2.2.1.es (jh:Int).toNat))) 0 (kG p0.Lines av.2.2.1) (fun _=>hx6)) ?_;refine oA rfl fun b7=>?_;refine oa ?_;refine oS b7 (mR x5 (av.2.2.1.es (jh:Int).toNat)) ?_;refine on ?_;refine aF fun K8 fu=>?_;refine aV ?_;refine sr ?_;refine oe (ay 0) ?_;refine oe (aD (b:=b7)) ?_;obtain⟨y8,qR,hM⟩:=bind_some hM;refine cv (fun hs=>agY _ _ x5.Name y8 qR (bq hs)) ?_;refine oe dN ?_;refine aL ?_;refine cc rfl hM (fun uQ hM=>?_) (fun uQ hM=>?_)
  · refine bg ?_;exact aP (bD hM)
  refine sr ?_;refine oe (ay 3) ?_;refine oe (aD (b:=b2)) ?_;refine om ?_;obtain⟨JA,hl12,hM⟩:=bind_some hM;refine aY (NG (r:=av.2.2.1) (xs:=p0.Lines) (ol:=none) (oh:=some (.i64,(jh:Int))) (Sk.cO (α:=List Line) (r:=av.2.2.1) (x:=p0.Lines) hA) hl12 (fun gN=>?_));refine oe XZ ?_;obtain⟨bZ,pX,hM⟩:=bind_some hM;refine cv (fun hs=>anu _ _ JA gN b7 x5 (av.2.2.1.es (jh:Int).toNat) bZ pX (bq hs) (kM hs) (JK hA hs) (Kn.lend ((Sk.elem (Sk.cO (α:=List Line) (r:=av.2.2.1) (x:=p0.Lines) hA) hx6)).kn hs)) ?_;refine aL ?_;refine cc rfl hM (fun hc16 hM=>?_) (fun hc16 hM=>?_)
  · refine bg ?_;exact aP (bD hM)
  refine jm y (k:=JM x5 l0 p0 aN jh) (fun Sg=>[(2,eP b1),(3,eP b2),(6,eP b7),(10,eS av.2.2.1 p0.Lines),(11,eI (p0.Lines.length:Int)),(12,eI (jh:Int)),(29,.v (.bool Sg))]) (fun Sg=>[iL l0.bB aG.1,iL l0.bN aG.2.1,iL l0.Sections aG.2.2.1,iL l0.Links aG.2.2.2,own b1 27 (eD l0 aG),iL p0.bJ av.1,iL p0.Routes av.2.1,iL p0.Lines av.2.2.1,iL p0.Changes av.2.2.2.1,iL p0.Turns av.2.2.2.2.1,iL p0.dx av.2.2.2.2.2.1,iL p0.dn av.2.2.2.2.2.2,own b2 36 (fZ p0 av),own b7 47 (mR x5 (av.2.2.1.es (jh:Int).toNat))]) ?_ ?_
  · intro IU hJ3;refine sr ?_;refine oe (ay 1) ?_;refine oe (aD (b:=b7)) ?_;refine oe bK ?_;refine aL ?_;refine cc rfl hM (fun hc24 hM=>?_) (fun hc24 hM=>?_)
    ·refine aM (hJ3 hM sS rI)
    refine sr ?_;refine oe (ay 1) ?_;refine oe (aD (b:=b7)) ?_;refine oe (ay 1) ?_;refine oe (aD (b:=b2)) ?_;refine oe bf ?_;refine oe ig ?_;refine aL ?_;refine cc rfl hM (fun hc25 hM=>?_) (fun hc25 hM=>?_)
    ·refine aM (hJ3 hM sS rI)
    refine aT ?_;refine oe (ay 2) ?_;refine oe (aD (b:=b7)) ?_;obtain⟨Aj,hy27,hM⟩:=bind_some hM;refine cv (fun hs=>afk _ _ x5.Weight Aj hy27 (bq hs)) ?_;refine oe dN ?_;refine oa ?_;refine aU (hJ3 hM sS rI)
  clear hM;rintro Sg hM;dsimp only[JM] at hM ⊢;refine cc rfl hM (fun hc17 hM=>?_) (fun hc17 hM=>?_)
  · refine bg ?_;exact aP (bD hM)
  refine sr ?_;refine oe (ay 3) ?_;refine oe (aD (b:=b7)) ?_;refine oe bf ?_;refine oe fI ?_;refine aL ?_;refine cc rfl hM (fun hc18 hM=>?_) (fun hc18 hM=>?_)
  · refine bg ?_;exact aP (bD hM)
  refine aM (fu _ _ ?_);clear fu;refine sr ?_;refine oe (ay 3) ?_;refine oe (aD (b:=b7)) ?_;refine gU (fun w hm=>Kn.len ((Sk.elem (Sk.cO (α:=List Line) (r:=av.2.2.1) (x:=p0.Lines) hA) hx6)).kn hm) fun aon=>?_;refine oe bf ?_;refine om ?_;refine on ?_;refine aV ?_;refine lq hM (fun Iz=>[(2,eP b1),(3,eP b2),(6,eP b7),(10,eS av.2.2.1 p0.Lines),(11,eI (p0.Lines.length:Int)),(12,eI (jh:Int)),(50,eI (x5.bC.length:Int)),(51,eI (Iz:Int))]) (fun Iz=>[iL l0.bB aG.1,iL l0.bN aG.2.1,iL l0.Sections aG.2.2.1,iL l0.Links aG.2.2.2,own b1 27 (eD l0 aG),iL p0.bJ av.1,iL p0.Routes av.2.1,iL p0.Lines av.2.2.1,iL p0.Changes av.2.2.2.1,iL p0.Turns av.2.2.2.2.1,iL p0.dx av.2.2.2.2.2.1,iL p0.dn av.2.2.2.2.2.2,own b2 36 (fZ p0 av),own b7 47 (mR x5 (av.2.2.1.es (jh:Int).toNat))]) sS rI ?_
  clear hM;rintro cu Iz hM qM hL2;dsimp only[QI] at hM ⊢;refine sr ?_;refine oe bK ?_;refine on ?_;refine aF fun El nH=>?_;refine cc rfl hM (fun Az hM=>?_) (fun Az hM=>?_)
  · have ajL:=of_decide_eq_true Az;refine aM (nH _ _ ?_);clear nH;refine aF fun CX mE=>?_;refine aV ?_;refine aJ ?_;refine aL ?_;refine sr ?_;refine oe (bM (b:=b1)) ?_;refine oe (bM (b:=b2)) ?_;refine oe (bM (b:=b7)) ?_;refine om ?_;obtain⟨y21,Jo,hM⟩:=bind_some hM;refine cv (fun hs=>amf _ _ l0 aG p0 av x5 (av.2.2.1.es (jh:Int).toNat) (Iz:Int) y21 Jo (bq hs) ⟨(kM hs),(kM hs),(kM hs),(kM hs)⟩ ⟨(kM hs),(kM hs),(kM hs),(kM hs),(kM hs),(kM hs),(kM hs)⟩ (Kn.lend ((Sk.elem (Sk.cO (α:=List Line) (r:=av.2.2.1) (x:=p0.Lines) hA) hx6)).kn hs)) ?_;refine aL ?_;refine aJ ?_;refine oe gH ?_;refine on ?_;refine cc rfl hM (fun yN hM=>?_) (fun yN hM=>?_)
    ·refine aJ ?_;refine aL ?_;exact aP (bD hM)
    refine aM (mE _ _ ?_);clear mE;refine aT ?_;refine oe (dh (hr:=fun _=>by unfold dS;omega)) ?_;refine om ?_;refine aU (hL2 hM sS rI)
  refine bX (bU _ _ ?_);clear bU;dsimp only[aff] at hM;refine aT ?_;refine oe (dh (hr:=fun _=>by unfold dS;omega)) ?_;refine om ?_;refine aU (hL1 hM sS rI)
 refine bX (hK2 _ _ ?_);clear hK2;dsimp only[afe] at hM;refine bg ?_;exact aP (bD hM)
def afc:Unit→Option Int:=fun _=>
 some 0
def UZ(p0:Plan)(l0:Layout)(aN:Nat→Option Int):Nat→Option Int:=fun jh=>
 if decide ((jh:Int)<(p0.Changes.length:Int)) then
  ((idx p0.Changes (jh:Int)).bind fun x5=>
  (Ht p0 x5.gP x5.jQ).bind fun y8=>
  (dW (!(!y8)) default (Ht p0 x5.jM x5.nY)).bind fun iG=>
  (dW (!(((!y8)||(!iG))||decide (x5.gP=x5.jM))) default (JL p0 x5.Min x5.Max)).bind fun um=>
  (dW (!((((!y8)||(!iG))||decide (x5.gP=x5.jM))||(!um))) default (QK x5.Weight)).bind fun bZ=>
  if (((((!y8)||(!iG))||decide (x5.gP=x5.jM))||(!um))||(!bZ)) then
   (some 4)
  else
   ((idx p0.Lines x5.gP).bind fun fK=>
   (idx fK.bC x5.jQ).bind fun lF=>
   (JQ p0 lF).bind fun y21=>
   (idx l0.Sections y21).bind fun x23=>
   (idx p0.Lines x5.jM).bind fun x25=>
   (idx x25.bC x5.nY).bind fun x27=>
   (JO p0 x27).bind fun y29=>
   (idx l0.Sections y29).bind fun x31=>
   if (decide (x23.nN=(-1))||decide (x23.nN≠x31.nN)) then
    (some 11)
   else
    (aN (jh+1))))
 else
  (afc ())
def MB(l0:Layout)(p0:Plan):Option Int:=
 iter (UZ p0 l0) FUEL 0
theorem amb(S:bF)(w:World)(l0:Layout)(aG:ak.R Layout)(p0:Plan)(av:ak.R Plan)(y:Int)(hM:MB l0 p0=some y)(hS:sB S w)(eT:ak.ok S w aG l0)(gB:ak.ok S w av p0):
   Calls Tryz.prog 40 #[.agg (lX l0 aG),.agg (mO p0 av)] w (dw w (vI y)):=by
 refine bW (args:=[_,_]) Tryz.func40 rfl ((pre_nil hS).start |>.ny eT|>.oL gB) rfl ?_;unfold MB at hM;refine sr ?_;refine oB (eD l0 aG) fun b1=>?_;refine oB (fZ p0 av) fun b2=>?_
 refine aL ?_;refine aF fun K2 hK2=>?_;refine sr ?_;refine oe (ay 4) ?_;refine oe (aD (b:=b2)) ?_;refine gU (fun w hm=>Kn.len (kG p0.Changes av.2.2.2.1) hm) fun hl3=>?_;refine oe bf ?_;refine om ?_;refine on ?_;refine aV ?_;refine lq hM (fun jh=>[(2,eP b1),(3,eP b2),(10,eS av.2.2.2.1 p0.Changes),(11,eI (p0.Changes.length:Int)),(12,eI (jh:Int))]) (fun jh=>[iL l0.bB aG.1,iL l0.bN aG.2.1,iL l0.Sections aG.2.2.1,iL l0.Links aG.2.2.2,own b1 27 (eD l0 aG),iL p0.bJ av.1,iL p0.Routes av.2.1,iL p0.Lines av.2.2.1,iL p0.Changes av.2.2.2.1,iL p0.Turns av.2.2.2.2.1,iL p0.dx av.2.2.2.2.2.1,iL p0.dn av.2.2.2.2.2.2,own b2 36 (fZ p0 av)]) sS rI ?_
 clear hM;rintro aN jh hM fQ hL1;dsimp only[UZ] at hM ⊢;refine sr ?_;refine oe bK ?_;refine on ?_;refine aF fun K5 bT=>?_;refine cc rfl hM (fun hc4 hM=>?_) (fun hc4 hM=>?_)
 ·have Du:=of_decide_eq_true hc4;refine aM (bT _ _ ?_);clear bT;refine aF fun K6 bU=>?_;refine aV ?_;refine sr ?_;obtain⟨x5,hx6,hM⟩:=bind_some hM;refine oe (aQ (xs:=p0.Changes) 7 (kG p0.Changes av.2.2.2.1) (iS hx6)) ?_;refine oe (eY (m:=7) (i:=(jh:Int)) (xs:=p0.Changes) (y:=x5) (l:=(Qq x5)) 0 (kG p0.Changes av.2.2.2.1) (fun _=>hx6)) ?_;refine oA rfl fun b7=>?_;refine oS b7 (Qq x5) ?_;refine on ?_;refine aF fun K8 fu=>?_;refine sr ?_;refine oe (bM (b:=b2)) ?_;refine oe (ay 0) ?_;refine oe (aD (b:=b7)) ?_;refine oe (ay 1) ?_;refine oe (aD (b:=b7)) ?_;obtain⟨y8,qR,hM⟩:=bind_some hM;refine cv (fun hs=>U7 _ _ p0 av x5.gP x5.jQ y8 qR (bq hs) ⟨(kM hs),(kM hs),(kM hs),(kM hs),(kM hs),(kM hs),(kM hs)⟩) ?_;refine oe dN ?_;refine om ?_;refine au rfl (bM (b:=b2)) ?_
  refine au rfl (ay 2) ?_;refine au rfl (aD (b:=b7)) ?_;refine au rfl (ay 3) ?_;refine au rfl (aD (b:=b7)) ?_;obtain⟨iG,tN,hM⟩:=bind_some hM;refine cg rfl (fun hg hs=>U7 _ _ p0 av x5.jM x5.nY iG (dF tN hg) (bq hs) ⟨(kM hs),(kM hs),(kM hs),(kM hs),(kM hs),(kM hs),(kM hs)⟩) ?_;refine au rfl dN ?_;refine oe bP ?_;refine om ?_;refine au rfl (ay 0) ?_;refine au rfl (aD (b:=b7)) ?_;refine au rfl (ay 2) ?_;refine au rfl (aD (b:=b7)) ?_;refine au rfl fI ?_;refine oe bP ?_;refine om ?_;refine au rfl (bM (b:=b2)) ?_;refine au rfl (ay 4) ?_;refine au rfl (aD (b:=b7)) ?_;refine au rfl (ay 5) ?_;refine au rfl (aD (b:=b7)) ?_;obtain⟨um,FT,hM⟩:=bind_some hM;refine cg rfl (fun hg hs=>aan _ _ p0 av x5.Min x5.Max um (dF FT hg) (bq hs) ⟨(kM hs),(kM hs),(kM hs),(kM hs),(kM hs),(kM hs),(kM hs)⟩) ?_;refine au rfl dN ?_;refine oe bP ?_;refine om ?_;refine au rfl (ay 6) ?_;refine au rfl (aD (b:=b7)) ?_;obtain⟨bZ,pX,hM⟩:=bind_some hM;refine cg rfl (fun hg hs=>afk _ _ x5.Weight bZ (dF pX hg) (bq hs)) ?_;refine au rfl dN ?_
  refine oe bP ?_;refine on ?_;refine cc rfl hM (fun hc16 hM=>?_) (fun hc16 hM=>?_)
  · refine bg ?_;exact aP (bD hM)
  refine aM (fu _ _ ?_);clear fu;refine aF fun pR eH=>?_;refine fE _ (List.Sublist.refl _) ?_;refine aj 0 rfl (ay 2) ?_;refine aj 1 rfl (aD (b:=b1)) ?_;refine aj 2 rfl (bM (b:=b2)) ?_;refine aj 3 rfl (ay 3) ?_;refine aj 4 rfl (aD (b:=b2)) ?_;refine aj 5 rfl (ay 0) ?_;refine aj 6 rfl (aD (b:=b7)) ?_;obtain⟨fK,pW,hM⟩:=bind_some hM;refine aj 7 rfl (aQ (xs:=p0.Lines) 4 (kG p0.Lines av.2.2.1) (iS pW)) ?_;refine aj 8 rfl (ay 3) ?_;refine aj 9 rfl (bE (i:=x5.gP) (xs:=p0.Lines) (y:=fK) 3 (kG p0.Lines av.2.2.1) (fun _=>pW)) ?_;refine aj 10 rfl (ay 1) ?_;refine aj 11 rfl (aD (b:=b7)) ?_;obtain⟨lF,uV,hM⟩:=bind_some hM;refine aj 12 rfl (aQ (xs:=fK.bC) 4 ((Sk.elem (Sk.cO (α:=List Line) (r:=av.2.2.1) (x:=p0.Lines) hA) pW)).kn (iS uV)) ?_;refine aj 13 rfl (eY (m:=4) (i:=x5.jQ) (xs:=fK.bC) (y:=lF) (l:=(Bb lF)) 0 ((Sk.elem (Sk.cO (α:=List Line) (r:=av.2.2.1) (x:=p0.Lines) hA) pW)).kn (fun _=>uV)) ?_;obtain⟨y21,Jo,hM⟩:=bind_some hM;refine dX 14 rfl (sV (fun hs=>aau _ _ p0 av lF y21 Jo (bq hs) ⟨(kM hs),(kM hs),(kM hs),(kM hs),(kM hs),(kM hs),(kM hs)⟩) ⟨rI,?_⟩)
  obtain⟨x23,hx24,hM⟩:=bind_some hM;refine aj 15 rfl (aQ (xs:=l0.Sections) 5 (kG l0.Sections aG.2.2.1) (iS hx24)) ?_;refine aj 16 rfl (ay 4) ?_;refine aj 17 rfl (bE (i:=y21) (xs:=l0.Sections) (y:=x23) 4 (kG l0.Sections aG.2.2.1) (fun _=>hx24)) ?_;refine aj 18 rfl dL ?_;refine dK (eH _ _ ?_);clear eH;refine aF fun vN iI=>?_;refine fE _ (List.Sublist.refl _) ?_;refine aj 0 rfl (ay 2) ?_;refine aj 1 rfl (aD (b:=b1)) ?_;refine aj 2 rfl (bM (b:=b2)) ?_;refine aj 3 rfl (ay 3) ?_;refine aj 4 rfl (aD (b:=b2)) ?_;refine aj 5 rfl (ay 2) ?_;refine aj 6 rfl (aD (b:=b7)) ?_;obtain⟨x25,vU,hM⟩:=bind_some hM;refine aj 7 rfl (aQ (xs:=p0.Lines) 4 (kG p0.Lines av.2.2.1) (iS vU)) ?_;refine aj 8 rfl (ay 3) ?_;refine aj 9 rfl (bE (i:=x5.jM) (xs:=p0.Lines) (y:=x25) 3 (kG p0.Lines av.2.2.1) (fun _=>vU)) ?_;refine aj 10 rfl (ay 3) ?_;refine aj 11 rfl (aD (b:=b7)) ?_;obtain⟨x27,hx28,hM⟩:=bind_some hM;refine aj 12 rfl (aQ (xs:=x25.bC) 4 ((Sk.elem (Sk.cO (α:=List Line) (r:=av.2.2.1) (x:=p0.Lines) hA) vU)).kn (iS hx28)) ?_;refine aj 13 rfl (eY (m:=4) (i:=x5.nY) (xs:=x25.bC) (y:=x27) (l:=(Bb x27)) 0 ((Sk.elem (Sk.cO (α:=List Line) (r:=av.2.2.1) (x:=p0.Lines) hA) vU)).kn (fun _=>hx28)) ?_
  obtain⟨y29,Jp,hM⟩:=bind_some hM;refine dX 14 rfl (sV (fun hs=>aat _ _ p0 av x27 y29 Jp (bq hs) ⟨(kM hs),(kM hs),(kM hs),(kM hs),(kM hs),(kM hs),(kM hs)⟩) ⟨rI,?_⟩);obtain⟨x31,hx32,hM⟩:=bind_some hM;refine aj 15 rfl (aQ (xs:=l0.Sections) 5 (kG l0.Sections aG.2.2.1) (iS hx32)) ?_;refine aj 16 rfl (ay 4) ?_;refine aj 17 rfl (bE (i:=y29) (xs:=l0.Sections) (y:=x31) 4 (kG l0.Sections aG.2.2.1) (fun _=>hx32)) ?_;refine aj 18 rfl dL ?_;refine dK (iI _ _ ?_);clear iI;refine aJ ?_;refine oe fI ?_;refine om ?_;refine au rfl aH ?_;refine au rfl aH ?_;refine au rfl gH ?_;refine oe bP ?_;refine on ?_;refine cc rfl hM (fun FM hM=>?_) (fun FM hM=>?_)
  · refine bg ?_;exact aP (bD hM)
  refine aM (bU _ _ ?_);clear bU;refine aT ?_;refine oe (dh (hr:=fun _=>by unfold dS;omega)) ?_;refine om ?_;refine aU (hL1 hM sS rI)
 refine bX (hK2 _ _ ?_);clear hK2;dsimp only[afc] at hM;refine bg ?_;exact aP (bD hM)
def U6(p0:Plan)(aN:Nat→Option Int)(jh:Nat):(Str×Int×Int×(List gL)×Str×Int×Int×(List gL))→Option Int:=fun (TL,OV,TM,A8,Ww,Si,Wx,EO)=>
 aX (bA ((A8.length:Int)-1))<|
 (idx A8 ((A8.length:Int)-1)).bind fun ko=>
 (idx EO 0).bind fun x24=>
 (JQ p0 ko).bind fun Aj=>
 (JO p0 x24).bind fun y28=>
 if (decide (Aj≠y28)||decide (OV≠Si)) then
  (some 11)
 else
  (aN (jh+1))
def afj:Unit→Option Int:=fun _=>
 some 0
def U5(p0:Plan)(aN:Nat→Option Int):Nat→Option Int:=fun jh=>
 if decide ((jh:Int)<(p0.Turns.length:Int)) then
  ((idx p0.Turns (jh:Int)).bind fun x5=>
  (JN p0 x5.From).bind fun y8=>
  (dW (!(!y8)) default (JN p0 x5.To)).bind fun iG=>
  (dW (!((!y8)||(!iG))) default (JL p0 x5.Min x5.Max)).bind fun um=>
  if (((!y8)||(!iG))||(!um)) then
   (some 4)
  else
   ((sub p0.Turns 0 (jh:Int)).bind fun DC=>
   (R6 DC x5).bind fun jE=>
   if jE then
    (some 5)
   else
    ((idx p0.Lines x5.From).bind fun x31=>
    (idx p0.Lines x5.To).bind fun iW=>
    U6 p0 aN jh (x31.Name,x31.bL,x31.Weight,x31.bC,iW.Name,iW.bL,iW.Weight,iW.bC))))
 else
  (afj ())
def MK(l0:Layout)(p0:Plan):Option Int:=
 iter (U5 p0) FUEL 0
theorem amm(S:bF)(w:World)(l0:Layout)(aG:ak.R Layout)(p0:Plan)(av:ak.R Plan)(y:Int)(hM:MK l0 p0=some y)(hS:sB S w)(eT:ak.ok S w aG l0)(gB:ak.ok S w av p0):
   Calls Tryz.prog 41 #[.agg (lX l0 aG),.agg (mO p0 av)] w (dw w (vI y)):=by
 refine bW (args:=[_,_]) Tryz.func41 rfl ((pre_nil hS).start |>.ny eT|>.oL gB) rfl ?_;unfold MK at hM;refine sr ?_;refine oB (eD l0 aG) fun b1=>?_;refine oB (fZ p0 av) fun b2=>?_
 refine aL ?_;refine aF fun K2 hK2=>?_;refine sr ?_;refine oe (ay 5) ?_;refine oe (aD (b:=b2)) ?_;refine gU (fun w hm=>Kn.len (kG p0.Turns av.2.2.2.2.1) hm) fun hl3=>?_;refine oe bf ?_;refine om ?_;refine on ?_;refine aV ?_;refine lq hM (fun jh=>[(3,eP b2),(10,eS av.2.2.2.2.1 p0.Turns),(11,eI (p0.Turns.length:Int)),(12,eI (jh:Int))]) (fun jh=>[iL p0.bJ av.1,iL p0.Routes av.2.1,iL p0.Lines av.2.2.1,iL p0.Changes av.2.2.2.1,iL p0.Turns av.2.2.2.2.1,iL p0.dx av.2.2.2.2.2.1,iL p0.dn av.2.2.2.2.2.2,own b2 36 (fZ p0 av)]) sS rI ?_;clear hM;rintro aN jh hM fQ hL1
 dsimp only[U5] at hM ⊢;refine sr ?_;refine oe bK ?_;refine on ?_;refine aF fun K5 bT=>?_;refine cc rfl hM (fun hc4 hM=>?_) (fun hc4 hM=>?_)
 ·have Du:=of_decide_eq_true hc4;refine aM (bT _ _ ?_);clear bT;refine aF fun K6 bU=>?_;refine aV ?_;refine aJ ?_;obtain⟨x5,hx6,hM⟩:=bind_some hM;refine oe (aQ (xs:=p0.Turns) 4 (kG p0.Turns av.2.2.2.2.1) (iS hx6)) ?_;refine oe (eY (m:=4) (i:=(jh:Int)) (xs:=p0.Turns) (y:=x5) (l:=(Bd x5)) 0 (kG p0.Turns av.2.2.2.2.1) (fun _=>hx6)) ?_;refine oA rfl fun b7=>?_;refine oa ?_;refine oS b7 (Bd x5) ?_;refine on ?_;refine aF fun K8 fu=>?_;refine sr ?_;refine oe (bM (b:=b2)) ?_;refine oe (ay 0) ?_;refine oe (aD (b:=b7)) ?_;obtain⟨y8,qR,hM⟩:=bind_some hM;refine cv (fun hs=>aas _ _ p0 av x5.From y8 qR (bq hs) ⟨(kM hs),(kM hs),(kM hs),(kM hs),(kM hs),(kM hs),(kM hs)⟩) ?_;refine oe dN ?_;refine om ?_;refine au rfl (bM (b:=b2)) ?_;refine au rfl (ay 1) ?_;refine au rfl (aD (b:=b7)) ?_;obtain⟨iG,tN,hM⟩:=bind_some hM;refine cg rfl (fun hg hs=>aas _ _ p0 av x5.To iG (dF tN hg) (bq hs) ⟨(kM hs),(kM hs),(kM hs),(kM hs),(kM hs),(kM hs),(kM hs)⟩) ?_
  refine au rfl dN ?_;refine oe bP ?_;refine om ?_;refine au rfl (bM (b:=b2)) ?_;refine au rfl (ay 2) ?_;refine au rfl (aD (b:=b7)) ?_;refine au rfl (ay 3) ?_;refine au rfl (aD (b:=b7)) ?_;obtain⟨um,FT,hM⟩:=bind_some hM;refine cg rfl (fun hg hs=>aan _ _ p0 av x5.Min x5.Max um (dF FT hg) (bq hs) ⟨(kM hs),(kM hs),(kM hs),(kM hs),(kM hs),(kM hs),(kM hs)⟩) ?_;refine au rfl dN ?_;refine oe bP ?_;refine on ?_;refine cc rfl hM (fun uT hM=>?_) (fun uT hM=>?_)
  · refine bg ?_;exact aP (bD hM)
  refine aM (fu _ _ ?_);clear fu;refine aF fun pR eH=>?_;refine sr ?_;refine oe (ay 5) ?_;refine oe (aD (b:=b2)) ?_;refine om ?_;obtain⟨DC,akl,hM⟩:=bind_some hM;refine aY (NG (r:=av.2.2.2.2.1) (xs:=p0.Turns) (ol:=none) (oh:=some (.i64,(jh:Int))) (Sk.cO (α:=List Turn) (r:=av.2.2.2.2.1) (x:=p0.Turns) hA) akl (fun jv=>?_));refine oe XZ ?_;obtain⟨jE,yQ,hM⟩:=bind_some hM;refine cv (fun hs=>anw _ _ DC jv b7 x5 jE yQ (bq hs) (kM hs) (JK hA hs)) ?_;refine on ?_;refine cc rfl hM (fun Az hM=>?_) (fun Az hM=>?_)
  · refine bg ?_;exact aP (bD hM)
  refine aM (eH _ _ ?_);clear eH;refine jn (Nat×Nat) y (k:=U6 p0 aN jh) (fun (TL,OV,TM,A8,Ww,Si,Wx,EO) (I7,KR)=>[(3,eP b2),(7,eP I7),(8,eP KR),(10,eS av.2.2.2.2.1 p0.Turns),(11,eI (p0.Turns.length:Int)),(12,eI (jh:Int))]) (fun (TL,OV,TM,A8,Ww,Si,Wx,EO) (I7,KR)=>[iL p0.bJ av.1,iL p0.Routes av.2.1,iL p0.Lines av.2.2.1,iL p0.Changes av.2.2.2.1,iL p0.Turns av.2.2.2.2.1,iL p0.dx av.2.2.2.2.2.1,iL p0.dn av.2.2.2.2.2.2,own b2 36 (fZ p0 av),iL A8 (av.2.2.1.es x5.From.toNat),own I7 47 [.string TL.ba,vI OV,vI TM,sL (av.2.2.1.es x5.From.toNat) A8],iL EO (av.2.2.1.es x5.To.toNat),own KR 47 [.string Ww.ba,vI Si,vI Wx,sL (av.2.2.1.es x5.To.toNat) EO]]) ?_ ?_
  · intro zB hJ2;refine fE _ (List.Sublist.refl _) ?_;refine aj 0 rfl (ay 3) ?_;refine aj 1 rfl (aD (b:=b2)) ?_;refine aj 2 rfl (ay 0) ?_;refine aj 3 rfl (aD (b:=b7)) ?_;obtain⟨x31,hx32,hM⟩:=bind_some hM;refine aj 4 rfl (aQ (xs:=p0.Lines) 4 (kG p0.Lines av.2.2.1) (iS hx32)) ?_;refine aj 5 rfl (eY (m:=4) (i:=x5.From) (xs:=p0.Lines) (y:=x31) (l:=(mR x31 (av.2.2.1.es x5.From.toNat))) 0 (kG p0.Lines av.2.2.1) (fun _=>hx32)) ?_;refine aj 6 rfl (ay 3) ?_;refine aj 7 rfl (aD (b:=b2)) ?_;refine aj 8 rfl (ay 1) ?_;refine aj 9 rfl (aD (b:=b7)) ?_;obtain⟨iW,hx34,hM⟩:=bind_some hM;refine aj 10 rfl (aQ (xs:=p0.Lines) 4 (kG p0.Lines av.2.2.1) (iS hx34)) ?_;refine aj 11 rfl (eY (m:=4) (i:=x5.To) (xs:=p0.Lines) (y:=iW) (l:=(mR iW (av.2.2.1.es x5.To.toNat))) 0 (kG p0.Lines av.2.2.1) (fun _=>hx34)) ?_;refine mP 12 13 (⟨_,rfl,rfl,iP rfl (k:=fun b35=>⟨rI,?_⟩)⟩) (⟨_,rfl,rfl,iP rfl (k:=fun b36=>⟨rI,?_⟩)⟩)
    ·refine aA 13 rfl rfl fun GK=>?_;refine aS 14 rfl b35 (mR x31 (av.2.2.1.es x5.From.toNat)) ?_;refine aS 15 rfl GK (mR iW (av.2.2.1.es x5.To.toNat)) ?_;refine Db (fun w hm=>hm.wV (α:=List gL) (r:=(av.2.2.1.es x5.From.toNat)) (x:=x31.bC) (fun S hs=>(Sk.elem (Sk.cO (α:=List Line) (r:=av.2.2.1) (x:=p0.Lines) hA) hx32) S w hs)) ?_;refine Db (fun w hm=>hm.wV (α:=List gL) (r:=(av.2.2.1.es x5.To.toNat)) (x:=iW.bC) (fun S hs=>(Sk.elem (Sk.cO (α:=List Line) (r:=av.2.2.1) (x:=p0.Lines) hA) hx34) S w hs)) ?_;refine dK (hJ2 (b35,GK) hM sS rI)
    refine aA 12 rfl rfl fun Dh=>?_;refine aS 14 rfl Dh (mR x31 (av.2.2.1.es x5.From.toNat)) ?_;refine aS 15 rfl b36 (mR iW (av.2.2.1.es x5.To.toNat)) ?_;refine Db (fun w hm=>hm.wV (α:=List gL) (r:=(av.2.2.1.es x5.From.toNat)) (x:=x31.bC) (fun S hs=>(Sk.elem (Sk.cO (α:=List Line) (r:=av.2.2.1) (x:=p0.Lines) hA) hx32) S w hs)) ?_;refine Db (fun w hm=>hm.wV (α:=List gL) (r:=(av.2.2.1.es x5.To.toNat)) (x:=iW.bC) (fun S hs=>(Sk.elem (Sk.cO (α:=List Line) (r:=av.2.2.1) (x:=p0.Lines) hA) hx34) S w hs)) ?_;refine dK (hJ2 (Dh,b36) hM sS rI)
  clear hM;rintro⟨TL,OV,TM,A8,Ww,Si,Wx,EO⟩ ⟨I7,KR⟩ hM;dsimp only[U6] at hM ⊢;refine aF fun zA kg=>?_;refine fE _ (List.Sublist.refl _) ?_;refine aj 0 rfl (bM (b:=b2)) ?_;refine aj 1 rfl (ay 3) ?_;refine aj 2 rfl (aD (b:=I7)) ?_;refine aj 3 rfl (ay 3) ?_;refine aj 4 rfl (aD (b:=I7)) ?_;refine aj 5 rfl bf ?_;obtain⟨Ym,hM⟩:=bQ hM;refine aj 6 rfl (mQ (hr:=fun hg=>dI Ym)) ?_;obtain⟨ko,Dw,hM⟩:=bind_some hM;refine aj 7 rfl (aQ (xs:=A8) 4 (kG A8 (av.2.2.1.es x5.From.toNat)) (iS Dw)) ?_;refine aj 8 rfl (eY (m:=4) (i:=((A8.length:Int)-1)) (xs:=A8) (y:=ko) (l:=(Bb ko)) 0 (kG A8 (av.2.2.1.es x5.From.toNat)) (fun _=>Dw)) ?_;refine aj 10 rfl (bM (b:=b2)) ?_;refine aj 11 rfl (ay 3) ?_;refine aj 12 rfl (aD (b:=KR)) ?_;obtain⟨x24,hx25,hM⟩:=bind_some hM;refine aj 13 rfl (aQ (xs:=EO) 4 (kG EO (av.2.2.1.es x5.To.toNat)) (iS hx25)) ?_;refine aj 14 rfl (eY (m:=4) (i:=0) (xs:=EO) (y:=x24) (l:=(Bb x24)) 0 (kG EO (av.2.2.1.es x5.To.toNat)) (fun _=>hx25)) ?_
  obtain⟨Aj,hy27,hM⟩:=bind_some hM;refine dX 9 rfl (sV (fun hs=>aau _ _ p0 av ko Aj hy27 (bq hs) ⟨(kM hs),(kM hs),(kM hs),(kM hs),(kM hs),(kM hs),(kM hs)⟩) ⟨rI,?_⟩);obtain⟨y28,hy29,hM⟩:=bind_some hM;refine dX 15 rfl (sV (fun hs=>aat _ _ p0 av x24 y28 hy29 (bq hs) ⟨(kM hs),(kM hs),(kM hs),(kM hs),(kM hs),(kM hs),(kM hs)⟩) ⟨rI,?_⟩);refine aj 16 rfl gH ?_;refine aj 17 rfl aH ?_;refine bO 18 rfl rfl (ay 1) ?_;refine bO 19 rfl rfl (aD (b:=I7)) ?_;refine bO 20 rfl rfl (ay 1) ?_;refine bO 21 rfl rfl (aD (b:=KR)) ?_;refine bO 22 rfl rfl gH ?_;refine aj 23 rfl bP ?_;refine dK (kg _ _ ?_);clear kg;refine cc rfl hM (fun Jg hM=>?_) (fun Jg hM=>?_)
  · refine bg ?_;exact aP (bD hM)
  refine aM (bU _ _ ?_);clear bU;refine aT ?_;refine oe (dh (hr:=fun _=>by unfold dS;omega)) ?_;refine om ?_;refine aU (hL1 hM sS rI)
 refine bX (hK2 _ _ ?_);clear hK2;dsimp only[afj] at hM;refine bg ?_;exact aP (bD hM)
def afi:Unit→Option Int:=fun _=>
 some 0
def U4(p0:Plan)(aN:Nat→Option Int):Nat→Option Int:=fun pK=>
 if decide ((pK:Int)<(p0.dx.length:Int)) then
  ((idx p0.dx (pK:Int)).bind fun x5=>
  (Ht p0 x5.qN x5.qO).bind fun y8=>
  (dW (!(!y8)) default (Ht p0 x5.q8 x5.q9)).bind fun iG=>
  if (((((!y8)||(!iG))||(decide (x5.qN=x5.q8)&&decide (x5.qO=x5.q9)))||decide (x5.Offset<0))||decide (p0.eX≤x5.Offset)) then
   (some 4)
  else
   (aN (pK+1)))
 else
  (afi ())
def MJ(l0:Layout)(p0:Plan):Option Int:=
 iter (U4 p0) FUEL 0
theorem amk(S:bF)(w:World)(l0:Layout)(aG:ak.R Layout)(p0:Plan)(av:ak.R Plan)(y:Int)(hM:MJ l0 p0=some y)(hS:sB S w)(eT:ak.ok S w aG l0)(gB:ak.ok S w av p0):
   Calls Tryz.prog 42 #[.agg (lX l0 aG),.agg (mO p0 av)] w (dw w (vI y)):=by
 refine bW (args:=[_,_]) Tryz.func42 rfl ((pre_nil hS).start |>.ny eT|>.oL gB) rfl ?_;unfold MJ at hM;refine sr ?_;refine oB (eD l0 aG) fun b1=>?_;refine oB (fZ p0 av) fun b2=>?_
 refine aL ?_;refine aF fun K2 hK2=>?_;refine sr ?_;refine oe (ay 6) ?_;refine oe (aD (b:=b2)) ?_;refine gU (fun w hm=>Kn.len (kG p0.dx av.2.2.2.2.2.1) hm) fun hl3=>?_;refine oe bf ?_;refine om ?_;refine on ?_;refine aV ?_;refine lq hM (fun pK=>[(3,eP b2),(8,eS av.2.2.2.2.2.1 p0.dx),(9,eI (p0.dx.length:Int)),(10,eI (pK:Int))]) (fun pK=>[iL p0.bJ av.1,iL p0.Routes av.2.1,iL p0.Lines av.2.2.1,iL p0.Changes av.2.2.2.1,iL p0.Turns av.2.2.2.2.1,iL p0.dx av.2.2.2.2.2.1,iL p0.dn av.2.2.2.2.2.2,own b2 36 (fZ p0 av)]) sS rI ?_;clear hM;rintro aN pK hM fQ hL1
 dsimp only[U4] at hM ⊢;refine sr ?_;refine oe bK ?_;refine on ?_;refine aF fun K5 bT=>?_;refine cc rfl hM (fun hc4 hM=>?_) (fun hc4 hM=>?_)
 ·have Du:=of_decide_eq_true hc4;refine aM (bT _ _ ?_);clear bT;refine aF fun K6 bU=>?_;refine aV ?_;refine sr ?_;obtain⟨x5,hx6,hM⟩:=bind_some hM;refine oe (aQ (xs:=p0.dx) 5 (kG p0.dx av.2.2.2.2.2.1) (iS hx6)) ?_;refine oe (eY (m:=5) (i:=(pK:Int)) (xs:=p0.dx) (y:=x5) (l:=(UR x5)) 0 (kG p0.dx av.2.2.2.2.2.1) (fun _=>hx6)) ?_;refine oA rfl fun b7=>?_;refine oS b7 (UR x5) ?_;refine on ?_;refine sr ?_;refine oe (bM (b:=b2)) ?_;refine oe (ay 0) ?_;refine oe (aD (b:=b7)) ?_;refine oe (ay 1) ?_;refine oe (aD (b:=b7)) ?_;obtain⟨y8,qR,hM⟩:=bind_some hM;refine cv (fun hs=>U7 _ _ p0 av x5.qN x5.qO y8 qR (bq hs) ⟨(kM hs),(kM hs),(kM hs),(kM hs),(kM hs),(kM hs),(kM hs)⟩) ?_;refine oe dN ?_;refine om ?_;refine au rfl (bM (b:=b2)) ?_;refine au rfl (ay 2) ?_;refine au rfl (aD (b:=b7)) ?_;refine au rfl (ay 3) ?_
  refine au rfl (aD (b:=b7)) ?_;obtain⟨iG,tN,hM⟩:=bind_some hM;refine cg rfl (fun hg hs=>U7 _ _ p0 av x5.q8 x5.q9 iG (dF tN hg) (bq hs) ⟨(kM hs),(kM hs),(kM hs),(kM hs),(kM hs),(kM hs),(kM hs)⟩) ?_;refine au rfl dN ?_;refine oe bP ?_;refine om ?_;refine au rfl (ay 0) ?_;refine au rfl (aD (b:=b7)) ?_;refine au rfl (ay 2) ?_;refine au rfl (aD (b:=b7)) ?_;refine au rfl fI ?_;refine au rfl aH ?_;refine au rfl (ay 1) ?_;refine au rfl (aD (b:=b7)) ?_;refine au rfl (ay 3) ?_;refine au rfl (aD (b:=b7)) ?_;refine au rfl fI ?_;refine au rfl dB ?_;refine oe bP ?_;refine om ?_;refine au rfl (ay 4) ?_;refine au rfl (aD (b:=b7)) ?_;refine au rfl bK ?_;refine oe bP ?_;refine om ?_;refine au rfl (ay 4) ?_;refine au rfl (aD (b:=b7)) ?_;refine au rfl (ay 0) ?_;refine au rfl (aD (b:=b2)) ?_;refine au rfl ig ?_;refine oe bP ?_;refine on ?_;refine cc rfl hM (fun qQ hM=>?_) (fun qQ hM=>?_)
  · refine bg ?_;exact aP (bD hM)
  refine aM (bU _ _ ?_);clear bU;refine aT ?_;refine oe (dh (hr:=fun _=>by unfold dS;omega)) ?_;refine om ?_;refine aU (hL1 hM sS rI)
 refine bX (hK2 _ _ ?_);clear hK2;dsimp only[afi] at hM;refine bg ?_;exact aP (bD hM)
def afd:Unit→Option Int:=fun _=>
 some 0
def U0(p0:Plan)(l0:Layout)(aN:Nat→Option Int):Nat→Option Int:=fun pK=>
 if decide ((pK:Int)<(p0.dn.length:Int)) then
  ((idx p0.dn (pK:Int)).bind fun x5=>
  if ((((((decide (x5.From<0)||decide ((l0.bB.length:Int)≤x5.From))||decide (x5.To<0))||decide ((l0.bB.length:Int)≤x5.To))||decide (x5.From=x5.To))||decide (x5.Weight<1))||decide (1048576<x5.Weight)) then
   (some 4)
  else
   (aN (pK+1)))
 else
  (afd ())
def MC(l0:Layout)(p0:Plan):Option Int:=
 iter (U0 p0 l0) FUEL 0
theorem amc(S:bF)(w:World)(l0:Layout)(aG:ak.R Layout)(p0:Plan)(av:ak.R Plan)(y:Int)(hM:MC l0 p0=some y)(hS:sB S w)(eT:ak.ok S w aG l0)(gB:ak.ok S w av p0):
   Calls Tryz.prog 43 #[.agg (lX l0 aG),.agg (mO p0 av)] w (dw w (vI y)):=by
 refine bW (args:=[_,_]) Tryz.func43 rfl ((pre_nil hS).start |>.ny eT|>.oL gB) rfl ?_;unfold MC at hM;refine sr ?_;refine oB (eD l0 aG) fun b1=>?_;refine oB (fZ p0 av) fun b2=>?_
 refine aL ?_;refine aF fun K2 hK2=>?_;refine sr ?_;refine oe (ay 7) ?_;refine oe (aD (b:=b2)) ?_;refine gU (fun w hm=>Kn.len (kG p0.dn av.2.2.2.2.2.2) hm) fun hl3=>?_;refine oe bf ?_;refine om ?_;refine on ?_;refine aV ?_;refine lq hM (fun pK=>[(2,eP b1),(8,eS av.2.2.2.2.2.2 p0.dn),(9,eI (p0.dn.length:Int)),(10,eI (pK:Int))]) (fun pK=>[iL l0.bB aG.1,iL l0.bN aG.2.1,iL l0.Sections aG.2.2.1,iL l0.Links aG.2.2.2,own b1 27 (eD l0 aG),iL p0.dn av.2.2.2.2.2.2]) sS rI ?_;clear hM;rintro aN pK hM fQ hL1;dsimp only[U0] at hM ⊢;refine sr ?_;refine oe bK ?_;refine on ?_;refine aF fun K5 bT=>?_;refine cc rfl hM (fun hc4 hM=>?_) (fun hc4 hM=>?_)
 ·have Du:=of_decide_eq_true hc4;refine aM (bT _ _ ?_);clear bT;refine aF fun K6 bU=>?_;refine aV ?_;refine sr ?_;obtain⟨x5,hx6,hM⟩:=bind_some hM;refine oe (aQ (xs:=p0.dn) 3 (kG p0.dn av.2.2.2.2.2.2) (iS hx6)) ?_;refine oe (eY (m:=3) (i:=(pK:Int)) (xs:=p0.dn) (y:=x5) (l:=(UQ x5)) 0 (kG p0.dn av.2.2.2.2.2.2) (fun _=>hx6)) ?_;refine oA rfl fun b7=>?_;refine oS b7 (UQ x5) ?_;refine on ?_;refine sr ?_;refine oe (ay 0) ?_;refine oe (aD (b:=b7)) ?_;refine oe bK ?_;refine om ?_;refine au rfl (ay 0) ?_;refine au rfl (aD (b:=b7)) ?_;refine au rfl (ay 0) ?_;refine au rfl (aD (b:=b1)) ?_;refine au rfl bf ?_;refine au rfl ig ?_;refine oe bP ?_;refine om ?_;refine au rfl (ay 1) ?_;refine au rfl (aD (b:=b7)) ?_;refine au rfl bK ?_;refine oe bP ?_;refine om ?_;refine au rfl (ay 1) ?_;refine au rfl (aD (b:=b7)) ?_;refine au rfl (ay 0) ?_;refine au rfl (aD (b:=b1)) ?_
  refine au rfl bf ?_;refine au rfl ig ?_;refine oe bP ?_;refine om ?_;refine au rfl (ay 0) ?_;refine au rfl (aD (b:=b7)) ?_;refine au rfl (ay 1) ?_;refine au rfl (aD (b:=b7)) ?_;refine au rfl fI ?_;refine oe bP ?_;refine om ?_;refine au rfl (ay 2) ?_;refine au rfl (aD (b:=b7)) ?_;refine au rfl bK ?_;refine oe bP ?_;refine om ?_;refine au rfl (ay 2) ?_;refine au rfl (aD (b:=b7)) ?_;refine au rfl eO ?_;refine oe bP ?_;refine on ?_;refine cc rfl hM (fun hc8 hM=>?_) (fun hc8 hM=>?_)
  · refine bg ?_;exact aP (bD hM)
  refine aM (bU _ _ ?_);clear bU;refine aT ?_;refine oe (dh (hr:=fun _=>by unfold dS;omega)) ?_;refine om ?_;refine aU (hL1 hM sS rI)
 refine bX (hK2 _ _ ?_);clear hK2;dsimp only[afd] at hM;refine bg ?_;exact aP (bD hM)
def UY(x:Nat)(l0:Layout)(p0:Plan):Option Int:=
 if x=36 then MH l0 p0
 else if x=37 then MI l0 p0
 else if x=38 then MG l0 p0
 else if x=39 then ME l0 p0
 else if x=40 then MB l0 p0
 else if x=41 then MK l0 p0
 else if x=42 then MJ l0 p0
 else if x=43 then MC l0 p0
 else none
theorem al8{i:Int}{x:Nat}(h:idx ([36,37,38,39,40,41,42,43]:List Nat) i=some x):callable Tryz.prog x=true:=by
 have hm:=List.mem_of_getElem? (jG h).2.2
 simp only[List.mem_cons,List.not_mem_nil,or_false] at hm
 rcases hm with rfl|rfl|rfl|rfl|rfl|rfl|rfl|rfl
 ·exact (show callable Tryz.prog 36=true by kernel_rfl)
 ·exact (show callable Tryz.prog 37=true by kernel_rfl)
 ·exact (show callable Tryz.prog 38=true by kernel_rfl)
 ·exact (show callable Tryz.prog 39=true by kernel_rfl)
 ·exact (show callable Tryz.prog 40=true by kernel_rfl)
 ·exact (show callable Tryz.prog 41=true by kernel_rfl)
 ·exact (show callable Tryz.prog 42=true by kernel_rfl)
 ·exact (show callable Tryz.prog 43=true by kernel_rfl)
theorem al9(x:Nat)(S:bF)(w:World)(l0:Layout)(aG:ak.R Layout)(p0:Plan)(av:ak.R Plan)(y:Int)(hM:UY x l0 p0=some y)(hS:sB S w)(eT:ak.ok S w aG l0)(gB:ak.ok S w av p0):
  Calls Tryz.prog x #[.agg (lX l0 aG),.agg (mO p0 av)] w (dw w (vI y)):=by
 unfold UY at hM
 split at hM
 ·rename_i h;subst h;exact amh S w l0 aG p0 av y hM hS eT gB
 split at hM
 ·rename_i h;subst h;exact amj S w l0 aG p0 av y hM hS eT gB
 split at hM
 ·rename_i h;subst h;exact amg S w l0 aG p0 av y hM hS eT gB
 split at hM
 ·rename_i h;subst h;exact ame S w l0 aG p0 av y hM hS eT gB
 split at hM
 ·rename_i h;subst h;exact amb S w l0 aG p0 av y hM hS eT gB
 split at hM
 ·rename_i h;subst h;exact amm S w l0 aG p0 av y hM hS eT gB
 split at hM
 ·rename_i h;subst h;exact amk S w l0 aG p0 av y hM hS eT gB
 split at hM
 ·rename_i h;subst h;exact amc S w l0 aG p0 av y hM hS eT gB
 cases hM
def afb:Unit→Option Int:=fun _=>
 some 0
def UW(l0:Layout)(p0:Plan)(aN:Nat→Option Int):Nat→Option Int:=fun vw=>
 if decide ((vw:Int)<8) then
  ((idx ([36,37,38,39,40,41,42,43]:List Nat) (vw:Int)).bind fun x5=>
  (UY x5 l0 p0).bind fun y7=>
  if decide (y7≠0) then
   (some y7)
  else
   (aN (vw+1)))
 else
  (afb ())
def QH(l0:Layout)(p0:Plan):Option Int:=
 iter (UW l0 p0) FUEL 0
theorem ama(S:bF)(w:World)(l0:Layout)(aG:ak.R Layout)(p0:Plan)(av:ak.R Plan)(y:Int)(hM:QH l0 p0=some y)(hS:sB S w)(eT:ak.ok S w aG l0)(gB:ak.ok S w av p0):
   Calls Tryz.prog 17 #[.agg (lX l0 aG),.agg (mO p0 av)] w (dw w (vI y)):=by
 refine bW (args:=[_,_]) Tryz.func17 rfl ((pre_nil hS).start |>.ny eT|>.oL gB) rfl ?_;unfold QH at hM;refine sr ?_;refine oB (eD l0 aG) fun b1=>?_;refine oB (fZ p0 av) fun b2=>?_
 refine aL ?_;refine sr ?_;refine oe (gD [.func (.func 36) #[] #[],.func (.func 37) #[] #[],.func (.func 38) #[] #[],.func (.func 39) #[] #[],.func (.func 40) #[] #[],.func (.func 41) #[] #[],.func (.func 42) #[] #[],.func (.func 43) #[] #[]]) ?_;refine oA rfl fun b3=>?_;refine oS b3 [.func (.func 36) #[] #[],.func (.func 37) #[] #[],.func (.func 38) #[] #[],.func (.func 39) #[] #[],.func (.func 40) #[] #[],.func (.func 41) #[] #[],.func (.func 42) #[] #[],.func (.func 43) #[] #[]] ?_;refine on ?_;refine aF fun K3 hK3=>?_;refine sr ?_;refine oe (bM (b:=b3)) ?_;refine om ?_;refine on ?_;refine aV ?_;refine lq hM (fun vw=>[(2,eP b1),(3,eP b2),(10,.v (.agg #[.func (.func 36) #[] #[],.func (.func 37) #[] #[],.func (.func 38) #[] #[],.func (.func 39) #[] #[],.func (.func 40) #[] #[],.func (.func 41) #[] #[],.func (.func 42) #[] #[],.func (.func 43) #[] #[]])),(11,eI (vw:Int))]) (fun vw=>[iL l0.bB aG.1,iL l0.bN aG.2.1,iL l0.Sections aG.2.2.1,iL l0.Links aG.2.2.2,own b1 27 (eD l0 aG),iL p0.bJ av.1,iL p0.Routes av.2.1,iL p0.Lines av.2.2.1,iL p0.Changes av.2.2.2.1,iL p0.Turns av.2.2.2.2.1,iL p0.dx av.2.2.2.2.2.1,iL p0.dn av.2.2.2.2.2.2,own b2 36 (fZ p0 av)]) sS rI ?_
 clear hM;rintro aN vw hM fQ hL1;dsimp only[UW] at hM ⊢;refine sr ?_;refine oe bK ?_;refine on ?_;refine aF fun K6 bU=>?_;refine cc rfl hM (fun hc4 hM=>?_) (fun hc4 hM=>?_)
 ·have Du:=of_decide_eq_true hc4;refine aM (bU _ _ ?_);clear bU;refine aF fun K7 eU=>?_;refine aV ?_;refine sr ?_;obtain⟨x5,hx6,hM⟩:=bind_some hM;refine oe (aic (xs:=([36,37,38,39,40,41,42,43]:List Nat)) [.func (.func 36) #[] #[],.func (.func 37) #[] #[],.func (.func 38) #[] #[],.func (.func 39) #[] #[],.func (.func 40) #[] #[],.func (.func 41) #[] #[],.func (.func 42) #[] #[],.func (.func 43) #[] #[]] (fun _=>hx6)) ?_;refine aL ?_;refine aJ ?_;refine oe (bM (b:=b1)) ?_;refine oe (bM (b:=b2)) ?_;obtain⟨y7,Jq,hM⟩:=bind_some hM;refine aY (Wn (vs:=[.agg (lX l0 aG),.agg (mO p0 av)]) (cap:=[]) (hf:=al8 hx6) (fun w hm=>let ⟨S,hs⟩:=hm;al9 x5 _ w l0 aG p0 av y7 Jq (bq hs) ⟨(kM hs),(kM hs),(kM hs),(kM hs)⟩ ⟨(kM hs),(kM hs),(kM hs),(kM hs),(kM hs),(kM hs),(kM hs)⟩) ?_)
  refine aL ?_;refine aJ ?_;refine oe gH ?_;refine on ?_;refine cc rfl hM (fun rY hM=>?_) (fun rY hM=>?_)
  · refine aJ ?_;refine aL ?_;exact aP (bD hM)
  refine aM (eU _ _ ?_);clear eU;refine aT ?_;refine oe (dh (hr:=fun _=>by unfold dS;omega)) ?_;refine om ?_;refine aU (hL1 hM sS rI)
 refine bX (hK3 _ _ ?_);clear hK3;dsimp only[afb] at hM;refine bg ?_;exact aP (bD hM)
end Go.Proofs.YtcalibhfgdncaaaGreat
