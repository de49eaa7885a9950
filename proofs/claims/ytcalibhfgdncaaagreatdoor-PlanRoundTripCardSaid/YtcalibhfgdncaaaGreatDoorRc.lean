/- Models of functions, and that the code computes them. -/
import Derived.Test.YtcalibhfgdncaaaGreatDoorRa
import Derived.Test.YtcalibhfgdncaaaGreatDoorRb
set_option linter.all false
namespace Go.Proofs.YtcalibhfgdncaaaGreatDoor
open Go.Dc Go.RowKit
set_option maxRecDepth 10000
def afD(zB:List Str)(zC:List Str)(zD:List Section)(zF:List Link):Unit→Option (Layout×Int×Int):=fun _=>
 (aaX (Layout.mk zB zC zD zF)).bind fun Ah=>
 if decide (Ah≠0) then
  (some ((Layout.mk ([]:List Str) ([]:List Str) ([]:List Section) ([]:List Link)),0,Ah))
 else
  (some ((Layout.mk zB zC zD zF),0,0))
def afC(y2:(List (List Word))×Int×Int)(aY:((List Str)×(List Str)×(List Section)×(List Link)×Nat)→Option (Layout×Int×Int)):((List Str)×(List Str)×(List Section)×(List Link)×Nat)→Option (Layout×Int×Int):=fun (zB,zC,zD,zF,bM)=>
 if decide ((bM:Int)<(y2.1.length:Int)) then
  ((idx y2.1 (bM:Int)).bind fun x20=>
  (aa5 (Layout.mk zB zC zD zF) x20).bind fun y22=>
  if decide (y22.1≠0) then
   ((idx y2.1 (bM:Int)).bind fun TW=>
   (idx TW 0).bind fun x28=>
   some ((Layout.mk ([]:List Str) ([]:List Str) ([]:List Section) ([]:List Link)),x28.Line,y22.1))
  else
   (bG (bW ((bM:Int)+1))<|
   aY (y22.2.1,y22.2.2.1,y22.2.2.2.1,y22.2.2.2.2,bM+1)))
 else
  (afD zB zC zD zF ())
def aa1(jU:Str):Option (Layout×Int×Int):=
 (aaY jU).bind fun y2=>
 if decide (y2.2.2≠0) then
  (some ((Layout.mk ([]:List Str) ([]:List Str) ([]:List Section) ([]:List Link)),y2.2.1,y2.2.2))
 else
  (iter (afC y2) FUEL (([]:List Str),([]:List Str),([]:List Section),([]:List Link),0))
theorem aoe(S:bB)(w:World)(jU:Str)(y:Layout×Int×Int)(hM:aa1 jU=some y)(hS:sB S w):
   Calls Tryz.prog 24 #[.string jU.ba] w (Post (β:=(ak.R Layout)) S [] (fun g=> .tuple #[.agg (lC y.1 g),vI y.2.1,vI y.2.2]) (fun g=>[ah 9 g.1 y.1.aM,ah 9 g.2.1 y.1.aV,ah 81 g.2.2.1 y.1.Sections,ah 183 g.2.2.2 y.1.Links]) w):=by
 refine bP (args:=[_]) Tryz.func24 rfl ((pre_nil hS).start) rfl ?_;unfold aa1 at hM;refine sr ?_;refine oA rfl fun b1=>?_;refine oa ?_;refine aP ?_;refine aO ?_;obtain⟨y2,hy3,hM⟩:=bind_some hM;refine bn (fq jw.nil (fun S w hs hP=>aoc _ w jU y2 hy3 hs.lt) (fun r4=>?_));dsimp only[cA,nA];refine om ?_;refine oe (eO (vs:=[sL r4 y2.1,vI y2.2.1,vI y2.2.2])) ?_;refine oe (eO (vs:=[sL r4 y2.1,vI y2.2.1,vI y2.2.2])) ?_;refine oe (eO (vs:=[sL r4 y2.1,vI y2.2.1,vI y2.2.2])) ?_;refine oa ?_;refine oa ?_;refine aP ?_;refine aG fun K3 hK3=>?_;refine aO ?_;refine oe iy ?_;refine on ?_;refine cc rfl hM (fun jA hM=>?_) (fun jA hM=>?_)
 ·refine sr ?_;refine oe (fT [z0,z0,z0,z0]) ?_;refine om ?_;refine om ?_;refine oS b1 [z0,z0,z0,z0] ?_;refine oa ?_;refine aP ?_;refine bQ (fun w hm=>hm.bV (α:=Str) 9 (fun _=>())) ?_;refine bQ (fun w hm=>hm.bV (α:=Str) 9 (fun _=>())) ?_;refine bQ (fun w hm=>hm.bV (α:=Section) 81 (fun _=>())) ?_;refine bQ (fun w hm=>hm.bV (α:=Link) 183 (fun _=>())) ?_;obtain rfl:=some_inj hM;refine aW (uY (fun w hm=>dO (je,je,uy,qQ) hm rfl))
 refine aX (hK3 _ _ ?_);clear hK3;refine sr ?_;refine oA rfl fun b10=>?_;refine on ?_;refine aG fun K7 dZ=>?_;refine bD ?_;refine bF ?_;refine bQ (fun w hm=>hm.bV (α:=Str) 9 (fun _=>())) ?_;refine bQ (fun w hm=>hm.bV (α:=Str) 9 (fun _=>())) ?_;refine bQ (fun w hm=>hm.bV (α:=Section) 81 (fun _=>())) ?_;refine bQ (fun w hm=>hm.bV (α:=Link) 183 (fun _=>())) ?_;refine bQ (fun w hm=>hm.bV (α:=Str) 9 (fun _=>())) ?_;refine bQ (fun w hm=>hm.bV (α:=Str) 9 (fun _=>())) ?_;refine bQ (fun w hm=>hm.bV (α:=Section) 81 (fun _=>())) ?_;refine bQ (fun w hm=>hm.bV (α:=Link) 183 (fun _=>())) ?_;refine lp (je,je,uy,qQ) hM (fun (zB,zC,zD,zF,bM) (H8,H9,Ia,Ib)=>[(2,eP b1),(5,eS r4 y2.1),(8,eP b10),(9,eI (bM:Int))]) (fun (zB,zC,zD,zF,bM) (H8,H9,Ia,Ib)=>[ah 9 je ([]:List Str),ah 9 je ([]:List Str),ah 81 uy ([]:List Section),ah 183 qQ ([]:List Link),own b1 26 [z0,z0,z0,z0],ah 105 r4 y2.1,ah 9 H8 zB,ah 9 H9 zC,ah 81 Ia zD,ah 183 Ib zF,own b10 26 [sL H8 zB,sL H9 zC,sL Ia zD,sL Ib zF]]) sS rI ?_
 clear hM;rintro aY ⟨zB,zC,zD,zF,bM⟩ ⟨H8,H9,Ia,Ib⟩ hM gu hL1;dsimp only[afC] at hM ⊢;refine aG fun K9 dU=>?_;refine aO ?_;refine om ?_;refine oe bJ ?_;refine oe cO ?_;refine on ?_;refine cc rfl hM (fun hc19 hM=>?_) (fun hc19 hM=>?_)
 ·refine aX (dU _ _ ?_);clear dU;refine aG fun o7 eH=>?_;refine bF ?_;refine aO ?_;refine om ?_;obtain⟨x20,zn,hM⟩:=bind_some hM;refine oe (bI (xs:=y2.1) 1 (Kn.ah (e:=105) (r:=r4) hA) (iS zn)) ?_;refine oe (dh (i:=(bM:Int)) (xs:=y2.1) (y:=x20) 0 (Kn.ah (e:=105) (r:=r4) hA) (fun _=>zn)) ?_;obtain⟨y22,xE,hM⟩:=bind_some hM;refine bn (eU sA (fun S w hs hP=>aoh _ w b10 (Layout.mk zB zC zD zF) (H8,H9,Ia,Ib) x20 (r4.es (bM:Int).toNat) y22 xE hP (Kn.lend ((Sk.row (e:=105) (r:=r4) hA zn)).kn hs)) fK (fun qX=>?_));dsimp only[cA,nA];refine aP ?_;refine aO ?_;refine oe iy ?_;refine on ?_;refine cc rfl hM (fun hc25 hM=>?_) (fun hc25 hM=>?_)
  · refine aG fun Ej ng=>?_;refine iD [own b10 26 [sL qX.1 y22.2.1,sL qX.2.1 y22.2.2.1,sL qX.2.2.1 y22.2.2.2.1,sL qX.2.2.2 y22.2.2.2.2],ah 9 qX.1 y22.2.1,ah 9 qX.2.1 y22.2.2.1,ah 81 qX.2.2.1 y22.2.2.2.1,ah 183 qX.2.2.2 y22.2.2.2.2,ah 9 je ([]:List Str),ah 9 je ([]:List Str),ah 81 uy ([]:List Section),ah 183 qQ ([]:List Link),ah 105 r4 y2.1] (by repeat (first|exact List.Sublist.refl _|apply List.Sublist.cons_cons|apply List.Sublist.cons)) ?_;refine ay 0 rfl (fT [z0,z0,z0,z0]) ?_;refine ay 1 rfl aH ?_;refine ay 2 rfl aH ?_;obtain⟨TW,hx27,hM⟩:=bind_some hM;refine ay 3 rfl (bI (xs:=y2.1) 1 (Kn.ah (e:=105) (r:=r4) hA) (iS hx27)) ?_;refine ay 4 rfl (dh (i:=(bM:Int)) (xs:=y2.1) (y:=TW) 0 (Kn.ah (e:=105) (r:=r4) hA) (fun _=>hx27)) ?_;obtain⟨x28,hx29,hM⟩:=bind_some hM;refine ay 5 rfl (bI (xs:=TW) 3 ((Sk.row (e:=105) (r:=r4) hA hx27)).kn (iS hx29)) ?_;refine ay 6 rfl (aD 1) ?_;refine ay 7 rfl (dh (i:=0) (xs:=TW) (y:=x28) 1 ((Sk.row (e:=105) (r:=r4) hA hx27)).kn (fun _=>hx29)) ?_
    refine ay 8 rfl aH ?_;refine aS 9 rfl b1 [z0,z0,z0,z0] ?_;refine ay 10 rfl dx ?_;refine ay 11 rfl dx ?_;refine dY (ng _ _ ?_);clear ng;refine bQ (fun w hm=>hm.bV (α:=Str) 9 (fun _=>())) ?_;refine bQ (fun w hm=>hm.bV (α:=Str) 9 (fun _=>())) ?_;refine bQ (fun w hm=>hm.bV (α:=Section) 81 (fun _=>())) ?_;refine bQ (fun w hm=>hm.bV (α:=Link) 183 (fun _=>())) ?_;obtain rfl:=some_inj hM;refine aW (uY (fun w hm=>dO (je,je,uy,qQ) hm rfl))
  refine aX (eH _ _ ?_);clear eH;refine aZ ?_;refine om ?_;refine oP hM fun hM=>?_;refine oa ?_;refine bf (hL1 (qX.1,qX.2.1,qX.2.2.1,qX.2.2.2) hM sS rI)
 refine dL (dZ _ _ ?_);clear dZ;dsimp only[afD] at hM;refine aG fun CY l7=>?_;refine sr ?_;refine oe (bX (b:=b10)) ?_;obtain⟨Ah,Lx,hM⟩:=bind_some hM;refine cv (fun hs=>aob _ _ (Layout.mk zB zC zD zF) (H8,H9,Ia,Ib) Ah Lx (bC hs) ⟨(kT hs),(kT hs),(kT hs),(kT hs)⟩) ?_;refine aP ?_;refine aO ?_;refine oe iy ?_;refine on ?_;refine cc rfl hM (fun Py hM=>?_) (fun Py hM=>?_)
 ·refine sr ?_;refine oe (fT [z0,z0,z0,z0]) ?_;refine om ?_;refine oS b1 [z0,z0,z0,z0] ?_;refine oa ?_;refine aP ?_;refine bQ (fun w hm=>hm.bV (α:=Str) 9 (fun _=>())) ?_;refine bQ (fun w hm=>hm.bV (α:=Str) 9 (fun _=>())) ?_;refine bQ (fun w hm=>hm.bV (α:=Section) 81 (fun _=>())) ?_;refine bQ (fun w hm=>hm.bV (α:=Link) 183 (fun _=>())) ?_;obtain rfl:=some_inj hM;refine aW (uY (fun w hm=>dO (je,je,uy,qQ) hm rfl))
 refine aX (l7 _ _ ?_);clear l7;refine sr ?_;refine oe (bX (b:=b10)) ?_;refine oS b1 [sL H8 zB,sL H9 zC,sL Ia zD,sL Ib zF] ?_;refine oa ?_;refine aP ?_;obtain rfl:=some_inj hM;refine aW (uY (fun w hm=>dO (H8,H9,Ia,Ib) hm rfl))
def aai:Option Layout:=
 (aa1 (⟨[115,116,97,116,105,111,110,32,78,111,114,116,104,10,112,111,105,110,116,32,87,10,115,101,99,116,105,111,110,32,84,32,52,48,32,51,51,48,48,48,32,48,10,115,101,99,116,105,111,110,32,78,49,32,50,48,32,50,48,48,48,48,32,48,32,97,116,32,78,111,114,116,104,10,115,101,99,116,105,111,110,32,78,50,32,50,48,32,50,48,48,48,48,32,48,32,97,116,32,78,111,114,116,104,10,108,105,110,107,32,84,32,66,32,78,49,32,65,32,87,32,48,10,108,105,110,107,32,84,32,66,32,78,50,32,65,32,87,32,49,10]⟩:Str)).bind fun y2=>
 some y2.1
theorem amc(S:bB)(w:World)(y:Layout)(hM:aai=some y)(hS:sB S w):
  Calls Tryz.prog 11 #[] w (Post (β:=(ak.R Layout)) S [] (fun g=> .agg (lC y g)) (fun g=>[ah 9 g.1 y.aM,ah 9 g.2.1 y.aV,ah 81 g.2.2.1 y.Sections,ah 183 g.2.2.2 y.Links]) w):=by
 refine bP (args:=[]) Tryz.func11 rfl ((pre_nil hS).start) rfl ?_;unfold aai at hM;refine sr ?_;refine oA rfl fun b1=>?_;refine on ?_;refine sr ?_;obtain⟨y2,hy3,hM⟩:=bind_some hM;refine bn (eU jw.nil (fun S w hs hP=>aoe _ w (⟨[115,116,97,116,105,111,110,32,78,111,114,116,104,10,112,111,105,110,116,32,87,10,115,101,99,116,105,111,110,32,84,32,52,48,32,51,51,48,48,48,32,48,10,115,101,99,116,105,111,110,32,78,49,32,50,48,32,50,48,48,48,48,32,48,32,97,116,32,78,111,114,116,104,10,115,101,99,116,105,111,110,32,78,50,32,50,48,32,50,48,48,48,48,32,48,32,97,116,32,78,111,114,116,104,10,108,105,110,107,32,84,32,66,32,78,49,32,65,32,87,32,48,10,108,105,110,107,32,84,32,66,32,78,50,32,65,32,87,32,49,10]⟩:Str) y2 hy3 (bC hs)) fK (fun r4=>?_));dsimp only[cA,nA];refine om ?_;refine oe (eO (vs:=[.agg (lC y2.1 r4),vI y2.2.1,vI y2.2.2])) ?_;refine oe (eO (vs:=[.agg (lC y2.1 r4),vI y2.2.1,vI y2.2.2])) ?_
 refine oe (eO (vs:=[.agg (lC y2.1 r4),vI y2.2.1,vI y2.2.2])) ?_;refine oA rfl fun b5=>?_;refine oS b5 (dP y2.1 r4) ?_;refine oa ?_;refine aP ?_;refine sr ?_;refine oe (bX (b:=b5)) ?_;refine oS b1 (dP y2.1 r4) ?_;refine on ?_;obtain rfl:=some_inj hM;refine aW (jE (fun w hm=>dO r4 hm rfl))
end Go.Proofs.YtcalibhfgdncaaaGreatDoor
