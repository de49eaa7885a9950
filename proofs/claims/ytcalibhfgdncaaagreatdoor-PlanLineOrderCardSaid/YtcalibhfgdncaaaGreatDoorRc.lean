/- Functions: models, proved of the code. -/
import Derived.Test.YtcalibhfgdncaaaGreatDoorRa
import Derived.Test.YtcalibhfgdncaaaGreatDoorRb
namespace Go.Proofs.YtcalibhfgdncaaaGreatDoor
open Go.Dc Go.RowKit
attribute [local irreducible] CW OW AW AZ Ev
set_option maxHeartbeats 0
set_option maxRecDepth 10000
set_option linter.all false
def ajN(AY:List Str)(A8:List Str)(A9:List Section)(Ba:List Link):Unit→Option (Layout×Int×Int):=fun _=>
 (Jw (Layout.mk AY A8 A9 Ba)).bind fun BS=>
 if decide (BS≠0) then
  (some ((Layout.mk ([]:List Str) ([]:List Str) ([]:List Section) ([]:List Link)),0,BS))
 else
  (some ((Layout.mk AY A8 A9 Ba),0,0))
def ajM(y2:(List (List Word))×Int×Int)(aK:((List Str)×(List Str)×(List Section)×(List Link)×Nat)→Option (Layout×Int×Int)):((List Str)×(List Str)×(List Section)×(List Link)×Nat)→Option (Layout×Int×Int):=fun (AY,A8,A9,Ba,aH)=>
 if decide ((aH:Int)<(y2.1.length:Int)) then
  ((idx y2.1 (aH:Int)).bind fun x20=>
  (aeY (Layout.mk AY A8 A9 Ba) x20).bind fun y22=>
  if decide (y22.1≠0) then
   ((idx y2.1 (aH:Int)).bind fun x26=>
   (idx x26 0).bind fun x28=>
   some ((Layout.mk ([]:List Str) ([]:List Str) ([]:List Section) ([]:List Link)),x28.Line,y22.1))
  else
   (aO (aX ((aH:Int)+1))<|
   aK (y22.2.1,y22.2.2.1,y22.2.2.2.1,y22.2.2.2.2,aH+1)))
 else
  (ajN AY A8 A9 Ba ())
def aeS(jK:Str):Option (Layout×Int×Int):=
 (PY jK).bind fun y2=>
 if decide (y2.2.2≠0) then
  (some ((Layout.mk ([]:List Str) ([]:List Str) ([]:List Section) ([]:List Link)),y2.2.1,y2.2.2))
 else
  (iter (ajM y2) FUEL (([]:List Str),([]:List Str),([]:List Section),([]:List Link),0))
theorem auF(S:aW)(w:World)(jK:Str)(y:Layout×Int×Int)(hM:aeS jK=some y)(hS:sB S w):
   Calls Tryz.prog 24 #[.string jK.ba] w (Post (β:=(ah.R Layout)) S [] (fun g=> .tuple #[.agg (jy y.1 g),vI y.2.1,vI y.2.2]) (fun g=>[aj 9 g.1 y.1.aT,aj 9 g.2.1 y.1.bE,aj 81 g.2.2.1 y.1.Sections,aj 183 g.2.2.2 y.1.Links]) w):=by
 refine bF (args:=[_]) Tryz.func24 rfl ((pre_nil hS).start) rfl ?_;unfold aeS at hM;refine sr ?_;refine oA rfl fun b1=>?_;refine oa ?_;refine aN ?_;refine aR ?_;obtain⟨y2,hy3,hM⟩:=bind_some hM;refine bf (eH iO.nil (fun S w hs hP=>ajK _ w jK y2 hy3 hs.lt) (fun r4=>?_));dsimp only[cA,nA];refine om ?_;refine oe (bU (vs:=[sL r4 y2.1,vI y2.2.1,vI y2.2.2])) ?_;refine oe (bU (vs:=[sL r4 y2.1,vI y2.2.1,vI y2.2.2])) ?_;refine oe (bU (vs:=[sL r4 y2.1,vI y2.2.1,vI y2.2.2])) ?_;refine oa ?_;refine oa ?_;refine aN ?_;refine au fun K3 hK3=>?_;refine aR ?_;refine oe nQ ?_;refine oc hM (fun iH hM=>?_) (fun iH hM=>?_)
 ·refine sr ?_;refine oe (dO [z0,z0,z0,z0]) ?_;refine om ?_;refine om ?_;refine oS b1 [z0,z0,z0,z0] ?_;refine oa ?_;refine aN ?_;refine rn Str 9 (fun _=>()) ?_;refine rn Str 9 (fun _=>()) ?_;refine rn Section 81 (fun _=>()) ?_;refine rn Link 183 (fun _=>()) ?_;obtain rfl:=some_inj hM;refine aF (qp (fun w hm=>bR (uG,uG,Ma,Jd) hm rfl))
 refine cs hK3 ?_;refine sr ?_;refine oA rfl fun b10=>?_;refine on ?_;refine au fun K7 gu=>?_;refine aJ ?_;refine bI ?_;refine rn Str 9 (fun _=>()) ?_;refine rn Str 9 (fun _=>()) ?_;refine rn Section 81 (fun _=>()) ?_;refine rn Link 183 (fun _=>()) ?_;refine rn Str 9 (fun _=>()) ?_;refine rn Str 9 (fun _=>()) ?_;refine rn Section 81 (fun _=>()) ?_;refine rn Link 183 (fun _=>()) ?_;refine lr (uG,uG,Ma,Jd) hM [2,5,8] (fun (AY,A8,A9,Ba,aH) (JG,JH,JI,JJ)=>[(9,eI (aH:Int))]) [4,0,0,0,0] (fun (AY,A8,A9,Ba,aH) (JG,JH,JI,JJ)=>[aj 9 JG AY,aj 9 JH A8,aj 81 JI A9,aj 183 JJ Ba,own b10 26 [sL JG AY,sL JH A8,sL JI A9,sL JJ Ba]]) ?_;clear hM;rintro aK ⟨AY,A8,A9,Ba,aH⟩ ⟨JG,JH,JI,JJ⟩ hM eO hL1;dsimp only[ajM,cA,nA] at hM ⊢;refine au fun K9 fH=>?_;refine go ?_;refine co hM (fun hc19 hM=>?_) (fun hc19 hM=>?_)
 ·refine cs fH ?_;refine au fun nG gH=>?_;refine bI ?_;refine aR ?_;refine om ?_;refine zP 1 (Kn.aj (e:=105) (r:=r4) hA) hM fun x20 DJ hM=>?_;obtain⟨y22,uD,hM⟩:=bind_some hM;refine bf (fu sA (fun S w hs hP=>auI _ w b10 (Layout.mk AY A8 A9 Ba) (JG,JH,JI,JJ) x20 (r4.es (aH:Int).toNat) y22 uD hP (Kn.lend ((Sk.row (e:=105) (r:=r4) hA DJ)).kn hs)) fG (fun qy=>?_));dsimp only[cA,nA];refine go ?_;refine co hM (fun hc25 hM=>?_) (fun hc25 hM=>?_)
  · refine au fun yu mX=>?_;refine dS [own b10 26 [sL qy.1 y22.2.1,sL qy.2.1 y22.2.2.1,sL qy.2.2.1 y22.2.2.2.1,sL qy.2.2.2 y22.2.2.2.2],aj 9 qy.1 y22.2.1,aj 9 qy.2.1 y22.2.2.1,aj 81 qy.2.2.1 y22.2.2.2.1,aj 183 qy.2.2.2 y22.2.2.2.2,aj 183 Jd ([]:List Link),aj 81 Ma ([]:List Section),aj 9 uG ([]:List Str),aj 9 uG ([]:List Str),aj 105 r4 y2.1] (by repeat (first|exact List.Sublist.refl _|apply List.Sublist.cons_cons|apply List.Sublist.cons)) ?_;refine ay 0 rfl (dO [z0,z0,z0,z0]) ?_;refine am 1 ?_;refine am 2 ?_;refine ET 3 1 (Kn.aj (e:=105) (r:=r4) hA) hM fun x26 hx27 hM=>?_;obtain⟨x28,hx29,hM⟩:=bind_some hM;refine ay 5 rfl (dL 3 ((Sk.row (e:=105) (r:=r4) hA hx27)).kn (iS hx29)) ?_;refine ay 6 rfl (aY 1) ?_;refine ay 7 rfl (dY 1 ((Sk.row (e:=105) (r:=r4) hA hx27)).kn (fun _=>hx29)) ?_;refine am 8 ?_;refine aS 9 rfl b1 [z0,z0,z0,z0] ?_;refine ay 10 rfl eX ?_;refine ay 11 rfl eX ?_;refine bS (mX _ _ ?_);refine rn Str 9 (fun _=>()) ?_;refine rn Str 9 (fun _=>()) ?_;refine rn Section 81 (fun _=>()) ?_;refine rn Link 183 (fun _=>()) ?_;obtain rfl:=some_inj hM;refine aF (qp (fun w hm=>bR (uG,uG,Ma,Jd) hm rfl))
  refine cs gH ?_;refine bg ?_;refine om ?_;refine oP hM fun hM=>?_;refine oa ?_;refine bq (hL1 (qy.1,qy.2.1,qy.2.2.1,qy.2.2.2) hM sS rI)
 refine cx gu ?_;dsimp only[ajN] at hM;refine au fun Dn qF=>?_;refine sr ?_;refine oe fC ?_;obtain⟨BS,Ob,hM⟩:=bind_some hM;refine cv (fun hs=>ZN _ _ (Layout.mk AY A8 A9 Ba) (JG,JH,JI,JJ) BS Ob (aM hs) ⟨(kT hs),(kT hs),(kT hs),(kT hs)⟩) ?_;refine go ?_;refine co hM (fun SF hM=>?_) (fun SF hM=>?_)
 ·refine sr ?_;refine oe (dO [z0,z0,z0,z0]) ?_;refine om ?_;refine oS b1 [z0,z0,z0,z0] ?_;refine oa ?_;refine aN ?_;refine rn Str 9 (fun _=>()) ?_;refine rn Str 9 (fun _=>()) ?_;refine rn Section 81 (fun _=>()) ?_;refine rn Link 183 (fun _=>()) ?_;obtain rfl:=some_inj hM;refine aF (qp (fun w hm=>bR (uG,uG,Ma,Jd) hm rfl))
 refine cs qF ?_;refine sr ?_;refine oe fC ?_;refine oS b1 [sL JG AY,sL JH A8,sL JI A9,sL JJ Ba] ?_;refine oa ?_;refine aN ?_;obtain rfl:=some_inj hM;refine aF (qp (fun w hm=>bR (JG,JH,JI,JJ) hm rfl))
def ad7:Option Layout:=
 (aeS (⟨[115,116,97,116,105,111,110,32,78,111,114,116,104,10,112,111,105,110,116,32,87,10,115,101,99,116,105,111,110,32,84,32,52,48,32,51,51,48,48,48,32,48,10,115,101,99,116,105,111,110,32,78,49,32,50,48,32,50,48,48,48,48,32,48,32,97,116,32,78,111,114,116,104,10,115,101,99,116,105,111,110,32,78,50,32,50,48,32,50,48,48,48,48,32,48,32,97,116,32,78,111,114,116,104,10,108,105,110,107,32,84,32,66,32,78,49,32,65,32,87,32,48,10,108,105,110,107,32,84,32,66,32,78,50,32,65,32,87,32,49,10]⟩:Str)).bind fun y2=>
 some y2.1
theorem asx(S:aW)(w:World)(y:Layout)(hM:ad7=some y)(hS:sB S w):
  Calls Tryz.prog 11 #[] w (Post (β:=(ah.R Layout)) S [] (fun g=> .agg (jy y g)) (fun g=>[aj 9 g.1 y.aT,aj 9 g.2.1 y.bE,aj 81 g.2.2.1 y.Sections,aj 183 g.2.2.2 y.Links]) w):=by
 refine bF (args:=[]) Tryz.func11 rfl ((pre_nil hS).start) rfl ?_;unfold ad7 at hM;refine sr ?_;refine oA rfl fun b1=>?_;refine on ?_;refine sr ?_;obtain⟨y2,hy3,hM⟩:=bind_some hM;refine bf (fu iO.nil (fun S w hs hP=>auF _ w (⟨[115,116,97,116,105,111,110,32,78,111,114,116,104,10,112,111,105,110,116,32,87,10,115,101,99,116,105,111,110,32,84,32,52,48,32,51,51,48,48,48,32,48,10,115,101,99,116,105,111,110,32,78,49,32,50,48,32,50,48,48,48,48,32,48,32,97,116,32,78,111,114,116,104,10,115,101,99,116,105,111,110,32,78,50,32,50,48,32,50,48,48,48,48,32,48,32,97,116,32,78,111,114,116,104,10,108,105,110,107,32,84,32,66,32,78,49,32,65,32,87,32,48,10,108,105,110,107,32,84,32,66,32,78,50,32,65,32,87,32,49,10]⟩:Str) y2 hy3 (aM hs)) fG (fun r4=>?_));dsimp only[cA,nA];refine om ?_;refine oe (bU (vs:=[.agg (jy y2.1 r4),vI y2.2.1,vI y2.2.2])) ?_;refine oe (bU (vs:=[.agg (jy y2.1 r4),vI y2.2.1,vI y2.2.2])) ?_;refine oe (bU (vs:=[.agg (jy y2.1 r4),vI y2.2.1,vI y2.2.2])) ?_;refine oA rfl fun b5=>?_;refine oS b5 (iR y2.1 r4) ?_;refine go ?_;refine oS b1 (iR y2.1 r4) ?_;refine on ?_;obtain rfl:=some_inj hM;refine aF (eG (fun w hm=>bR r4 hm rfl))
end Go.Proofs.YtcalibhfgdncaaaGreatDoor
