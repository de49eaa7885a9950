/- Functions: models, proved of the code. -/
import Derived.Test.YtcalibhfgdncaaaGreatDoorPt
import Derived.Test.YtcalibhfgdncaaaGreatDoorYh
import Derived.Test.YtcalibhfgdncaaaGreatDoorPy
import Derived.Test.YtcalibhfgdncaaaGreatDoorYd
namespace Go.Proofs.YtcalibhfgdncaaaGreatDoor
open Go.Dc Go.RowKit
attribute [local irreducible] CW OW AW AZ Ev
set_option maxHeartbeats 0
set_option maxRecDepth 10000
set_option linter.all false
def ad6(dI:Int)(y6:Str×Int)(aH:Int)(lZ:List Str)(aK:((List Str)×Int)→Option Bool):Unit→Option Bool:=fun _=>
 aO (aX (dI+1))<|
 (ji y6.1 aH (dI+1)).bind fun Mx=>
 aO (decide ((lZ.length+([Mx]:List Str).length)*16≤140737488355328))<|
 aO (aX (dI+1))<|
 aK ((lZ++([Mx]:List Str)),(dI+1))
def ad4(y6:Str×Int)(aH:Int)(lZ:List Str)(aK:((List Str)×Int)→Option Bool)(eU:Int→Option Bool):Int→Option Bool:=fun dI=>
 (kD y6.1 dI).bind fun c10=>
 if decide (c10≠10) then
  (aO (aX (dI+1))<|
  eU (dI+1))
 else
  (ad6 dI y6 aH lZ aK ())
def Za(y1:Layout×Plan)(vM:Str):Unit→Option Bool:=fun _=>
 (Zc).bind fun y31=>
 (dH y31 default (Uf y1.1 vM)).bind fun Ku=>
 some (y31&&Ku)
def ad5(Gv:List Str)(y1:Layout×Plan)(kS:(Str×Nat)→Option Bool):(Str×Nat)→Option Bool:=fun (vM,Nq)=>
 if decide ((Nq:Int)<(Gv.length:Int)) then
  ((idx Gv (Nq:Int)).bind fun x27=>
  (dM vM x27).bind fun Jp=>
  kS (Jp,Nq+1))
 else
  (Za y1 vM ())
def Ox(y1:Layout×Plan):(List Str)→Option Bool:=fun Gv=>
 iter (ad5 Gv y1) FUEL ((⟨[]⟩:Str),0)
def Y9(a0:Int)(lZ:List Str)(b0:Int)(Ki:Bool)(y1:Layout×Plan):Unit→Option Bool:=fun _=>
 (LH a0 (lZ.length:Int)).bind fun y21=>
 (LH b0 (lZ.length:Int)).bind fun y23=>
 if Ki then
  ((idx lZ y21).bind fun zu=>
  aO (decide ((lZ.length+([zu]:List Str).length)*16≤140737488355328))<|
  Ox y1 (lZ++([zu]:List Str)))
 else
  ((idx lZ y23).bind fun x41=>
  (idx lZ y21).bind fun x43=>
  (idx lZ y21).bind fun x45=>
  (idx (lZ.set y21.toNat x41) y23).bind fun Aj=>
  Ox y1 ((lZ.set y21.toNat x41).set y23.toNat x43))
def Y8(y6:Str×Int)(a0:Int)(b0:Int)(Ki:Bool)(y1:Layout×Plan)(aK:((List Str)×Int)→Option Bool):((List Str)×Int)→Option Bool:=fun (lZ,aH)=>
 if decide (aH<(y6.1.l.length:Int)) then
  (iter (ad4 y6 aH lZ aK) FUEL aH)
 else
  (Y9 a0 lZ b0 Ki y1 ())
def Zb(l0:List Int)(a0:Int)(b0:Int)(Ki:Bool):Option Bool:=
 (Tt l0).bind fun y1=>
 (VO y1.1 y1.2).bind fun y6=>
 iter (Y8 y6 a0 b0 Ki y1) FUEL (([]:List Str),0)
set_option maxHeartbeats 4000000 in
theorem asv(S:aW)(w:World)(l0:List Int)(aD:ah.R (List Int))(a0:Int)(b0:Int)(Ki:Bool)(y:Bool)(hM:Zb l0 a0 b0 Ki=some y)(hS:sB S w)(dQ:ah.ok S w aD l0)(AO:(lY 2).φ S w):
   Calls Tryz.prog 5 #[sL aD l0,vI a0,vI b0,.bool Ki] w (bM w (.bool y)):=by
 refine bF (args:=[_,_,_,_]) Tryz.func5 rfl ((pre_nil hS).start |>.bG dQ|>.KX (c:=lY 2) (fun _ h=>False.elim h) AO) rfl ?_;unfold Zb at hM;refine aJ ?_;refine aR ?_;obtain⟨y1,hy2,hM⟩:=bind_some hM;refine bf (eH iO.nil (fun S w hs hP=>ar6 _ w l0 aD y1 hy2 hs.lt (kI hs)) (fun r3=>?_));dsimp only[cA,nA];refine om ?_;refine oe (bU (vs:=[.agg (jy y1.1 r3.1),.agg (jI y1.2 r3.2)])) ?_;refine oe (bU (vs:=[.agg (jy y1.1 r3.1),.agg (jI y1.2 r3.2)])) ?_;refine oA rfl fun b4=>?_;refine oA rfl fun b5=>?_;refine oS b4 (iR y1.1 r3.1) ?_;refine oS b5 (kX y1.2 r3.2) ?_;refine go ?_;obtain⟨y6,nS,hM⟩:=bind_some hM;refine cv (fun hs=>auN _ _ y1.1 r3.1 y1.2 r3.2 y6 nS (aM hs) ⟨(kM hs),(kM hs),(kM hs),(kM hs)⟩ ⟨(kM hs),(kM hs),(kM hs),(kM hs),(kM hs),(kM hs),(kM hs)⟩) ?_;refine om ?_;refine oe (bU (vs:=[.string y6.1.ba,vI y6.2])) ?_;refine oe (bU (vs:=[.string y6.1.ba,vI y6.2])) ?_;refine oa ?_;refine aN ?_;refine aJ ?_;refine au fun K5 dx=>?_;refine aJ ?_;refine bI ?_;refine rn Str 9 (fun _=>()) ?_;refine lr uG hM [1,2,3,9,11] (fun (lZ,aH) ko=>[(13,eS ko lZ),(14,eI aH)]) [0,0,5,0,0,0,0,0,0,1] (fun (lZ,aH) ko=>[aj 9 ko lZ]) ?_;clear hM;rintro aK ⟨lZ,aH⟩ ko hM eO hL1;dsimp only[Y8,cA,nA] at hM ⊢;refine au fun K7 gu=>?_;refine go ?_;refine co hM (fun qY hM=>?_) (fun qY hM=>?_)
 ·refine cs gu ?_;refine bI ?_;refine aR ?_;refine aN ?_;refine au fun tC jC=>?_;refine bI ?_;refine lk hM [1,2,3,9,11,13,14] (fun dI=>[(15,eI dI)]) [] (fun dI=>[]) ?_;clear hM;rintro eU dI hM xA hL2;dsimp only[ad4,cA,nA] at hM ⊢;refine au fun nG gH=>?_;refine aR ?_;refine om ?_;obtain⟨c10,aph,hM⟩:=bind_some hM;refine oe (pV (fun _=>aph)) ?_;refine oe nQ ?_;refine oc hM (fun mP hM=>?_) (fun mP hM=>?_)
  · refine cs gH ?_;refine bI ?_;refine bg ?_;refine om ?_;refine oP hM fun hM=>?_;refine oa ?_;refine bq (hL2 hM sS rI)
  refine cx jC ?_;dsimp only[ad6] at hM;refine go ?_;refine oP hM fun hM=>?_;obtain⟨Mx,ac6,hM⟩:=bind_some hM;refine oe (vZ (ol:=some (.i64,aH)) (oh:=some (.i64,(dI+1))) (fun _=>ac6)) ?_;refine bf (fI (α:=Str) 9 (fun _=>()) ([Mx]:List Str) oF (fun tQ=>?_));obtain⟨acK,hM⟩:=bQ hM;refine bf (iq (r:=ko) (r2:=tQ) uR (Kn.aj (e:=9) (r:=tQ) hA) oF (of_decide_eq_true acK) (fun yZ=>?_));refine aN ?_;refine bg ?_;refine om ?_;refine oP hM fun hM=>?_;refine oa ?_;refine bq (hL1 yZ hM sS rI)
 refine cx dx ?_;dsimp only[Y9] at hM;refine aR ?_;refine om ?_;refine oe jq ?_;obtain⟨y21,Lu,hM⟩:=bind_some hM;refine cv (fun hs=>adC _ _ a0 (lZ.length:Int) y21 Lu (aM hs)) ?_;refine om ?_;refine om ?_;refine oe jq ?_;obtain⟨y23,hy24,hM⟩:=bind_some hM;refine cv (fun hs=>adC _ _ b0 (lZ.length:Int) y23 hy24 (aM hs)) ?_;refine oa ?_;refine aN ?_;refine jk (SR (ah.R Str)) y (k:=Ox y1) [9] (fun Gv QA=>[(13,eS QA Gv)]) [0] (fun Gv QA=>[aj 9 QA Gv]) ?_ ?_
 ·intro FR hJ3;refine aR ?_;refine oc hM (fun acQ hM=>?_) (fun acQ hM=>?_)
  · refine bg ?_;refine om ?_;refine om ?_;refine om ?_;refine zP 1 (Kn.aj (e:=9) (r:=ko) hA) hM fun zu ahG hM=>?_;refine bf (fI (α:=Str) 9 (fun _=>()) ([zu]:List Str) oF (fun Fa=>?_));obtain⟨Sv,hM⟩:=bQ hM;refine bf (iq (r:=ko) (r2:=Fa) uR (Kn.aj (e:=9) (r:=Fa) hA) oF (of_decide_eq_true Sv) (fun U3=>?_));refine oa ?_;refine bq (hJ3 U3 hM sS rI)
  obtain⟨x41,Lr,hM⟩:=bind_some hM;obtain⟨x43,N8,hM⟩:=bind_some hM;obtain⟨x45,adj,hM⟩:=bind_some hM;obtain⟨Aj,DK,hM⟩:=bind_some hM;let oQ:=([own b4 26 (iR y1.1 r3.1),iL y1.1.aT r3.1.1,iL y1.1.bE r3.1.2.1,iL y1.1.Sections r3.1.2.2.1,iL y1.1.Links r3.1.2.2.2,lY 2]:List Chunk);let aln:=((79,.v (.pointer (some ⟨sb ko.a,so ko.a+(y23).toNat*1,none⟩))):Nat×EV);let abd:=((78,.v (.pointer (some ⟨sb ko.a,so ko.a+(y21).toNat*1,none⟩))):Nat×EV);let Nu:=((77,.v (.string x43.ba)):Nat×EV);let FH:=((76,.v (.pointer (some ⟨sb ko.a,so ko.a+(y21).toNat*1,none⟩))):Nat×EV);let Nv:=((73,.v (.string x41.ba)):Nat×EV);let FI:=((72,.v (.pointer (some ⟨sb ko.a,so ko.a+(y23).toNat*1,none⟩))):Nat×EV);let BI:=((75,eI y21):Nat×EV);let BJ:=((74,eS ko lZ):Nat×EV);let BK:=((71,eI y23):Nat×EV);let BA:=((70,eS ko lZ):Nat×EV);let BD:=((69,eI y23):Nat×EV);let BF:=((68,eS ko lZ):Nat×EV);let BG:=((67,eI y21):Nat×EV);let BH:=((66,eS ko lZ):Nat×EV);let awX:=(aj 9 ko ((lZ.set y21.toNat x41).set y23.toNat x43):Chunk);let alo:=(aj 9 ko (lZ.set y21.toNat x41):Chunk);let FE:=(aj 9 ko lZ:Chunk);refine dS oQ (by repeat (first|exact List.Sublist.refl _|apply List.Sublist.cons_cons|apply List.Sublist.cons)) ?_;refine agD fun G hG=>?_;have alV:G 0 #[true,true,true,true,true,true,true,true,true,true,true,true,true,true,true,true] [aln,abd,Nu,FH,Nv,FI,BI,BJ,BK,BA,BD,BF,BG,BH] (awX::oQ) oQ:=by
   rw[hG];dsimp only[cA,nA];refine bS (hJ3 ko hM ⟨(by simp only[List.length_set,eS,sL];rfl),rfl,trivial⟩ rI)
  have alU:G 1 #[true,true,true,true,true,true,true,true,true,true,true,true,true,true,true,false] [aln,abd,Nu,FH,Nv,FI,BI,BJ,BK,BA,BD,BF,BG,BH] (alo::oQ) oQ:=by
   rw[hG];dsimp only[cA,nA];refine bT 15 rfl (Nf (r:=ko) (i:=y23) (xs:=(lZ.set y21.toNat x41)) (u:=Aj) (vs:=[.string x43.ba]) 0 x43 DK rfl (fun _ _ h=>h) uA ⟨rI,?_⟩);have YM:=Gn (u:=x43) DK;exact fJ 14 hG (alV)
  have alT:G 2 #[true,true,true,true,true,true,true,true,true,true,true,true,true,true,false,false] [abd,Nu,FH,Nv,FI,BI,BJ,BK,BA,BD,BF,BG,BH] (alo::oQ) oQ:=by
   rw[hG];dsimp only[cA,nA];refine bT 14 rfl (rH (dL 1 (Kn.aj (e:=9) (r:=ko) hA) (iS DK)) ⟨rI,?_⟩);exact fJ 14 hG (alU)
  have alZ:G 3 #[true,true,true,true,true,true,true,true,true,true,true,true,true,false,false,false] [abd,Nu,FH,Nv,FI,BI,BJ,BK,BA,BD,BF,BG,BH] (FE::oQ) oQ:=by
   rw[hG];dsimp only[cA,nA];refine bT 13 rfl (Nf (r:=ko) (i:=y21) (xs:=lZ) (u:=x45) (vs:=[.string x41.ba]) 0 x41 adj rfl (fun _ _ h=>h) uA ⟨rI,?_⟩);have adk:=Gn (u:=x41) adj;exact fJ 13 hG (alT)
  have af9:G 4 #[true,true,true,true,true,true,true,true,true,true,true,true,false,false,false,false] [Nu,FH,Nv,FI,BI,BJ,BK,BA,BD,BF,BG,BH] (FE::oQ) oQ:=by
   rw[hG];dsimp only[cA,nA];refine bT 12 rfl (rH (dL 1 (Kn.aj (e:=9) (r:=ko) hA) (iS adj)) ⟨rI,?_⟩);exact fJ 13 hG (alZ)
  have af7:G 5 #[true,true,true,true,true,true,true,true,true,true,true,false,false,false,false,false] [FH,Nv,FI,BI,BJ,BK,BA,BD,BF,BG,BH] (FE::oQ) oQ:=by
   rw[hG];dsimp only[cA,nA];refine bT 11 rfl (rH (dY 0 (Kn.aj (e:=9) (r:=ko) hA) (fun _=>N8)) ⟨rI,?_⟩);exact fJ 12 hG (af9)
  have af8:G 5 #[true,true,true,true,true,true,true,false,true,true,true,true,false,false,false,false] [Nu,FH,FI,BI,BJ,BK,BA,BD,BF,BG,BH] (FE::oQ) oQ:=by
   rw[hG];dsimp only[cA,nA];refine bT 7 rfl (rH (dY 0 (Kn.aj (e:=9) (r:=ko) hA) (fun _=>Lr)) ⟨rI,?_⟩);exact fJ 12 hG (af9)
  have alX:G 6 #[true,true,true,true,true,true,true,true,true,true,false,false,false,false,false,false] [Nv,FI,BI,BJ,BK,BA,BD,BF,BG,BH] (FE::oQ) oQ:=by
   rw[hG];dsimp only[cA,nA];refine bT 10 rfl (rH (dL 1 (Kn.aj (e:=9) (r:=ko) hA) (iS N8)) ⟨rI,?_⟩);exact fJ 11 hG (af7)
  have af6:G 6 #[true,true,true,true,true,true,true,false,true,true,true,false,false,false,false,false] [FH,FI,BI,BJ,BK,BA,BD,BF,BG,BH] (FE::oQ) oQ:=by
   rw[hG];dsimp only[cA,nA];refine jA 7 11 (⟨_,rfl,rfl,rH (dY 0 (Kn.aj (e:=9) (r:=ko) hA) (fun _=>Lr)) ⟨rI,?_⟩⟩) (⟨_,rfl,rfl,rH (dY 0 (Kn.aj (e:=9) (r:=ko) hA) (fun _=>N8)) ⟨rI,?_⟩⟩)
   · exact fJ 11 hG (af7)
   exact fJ 11 hG (af8)
  have alY:G 6 #[true,true,true,true,true,true,false,false,true,true,true,true,false,false,false,false] [Nu,FH,BI,BJ,BK,BA,BD,BF,BG,BH] (FE::oQ) oQ:=by
   rw[hG];dsimp only[cA,nA];refine bT 6 rfl (rH (dL 1 (Kn.aj (e:=9) (r:=ko) hA) (iS Lr)) ⟨rI,?_⟩);exact fJ 11 hG (af8)
  have alS:G 7 #[true,true,true,true,true,true,true,false,true,true,false,false,false,false,false,false] [FI,BI,BJ,BK,BA,BD,BF,BG,BH] (FE::oQ) oQ:=by
   rw[hG];dsimp only[cA,nA];refine jA 7 10 (⟨_,rfl,rfl,rH (dY 0 (Kn.aj (e:=9) (r:=ko) hA) (fun _=>Lr)) ⟨rI,?_⟩⟩) (⟨_,rfl,rfl,rH (dL 1 (Kn.aj (e:=9) (r:=ko) hA) (iS N8)) ⟨rI,?_⟩⟩)
   · exact fJ 10 hG (alX)
   exact fJ 10 hG (af6)
  have alW:G 7 #[true,true,true,true,true,true,false,false,true,true,true,false,false,false,false,false] [FH,BI,BJ,BK,BA,BD,BF,BG,BH] (FE::oQ) oQ:=by
   rw[hG];dsimp only[cA,nA];refine jA 6 11 (⟨_,rfl,rfl,rH (dL 1 (Kn.aj (e:=9) (r:=ko) hA) (iS Lr)) ⟨rI,?_⟩⟩) (⟨_,rfl,rfl,rH (dY 0 (Kn.aj (e:=9) (r:=ko) hA) (fun _=>N8)) ⟨rI,?_⟩⟩)
   · exact fJ 10 hG (af6)
   exact fJ 10 hG (alY)
  have alR:G 8 #[true,true,true,true,true,true,false,false,true,true,false,false,false,false,false,false] [BI,BJ,BK,BA,BD,BF,BG,BH] (FE::oQ) oQ:=by
   rw[hG];dsimp only[cA,nA];refine jA 6 10 (⟨_,rfl,rfl,rH (dL 1 (Kn.aj (e:=9) (r:=ko) hA) (iS Lr)) ⟨rI,?_⟩⟩) (⟨_,rfl,rfl,rH (dL 1 (Kn.aj (e:=9) (r:=ko) hA) (iS N8)) ⟨rI,?_⟩⟩)
   · exact fJ 9 hG (alS)
   exact fJ 9 hG (alW)
  rw[hG];dsimp only[List.nil_append];refine am 0 ?_;refine am 1 ?_;refine am 2 ?_;refine am 3 ?_;refine am 4 ?_;refine am 5 ?_;refine am 8 ?_;refine am 9 ?_;exact fJ 8 hG alR
 clear hM;rintro Gv QA hM;dsimp only[Ox,cA,nA] at hM ⊢;refine aJ ?_;refine au fun EB rU=>?_;refine aR ?_;refine kK (fun w hm=>Kn.len (Kn.aj (e:=9) (r:=QA) hA) hm) fun apD=>?_;refine go ?_;refine lk hM [9,13,81] (fun (vM,Nq)=>[(16,.v (.string vM.ba)),(82,eI (Nq:Int))]) [] (fun (vM,Nq)=>[]) ?_;clear hM;rintro kS ⟨vM,Nq⟩ hM H8 hL3;dsimp only[ad5,cA,nA] at hM ⊢;refine sr ?_;refine oe gq ?_;refine on ?_;refine au fun Ca pY=>?_;refine co hM (fun NZ hM=>?_) (fun NZ hM=>?_)
 ·have axk:=of_decide_eq_true NZ;refine cs pY ?_;refine au fun EC rV=>?_;refine bI ?_;refine aR ?_;refine aN ?_;refine bg ?_;refine om ?_;refine om ?_;refine om ?_;refine zP 1 (Kn.aj (e:=9) (r:=QA) hA) hM fun x27 hx28 hM=>?_;obtain⟨Jp,adb,hM⟩:=bind_some hM;refine oe (eB (fun _=>adb)) ?_;refine oa ?_;refine bq (rV _ _ ?_);refine bg ?_;refine oe (dP (hr:=fun _=>by unfold gN;omega)) ?_;refine om ?_;refine bq (hL3 hM sS rI)
 refine cx rU ?_;dsimp only[Za] at hM;refine sr ?_;obtain⟨y31,hy32,hM⟩:=bind_some hM;refine cv (fun hs=>asw _ _ y31 hy32 (aM hs)) ?_;refine go ?_;obtain⟨Ku,hy34,hM⟩:=bind_some hM;refine cg rfl (fun hg hs=>asy _ _ y1.1 r3.1 vM Ku (cu hy34 hg) (aM hs) ⟨(kM hs),(kM hs),(kM hs),(kM hs)⟩ (Chunk.mono _ _ _ _ (fun _ h=> .inl h) ((hA:Has _ (lY 2)).φ hs))) ?_;refine oe rR ?_;refine aN ?_;exact aF (aZ hM)
end Go.Proofs.YtcalibhfgdncaaaGreatDoor
