/- CirculationTasks, the plain law. -/
import Derived.Test.YtcalibhfgdncaaaGreatSm
import Derived.Test.YtcalibhfgdncaaaGreatGn
import Derived.Test.YtcalibhfgdncaaaGreatOpens
import Derived.Test.YtcalibhfgdncaaaGreatWCirculationTasks
set_option linter.all false
namespace Go.Proofs.YtcalibhfgdncaaaGreat
open Go.Dc
set_option maxRecDepth 10000
theorem ahp:UJ=some true:=by decide+kernel
theorem afa{l:Layout}{p:Plan}(h:Bf l p=some 0):Ak l p∧∀i,i<p.Turns.length→Kv p i=0:=by
 unfold Bf at h
 by_cases h0:Ec l p=0
 ·rw[if_neg (by simp[h0])] at h
  obtain⟨hz,hp,hc⟩:=agR h0
  obtain⟨_,h⟩:=KY _ _ h
  obtain⟨a2,h⟩:=KY _ _ h
  obtain⟨a3,h⟩:=KY _ _ h
  obtain⟨_,h⟩:=KY _ _ h
  obtain⟨a5,_⟩:=KY _ _ h
  have o:RvOk l p:=⟨hz,hp,hc,fun r hr=>by
   obtain⟨i,hi,rfl⟩:=List.getElem_of_mem hr
   have:=Option.some.inj (a2 i (by omega) (by omega))
   unfold RA at this
   rwa [getD_lt hi] at this⟩
  exact⟨aaf o a3,fun i hi=>Option.some.inj (a5 i (by omega) (by omega))⟩
 ·rw[if_pos (by simpa using h0)] at h
  exact absurd (Option.some.inj h) h0
/-! ### Times of a trip -/
def Kt:Int→List Int→List Int→Bool
 |now,d::ds,a::es=>if ((decide (d<now)||decide (a≤d))||decide (4194304<a))=true then false else Kt a ds es
 |_,[],_=>true
 |_,_::_,[]=>true
theorem agT{B:((Int×Nat)→Option Bool)→(Int×Nat)→Option Bool}(dep arr:List Int)(hl:dep.length=arr.length)
  (hs:∀c now (i:Nat) d a,idx dep (i:Int)=some d→idx arr (i:Int)=some a→i<dep.length→B c (now,i)=if ((decide (d<now)||decide (a≤d))||decide (4194304<a))=true then some false else c (a,i+1))
  (he:∀c now,B c (now,dep.length)=some true):∀(n i:Nat) (now:Int),dep.length-i<n→i≤dep.length→iter B n (now,i)=some (Kt now (dep.drop i) (arr.drop i)):=by
 intro n
 induction n with
 |zero=>intro i now h;omega
 |succ n ih=>
  intro i now h hi
  show B (iter B n) (now,i)=_
  rcases Nat.lt_or_ge i dep.length with h1|h1
  ·have h2:i<arr.length:=by omega
   rw[hs _ now i dep[i] arr[i] (by rw[nO,List.getElem?_eq_getElem h1]) (by rw[nO,List.getElem?_eq_getElem h2]) h1,List.drop_eq_getElem_cons h1,List.drop_eq_getElem_cons h2]
   simp only[Kt]
   split
   ·rfl
   ·exact ih (i+1) _ (by omega) (by omega)
  ·have e:i=dep.length:=by omega
   subst e
   rw[he,List.drop_length]
   rfl
def EG(p:Plan)(t:dG):Bool:=decide (t.dA.length=(cZ p t.Line.toNat).bC.length)&&decide (t.cK.length=(cZ p t.Line.toNat).bC.length)
def FH(p:Plan)(t:dG):Bool:=iy p t.Line&&(EG p t&&Kt 0 t.dA t.cK)
theorem aeO{p:Plan}{i:Int}(h:iy p i=true):idx p.Lines i=some (cZ p i.toNat):=by
 unfold iy at h
 simp only[Bool.and_eq_true,decide_eq_true_eq] at h
 exact rF h.1 h.2
theorem ae8{p:Plan}{i:Int}:(decide (i<0)||decide ((p.Lines.length:Int)≤i))= !iy p i:=by
 unfold iy
 by_cases h:0≤i
 ·by_cases h2:i<(p.Lines.length:Int)
  ·rw[decide_eq_false (by omega),decide_eq_false (by omega),decide_eq_true h,decide_eq_true h2];rfl
  ·rw[decide_eq_false (by omega),decide_eq_true (by omega),decide_eq_true h,decide_eq_false h2];rfl
 ·rw[decide_eq_true (by omega:i<0),decide_eq_false h];rfl
theorem aeL{p:Plan}{t:dG}:(decide ((t.dA.length:Int)≠((cZ p t.Line.toNat).bC.length:Int))||decide ((t.cK.length:Int)≠((cZ p t.Line.toNat).bC.length:Int)))= !EG p t:=by
 unfold EG
 by_cases h:t.dA.length=(cZ p t.Line.toNat).bC.length
 ·by_cases h2:t.cK.length=(cZ p t.Line.toNat).bC.length
  ·rw[decide_eq_false (by omega),decide_eq_false (by omega),decide_eq_true h,decide_eq_true h2];rfl
  ·rw[decide_eq_false (by omega),decide_eq_true (by omega),decide_eq_true h,decide_eq_false h2];rfl
 ·rw[decide_eq_true (by omega:(t.dA.length:Int)≠((cZ p t.Line.toNat).bC.length:Int)),decide_eq_false h];rfl
theorem UK{p:Plan}{t:dG}(h:EG p t=true):t.dA.length=(cZ p t.Line.toNat).bC.length∧t.cK.length=(cZ p t.Line.toNat).bC.length:=by
 unfold EG at h
 simpa using h
theorem UL{l:Layout}{p:Plan}(o:Ak l p){i:Int}(h:iy p i=true):0<(cZ p i.toNat).bC.length∧(cZ p i.toNat).bC.length≤12:=by
 unfold iy at h
 simp only[Bool.and_eq_true,decide_eq_true_eq] at h
 exact⟨(o.ln i.toNat (by omega)).2.1,o.sz.ri _ (ng (by omega))⟩
theorem anW{l:Layout}{p:Plan}(o:Ak l p)(t:dG):OC p t=some (FH p t):=by
 unfold OC FH
 rw[ae8]
 cases h:iy p t.Line with
 |false=>rw[if_pos (by rfl)];rfl
 |true=>
  rw[if_neg (by simp),aeO h,Option.bind_some,aeL]
  cases h2:EG p t with
  |false=>rw[if_pos (by rfl)];rfl
  |true=>
   obtain⟨e1,e2⟩:=UK h2
   have hf:=UL o h
   rw[if_neg (by simp)]
   have:=agT (B:=OB t) t.dA t.cK (by omega) (fun c now i d a hd ha hi=>?_) (fun c now=>?_) FUEL 0 0 (jo (by omega)) (by omega)
   ·rw[this];rfl
   ·simp only[OB]
    rw[if_pos (by simp;omega),hd,Option.bind_some,ha]
    cases h1:decide (d<now) with
    |true=>rfl
    |false=>
     rw[Bool.not_false,sH rfl,Option.bind_some,Bool.false_or]
     cases h3:decide (a≤d) with
     |true=>rfl
     |false=>rw[Bool.not_false,sH rfl,Option.bind_some,Bool.false_or,Option.bind_some]
   ·simp only[OB]
    rw[if_neg (by simp)];rfl
theorem anS{l:Layout}{p:Plan}(o:Ak l p){t:dG}(h:iy p t.Line=true):Ri t ((cZ p t.Line.toNat).bC.length:Int)=some (EG p t&&Kt 0 t.dA t.cK):=by
 unfold Ri
 rw[aeL]
 have hf:=UL o h
 cases h2:EG p t with
 |false=>rw[if_pos (by rfl)];rfl
 |true=>
  obtain⟨e1,e2⟩:=UK h2
  rw[if_neg (by simp)]
  have:=agT (B:=Rh ((cZ p t.Line.toNat).bC.length:Int) t) t.dA t.cK (by omega) (fun c now i d a hd ha hi=>?_) (fun c now=>?_) FUEL 0 0 (jo (by omega)) (by omega)
  ·rw[this];rfl
  ·simp only[Rh]
   rw[if_pos (by simp;omega),hd,Option.bind_some,ha]
   cases h1:decide (d<now) with
   |true=>rfl
   |false=>
    rw[Bool.not_false,sH rfl,Option.bind_some,sH rfl,Option.bind_some,Bool.false_or]
    cases h3:decide (a≤d) with
    |true=>rfl
    |false=>rw[Bool.not_false,sH rfl,Option.bind_some,Bool.false_or,Option.bind_some,dM (fq (by omega) (by omega))]
  ·simp only[Rh]
   rw[if_neg (by simp;omega)];rfl
/-! ### Tasks -/
def Wv(p:Plan)(t:dG):Task:=
 ⟨(cZ p t.Line.toNat).bL,ou (gM p (iq p t.Line 0)),lD (gM p (iq p t.Line (((cZ p t.Line.toNat).bC.length:Int)-1))),t.dA.getD 0 default,t.cK.getD (((cZ p t.Line.toNat).bC.length:Int)-1).toNat default⟩
def Ef(p:Plan):List dG→List Task→List Task×Int
 |[],q=>(q,0)
 |t::r,q=>if FH p t=false then ([],4) else Ef p r (q++[Wv p t])
theorem agS(p:Plan):∀(r:List dG) (q:List Task),(Ef p r q).1.length≤q.length+r.length
 |[],q=>by simp[Ef]
 |t::r,q=>by
  simp only[Ef]
  split
  ·simp
  ·have:=agS p r (q++[Wv p t])
   simp at this ⊢;omega
theorem TY{p:Plan}{i k:Int}(h:iy p i=true)(h0:0≤k)(h1:k<((cZ p i.toNat).bC.length:Int)):fV p i k=true:=by
 unfold fV
 rw[h,decide_eq_true h0,decide_eq_true h1];rfl
theorem anR{l:Layout}{p:Plan}(z:Bf l p=some 0)(trips:List dG):Oz l p trips=some (if 40<trips.length then ([],7) else Ef p trips []):=by
 have o:=(afa z).1
 unfold Oz
 rw[ahO,z,Option.bind_some,if_neg (by simp)]
 by_cases OY:40<trips.length
 ·rw[if_pos (by simp;omega),if_pos OY]
 ·rw[if_neg (by simp;omega),if_neg OY]
  have:=oH (B:=Oy trips p) (fun (q:List Task) i=>(q,i)) trips (fun q i=>q.length=i) (fun q r=>some (Ef p r q)) ?_ ?_ FUEL [] 0 rfl (by omega) (jo (by omega))
  ·exact this
  ·intro c q i t r hq hdr hi hx hk
   simp only[Oy]
   rw[if_pos (by simp;omega),hx,Option.bind_some,anW o,Option.bind_some]
   simp only[Ef]
   cases hf:FH p t with
   |false=>rw[if_pos (by rfl),if_pos rfl]
   |true=>
    rw[if_neg (by simp),if_neg (by simp)]
    unfold FH at hf
    simp only[Bool.and_eq_true] at hf
    obtain⟨hL,hn,_⟩:=hf
    obtain⟨e1,e2⟩:=UK hn
    have few:=UL o hL
    obtain⟨a1,a2,a3,a4⟩:=Pj o (TY hL (k:=0) (by omega) (by omega))
    obtain⟨b1,b2,b3,b4⟩:=Pj o (TY hL (k:=((cZ p t.Line.toNat).bC.length:Int)-1) (by omega) (by omega))
    obtain⟨n1,k1⟩:=ES o.toRvOk a3 a4
    obtain⟨n2,k2⟩:=ES o.toRvOk b3 b4
    have l2:=k2.len;have v2:=k2.ov
    rw[a1,Option.bind_some,a2,Option.bind_some,n1,Option.bind_some,dM (fq (by omega) (by omega)),b2,Option.bind_some,n2,Option.bind_some,aa8 k1,Option.bind_some,
     dM (fq (by omega) (by omega)),dM (fq (by omega) (by omega)),abd k2,Option.bind_some,rF (xs:=t.dA) (i:=0) (by omega) (by omega),Option.bind_some,
     dM (fq (by omega) (by omega)),rF (xs:=t.cK) (by omega) (by omega),Option.bind_some,dM (by simp;omega),show (t.cK.length:Int)=((cZ p t.Line.toNat).bC.length:Int) by omega]
    exact hk (q++[Wv p t]) (by simp[hq])
  ·intro c q hq
   simp only[Oy]
   rw[if_neg (by simp)];rfl
theorem anQ{l:Layout}{p:Plan}(z:Bf l p=some 0)(trips:List dG):Rf l p trips=some (if 40<trips.length then ([],7) else Ef p trips []):=by
 have o:=(afa z).1
 unfold Rf
 rw[ahD,z,Option.bind_some,if_neg (by simp)]
 by_cases OY:40<trips.length
 ·rw[if_pos (by simp;omega),if_pos OY]
 ·rw[if_neg (by simp;omega),if_neg OY]
  have:=oH (B:=Rc trips p) (fun (q:List Task) i=>(q,i)) trips (fun q i=>q.length=i) (fun q r=>some (Ef p r q)) ?_ ?_ FUEL [] 0 rfl (by omega) (jo (by omega))
  ·exact this
  ·intro c q i t r hq hdr hi hx hk
   simp only[Rc]
   rw[if_pos (by simp;omega),hx,Option.bind_some,ae8]
   simp only[Ef]
   cases hL:iy p t.Line with
   |false=>
    have e:FH p t=false:=by unfold FH;rw[hL];rfl
    rw[e,if_pos rfl];rfl
   |true=>
    rw[Bool.not_true,Bool.not_false,sH rfl,aeO hL,Option.bind_some,if_pos rfl,anS o hL,Option.bind_some,Bool.false_or]
    have e:FH p t=(EG p t&&Kt 0 t.dA t.cK):=by unfold FH;rw[hL];rfl
    rw[e]
    cases hf:(EG p t&&Kt 0 t.dA t.cK) with
    |false=>rw[if_pos (by rfl),if_pos rfl]
    |true=>
     rw[if_neg (by simp),if_neg (by simp),Option.bind_some]
     simp only[Bool.and_eq_true] at hf
     obtain⟨hn,_⟩:=hf
     obtain⟨e1,e2⟩:=UK hn
     have few:=UL o hL
     obtain⟨n1,k1⟩:=Nj o (TY hL (k:=0) (by omega) (by omega))
     obtain⟨n2,k2⟩:=Nj o (TY hL (k:=((cZ p t.Line.toNat).bC.length:Int)-1) (by omega) (by omega))
     rw[show (t.dA.length:Int)=((cZ p t.Line.toNat).bC.length:Int) by omega,dM (fq (by omega) (by omega)),rF (xs:=t.dA) (i:=0) (by omega) (by omega),Option.bind_some,
      dM (fq (by omega) (by omega)),rF (xs:=t.cK) (by omega) (by omega),Option.bind_some,n1,Option.bind_some,Wo k1,Option.bind_some,n2,Option.bind_some,Wp k2,Option.bind_some,dM (by simp;omega)]
     exact hk (q++[Wv p t]) (by simp[hq])
  ·intro c q hq
   simp only[Rc]
   rw[if_neg (by simp)];rfl
theorem ane(a:List Task)(h:a.length≤1000000):P5 a a=some true:=by
 unfold P5
 rw[if_neg (by simp)]
 have:=oH (B:=PZ a a) (fun (_:Unit) i=>i) a (fun _ _=>True) (fun _ _=>some true) ?_ ?_ FUEL () 0 trivial (by omega) (jo (by omega))
 ·exact this
 ·intro c _ i x q _ hdr hi hx hk
  simp only[PZ]
  rw[if_pos (by simp;omega),hx,Option.bind_some,Option.bind_some,if_neg (by simp),hk () trivial]
 ·intro c _ _
  simp only[PZ]
  rw[if_neg (by simp)]
  rfl
/-! ### The law -/
section
variable {l:Layout}{p:Plan}
theorem OE(z:Bf l p=some 0)(ts:List dG):WP (F8 (l,p) ts) (fun b=>b=true):=by
 unfold F8
 have hb:(if 40<ts.length then (([],7):List Task×Int) else Ef p ts []).1.length≤1000000:=by
  split
  ·simp
  ·have:=agS p ts []
   simp at this;omega
 rw[anR z,Option.bind_some,anQ z,Option.bind_some,ahp,Option.bind_some,sH rfl,ane _ hb,Option.bind_some]
 exact⟨_,rfl,by simp⟩
def TrB(ts:List dG):Prop:=ts.length≤4∧∀t∈ts,t.dA.length≤12∧0<t.cK.length∧t.cK.length≤12
theorem ah4(z:Bf l p=some 0)(ts:List dG)(hT:TrB ts)(at_ how v x:Int):WP (UG ts at_ how v (l,p) x ()) (fun b=>b=true):=by
 obtain⟨h4,ht⟩:=hT
 unfold UG
 refine tH (fun h=>?_) (fun _=>OE z ts)
 obtain⟨i,ei,i0,i1⟩:=QG at_ (ts.length:Int) (by simp only[decide_eq_true_eq] at h;omega) (by omega)
 obtain⟨k,ek,_,_⟩:=QG how 6 (by omega) (by omega)
 have hm:ts.getD i.toNat default∈ts:=ng (by omega)
 obtain⟨t1,t2,t3⟩:=ht _ hm
 rw[ei,Option.bind_some,rF i0 i1,Option.bind_some,ek,Option.bind_some]
 generalize ts.getD i.toNat default=t at t1 t2 t3 ⊢
 refine tH (fun _=>?_) (fun _=>tH (fun _=>?_) (fun _=>tH (fun _=>?_) (fun _=>OE z ts)))
 ·obtain⟨u,eu,u0,u1⟩:=QG v 6 (by omega) (by omega)
  rw[eu,Option.bind_some]
  exact jJ (by omega) (OE z _)
 ·exact uh (by simp;omega) (uh (by simp;omega) (OE z _))
 ·obtain⟨u,eu,u0,u1⟩:=QG v 300 (by omega) (by omega)
  refine uh (by simp;omega) ?_
  rw[eu,Option.bind_some]
  refine jJ (by omega) ?_
  rw[List.nil_append,rF (i:=0) (by omega) (by omega),Option.bind_some]
  exact OE z _
end
theorem ahR(l tl:List Int)(how at_ v:Int)(hl:Wf.wf l)(htl:Wf.wf tl)(_:Wf.wf how)(_:Wf.wf at_)(_:Wf.wf v):UH l tl how at_ v=some true:=by
 obtain⟨y,hy,pv⟩:=amn l (by have:l.length*8≤140737488351232:=hl.1;omega)
 have z:=al7 pv
 have hne:=pv.ne;have hln:=pv.ln;have hri:=pv.ri2
 have s0:pq tl 0:=⟨by omega,by omega,by have:tl.length*8≤140737488351232:=htl.1;omega⟩
 obtain⟨n,j,en,n0,n1,s1⟩:=lC s0 4 (by omega) (by omega)
 have ef:LA tl=some ⟨tl,0⟩:=rfl
 unfold UH
 rw[hy,Option.bind_some,ef,Option.bind_some,en,Option.bind_some]
 obtain⟨l1,p1⟩:=y
 simp only at z hne hln hri
 suffices h:WP (iter (UF ⟨tl,0⟩ (l1,p1) at_ how v) FUEL (j,([]:List dG),0,n)) (fun b=>b=true) by
  obtain⟨r,hr,h⟩:=h
  rw[h] at hr;exact hr
 refine CP (fun s:Int×List dG×Int×Int=>pq tl s.1∧(0≤s.2.2.1∧s.2.2.1≤1000*(4-s.2.2.2))∧(0≤s.2.2.2∧(s.2.1.length:Int)+s.2.2.2≤4)∧∀t∈s.2.1,t.dA.length≤12∧0<t.cK.length∧t.cK.length≤12) (fun s=>s.2.2.2.toNat) _ (fun c s hI hc=>?_) FUEL _ ⟨s1,⟨by simp,by simp only;omega⟩,⟨by simp only;omega,by simp;omega⟩,by simp⟩ (jo (by simp only;omega))
 obtain⟨s,ts,x,m⟩:=s
 obtain⟨i1,⟨x0,x1⟩,⟨m0,m1⟩,ht⟩:=hI
 simp only at i1 x0 x1 m0 m1 ht hc
 simp only[UF]
 refine tH (fun h=>?_) (fun _=>ah4 z ts ⟨by omega,ht⟩ at_ how v x)
 simp only[decide_eq_true_eq] at h
 obtain⟨a,s2,e2,a0,a1,i2⟩:=lC i1 (p1.Lines.length:Int) (by omega) (by omega)
 rw[e2,Option.bind_some]
 simp only
 have hx:p1.Lines.getD a.toNat default∈p1.Lines:=ng (by omega)
 have r2:=hri _ hx
 have r0:=(pv.ok.ln _ hx).pos
 rw[rF a0 a1,Option.bind_some]
 generalize p1.Lines.getD a.toNat default=ln at r2 r0
 refine CP (fun q:Int×Int×List Int×List Int×Nat=>pq tl q.1∧(0≤q.2.1∧q.2.1≤x+100*q.2.2.2.2)∧q.2.2.2.2≤ln.bC.length∧q.2.2.1.length=q.2.2.2.2∧q.2.2.2.1.length=q.2.2.2.2) (fun q=>ln.bC.length-q.2.2.2.2) _ (fun c2 q hJ hc2=>?_) FUEL _ ⟨i2,⟨by simp only;omega,by simp⟩,by simp,by simp,by simp⟩ (jo (by simp only;omega))
 obtain⟨s3,x3,dp,ar,i⟩:=q
 obtain⟨j1,⟨j2,j3⟩,j4,j5,j6⟩:=hJ
 simp only at j1 j2 j3 j4 j5 j6 hc2
 simp only[Z7]
 refine tH (fun h2=>?_) (fun h2=>?_)
 ·simp only[decide_eq_true_eq] at h2
  obtain⟨b,s4,e4,b0,b1,i4⟩:=lC j1 9 (by omega) (by omega)
  rw[e4,Option.bind_some]
  refine jJ (by simp only;omega) (uh (by simp;omega) ?_)
  obtain⟨d,s5,e5,d0,d1,i5⟩:=lC i4 60 (by omega) (by omega)
  simp only
  rw[e5,Option.bind_some]
  exact jJ (by simp only;omega) (jJ (by simp only;omega) (uh (by simp;omega) (hc2 _ ⟨i5,⟨by simp only;omega,by simp only;omega⟩,by simp only;omega,by simp;omega,by simp;omega⟩ (by simp only;omega))))
 ·simp only[decide_eq_false_iff_not] at h2
  unfold Z9 Z8
  refine uh (by simp;omega) (jJ (by omega) (hc _ ⟨j1,⟨by simp only;omega,by simp only;omega⟩,⟨by simp only;omega,by simp;omega⟩,fun t hm=>?_⟩ (by simp only;omega)))
  rcases List.mem_append.1 hm with h3|h3
  ·exact ht t h3
  ·rw[List.mem_singleton] at h3;subst h3
   simp only;omega
end Go.Proofs.YtcalibhfgdncaaaGreat
