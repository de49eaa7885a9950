/- Several parts of the engine, one behind the other. -/
import Derived.Test.YtcalibhfgdncaaaGreatDoorPk
import Derived.Test.YtcalibhfgdncaaaGreatDoorRk
import Derived.IntWalk
import Derived.Test.YtcalibhfgdncaaaGreatDoorRl
import Derived.Test.YtcalibhfgdncaaaGreatDoorQ1
import Derived.Test.YtcalibhfgdncaaaGreatDoorTm
import Derived.Test.YtcalibhfgdncaaaGreatDoorPy
import Derived.Test.YtcalibhfgdncaaaGreatDoorSm
set_option linter.all false
namespace Go.Proofs.YtcalibhfgdncaaaGreatDoor
open Go.Dc
theorem anq(v n:Int)(h0:1≤n)(h1:n≤4611686018427387904):∃k,Qe v n=some k∧0≤k∧k<n:=by
 have hw:IntKind.u64.wrap n=n:=IntWalk.u64_in n ⟨by omega,by omega⟩
 have hv:0≤IntKind.u64.wrap v:=by rw[IntKind.wrap_u64];omega
 have e:(IntKind.u64.wrap v).tmod n=IntKind.u64.wrap v % n:=Int.tmod_eq_emod_of_nonneg hv
 have a:=Int.emod_nonneg (IntKind.u64.wrap v) (b:=n) (by omega)
 have b:=Int.emod_lt_of_pos (IntKind.u64.wrap v) (b:=n) (by omega)
 refine⟨IntKind.u64.wrap v % n,?_,a,b⟩
 unfold Qe
 rw[hw,e,fD (by simp;omega)]
 congr 1
 rw[IntKind.wrap_i64]
 omega
def o8(l:List Int)(i:Int):Prop:=0≤i∧i≤l.length∧l.length≤140737488355328
theorem kV{l:List Int}{i:Int}(h:o8 l i)(n:Int)(h0:1≤n)(h1:n≤4611686018427387904):
  ∃v j,jS (bT.mk l i) n=some (v,j)∧0≤v∧v<n∧o8 l j:=by
 obtain⟨a,b,c⟩:=h
 unfold jS
 by_cases hl:(l.length:Int)≤i
 ·exact⟨0,i,by simp[hl],by omega,by omega,a,b,c⟩
 ·have e:i+1-1=i:=by omega
  obtain⟨k,hk,k0,k1⟩:=anq (l.getD i.toNat 0) n h0 h1
  refine⟨k,i+1,?_,k0,k1,by omega,by omega,c⟩
  simp only[hl,decide_false,Bool.false_eq_true,if_false,e]
  rw[fD (jB (by omega) (by omega)),fD (jB (by omega) (by omega)),alu a (by omega)]
  simp only[Option.bind_some]
  rw[hk]
  rfl
end Go.Proofs.YtcalibhfgdncaaaGreatDoor
namespace Go.Proofs.YtcalibhfgdncaaaGreatDoor
open Go.Dc
def qR(s:Str)(k:Nat):Str:=⟨s.l++[UInt8.ofNat (48+k)]⟩
theorem aiy:∀k:Fin 10,mo (⟨[48,49,50,51,52,53,54,55,56,57]⟩:Str) ((k.val:Int).tmod 10) ((k.val:Int).tmod 10+1)=some ⟨[UInt8.ofNat (48+k.val)]⟩:=by decide
theorem JK(s:Str)(k:Nat)(h:k<10)(hs:s.l.length≤100):Ce s (k:Int)=some (qR s k):=by
 unfold Ce
 have e:(k:Int).tmod 10=k:=by rw[Int.tmod_eq_emod_of_nonneg (by omega)];omega
 have:=aiy ⟨k,h⟩
 simp only at this
 rw[fD (jB (by omega) (by omega)),this,Option.bind_some]
 unfold vM
 rw[if_pos (by simp;omega)]
 rfl
theorem aeQ(s:Str)(k:Nat):(qR s k).l.length=s.l.length+1:=by simp[qR]
def uP(s:Section):Section:=⟨s.Name,1,1000,0,s.pQ⟩
def KM(s:Section):Prop:=2≤s.Length∧s.Length≤12∧5000≤s.Limit∧s.Limit≤35000∧ -10≤s.lJ∧s.lJ≤10
def ze(l:List Section):Prop:=∀s∈l,KM s
theorem agn{l:List Int}{i:Int}(h:o8 l i)(nm:Str)(st:Int):
  ∃x j,LK (bT.mk l i) nm st=some (x,j)∧o8 l j∧uP x=⟨nm,1,1000,0,st⟩∧KM x∧x.Length≤10∧x.Name=nm∧x.pQ=st:=by
 obtain⟨v1,j1,e1,a1,b1,o1⟩:=kV h 9 (by omega) (by omega)
 obtain⟨v2,j2,e2,a2,b2,o2⟩:=kV o1 7 (by omega) (by omega)
 obtain⟨v3,j3,e3,a3,b3,o3⟩:=kV o2 21 (by omega) (by omega)
 refine⟨⟨nm,2+v1,5000+5000*v2,v3-10,st⟩,j3,?_,o3,rfl,?_,?_,rfl,rfl⟩
 ·unfold LK
  rw[e1,Option.bind_some,fD (jB (by simp;omega) (by simp;omega))]
  simp only
  rw[e2,Option.bind_some,fD (jB (by simp;omega) (by simp;omega)),fD (jB (by simp;omega) (by simp;omega))]
  simp only
  rw[e3,Option.bind_some,fD (jB (by simp;omega) (by simp;omega))]
 ·refine⟨?_,?_,?_,?_,?_,?_⟩<;>simp only<;>omega
 ·simp only;omega
theorem ab6(b:dG)(x:Section)(h:b.l.Sections.length≤1000):LM b x=some ((b.l.Sections.length:Int),b.l.Sections++[x]):=by
 unfold LM
 have e:((b.l.Sections++[x]).length:Int)-1=b.l.Sections.length:=by simp
 rw[fD (by simp;omega),e,fD (jB (by omega) (by omega))]
theorem aal(b:dG)(x y p q:Int)(h:b.l.Links.length≤1000):Jy b x y p q=some (b.l.Links++[⟨x,1,y,0,p,q⟩]):=by
 unfold Jy
 rw[fD (by simp;omega)]
theorem anX(b:dG)(h:b.l.aV.length<10):QC b=some ((b.l.aV.length:Int),b.l.aV++[qR ⟨[80]⟩ b.l.aV.length]):=by
 unfold QC
 have e:((b.l.aV++[qR ⟨[80]⟩ b.l.aV.length]).length:Int)-1=b.l.aV.length:=by simp
 rw[JK _ _ h (by decide),Option.bind_some,fD (by simp;omega),e,fD (jB (by omega) (by omega))]
/-! ### Skeletons -/
def EF(x p:Int)(east:Bool):Nat→List Int→List Link
 |_,[]=>[]
 |i,t::r=>(if east then ⟨x,1,t,0,p,i⟩ else ⟨t,1,x,0,p,i⟩)::EF x p east (i+1) r
def ac3(ps:List Str)(ts:List Int):Int:=if 1<ts.length then ps.length else-1
def vW(ps:List Str)(ks:List Link)(x:Int)(ts:List Int)(east:Bool):List Str×List Link:=
 (if 1<ts.length then ps++[qR ⟨[80]⟩ ps.length] else ps,ks++EF x (ac3 ps ts) east 0 ts)
theorem Yy(x p:Int)(e:Bool):∀(ts:List Int) (i:Nat),(EF x p e i ts).length=ts.length
 |[],_=>rfl
 |t::r,i=>by simp[EF,Yy x p e r (i+1)]
theorem ac2(b:dG)(x:Int)(ts:List Int)(east:Bool)(ps:List Str)(p:Int)(hk:b.l.Links.length≤500)(ht:ts.length≤100):
  LP ts east b x (ps,p)=some (ps,b.l.Links++EF x p east 0 ts):=by
 simp only[LP]
 have:=nR (B:=QA ts east b ps x p) (fun (q:List Link×Nat) i=>(q.1,i)) ts (fun q i=>q.1.length≤500+i∧q.2=i) (fun q r=>some (ps,q.1++EF x p east q.2 r)) ?_ ?_ FUEL (b.l.Links,0) 0 ⟨by simp;omega,rfl⟩ (by omega) (iW (by omega))
 ·simpa using this
 ·rintro c ⟨q,qi⟩ i t r ⟨hq,rfl⟩ hdr hi hx hc
  simp only at hq hx hi ⊢
  simp only[QA]
  rw[if_pos (by simpa using hi)]
  cases east with
  |true=>
   rw[if_pos rfl,hx,Option.bind_some,aal _ _ _ _ _ (by simp only;omega),Option.bind_some]
   simp only[LQ]
   have:=hc (q++[⟨x,1,t,0,p,qi⟩],qi+1) ⟨by simp;omega,rfl⟩
   simp only at this
   rw[this]
   simp[EF]
  |false=>
   rw[if_neg (by simp),hx,Option.bind_some,aal _ _ _ _ _ (by simp only;omega),Option.bind_some]
   simp only[LQ]
   have:=hc (q++[⟨t,1,x,0,p,qi⟩],qi+1) ⟨by simp;omega,rfl⟩
   simp only at this
   rw[this]
   simp[EF]
 ·rintro c ⟨q,qi⟩ ⟨hq,h2⟩
  simp only[QA]
  rw[if_neg (by simp)]
  simp[EF]
theorem ac4(b:dG)(x:Int)(ts:List Int)(east:Bool)(hk:b.l.Links.length≤500)(ht:ts.length≤100)(hp:b.l.aV.length<10):
  LU b x ts east=some (vW b.l.aV b.l.Links x ts east):=by
 unfold LU vW ac3
 by_cases h:1<ts.length
 ·rw[if_pos (by simp;omega),anX b hp,Option.bind_some,ac2 _ _ _ _ _ _ hk ht]
  simp[h]
 ·rw[if_neg (by simp;omega),ac2 _ _ _ _ _ _ hk ht]
  simp[h]
def KC(i:Nat):Nat→List Section
 |0=>[]
 |k+1=>⟨qR (qR ⟨[84]⟩ i) (k+1),1,1000,0,i⟩::KC i k
def JH(i:Nat):Nat→List Section
 |0=>[]
 |k+1=>⟨qR (qR ⟨[76]⟩ i) (k+1),1,1000,0,-1⟩::JH i k
def tN(s:Nat):Nat→List Int
 |0=>[]
 |k+1=>(s:Int)::tN (s+1) k
theorem IJ:∀(k s:Nat),(tN s k).length=k
 |0,_=>rfl
 |k+1,s=>by simp[tN,IJ k (s+1)]
abbrev S1:=List Str×List Section×List (List Int)
abbrev S2:=List Str×List Section×List Link×List (List Int)
def step1(s:S1)(k:Nat):S1:=(s.1++[qR ⟨[83]⟩ s.1.length],s.2.1++KC s.1.length k,s.2.2++[tN s.2.1.length k])
def inner(t:List Int):Nat→List Int→List Link
 |_,[]=>[]
 |_,[_]=>[]
 |n,a::b::r=>⟨a,1,b,0,-1,0⟩::inner t n (b::r)
def step2(tr:List (List Int))(s:S2)(k:Nat):S2:=
 let i:=s.2.2.2.length
 let t:=tN s.2.1.length k
 let f:=vW s.1 (s.2.2.1++inner t 0 t) (t.headD 0) (tr.getD i []) false
 let g:=vW f.1 f.2 (t.getLastD 0) (tr.getD (i+1) []) true
 (g.1,s.2.1++JH i k,g.2,s.2.2.2++[t])
def mO(ts:List Nat):S1:=ts.foldl step1 ([],[],[])
def nZ(ts bs:List Nat):S2:=bs.foldl (step2 (mO ts).2.2) ([],(mO ts).2.1,[],[])
def shape(ts bs:List Nat):Layout:=⟨(mO ts).1,(nZ ts bs).1,(nZ ts bs).2.1,(nZ ts bs).2.2.1⟩
def erase(l:Layout):Layout:=⟨l.aM,l.aV,l.Sections.map uP,l.Links⟩
theorem agY(i:Nat):∀k,(KC i k).length=k
 |0=>rfl
 |k+1=>by simp[KC,agY i k]
theorem aeI(i:Nat):∀k,(JH i k).length=k
 |0=>rfl
 |k+1=>by simp[JH,aeI i k]
/-! ### The first loop: stations and their tracks -/
theorem ap3{Q:dG×Int→Prop}{l:List Int}{i:Nat}{sJ:List Str}{y:Str}{oV:List (List Int)}{cont:(Int×(List Str)×(List Section)×(List (List Int))×Nat)→Option (dG×Int)}{s0:bT}(hs0:s0.l=l)
  (hi:i<5)(ht:oV.length≤100):∀(k n:Nat) (pos:Int) (secs:List Section) (lt:List Int),k≤2→k<n→o8 l pos→secs.length+k≤200→lt.length+k≤200→ze secs→
  (∀pos' zT,o8 l pos'→zT.map uP=secs.map uP++KC i k→ze zT→WP (cont (pos',sJ++[y],zT,oV++[lt++tN secs.length k],i+1)) Q)→
  WP (iter (JA (i:Nat) s0 sJ y oV cont) n (pos,secs,lt,(k:Int))) Q:=by
 intro k
 induction k with
 |zero=>
  intro n pos secs lt _ hn hp hs hl hr hc
  obtain⟨m,rfl⟩:∃m,n=m+1:=⟨n-1,by omega⟩
  show WP (JA _ _ _ _ _ _ _ _) Q
  simp only[JA]
  rw[if_neg (by simp)]
  simp only[Z9,Z8]
  refine qZ (by simp;omega) (jq ⟨by omega,by omega⟩ ?_)
  have:=hc pos secs hp (by simp[KC]) hr
  simpa [tN] using this
 |succ k ih=>
  intro n pos secs lt hk hn hp hs hl hr hc
  obtain⟨m,rfl⟩:∃m,n=m+1:=⟨n-1,by omega⟩
  show WP (JA _ _ _ _ _ _ _ _) Q
  simp only[JA]
  rw[if_pos (by simp<;>omega),JK _ _ (by omega) (by decide),Option.bind_some,JK _ _ (by omega) (by rw[aeQ];decide),Option.bind_some]
  obtain⟨x,j,e,hj,e1,e2,e3,e4,e5⟩:=agn hp (qR (qR ⟨[84]⟩ i) (k+1)) i
  rw[hs0,e,Option.bind_some]
  unfold KM at e2
  refine jq ⟨by simp only;omega,by simp only;omega⟩ ?_
  rw[ab6 _ _ (by simp only;omega),Option.bind_some]
  simp only
  refine qZ (by simp;omega) (jq ⟨by omega,by omega⟩ ?_)
  have ek:(((k+1:Nat):Int)-1)=(k:Int):=by omega
  rw[ek]
  refine ih m j _ _ (by omega) (by omega) hj (by simp;omega) (by simp;omega) ?_ ?_
  ·intro s hm
   rcases List.mem_append.1 hm with h|h
   ·exact hr s h
   ·rw[List.mem_singleton] at h;subst h
    unfold KM;simp only;omega
  ·intro pos' zT h1 h2 h3
   have akB:uP ⟨x.Name,x.Length+2,x.Limit,x.lJ,x.pQ⟩=⟨qR (qR ⟨[84]⟩ i) (k+1),1,1000,0,i⟩:=by rw[←e1];rfl
   have:=hc pos' zT h1 (by rw[h2];simp[KC,akB]) h3
   have e6:lt++[(secs.length:Int)]++tN (secs++[(⟨x.Name,x.Length+2,x.Limit,x.lJ,x.pQ⟩:Section)]).length k=lt++tN secs.length (k+1):=by simp[tN]
   rw[e6]
   exact this
theorem ahR{Q:dG×Int→Prop}{l:List Int}{i:Nat}{sJ ps:List Str}{ks:List Link}{oV yB:List (List Int)}{cont:(Int×(List Str)×(List Section)×(List Link)×(List (List Int))×Nat)→Option (dG×Int)}{s0:bT}(hs0:s0.l=l)
  (hi:i<5):∀(k n:Nat) (pos:Int) (secs:List Section) (lt:List Int),k≤2→k<n→o8 l pos→secs.length+k≤200→lt.length+k≤200→ze secs→
  (∀pos' zT,o8 l pos'→zT.map uP=secs.map uP++JH i k→ze zT→WP (QG (lt++tN secs.length k) sJ ps zT oV yB i cont pos' ks ()) Q)→
  WP (iter (JB (i:Nat) s0 sJ ps ks oV yB cont) n (pos,secs,lt,(k:Int))) Q:=by
 intro k
 induction k with
 |zero=>
  intro n pos secs lt _ hn hp hs hl hr hc
  obtain⟨m,rfl⟩:∃m,n=m+1:=⟨n-1,by omega⟩
  show WP (JB _ _ _ _ _ _ _ _ _ _) Q
  simp only[JB]
  rw[if_neg (by simp)]
  have:=hc pos secs hp (by simp[JH]) hr
  simpa [tN] using this
 |succ k ih=>
  intro n pos secs lt hk hn hp hs hl hr hc
  obtain⟨m,rfl⟩:∃m,n=m+1:=⟨n-1,by omega⟩
  show WP (JB _ _ _ _ _ _ _ _ _ _) Q
  simp only[JB]
  rw[if_pos (by simp<;>omega),JK _ _ (by omega) (by decide),Option.bind_some,JK _ _ (by omega) (by rw[aeQ];decide),Option.bind_some]
  obtain⟨x,j,e,hj,e1,e2,e3,e4,e5⟩:=agn hp (qR (qR ⟨[76]⟩ i) (k+1)) (-1)
  rw[hs0,e,Option.bind_some,ab6 _ _ (by simp only;omega),Option.bind_some]
  simp only
  refine qZ (by simp;omega) (jq ⟨by omega,by omega⟩ ?_)
  have ek:(((k+1:Nat):Int)-1)=(k:Int):=by omega
  rw[ek]
  refine ih m j _ _ (by omega) (by omega) hj (by simp;omega) (by simp;omega) ?_ ?_
  ·intro s hm
   rcases List.mem_append.1 hm with h|h
   ·exact hr s h
   ·rw[List.mem_singleton] at h;subst h;exact e2
  ·intro pos' zT h1 h2 h3
   have:=hc pos' zT h1 (by rw[h2];simp[JH,e1]) h3
   have e6:lt++[(secs.length:Int)]++tN (secs++[x]).length k=lt++tN secs.length (k+1):=by simp[tN]
   rw[e6]
   exact this
end Go.Proofs.YtcalibhfgdncaaaGreatDoor
namespace Go.Proofs.YtcalibhfgdncaaaGreatDoor
open Go.Dc
theorem aly(lt:List Int)(sJ ps:List Str)(secs:List Section)(oV yB:List (List Int))(i:Nat)(cont:(Int×(List Str)×(List Section)×(List Link)×(List (List Int))×Nat)→Option (dG×Int))(pos:Int)(ks:List Link)(hl:lt.length≤100)(hk:ks.length≤200)(h0:0<lt.length):
  QG lt sJ ps secs oV yB i cont pos ks ()=LX lt oV i sJ ps secs (ks++inner lt 0 lt) yB cont pos ():=by
 unfold QG
 have key:∀(r:List Int) (n j:Nat) (q:List Link),0<r.length→lt.drop j=r→q.length≤200+j→r.length<n→
   iter (QF lt sJ ps secs oV yB i cont pos) n (q,j)=LX lt oV i sJ ps secs (q++inner lt 0 r) yB cont pos ():=by
  intro r
  induction r with
  |nil=>intro n j q h _ _ _;simp at h
  |cons a r ih=>
   intro n j q _ hd hq hn
   obtain⟨m,rfl⟩:∃m,n=m+1:=⟨n-1,by omega⟩
   have hj:j<lt.length:=by
    apply Nat.lt_of_not_le;intro h
    rw[List.drop_eq_nil_of_le h] at hd;cases hd
   have hr:r.length+1+j=lt.length:=by
    have:=congrArg List.length hd
    rw[List.length_drop] at this;simp at this;omega
   show QF _ _ _ _ _ _ _ _ _ _ _=_
   simp only[QF]
   rw[fD (jB (by omega) (by omega))]
   cases r with
   |nil=>
    simp at hr
    rw[if_neg (by simp;omega)]
    simp[inner]
   |cons b r=>
    simp at hr
    have ea:lt[j]?=some a:=by have:=congrArg List.head? hd;simpa [List.head?_drop] using this
    have hd2:lt.drop (j+1)=b::r:=by rw[←List.drop_drop,hd];rfl
    have eb:lt[j+1]?=some b:=by have:=congrArg List.head? hd2;simpa [List.head?_drop] using this
    rw[if_pos (by simp;omega),vZ,ea,Option.bind_some,fD (jB (by omega) (by omega))]
    have e1:((j:Int)+1)=((j+1:Nat):Int):=by omega
    rw[e1,vZ,eb,Option.bind_some,aal _ _ _ _ _ (by simp only;omega),Option.bind_some,fD (jB (by omega) (by omega))]
    rw[ih m (j+1) _ (by simp) hd2 (by simp;omega) (by simp at hn ⊢;omega)]
    simp[inner]
 exact key lt FUEL 0 ks h0 rfl (by omega) (iW (by omega))
theorem ZJ(t:List Int)(n:Nat):∀r:List Int,(inner t n r).length≤r.length
 |[]=>by simp[inner]
 |[_]=>by simp[inner]
 |a::b::r=>by have:=ZJ t n (b::r);simp[inner] at this ⊢;omega
theorem alM{Q:dG×Int→Prop}(lt:List Int)(sJ ps:List Str)(secs:List Section)(oV yB:List (List Int))(i:Nat)(cont:(Int×(List Str)×(List Section)×(List Link)×(List (List Int))×Nat)→Option (dG×Int))(pos:Int)(ks:List Link)(hl:lt.length≤100)(hk:ks.length≤100)(h0:0<lt.length)
  (hi:i<5)(ht:i+1<oV.length)(htt:∀t∈oV,t.length≤10)(hp:ps.length<9)(hb:yB.length≤100)(x y:List Int)(hx:oV[i]?=some x)(hy:oV[i+1]?=some y)
  (hc:WP (cont (pos,(vW (vW ps ks (lt.headD 0) x false).1 (vW ps ks (lt.headD 0) x false).2 (lt.getLastD 0) y true).1,secs,(vW (vW ps ks (lt.headD 0) x false).1 (vW ps ks (lt.headD 0) x false).2 (lt.getLastD 0) y true).2,yB++[lt],i+1)) Q):
  WP (LX lt oV i sJ ps secs ks yB cont pos ()) Q:=by
 unfold LX
 have hx2:x.length≤10:=htt x (List.mem_of_getElem? hx)
 have hy2:y.length≤10:=htt y (List.mem_of_getElem? hy)
 obtain⟨a,r,rfl⟩:∃a r,lt=a::r:=by cases lt with|nil=>simp at h0|cons a r=>exact⟨a,r,rfl⟩
 have e0:idx (a::r) 0=some a:=rfl
 rw[e0,Option.bind_some,vZ,hx,Option.bind_some,ac4 _ _ _ _ (by simp only;omega) (by omega) (by simp only;omega),Option.bind_some]
 refine jq ⟨by omega,by omega⟩ ?_
 have e1:idx (a::r) (((a::r).length:Int)-1)=some ((a::r).getLastD 0):=by
  have:(((a::r).length:Int)-1)=((r.length:Nat):Int):=by simp
  rw[this,vZ,List.getLastD_eq_getLast?,List.getLast?_eq_getElem?]
  simp
 rw[e1,Option.bind_some]
 refine jq ⟨by omega,by omega⟩ ?_
 have e2:((i:Int)+1)=((i+1:Nat):Int):=by omega
 rw[e2,vZ,hy,Option.bind_some]
 have l1:(vW ps ks a x false).2.length≤200:=by simp[vW,Yy];omega
 have l2:(vW ps ks a x false).1.length<10:=by unfold vW;split<;>simp<;>omega
 rw[ac4 _ _ _ _ (by simp only;omega) (by omega) (by simpa using l2),Option.bind_some]
 refine qZ (by simp;omega) ?_
 simp only[aad]
 refine jq ⟨by omega,by omega⟩ ?_
 exact hc
structure Inv1(l:List Int)(n:Nat)(s:Int×(List Str)×(List Section)×(List (List Int))×Nat):Prop where
 src:o8 l s.1
 rng:ze s.2.2.1
 ex:∃ts:List Nat,ts.length=s.2.2.2.2∧ts.length≤n∧(∀k∈ts,k=1∨k=2)∧(s.2.1,s.2.2.1.map uP,s.2.2.2.1)=mO ts
theorem agr(ts:List Nat)(k:Nat):mO (ts++[k])=step1 (mO ts) k:=by simp[mO,List.foldl_append]
theorem ags(ts bs:List Nat)(k:Nat):nZ ts (bs++[k])=step2 (mO ts).2.2 (nZ ts bs) k:=by simp[nZ,List.foldl_append]
theorem agC{P:List Nat→Prop}(h0:P [])(h1:∀l k,P l→P (l++[k]))(l:List Nat):P l:=by
 have:∀r:List Nat,P r.reverse:=by
  intro r
  induction r with
  |nil=>exact h0
  |cons a r ih=>rw[List.reverse_cons];exact h1 _ _ ih
 have:=this l.reverse
 rwa [List.reverse_reverse] at this
theorem abn(ts:List Nat):(∀k∈ts,k=1∨k=2)→(mO ts).1.length=ts.length∧(mO ts).2.1.length≤2*ts.length∧(mO ts).2.2.length=ts.length∧∀t∈(mO ts).2.2,t.length≤10:=by
 induction ts using agC with
 |h0=>intro _;simp[mO]
 |h1 l k ih=>
  intro hk
  obtain⟨a,b,c,d⟩:=ih (fun x hx=>hk x (by simp[hx]))
  have:=hk k (by simp)
  rw[agr]
  refine⟨by simp[step1,a],by simp[step1,agY];omega,by simp[step1,c],?_⟩
  intro t ht
  simp[step1] at ht
  rcases ht with h|rfl
  ·exact d t h
  ·rw[IJ];omega
theorem ape(ts bs:List Nat):(∀k∈ts,k=1∨k=2)→(∀k∈bs,k=1∨k=2)→(nZ ts bs).1.length≤2*bs.length∧(nZ ts bs).2.1.length≤2*ts.length+2*bs.length∧(nZ ts bs).2.2.1.length≤30*bs.length∧(nZ ts bs).2.2.2.length=bs.length:=by
 intro h1
 obtain⟨a,b,c,d⟩:=abn ts h1
 have dd:∀i,((mO ts).2.2.getD i []).length≤10:=by
  intro i
  rw[List.getD_eq_getElem?_getD]
  cases h:(mO ts).2.2[i]? with
  |none=>simp
  |some t=>simpa using d t (List.mem_of_getElem? h)
 induction bs using agC with
 |h0=>intro _;simp[nZ];omega
 |h1 l k ih=>
  intro hk
  obtain⟨e,f,g,j⟩:=ih (fun x hx=>hk x (by simp[hx]))
  have hk2:=hk k (by simp)
  rw[ags]
  have d1:=dd (nZ ts l).2.2.2.length
  have d2:=dd ((nZ ts l).2.2.2.length+1)
  have il:=ZJ (tN (nZ ts l).2.1.length k) 0 (tN (nZ ts l).2.1.length k)
  rw[IJ] at il
  refine⟨?_,?_,?_,?_⟩
  ·simp only[step2,vW]
   split<;>split<;>simp<;>omega
  ·simp[step2,aeI];omega
  ·simp only[step2,vW]
   simp only[List.length_append,Yy]
   simp only[List.length_singleton,List.length_nil]
   omega
  ·simp[step2,j]
structure Inv2(l:List Int)(n:Nat)(ts:List Nat)(s:Int×(List Str)×(List Section)×(List Link)×(List (List Int))×Nat):Prop where
 src:o8 l s.1
 rng:ze s.2.2.1
 ex:∃bs:List Nat,bs.length=s.2.2.2.2.2∧bs.length+1≤n∧(∀k∈bs,k=1∨k=2)∧(s.2.1,s.2.2.1.map uP,s.2.2.2.1,s.2.2.2.2.1)=nZ ts bs
structure X5(l:List Int)(y:dG×Int):Prop where
 src:o8 l y.2
 rng:ze y.1.l.Sections
 ex:∃ts bs:List Nat,(ts.length=2∨ts.length=3)∧bs.length+1=ts.length∧(∀k∈ts,k=1∨k=2)∧(∀k∈bs,k=1∨k=2)∧erase y.1.l=shape ts bs∧y.1.tracks=(mO ts).2.2∧y.1.between=(nZ ts bs).2.2.2∧y.1.eB=[]
theorem aou{l:List Int}{s0:bT}(hs0:s0.l=l)(y2:Int×Int)(n:Nat)(hn:n=2∨n=3)(hy:2+y2.1=n)(ts:List Nat)(ht:ts.length=n)(htk:∀k∈ts,k=1∨k=2)
  (sJ:List Str)(oV:List (List Int))(secs:List Section)(pos:Int)(hsrc:o8 l pos)(akU:ze secs)(he:(sJ,secs.map uP,oV)=mO ts):
  WP (Vd y2 s0 sJ oV pos secs ()) (X5 l):=by
 unfold Vd
 obtain⟨f1,f2,f3,f4⟩:=abn ts htk
 have e1:sJ=(mO ts).1:=congrArg Prod.fst he
 have e2:secs.map uP=(mO ts).2.1:=congrArg (fun p=>p.2.1) he
 have e3:oV=(mO ts).2.2:=congrArg (fun p=>p.2.2) he
 refine Ec (Inv2 l n ts) (fun s=>n-s.2.2.2.2.2) _ ?_ FUEL _ ⟨hsrc,akU,[],rfl,by simp;omega,by simp,by rw[e2];rfl⟩ (iW (by omega))
 rintro c ⟨p,ps,ss,ks,yB,i⟩ ⟨h1,h2,bs,h3,h4,h5,h6⟩ hc
 simp only at h1 h2 h3 h6 hc
 obtain⟨g1,g2,g3,g4⟩:=ape ts bs htk h5
 have a1:ps=(nZ ts bs).1:=congrArg Prod.fst h6
 have a2:ss.map uP=(nZ ts bs).2.1:=congrArg (fun p=>p.2.1) h6
 have a3:ks=(nZ ts bs).2.2.1:=congrArg (fun p=>p.2.2.1) h6
 have a4:yB=(nZ ts bs).2.2.2:=congrArg (fun p=>p.2.2.2) h6
 have a2l:ss.length=(nZ ts bs).2.1.length:=by rw[←a2];simp
 simp only[Z7]
 refine jq ⟨by omega,by omega⟩ ?_
 rw[hy]
 refine wT ?_ ?_
 ·intro hlt
  have hlt:i+1<n:=by simp at hlt;omega
  obtain⟨v,j,ev,v0,v1,hj⟩:=kV h1 2 (by omega) (by omega)
  rw[hs0,ev,Option.bind_some]
  simp only
  refine jq ⟨by omega,by omega⟩ ?_
  obtain⟨k,hk⟩:∃k:Nat,(1+v)=(k:Int):=⟨(1+v).toNat,by omega⟩
  have Zj:k=1∨k=2:=by omega
  rw[hk]
  refine ahR hs0 (by omega) k FUEL j ss [] (by omega) (iW (by omega)) hj (by omega) (by simp;omega) h2 ?_
  intro pos' zT hp' PN hr'
  rw[List.nil_append]
  have til:=ZJ (tN ss.length k) 0 (tN ss.length k)
  rw[IJ] at til
  rw[aly _ _ _ _ _ _ _ _ _ _ (by rw[IJ];omega) (by rw[a3];omega) (by rw[IJ];omega)]
  obtain⟨x,hx⟩:∃x,oV[i]?=some x:=⟨_,List.getElem?_eq_getElem (by rw[e3];omega)⟩
  obtain⟨y,hy2⟩:∃y,oV[i+1]?=some y:=⟨_,List.getElem?_eq_getElem (by rw[e3];omega)⟩
  refine alM _ _ _ _ _ _ _ _ _ _ (by rw[IJ];omega) (by simp only[List.length_append];rw[a3];omega) (by rw[IJ];omega) (by omega) (by rw[e3];omega) (by rw[e3];exact f4) (by rw[a1];omega) (by rw[a4];omega) x y hx hy2 ?_
  refine hc _ ⟨hp',hr',bs++[k],by simp[h3],by simp;omega,?_,?_⟩ (by simp only;omega)
  ·intro q hq
   rcases List.mem_append.1 hq with h|h
   ·exact h5 q h
   ·rw[List.mem_singleton] at h;subst h;exact Zj
  ·have b4:yB.length=i:=by rw[a4,g4,h3]
   have ex:(mO ts).2.2.getD i []=x:=by rw[←e3,List.getD_eq_getElem?_getD,hx];rfl
   have ey:(mO ts).2.2.getD (i+1) []=y:=by rw[←e3,List.getD_eq_getElem?_getD,hy2];rfl
   rw[ags]
   simp only[step2]
   rw[←a1,←a3,←a4,←a2,List.length_map,b4,ex,ey,PN]
 ·intro hge
  have hge:¬(i+1<n):=by simp at hge;omega
  simp only[aac]
  refine vR ⟨h1,h2,ts,bs,by omega,by omega,htk,h5,?_,e3,a4,rfl⟩
  simp only[erase,shape]
  rw[←a1,←a2,←a3,←e1]
theorem aoy{l:List Int}{i:Int}(h:o8 l i):WP (QH ⟨l,i⟩) (X5 l):=by
 unfold QH
 obtain⟨v,j,ev,v0,v1,hj⟩:=kV h 2 (by omega) (by omega)
 rw[ev,Option.bind_some]
 simp only
 refine jq ⟨by omega,by omega⟩ ?_
 obtain⟨n,hn⟩:∃n:Nat,(2+v)=(n:Int):=⟨(2+v).toNat,by omega⟩
 have akJ:n=2∨n=3:=by omega
 refine Ec (Inv1 l n) (fun s=>n-s.2.2.2.2) _ ?_ FUEL _ ⟨hj,fun s hs=>by simp at hs,[],rfl,by simp,by simp,rfl⟩ (iW (by omega))
 rintro c ⟨p,sJ,ss,oV,i⟩ ⟨h1,h2,ts,h3,h4,h5,h6⟩ hc
 simp only at h1 h2 h3 h6 hc
 obtain⟨f1,f2,f3,f4⟩:=abn ts h5
 have e1:sJ=(mO ts).1:=congrArg Prod.fst h6
 have e2:ss.map uP=(mO ts).2.1:=congrArg (fun p=>p.2.1) h6
 have e3:oV=(mO ts).2.2:=congrArg (fun p=>p.2.2) h6
 have e2l:ss.length=(mO ts).2.1.length:=by rw[←e2];simp
 simp only[Z6]
 rw[hn]
 refine wT ?_ ?_
 ·intro hlt
  have hlt:i<n:=by simp at hlt;omega
  rw[JK _ _ (by omega) (by decide),Option.bind_some]
  refine qZ (by simp[e1];omega) ?_
  obtain⟨w,j,ev,v0,v1,hj⟩:=kV h1 2 (by omega) (by omega)
  rw[ev,Option.bind_some]
  simp only
  refine jq ⟨by omega,by omega⟩ ?_
  obtain⟨k,hk⟩:∃k:Nat,(1+w)=(k:Int):=⟨(1+w).toNat,by omega⟩
  have Zj:k=1∨k=2:=by omega
  rw[hk]
  refine ap3 rfl (by omega) (by rw[e3];omega) k FUEL j ss [] (by omega) (iW (by omega)) hj (by omega) (by simp;omega) h2 ?_
  intro pos' zT hp' PN hr'
  refine hc _ ⟨hp',hr',ts++[k],by simp[h3],by simp;omega,?_,?_⟩ (by simp only;omega)
  ·intro q hq
   rcases List.mem_append.1 hq with h|h
   ·exact h5 q h
   ·rw[List.mem_singleton] at h;subst h;exact Zj
  ·have b4:sJ.length=i:=by rw[e1,f1,h3]
   rw[agr]
   simp only[step1]
   rw[←e1,←e2,←e3,List.length_map,b4,PN,List.nil_append]
 ·intro hge
  have hge:¬(i<n):=by simp at hge;omega
  exact aou rfl (v,j) n akJ hn ts (by omega) h5 sJ oV ss p h1 h2 h6
/-! ### The forty shapes -/
def apa:List (List Nat×List Nat):=[1,2].flatMap fun a=>[1,2].flatMap fun b=>[1,2].map fun c=>([a,b],[c])
def apb:List (List Nat×List Nat):=[1,2].flatMap fun a=>[1,2].flatMap fun b=>[1,2].flatMap fun c=>[1,2].flatMap fun d=>[1,2].map fun e=>([a,b,c],[d,e])
def shapes:List (List Nat×List Nat):=apa++apb
theorem len1{l:List Nat}(h:l.length=1):∃a,l=[a]:=by
 match l,h with
 |[a],_=>exact⟨a,rfl⟩
theorem len2{l:List Nat}(h:l.length=2):∃a b,l=[a,b]:=by
 match l,h with
 |[a,b],_=>exact⟨a,b,rfl⟩
theorem ame{l:List Nat}(h:l.length=3):∃a b c,l=[a,b,c]:=by
 match l,h with
 |[a,b,c],_=>exact⟨a,b,c,rfl⟩
theorem aeK{ts bs:List Nat}(h1:ts.length=2∨ts.length=3)(h2:bs.length+1=ts.length)(h3:∀k∈ts,k=1∨k=2)(h4:∀k∈bs,k=1∨k=2):(ts,bs)∈shapes:=by
 rcases h1 with h|h
 ·obtain⟨a,b,rfl⟩:=len2 h
  obtain⟨c,rfl⟩:=len1 (show bs.length=1 by simp at h2;omega)
  have a1:=h3 a (by simp);have b1:=h3 b (by simp);have c1:=h4 c (by simp)
  rcases a1 with rfl|rfl<;>rcases b1 with rfl|rfl<;>rcases c1 with rfl|rfl<;>decide
 ·obtain⟨a,b,c,rfl⟩:=ame h
  obtain⟨d,e,rfl⟩:=len2 (show bs.length=2 by simp at h2;omega)
  have a1:=h3 a (by simp);have b1:=h3 b (by simp);have c1:=h3 c (by simp);have d1:=h4 d (by simp);have e1:=h4 e (by simp)
  rcases a1 with rfl|rfl<;>rcases b1 with rfl|rfl<;>rcases c1 with rfl|rfl<;>rcases d1 with rfl|rfl<;>rcases e1 with rfl|rfl<;>decide
structure Od(l:Layout):Prop where
 rng:ze l.Sections
 ex:∃p∈shapes,erase l=shape p.1 p.2
theorem apc:shapes.all (fun p=>decide (ko (iY (shape p.1 p.2))=0))=true:=by decide+kernel
theorem agk(n:Nat):∀(ss:List Section) (seen:List ByteArray),ze ss→oI n seen (ss.map xS)=oI n seen ((ss.map uP).map xS)
 |[],_,_=>rfl
 |s::ss,seen,h=>by
  have ih:=agk n ss (seen++[s.Name.ba]) (fun x hx=>h x (by simp[hx]))
  have hs:=h s (by simp)
  unfold KM at hs
  have e:Bl n (xS s)=Bl n (xS (uP s)):=by
   rw[Bool.eq_iff_iff]
   simp only[Bl,xS,uP,Bool.and_eq_true,decide_eq_true_eq]
   obtain⟨q1,q2,q3,q4,q5,q6⟩:=hs
   constructor<;>(rintro⟨⟨_,a⟩,b⟩;refine⟨⟨⟨⟨⟨⟨⟨?_,?_⟩,?_⟩,?_⟩,?_⟩,?_⟩,a⟩,b⟩<;>first|omega|decide|(apply decide_eq_true;omega))
  simp only[List.map_cons,oI]
  rw[e]
  have e2:(xS s).name=s.Name.ba:=rfl
  have e3:(xS (uP s)).name=s.Name.ba:=rfl
  rw[e2,e3,ih]
theorem aeA(a b:Lay)(h1:a.sections.length=b.sections.length)(h2:a.points.length=b.points.length):∀(ks done:List fJ),uo a done ks=uo b done ks
 |[],_=>rfl
 |k::ks,done=>by
  have ih:=aeA a b h1 h2 ks (done++[k])
  have e:yI a k=yI b k:=by simp only[yI,h1,h2]
  simp only[uo]
  rw[e,ih]
theorem aie(l:Layout)(h:ze l.Sections):ko (iY l)=ko (iY (erase l)):=by
 have e1:(iY (erase l)).nG=(iY l).nG:=rfl
 have e2:(iY (erase l)).points=(iY l).points:=rfl
 have e4:(iY (erase l)).links=(iY l).links:=rfl
 have e3:(iY (erase l)).sections.length=(iY l).sections.length:=by simp[iY,erase]
 have e5:oI (iY l).nG.length [] (iY l).sections=oI (iY l).nG.length [] (iY (erase l)).sections:=agk _ _ _ h
 unfold ko yC
 rw[e1,e2,e4,e3,e5,aeA (iY (erase l)) (iY l) e3 rfl]
theorem YE{l:Layout}(h:Od l):ko (iY l)=0:=by
 obtain⟨hr,p,hp,he⟩:=h
 rw[aie l hr,he]
 have:=List.all_eq_true.1 apc p hp
 simpa using this
end Go.Proofs.YtcalibhfgdncaaaGreatDoor
namespace Go.Proofs.YtcalibhfgdncaaaGreatDoor
open Go.Dc
set_option maxRecDepth 10000
theorem ahg{α β:Type}{xs:List α}{i:Int}{K:α→Option β}{Q:β→Prop}(h:0≤i∧i<xs.length)(hk:∀x∈xs,WP (K x) Q):WP ((idx xs i).bind K) Q:=by
 have hl:i.toNat<xs.length:=by omega
 have e:idx xs i=some (xs[i.toNat]):=by simp[idx,h.1,List.getElem?_eq_getElem hl]
 rw[e];exact hk _ (List.getElem_mem hl)
theorem agW{a:Int}{n:Nat}(h0:0≤a)(hn:0<n):0≤a.tmod (n:Int)∧a.tmod (n:Int)<n:=by
 rw[Int.tmod_eq_emod_of_nonneg h0]
 exact⟨Int.emod_nonneg _ (by omega),Int.emod_lt_of_pos _ (by omega)⟩
theorem Du{α β:Type}[Inhabited α]{xs:List α}{i:Int}{K:α→Option β}(h:0≤i∧i<xs.length):(idx xs i).bind K=K (xs.getD i.toNat default):=by
 rw[uj h.1 h.2,Option.bind_some]
/-! ### What is read of a row of stations: for the forty shapes -/
def NS(tr:List (List Int))(i a:Int):Int:=gi (gll tr i) (a.tmod ((gll tr i).length:Int))
def rtB(p:List Nat×List Nat)(i a c:Int)(up:Bool):Bool:=
 match E5 ⟨⟨[],[],[],[]⟩,(mO p.1).2.2,(nZ p.1 p.2).2.2.2,[]⟩ i a c up with
 |some r=>decide (r.Overlap=0)&&decide (2≤r.Steps.length)&&decide (r.Steps.length≤10)&&r.Steps.all (jJ (shape p.1 p.2))&& !(zf [] r.Steps)&&decide ((zL (shape p.1 p.2) r).2=0)
  &&decide (qY r=NS (mO p.1).2.2 (if up then i else i+1) (if up then a else c))&&decide (pE r=NS (mO p.1).2.2 (if up then i+1 else i) (if up then c else a))
  &&decide (0≤xU (shape p.1 p.2) (qY r))&&decide (0≤xU (shape p.1 p.2) (pE r))
 |none=>false
def af2(p:List Nat×List Nat):Bool:=
 decide (1≤(nZ p.1 p.2).2.2.2.length)&&decide ((nZ p.1 p.2).2.2.2.length≤2)&&decide (2≤(shape p.1 p.2).aM.length)&&decide ((shape p.1 p.2).aM.length≤3)
 &&[0,1].all fun i=>decide (((nZ p.1 p.2).2.2.2.length:Int)≤i)||[0,1].all fun a=>[0,1].all fun c=>[true,false].all fun up=>rtB p i a c up
theorem aov:shapes.all af2=true:=by decide+kernel
theorem aor{b b':dG}(h1:b.tracks=b'.tracks)(h2:b.between=b'.between)(i a c:Int)(up:Bool):E5 b i a c up=E5 b' i a c up:=by
 have e1:∀x,QD x i b c=QD x i b' c:=fun x=>by
  funext k ⟨q,t⟩
  simp only[QD,Z4,h1]
 have e2:∀x,QE x b i a=QE x b' i a:=fun x=>by
  funext k ⟨q,t⟩
  simp only[QE,Z5,h1]
 unfold E5 Z0
 simp only[h1,h2,e1,e2]
structure KN(l:Layout)(r:aQ):Prop where
 pt:(kJ l r).2=0
 ov:r.Overlap=0
 two:2≤r.Steps.length
 few:r.Steps.length≤10
 s0:0≤xU l (qY r)
 s1:0≤xU l (pE r)
theorem alB(l:Layout):jJ (erase l)=jJ l:=by
 funext s
 unfold jJ
 simp only[erase,List.length_map]
theorem afc(l:Layout):∀(ss:List Step) (a:Step),Fu (erase l) a ss=Fu l a ss
 |[],_=>rfl
 |b::r,a=>by
  simp only[Fu]
  rw[afc l r b];rfl
theorem an4(l:Layout)(r:aQ):zL (erase l) r=zL l r:=by
 have e:RL (erase l) r.Steps=RL l r.Steps:=by
  cases r.Steps with
  |nil=>rfl
  |cons a q=>exact afc l q a
 unfold zL
 rw[e]
theorem apu(l:Layout)(s:Int):xU (erase l) s=xU l s:=by
 unfold xU
 simp only[erase,List.getD_eq_getElem?_getD,List.getElem?_map]
 cases l.Sections[s.toNat]?<;>rfl
structure ab2(b:dG):Prop where
 g:Od b.l
 b1:1≤b.between.length
 b2:b.between.length≤2
 st:2≤b.l.aM.length∧b.l.aM.length≤3
 rt:∀(i a c:Int) (up:Bool),0≤i→i<b.between.length→0≤a→a<2→0≤c→c<2→∃r,E5 b i a c up=some r∧KN b.l r
  ∧qY r=NS b.tracks (if up then i else i+1) (if up then a else c)∧pE r=NS b.tracks (if up then i+1 else i) (if up then c else a)
theorem abE{i:Int}(h0:0≤i)(h1:i<2):i∈[(0:Int),1]:=by
 have:i=0∨i=1:=by omega
 rcases this with rfl|rfl<;>simp
theorem aow{l:List Int}{y:dG×Int}(h:X5 l y):ab2 y.1:=by
 obtain⟨_,hr,ts,bs,h1,h2,h3,h4,h5,h6,h7,_⟩:=h
 have hg:Od y.1.l:=⟨hr,(ts,bs),aeK h1 h2 h3 h4,h5⟩
 have hb:=List.all_eq_true.1 aov _ (aeK h1 h2 h3 h4)
 unfold af2 at hb
 simp only[Bool.and_eq_true,decide_eq_true_eq] at hb
 obtain⟨⟨⟨⟨q1,q2⟩,q3⟩,q4⟩,q5⟩:=hb
 have est:y.1.l.aM.length=(shape ts bs).aM.length:=by rw[←h5];rfl
 refine⟨hg,by rw[h7];exact q1,by rw[h7];exact q2,by rw[est];exact⟨q3,q4⟩,fun i a c up i0 i1 a0 a1 c0 c1=>?_⟩
 rw[h7] at i1
 have f1:=List.all_eq_true.1 q5 i (abE i0 (by omega))
 simp only[Bool.or_eq_true,decide_eq_true_eq] at f1
 rcases f1 with f1|f1
 ·omega
 have f2:=List.all_eq_true.1 f1 a (abE a0 a1)
 have f3:=List.all_eq_true.1 f2 c (abE c0 c1)
 have f4:=List.all_eq_true.1 f3 up (by cases up<;>simp)
 unfold rtB at f4
 rw[aor (b:=y.1) (b':=⟨⟨[],[],[],[]⟩,(mO ts).2.2,(nZ ts bs).2.2.2,[]⟩) h6 h7]
 cases hm:E5 ⟨⟨[],[],[],[]⟩,(mO ts).2.2,(nZ ts bs).2.2.2,[]⟩ i a c up with
 |none=>simp only[hm] at f4;cases f4
 |some r=>
  simp only[hm,Bool.and_eq_true,decide_eq_true_eq,Bool.not_eq_true'] at f4
  obtain⟨⟨⟨⟨⟨⟨⟨⟨⟨g1,g2⟩,g3⟩,g4⟩,g5⟩,g6⟩,g7⟩,g8⟩,g9⟩,g10⟩:=f4
  rw[←h5] at g4 g6 g9 g10
  rw[alB] at g4
  rw[an4] at g6
  rw[apu] at g9 g10
  refine⟨r,rfl,⟨?_,g1,g2,g3,g9,g10⟩,by rw[h6];exact g7,by rw[h6];exact g8⟩
  unfold kJ
  rw[if_neg (by simp[YE hg]),if_neg (by omega),if_neg (by omega),if_neg (by simp[g4]),if_neg (by simp[g5])]
  exact g6
/-! ### A line -/
def RdV(rs:List aQ)(n k:Nat)(r:dD):Prop:=
 (0≤r.aQ∧r.aQ<(rs.length:Int))∧(0≤r.Extra∧r.Extra≤2)∧(0≤r.Min∧r.Min≤r.Max∧r.Max≤r.Min+3∧r.Min≤10)∧(k+1=n→r.Min=0∧r.Max=0)
def Km(rs:List aQ)(r:dD):aQ:=rs.getD r.aQ.toNat default
structure XT(rs:List aQ)(x:Line):Prop where
 st:x.bA=0
 w:0≤x.Weight∧x.Weight≤3
 pos:0<x.bL.length
 few:x.bL.length≤2
 rd:∀k,k<x.bL.length→RdV rs x.bL.length k (kX x k)
 jn:∀k,0<k→k<x.bL.length→qY (Km rs (kX x k))=pE (Km rs (kX x (k-1)))
structure Gb(l:Layout)(rs:List aQ)(ls:List Line):Prop where
 rt:∀r∈rs,KN l r
 ln:∀x∈ls,XT rs x
 nm:∀i,i<ls.length→(ls.getD i default).Name=qR ⟨[78]⟩ i
theorem af7{rs q:List aQ}{r:dD}(h:0≤r.aQ∧r.aQ<(rs.length:Int)):Km (rs++q) r=Km rs r:=by
 unfold Km
 rw[List.getD_eq_getElem?_getD,List.getD_eq_getElem?_getD,List.getElem?_append_left (by omega)]
theorem amx{rs q:List aQ}{x:Line}(h:XT rs x):XT (rs++q) x:=by
 refine⟨h.st,h.w,h.pos,h.few,fun k hk=>?_,fun k h0 hk=>?_⟩
 ·obtain⟨a,b⟩:=h.rd k hk
  exact⟨⟨a.1,by rw[List.length_append];omega⟩,b⟩
 ·rw[af7 (h.rd k hk).1,af7 (h.rd (k-1) (by omega)).1]
  exact h.jn k h0 hk
def XR(l:List Int)(lay:Layout)(p:Plan)(y:Int×List aQ×List Line):Prop:=o8 l y.1∧Gb lay y.2.1 y.2.2∧y.2.1.length≤p.Routes.length+2∧y.2.2.length=p.Lines.length+1
structure RdI(b:dG)(up:Bool)(AL:List Int)(p:Plan)(many:Int)(l:List Int)(q:Int×List aQ×List dD×Nat):Prop where
 src:o8 l q.1
 le:(q.2.2.2:Int)≤many
 len:q.2.2.1.length=q.2.2.2
 ex:∃new,q.2.1=p.Routes++new∧new.length=q.2.2.2∧(∀r∈new,KN b.l r)∧(∀j,j<q.2.2.2→qY (new.getD j default)=NS b.tracks (if up then (j:Int) else many-j) (gi AL (if up then (j:Int) else many-j))
  ∧pE (new.getD j default)=NS b.tracks (if up then (j:Int)+1 else many-j-1) (gi AL (if up then (j:Int)+1 else many-j-1)))
 rd:∀j,j<q.2.2.2→(q.2.2.1.getD j default).aQ=(p.Routes.length:Int)+j∧(0≤(q.2.2.1.getD j default).Extra∧(q.2.2.1.getD j default).Extra≤2)∧
  (0≤(q.2.2.1.getD j default).Min∧(q.2.2.1.getD j default).Min≤(q.2.2.1.getD j default).Max∧(q.2.2.1.getD j default).Max≤(q.2.2.1.getD j default).Min+3∧(q.2.2.1.getD j default).Min≤10)∧
  ((j:Int)+1=many→(q.2.2.1.getD j default).Min=0∧(q.2.2.1.getD j default).Max=0)
theorem YF{α:Type}[Inhabited α](xs:List α)(x:α)(j:Nat)(h:j<xs.length+1):(xs++[x]).getD j default=if j<xs.length then xs.getD j default else x:=by
 rw[List.getD_eq_getElem?_getD,List.getD_eq_getElem?_getD]
 split
 ·rename_i hj;rw[List.getElem?_append_left hj]
 ·have:j=xs.length:=by omega
  subst this;simp
theorem ami{b:dG}(R:ab2 b){l:List Int}{pos:Int}(hs:o8 l pos){p:Plan}(hp:Gb b.l p.Routes p.Lines)(h1:p.Routes.length≤100)(h2:p.Lines.length<10){up:Bool}{many:Int}(hm:1≤many∧many≤b.between.length):
  WP (QB b ⟨l,pos⟩ p up many) (XR l b.l p):=by
 have hb2:=R.b2
 unfold QB
 rw[JK _ _ h2 (by decide),Option.bind_some]
 obtain⟨v,j,ev,v0,v1,hj⟩:=kV hs 4 (by omega) (by omega)
 rw[ev,Option.bind_some]
 refine Ec (fun (q:Int×List Int×Nat)=>o8 l q.1∧q.2.1.length=3∧q.2.2≤3∧∀x∈q.2.1,0≤x∧x<2) (fun q=>3-q.2.2) _ ?_ FUEL _ ⟨hj,by simp,by simp,by simp⟩ (iW (by omega))
 rintro c ⟨p1,AL,t⟩ ⟨g1,g2,g3,g4⟩ hc
 simp only at g1 g2 g3 g4 hc
 simp only[ZU]
 refine wT (fun h=>?_) (fun h=>?_)
 ·simp only[decide_eq_true_eq] at h
  obtain⟨x,k,ex,x0,x1,hk⟩:=kV g1 2 (by omega) (by omega)
  rw[ex,Option.bind_some]
  refine ahg (by omega) fun _ _=>hc _ ⟨hk,by simp only[List.length_set];omega,by simp only;omega,fun z hz=>?_⟩ (by simp only;omega)
  rcases List.mem_or_eq_of_mem_set hz with hz|hz
  ·exact g4 z hz
  ·subst hz;exact⟨x0,x1⟩
 ·have ade:∀i:Int,0≤i→i<3→0≤gi AL i∧gi AL i<2:=fun i i0 i1=>by
   have hl:i.toNat<AL.length:=by omega
   have:gi AL i∈AL:=by unfold gi;simp[hl]
   exact g4 _ this
  unfold ZW
  refine Ec (RdI b up AL p many l) (fun q=>2-q.2.2.2) _ ?_ FUEL _ ⟨g1,by simp;omega,rfl,⟨[],by simp,rfl,by simp,fun j hj=>by simp at hj⟩,fun j hj=>by simp at hj⟩ (iW (by omega))
  rintro c2 ⟨p2,rs,rd,k⟩ ⟨i1,i2,i3,⟨new,n1,n2,n3,n4⟩,i5⟩ hc2
  simp only at i1 i2 i3 n1 n2 n4 i5 hc2
  subst n1
  simp only[ZV]
  refine wT (fun hk=>?_) (fun hk=>?_)
  ·simp only[decide_eq_true_eq] at hk
   have core:∀i:Int,i=(if up then (k:Int) else many-1-k)→WP (LV AL b up (p.Routes++new) ⟨l,pos⟩ p2 k many rd c2 i) (XR l b.l p):=by
    intro i ei
    have hi:0≤i∧i<many:=by cases up<;>simp at ei<;>omega
    unfold LV
    have ga:=ade i hi.1 (by omega)
    have gd:=ade (i+1) (by omega) (by omega)
    refine ahf (by omega) (jq (by omega) (ahf (by omega) ?_))
    obtain⟨r,er,hr,hr1,hr2⟩:=R.rt i (gi AL i) (gi AL (i+1)) up hi.1 (by omega) ga.1 ga.2 gd.1 gd.2
    rw[er,Option.bind_some]
    refine qZ (by simp;omega) (jq (by simp;omega) ?_)
    obtain⟨x,k3,ex,x0,x1,hk3⟩:=kV i1 3 (by omega) (by omega)
    rw[ex,Option.bind_some]
    have fin:∀(p5 mn mx:Int),o8 l p5→0≤mn∧mn≤mx∧mx≤mn+3∧mn≤10→((k:Int)+1=many→mn=0∧mx=0)→WP (LW rd (p.Routes++new) r x k c2 (p5,mn,mx)) (XR l b.l p):=by
     intro p5 mn mx h5 hb hlast
     unfold LW
     refine qZ (by simp;omega) (jq (by omega) (hc2 _ ⟨h5,by simp only;omega,by simp;omega,⟨new++[r],by simp,by simp;omega,fun q hq=>?_,fun j hj=>?_⟩,fun j hj=>?_⟩ (by simp only;omega)))
     ·rcases List.mem_append.1 hq with hq|hq
      ·exact n3 q hq
      ·rw[List.mem_singleton] at hq;subst hq;exact hr
     ·simp only at hj
      rw[YF _ _ _ (by omega)]
      split
      ·exact n4 j (by omega)
      ·have:j=k:=by omega
       subst this
       rw[hr1,hr2]
       cases up
       ·simp at ei ⊢
        have e1:i+1=many-j:=by omega
        have e2:i=many-j-1:=by omega
        rw[e1,e2];exact⟨rfl,rfl⟩
       ·simp at ei ⊢
        rw[ei];exact⟨rfl,rfl⟩
     ·simp only at hj ⊢
      rw[YF _ _ _ (by omega)]
      split
      ·exact i5 j (by omega)
      ·have:j=k:=by omega
       subst this
       simp only[List.length_append,List.length_singleton]
       exact⟨by omega,by omega,hb,hlast⟩
    unfold Vb
    refine jq (by omega) (wT (fun hlt=>?_) (fun hlt=>fin _ _ _ hk3 (by omega) (fun _=>⟨rfl,rfl⟩)))
    simp only[decide_eq_true_eq] at hlt
    obtain⟨y,k4,ey,y0,y1,hk4⟩:=kV hk3 6 (by omega) (by omega)
    rw[ey,Option.bind_some]
    refine jq (by simp only;omega) ?_
    obtain⟨z,k5,ez,z0,z1,hk5⟩:=kV hk4 4 (by omega) (by omega)
    rw[ez,Option.bind_some]
    exact jq (by simp only;omega) (fin _ _ _ hk5 (by simp only;omega) (by omega))
   refine wT (fun hu=>jq (by omega) (jq (by omega) (core _ ?_))) (fun hu=>core _ ?_)
   ·simp at hu;rw[hu];rfl
   ·simp at hu;rw[hu];rfl
  ·unfold ZX
   simp only[decide_eq_false_iff_not] at hk
   have ekm:(k:Int)=many:=by omega
   refine qZ (by simp;omega) (vR ⟨i1,⟨fun q hq=>?_,fun x hx=>?_,fun i hi=>?_⟩,(by simp;omega),by simp⟩)
   ·rcases List.mem_append.1 hq with hq|hq
    ·exact hp.rt q hq
    ·exact n3 q hq
   ·rcases List.mem_append.1 hx with hx|hx
    ·exact amx (hp.ln x hx)
    ·rw[List.mem_singleton] at hx;subst hx
     have nth:∀j,j<k→Km (p.Routes++new) (rd.getD j default)=new.getD j default:=fun j hj=>by
      unfold Km
      rw[(i5 j hj).1,List.getD_eq_getElem?_getD,List.getD_eq_getElem?_getD,List.getElem?_append_right (by omega)]
      congr 2;omega
     refine⟨rfl,⟨by simp only;omega,by simp only;omega⟩,by simp only;omega,by simp only;omega,fun j hj=>?_,fun j h0 hj=>?_⟩
     ·simp only at hj
      obtain⟨d1,d2,d3,d4⟩:=i5 j (by omega)
      refine⟨?_,d2,d3,fun e=>d4 (by simp only at e;omega)⟩
      unfold kX
      simp only
      rw[d1,List.length_append];omega
     ·simp only at hj
      unfold kX
      simp only
      rw[nth j (by omega),nth (j-1) (by omega),(n4 j (by omega)).1,(n4 (j-1) (by omega)).2]
      cases up
      ·have e:many-(j:Int)=many-((j-1:Nat):Int)-1:=by omega
       simp only[Bool.false_eq_true,if_false];rw[e]
      ·have e:(j:Int)=((j-1:Nat):Int)+1:=by omega
       simp only[if_true];rw[←e]
   ·simp only at hi ⊢
    rw[YF _ _ _ (by simpa using hi)]
    split
    ·rename_i hlt;exact hp.nm i hlt
    ·simp at hi
     have:i=p.Lines.length:=by omega
     subst this;rfl
/-! ### Starts and stops, turns -/
theorem UK{p:Plan}{i k:Int}(h1:i<(p.Lines.length:Int))(h0:0≤i)(h2:0≤k)(h3:k<((dS p i.toNat).bL.length:Int)):iE p i k=true:=by
 unfold iE jy
 simp only[Bool.and_eq_true,decide_eq_true_eq]
 exact⟨⟨⟨h0,h1⟩,h2⟩,h3⟩
theorem UL{l:Layout}{p:Plan}(hp:Gb l p.Routes p.Lines){i k:Int}(h:iE p i k=true):(0≤i∧i<(p.Lines.length:Int))∧(0≤k∧k<((dS p i.toNat).bL.length:Int))∧(0≤(jM p i k).aQ∧(jM p i k).aQ<(p.Routes.length:Int))∧KN l (jG p (jM p i k)):=by
 unfold iE jy at h
 simp only[Bool.and_eq_true,decide_eq_true_eq] at h
 obtain⟨⟨⟨a,b⟩,c⟩,d⟩:=h
 have hm:dS p i.toNat∈p.Lines:=lY (by omega)
 have r:=((hp.ln _ hm).rd k.toNat (by omega)).1
 exact⟨⟨a,b⟩,⟨c,d⟩,r,hp.rt _ (lY (by unfold jM;omega))⟩
theorem agO{l:Layout}{p:Plan}(hp:Gb l p.Routes p.Lines){i k:Int}(h:iE p i k=true):JD p i k=some (pE (jG p (jM p i k))):=by
 obtain⟨a,b,c,d⟩:=UL hp h
 have d1:=d.two;have d2:=d.few;have d3:=d.ov
 unfold JD
 rw[Du a,show p.Lines.getD i.toNat default=dS p i.toNat from rfl,Du b,show (dS p i.toNat).bL.getD k.toNat default=jM p i k from rfl,Du c]
 rw[show p.Routes.getD (jM p i k).aQ.toNat default=jG p (jM p i k) from rfl,fD (jB (by omega) (by omega)),Du (by omega)]
 unfold pE
 rw[d3,show ((jG p (jM p i k)).Steps.length:Int)-0-1=((jG p (jM p i k)).Steps.length:Int)-1 by omega]
theorem agM{l:Layout}{p:Plan}(hp:Gb l p.Routes p.Lines){i k:Int}(h:iE p i k=true):JC p i k=some (qY (jG p (jM p i k))):=by
 obtain⟨a,b,c,d⟩:=UL hp h
 have d1:=d.two
 unfold JC
 rw[Du a,show p.Lines.getD i.toNat default=dS p i.toNat from rfl,Du b,show (dS p i.toNat).bL.getD k.toNat default=jM p i k from rfl,Du c]
 rw[show p.Routes.getD (jM p i k).aQ.toNat default=jG p (jM p i k) from rfl,Du (by omega)]
 rfl
structure X6(p:Plan)(t:Turn):Prop where
 fr:jy p t.From=true
 tt:jy p t.To=true
 lo:10≤t.Min∧t.Min≤19∧t.Min≤t.Max∧t.Max≤t.Min+29
 eq:pE (jG p (jM p t.From ((dS p t.From.toNat).bL.length-1)))=qY (jG p (jM p t.To 0))
def Ub(u t:Turn):Prop:=u.From≠t.From∧u.To≠t.To
def TnP(p:Plan)(l:List Int)(y:Int×List Turn):Prop:=o8 l y.1∧y.2.length≤12∧(∀t∈y.2,X6 p t)∧y.2.Pairwise Ub
structure Uc(p:Plan)(l:List Int)(m:Nat)(q:Int×List Turn×List Bool×List Bool×Nat):Prop where
 src:o8 l q.1
 len:q.2.1.length≤m+q.2.2.2.2
 f4:q.2.2.1.length=4
 t4:q.2.2.2.1.length=4
 le:q.2.2.2.2≤p.Lines.length
 ok:∀t∈q.2.1,X6 p t∧gb q.2.2.1 t.From=true∧gb q.2.2.2.1 t.To=true
 pw:q.2.1.Pairwise Ub
theorem ap5{lay:Layout}{l:List Int}{pos:Int}(hs:o8 l pos){p:Plan}(hp:Gb lay p.Routes p.Lines)(h3:p.Lines.length≤3)(ht:p.Turns=[]):WP (QI ⟨l,pos⟩ p) (TnP p l):=by
 unfold QI
 rw[ht]
 refine Ec (fun q=>Uc p l (3*q.2.2.2.2) q) (fun q=>4-q.2.2.2.2) _ ?_ FUEL _ ⟨hs,by simp,by simp,by simp,by simp,by simp,by simp⟩ (iW (by omega))
 rintro c ⟨p1,tn,f,to,a⟩ ⟨i1,i2,i3,i4,i5,i6,i7⟩ hc
 simp only at i1 i2 i3 i4 i5 i6 i7 hc
 simp only[aae]
 refine wT (fun h=>?_) (fun h=>vR ⟨i1,by simp only;omega,fun t ht=>(i6 t ht).1,i7⟩)
 simp only[decide_eq_true_eq] at h
 refine Ec (Uc p l (4*a)) (fun q=>4-q.2.2.2.2) _ ?_ FUEL _ ⟨i1,by simp only;omega,i3,i4,by simp,i6,i7⟩ (iW (by omega))
 rintro c2 ⟨p2,tn2,f2,to2,b⟩ ⟨j1,j2,j3,j4,j5,j6,j7⟩ hc2
 simp only at j1 j2 j3 j4 j5 j6 j7 hc2
 simp only[aaf]
 refine wT (fun hb=>?_) (fun hb=>?_)
 ·simp only[decide_eq_true_eq] at hb
  obtain⟨x,k,ex,x0,x1,hk⟩:=kV j1 3 (by omega) (by omega)
  rw[ex,Option.bind_some]
  have go:∀(q:Int) (t:List Turn) (u w:List Bool),Uc p l (4*a) (q,t,u,w,b+1)→WP (JE c2 b (q,t,u,w)) (TnP p l):=by
   intro q t u w hI
   unfold JE
   exact hc2 _ hI (by simp only;omega)
  have keep:Uc p l (4*a) (k,tn2,f2,to2,b+1):=⟨hk,by simp only;omega,j3,j4,by simp only;omega,j6,j7⟩
  have hA:(0:Int)≤(a:Int)∧(a:Int)<(p.Lines.length:Int):=by omega
  have hB:(0:Int)≤(b:Int)∧(b:Int)<(p.Lines.length:Int):=by omega
  have aiK:idx f2 (a:Int)=some (gb f2 a):=by rw[uj (by omega) (by omega)];rfl
  have aiL:idx to2 (b:Int)=some (gb to2 b):=by rw[uj (by omega) (by omega)];rfl
  have aiM:idx p.Lines (a:Int)=some (dS p a):=by rw[uj hA.1 hA.2];rfl
  rw[aiK,NU,Option.bind_some,aiL,NU,Option.bind_some,aiM,NU,Option.bind_some]
  refine wT (fun hg=>?_) (fun _=>go _ _ _ _ keep)
  rw[hg]
  simp only[Bool.and_eq_true,decide_eq_true_eq,Bool.not_eq_true'] at hg
  obtain⟨⟨hx,hf⟩,hto⟩:=hg
  rw[if_pos (by simpa using hx)] at hf
  rw[if_pos (by simp[hx,hf])] at hto
  have ma:dS p a∈p.Lines:=lY (by omega)
  have lo:=hp.ln _ ma
  have lp:=lo.pos;have lf:=lo.few
  have mb:dS p b∈p.Lines:=lY (by omega)
  have lo2:=(hp.ln _ mb).pos
  rw[if_pos rfl]
  have rA:iE p (a:Int) (((dS p a).bL.length:Int)-1)=true:=by
   unfold iE jy;simp;omega
  have rB:iE p (b:Int) 0=true:=by
   unfold iE jy;simp;omega
  have s1:=agO (p:=Plan.mk p.bR p.aU p.Routes p.Lines p.Changes tn2 p.bq p.bg) hp (i:=(a:Int)) (k:=((dS p a).bL.length:Int)-1) rA
  have s2:=agM (p:=Plan.mk p.bR p.aU p.Routes p.Lines p.Changes tn2 p.bq p.bg) hp (i:=(b:Int)) (k:=0) rB
  refine jq (by omega) ?_
  rw[s1,Option.bind_some,s2,Option.bind_some]
  refine wT (fun he=>?_) (fun _=>go _ _ _ _ keep)
  simp only[Bool.true_and,decide_eq_true_eq] at he
  rw[Option.bind_some,Option.bind_some]
  obtain⟨y,k4,ey,y0,y1,hk4⟩:=kV hk 10 (by omega) (by omega)
  rw[ey,Option.bind_some]
  refine jq (by simp only;omega) ?_
  obtain⟨z,k5,ez,z0,z1,hk5⟩:=kV hk4 30 (by omega) (by omega)
  rw[ez,Option.bind_some]
  refine jq (by simp only;omega) (qZ (by simp;omega) (go _ _ _ _ ⟨hk5,by simp;omega,by simp;omega,by simp;omega,by simp only;omega,fun t ht=>?_,?_⟩))
  ·simp only at ht ⊢
   have gs:∀(g:List Bool) (n:Nat) (j:Int),g.length=4→n<4→0≤j→(gb g j=true∨j=n)→gb (g.set (n:Int).toNat true) j=true:=fun g n j h4 hn hj hor=>by
    rw[adb g (n:Int) j true (by omega) hj (by omega)]
    split
    ·rfl
    ·rcases hor with h|h
     ·exact h
     ·contradiction
   rcases List.mem_append.1 ht with hq|hq
   ·obtain⟨v,q1,q2⟩:=j6 t hq
    have vf:=v.fr;have vt:=v.tt
    unfold jy at vf vt
    simp only[Bool.and_eq_true,decide_eq_true_eq] at vf vt
    exact⟨v,gs _ _ _ j3 (by omega) vf.1 (.inl q1),gs _ _ _ j4 (by omega) vt.1 (.inl q2)⟩
   ·rw[List.mem_singleton] at hq;subst hq
    refine⟨⟨by unfold jy;simp;omega,by unfold jy;simp;omega,by simp only;omega,he⟩,gs _ _ _ j3 (by omega) (by simp) (.inr rfl),gs _ _ _ j4 (by omega) (by simp) (.inr rfl)⟩
  ·simp only
   rw[List.pairwise_append]
   refine⟨j7,List.pairwise_singleton _ _,fun u hu t ht=>?_⟩
   rw[List.mem_singleton] at ht;subst ht
   obtain⟨_,q1,q2⟩:=j6 u hu
   refine⟨fun e=>?_,fun e=>?_⟩
   ·rw[e] at q1;rw[q1] at hf;cases hf
   ·rw[e] at q2;rw[q2] at hto;cases hto
 ·unfold aag
  simp only[decide_eq_false_iff_not] at hb
  exact hc _ ⟨j1,by simp only;omega,j3,j4,by simp only;omega,j6,j7⟩ (by simp only;omega)
/-! ### A valid plan -/
theorem Gl{g:Nat→Option Int}{k:Option Int}:∀m i,(∀j,i≤j→j<i+m→g j=some 0)→k=some 0→errs g k m i=some 0:=by
 intro m
 induction m with
 |zero=>intro i _ h;exact h
 |succ m ih=>
  intro i h hk
  simp only[errs]
  rw[h i (Nat.le_refl _) (by omega),Option.bind_some,if_neg (by simp)]
  exact ih (i+1) (fun j a b=>h j (by omega) (by omega)) hk
theorem agi{l:Layout}(hr:ze l.Sections){s:Step}(h:jJ l s=true):2≤(mM l s).Length∧(mM l s).Length≤12:=by
 unfold jJ at h
 simp only[Bool.and_eq_true,decide_eq_true_eq] at h
 have:=hr (mM l s) (lY (by omega))
 unfold KM at this
 omega
theorem acs{l:Layout}(hr:ze l.Sections):∀ss:List Step,(∀s∈ss,jJ l s=true)→(Gj l ss).length≤12*ss.length
 |[],_=>by simp[Gj]
 |s::r,h=>by
  have ih:=acs hr r (fun t ht=>h t (List.mem_cons_of_mem _ ht))
  have hs:=agi hr (h s List.mem_cons_self)
  have e:Gj l (s::r)=List.replicate (mM l s).Length.toNat (cellOf l s)++Gj l r:=rfl
  rw[e,List.length_append,List.length_replicate,List.length_cons];omega
theorem aiR{l:Layout}(hg:Od l){r:aQ}(h:KN l r){s:bA}(hs:yT s=true)(h2:s.Length≤2):Jj l r s=0:=by
 have o:=DU h.pt
 have hT:∀x∈zX r,jJ l x=true:=fun x hx=>o.st x (List.mem_of_mem_take hx)
 have hl:(zX r).length≤24:=by have:=o.len;unfold zX;rw[List.length_take];omega
 have hc:=acs hg.rng (zX r) hT
 have e:(Ap l r).2.2=0:=by
  unfold Ap
  rw[if_neg (by simp[h.pt]),show r.Steps.take ((r.Steps.length:Int)-r.Overlap).toNat=zX r from rfl]
  unfold cellsE
  rw[if_neg (by omega)]
 unfold Jj
 rw[if_neg (by simp[e]),if_neg (by simp[hs]),if_neg (by omega:¬s.Length>2),if_neg]
 simp only[List.any_eq_true,decide_eq_true_eq,not_exists,not_and]
 intro x hx
 have:=(agi hg.rng (hT x hx)).1
 omega
theorem aeN:∀i j:Fin 3,i≠j→qR ⟨[78]⟩ i.val≠qR ⟨[78]⟩ j.val:=by decide
theorem amO:∀i:Fin 3,mK (qR ⟨[78]⟩ i.val).ba=true:=by decide+kernel
theorem Yg{p:Plan}{lo hi:Int}(h:0≤lo∧lo≤hi∧hi≤7200∧hi<lo+p.bR):sO p lo hi=true:=by
 unfold sO;simp;omega
structure CZ(l:Layout)(p:Plan):Prop where
 g:Od l
 sz:Sz p
 per:90≤p.bR∧p.bR≤300
 sk:∃s,p.aU=[s]∧mK s.Name.ba=true∧yT s=true∧s.Length≤2
 ok:Gb l p.Routes p.Lines
 ln:p.Lines.length≤3
 ch:∀c∈p.Changes,Lb l p c=0
 tn:∀t∈p.Turns,X6 p t
 td:p.Turns.Pairwise Ub
 sy:∀s∈p.bq,NQ p s=0
 dm:∀d∈p.bg,Ld l d=0
 few:p.Routes.length≤6∧p.Changes.length≤3∧p.Turns.length≤12∧p.bq.length≤1∧p.bg.length≤3
 ri2:∀x∈p.Lines,x.bL.length≤2
theorem aoo{l:Layout}{p:Plan}(v:CZ l p){x:Line}(hx:x∈p.Lines){k:Nat}(hk:k<x.bL.length):wN l p x k=0:=by
 have hl:=v.ok.ln x hx
 obtain⟨⟨a1,a2⟩,b,c,d⟩:=hl.rd k hk
 have hr:KN l (jG p (kX x k)):=v.ok.rt _ (lY (by omega))
 obtain⟨s,es,_,hs,h2⟩:=v.sk
 have per:=v.per
 have e:p.aU.getD x.bA.toNat default=s:=by rw[es,hl.st];rfl
 unfold wN
 rw[if_neg,e,aiR v.g hr hs h2,if_neg (by simp),if_neg]
 ·rintro⟨h0,hne⟩
  exact hne (hl.jn k h0 hk)
 ·have hb:sO p (kX x k).Min (kX x k).Max=true:=Yg (by omega)
  simp only[Bool.not_eq_false]
  unfold vG
  rw[hb]
  have hlast:(decide (k+1=x.bL.length)&&(decide ((kX x k).Min≠0)||decide ((kX x k).Max≠0)))=false:=by
   by_cases e:k+1=x.bL.length
   ·obtain⟨d1,d2⟩:=d e
    simp[d1,d2]
   ·simp[e]
  rw[hlast]
  simp
  omega
theorem Rj{l:Layout}{p:Plan}(v:CZ l p):DJ l p=some 0:=by
 have per:=v.per
 obtain⟨s,es,hn,hs,h2⟩:=v.sk
 have e0:DZ l p=0:=by
  unfold DZ
  rw[if_neg (by simp[YE v.g]),if_neg (by simp[v.sz]),if_neg (by omega)]
 unfold DJ
 rw[if_neg (by simp[e0])]
 refine Gl _ _ (fun j _ hj=>?_) (Gl _ _ (fun j _ hj=>?_) (Gl _ _ (fun j _ hj=>?_) (Gl _ _ (fun j _ hj=>?_) (Gl _ _ (fun j _ hj=>?_) (Gl _ _ (fun j _ hj=>?_) (Gl _ _ (fun j _ hj=>?_) rfl))))))
 ·rw[es] at hj
  have:j=0:=by simp at hj;omega
  subst this
  unfold Tg
  rw[es]
  simp[hn,hs]
 ·unfold Wh
  rw[(v.ok.rt _ (lY (by omega))).pt]
 ·have hj':j<p.Lines.length:=by omega
  have h3:=v.ln
  have hx:dS p j∈p.Lines:=lY hj'
  have hl:=v.ok.ln _ hx
  have acV:(dS p j).Name=qR ⟨[78]⟩ j:=v.ok.nm j hj'
  unfold GR
  rw[if_neg,if_neg,if_neg,if_neg (by have:=hl.pos;omega)]
  ·exact Gl _ _ (fun k _ hk=>by rw[aoo v hx (by omega)]) rfl
  ·simp only[Bool.not_eq_false,Bool.and_eq_true,decide_eq_true_eq]
   have w:=hl.w
   unfold wB
   rw[hl.st,es]
   simp;omega
  ·simp only[List.any_eq_true,decide_eq_true_eq,not_exists,not_and]
   intro t ht
   obtain⟨i,hi,rfl⟩:=List.getElem_of_mem ht
   rw[List.length_take] at hi
   have hij:i<j:=by omega
   rw[List.getElem_take,acV]
   have:=v.ok.nm i (by omega)
   rw[getD_lt (by omega)] at this
   rw[this]
   exact aeN ⟨i,by omega⟩ ⟨j,by omega⟩ (by simp[Fin.ext_iff];omega)
  ·rw[acV]
   simpa using amO ⟨j,by omega⟩
 ·unfold OL
  rw[v.ch _ (lY (by omega))]
 ·unfold TG
  have hj':j<p.Turns.length:=by omega
  have t:=v.tn _ (lY hj')
  have tlo:=t.lo
  unfold Xc
  rw[if_neg,if_neg,if_neg]
  ·have f1:=t.fr;have f2:=t.tt
   unfold jy at f1 f2
   simp only[Bool.and_eq_true,decide_eq_true_eq] at f1 f2
   have k1:(dS p (p.Turns.getD j default).From.toNat).bA=0:=(v.ok.ln _ (lY (by omega))).st
   have k2:(dS p (p.Turns.getD j default).To.toNat).bA=0:=(v.ok.ln _ (lY (by omega))).st
   rintro (h|h)
   ·exact h t.eq
   ·exact h (k1.trans k2.symm)
  ·simp only[List.any_eq_true,Bool.or_eq_true,decide_eq_true_eq,not_exists,not_and]
   intro u hu
   obtain⟨i,hi,rfl⟩:=List.getElem_of_mem hu
   rw[List.length_take] at hi
   rw[List.getElem_take,getD_lt hj']
   have:=List.pairwise_iff_getElem.1 v.td i j (by omega) hj' (by omega)
   unfold Ub at this
   omega
  ·simp only[Bool.not_eq_false,Bool.and_eq_true]
   exact⟨⟨t.fr,t.tt⟩,Yg (by omega)⟩
 ·unfold Tq
  rw[v.sy _ (lY (by omega))]
 ·unfold OU
  rw[v.dm _ (lY (by omega))]
/-! ### The plan -/
structure ahz(p:Plan):Prop where
 st:p.aU.length≤100
 ro:p.Routes.length≤100
 li:p.Lines.length≤100
 ch:p.Changes.length≤100
 tu:p.Turns.length≤100
 sy:p.bq.length≤100
 de:p.bg.length≤100
 per:0≤p.bR∧p.bR≤7200
theorem CZ.bnd{l:Layout}{p:Plan}(v:CZ l p):ahz p:=by
 have s:=v.sz
 have per:=v.per
 have a1:=s.st;have a2:=s.ro;have a3:=s.li;have a4:=s.ch;have a5:=s.tu;have a6:=s.sy;have a7:=s.de
 exact⟨by omega,by omega,by omega,by omega,by omega,by omega,by omega,by omega⟩
theorem anV(l:List Int)(hl:l.length≤140737488355328):WP (Qf l) (fun y=>CZ y.1 y.2):=by
 unfold Qf
 have e:U9 l=some ⟨l,0⟩:=rfl
 rw[e,Option.bind_some]
 refine wp_bind _ (aoy (l:=l) ⟨by omega,by omega,hl⟩) ?_
 rintro⟨b,p0⟩ ro
 have R:=aow ro
 have hg:=R.g
 have r0:=ro.src
 simp only at r0 R hg ⊢
 have hb1:=R.b1
 have hb2:=R.b2
 have hst:=R.st
 obtain⟨a1,p1,e1,l1,u1,r1⟩:=kV r0 6 (by omega) (by omega)
 rw[e1,Option.bind_some]
 refine ahg (by simp;omega) fun per akM=>?_
 have akN:90≤per∧per≤300:=by
  simp only[List.mem_cons,List.not_mem_nil,or_false] at akM
  omega
 obtain⟨a2,p2,e2,l2,u2,r2⟩:=kV r1 2 (by omega) (by omega)
 rw[e2,Option.bind_some]
 refine jq (by simp only;omega) ?_
 obtain⟨a3,p3,e3,l3,u3,r3⟩:=kV r2 4 (by omega) (by omega)
 rw[e3,Option.bind_some]
 refine jq (by simp only;omega) (jq (by simp only;omega) ?_)
 obtain⟨a4,p4,e4,l4,u4,r4⟩:=kV r3 3 (by omega) (by omega)
 rw[e4,Option.bind_some]
 refine jq (by simp only;omega) (jq (by simp only;omega) ?_)
 obtain⟨a5,p5,e5,l5,u5,r5⟩:=kV r4 3 (by omega) (by omega)
 rw[e5,Option.bind_some]
 refine jq (by simp only;omega) (jq (by simp only;omega) ?_)
 generalize hsk:(bA.mk (⟨[88]⟩:Str) (1+a2) (10000+(5000*a3)) (400+(200*a4)) (400+(200*a5)))=sk
 have akX:mK sk.Name.ba=true∧yT sk=true∧sk.Length≤2:=by
  subst hsk
  refine⟨by show mK (⟨[88]⟩:Str).ba=true;decide+kernel,?_,by simp only;omega⟩
  unfold yT;simp;omega
 clear hsk
 unfold Va
 obtain⟨a6,p6,e6,l6,u6,r6⟩:=kV r5 3 (by omega) (by omega)
 simp only
 rw[e6,Option.bind_some]
 refine jq (by simp only;omega) ?_
 refine Ec (fun (q:Int×List aQ×List Line×Int)=>o8 l q.1∧Gb b.l q.2.1 q.2.2.1∧(q.2.2.1.length:Int)+q.2.2.2≤3∧0≤q.2.2.2∧q.2.1.length≤2*q.2.2.1.length∧(0<q.2.2.2∨0<q.2.2.1.length)) (fun q=>q.2.2.2.toNat) _ ?_ FUEL _ ⟨r6,⟨by simp,by simp,by simp⟩,by simp;omega,by simp only;omega,by simp,by simp only;omega⟩ (iW (by simp only;omega))
 rintro c ⟨p7,rs,ls,n⟩ ⟨i1,i2,i3,i4,i5,i6⟩ hc
 simp only at i1 i2 i3 i4 i5 i6 hc
 simp only[ZN]
 refine wT (fun h=>?_) (fun h=>?_)
 ·simp only[decide_eq_true_eq] at h
  obtain⟨a8,p8,e8,l8,u8,r8⟩:=kV i1 2 (by omega) (by omega)
  rw[e8,Option.bind_some]
  obtain⟨a9,p9,e9,l9,u9,r9⟩:=kV r8 (b.between.length:Int) (by omega) (by omega)
  rw[e9,Option.bind_some]
  refine jq (by simp only;omega) ?_
  refine wp_bind _ (ami R (p:=Plan.mk _ _ rs ls _ _ _ _) r9 i2 (by simp only;omega) (by simp only;omega) (by omega)) ?_
  rintro⟨p10,rs2,ls2⟩ ⟨q1,q2,q3,q4⟩
  simp only at q1 q2 q3 q4 ⊢
  exact jq (by omega) (hc _ ⟨q1,q2,by simp only;omega,by simp only;omega,by simp only;omega,by simp only;omega⟩ (by simp only;omega))
 ·simp only[decide_eq_false_iff_not] at h
  unfold ZQ
  refine wp_bind _ (ap5 (p:=Plan.mk _ _ rs ls _ _ _ _) i1 i2 (by simp only;omega) rfl) ?_
  rintro⟨p11,tn⟩ ⟨t1,t2,t3,t4⟩
  simp only at t1 t2 t3 t4 ⊢
  obtain⟨a12,p12,e12,QJ,u12,J6⟩:=kV t1 3 (by omega) (by omega)
  rw[e12,Option.bind_some]
  refine Ec (fun (q:Int×List Change×Int)=>o8 l q.1∧(q.2.1.length:Int)+q.2.2≤3∧0≤q.2.2∧∀c∈q.2.1,Lb b.l (Plan.mk per [sk] rs ls [] tn [] []) c=0) (fun q=>q.2.2.toNat) _ ?_ FUEL _ ⟨J6,by simp;omega,by simp only;omega,by simp⟩ (iW (by simp only;omega))
  rintro c2 ⟨p13,ch,k2⟩ ⟨j1,j2,j3,j4⟩ hc2
  simp only at j1 j2 j3 j4 hc2
  simp only[ZO]
  refine wT (fun hk=>?_) (fun hk=>?_)
  ·simp only[Bool.and_eq_true,decide_eq_true_eq] at hk
   obtain⟨yu,p14,e14,l14,u14,Ng⟩:=kV j1 (ls.length:Int) (by omega) (by omega)
   rw[e14,Option.bind_some]
   obtain⟨a15,p15,e15,Cg,u15,nD⟩:=kV Ng 3 (by omega) (by omega)
   rw[e15,Option.bind_some]
   have tr:=agW (a:=yu+1) (n:=ls.length) (by omega) (by omega)
   generalize hto:(yu+1).tmod (ls.length:Int)=to at tr
   have hne:yu≠to:=by
    rw[Int.tmod_eq_emod_of_nonneg (by omega)] at hto
    by_cases h:yu+1<ls.length
    ·rw[Int.emod_eq_of_lt (by omega) h] at hto;omega
    ·have:yu+1=ls.length:=by omega
     rw[this,Int.emod_self] at hto;omega
   simp only[hto]
   refine jq (by omega) (qZ (by simp only[decide_eq_true_eq];omega) ?_)
   rw[Du (by omega),Du (by omega)]
   have o1:=i2.ln _ (lY (xs:=ls) (i:=yu.toNat) (by omega))
   have o2:=i2.ln _ (lY (xs:=ls) (i:=to.toNat) (by omega))
   have o1p:=o1.pos
   have o2p:=o2.pos
   have o1f:=o1.few
   have o2f:=o2.few
   obtain⟨a16,p16,e16,l16,u16,r16⟩:=kV nD ((ls.getD yu.toNat default).bL.length:Int) (by omega) (by omega)
   rw[e16,Option.bind_some]
   obtain⟨a17,p17,e17,l17,u17,uG⟩:=kV r16 ((ls.getD to.toNat default).bL.length:Int) (by omega) (by omega)
   simp only
   rw[e17,Option.bind_some]
   obtain⟨a18,p18,e18,l18,u18,VI⟩:=kV uG 20 (by omega) (by omega)
   simp only
   rw[e18,Option.bind_some]
   obtain⟨a19,p19,e19,l19,u19,uH⟩:=kV VI per (by omega) (by omega)
   simp only
   rw[e19,Option.bind_some]
   have hA:iE (Plan.mk per [sk] rs ls [] tn [] []) yu a16=true:=UK (by show yu<(ls.length:Int);omega) (by omega) (by omega) (by show a16<((ls.getD yu.toNat default).bL.length:Int);omega)
   have hB:iE (Plan.mk per [sk] rs ls [] tn [] []) to a17=true:=UK (by show to<(ls.length:Int);omega) (by omega) (by omega) (by show a17<((ls.getD to.toNat default).bL.length:Int);omega)
   have sA:JD (Plan.mk per [sk] rs ls ch tn [] []) yu a16=some (pE (jG (Plan.mk per [sk] rs ls [] tn [] []) (jM (Plan.mk per [sk] rs ls [] tn [] []) yu a16))):=agO (p:=Plan.mk per [sk] rs ls [] tn [] []) i2 hA
   have sB:JC (Plan.mk per [sk] rs ls ch tn [] []) to a17=some (qY (jG (Plan.mk per [sk] rs ls [] tn [] []) (jM (Plan.mk per [sk] rs ls [] tn [] []) to a17))):=agM (p:=Plan.mk per [sk] rs ls [] tn [] []) i2 hB
   have vA:=(UL (p:=Plan.mk per [sk] rs ls [] tn [] []) i2 hA).2.2.2
   have vB:=(UL (p:=Plan.mk per [sk] rs ls [] tn [] []) i2 hB).2.2.2
   have oA:=DU vA.pt;have oB:=DU vB.pt
   refine jq (by omega) ?_
   rw[sA,Option.bind_some]
   have iA:idx b.l.Sections (pE (jG (Plan.mk per [sk] rs ls [] tn [] []) (jM (Plan.mk per [sk] rs ls [] tn [] []) yu a16)))=some (b.l.Sections.getD (pE (jG (Plan.mk per [sk] rs ls [] tn [] []) (jM (Plan.mk per [sk] rs ls [] tn [] []) yu a16))).toNat default):=by
    have:=oA.two;have:=oA.ov
    exact SV oA (lY (by omega))
   have iB:idx b.l.Sections (qY (jG (Plan.mk per [sk] rs ls [] tn [] []) (jM (Plan.mk per [sk] rs ls [] tn [] []) to a17)))=some (b.l.Sections.getD (qY (jG (Plan.mk per [sk] rs ls [] tn [] []) (jM (Plan.mk per [sk] rs ls [] tn [] []) to a17))).toNat default):=by
    have:=oB.two;have:=oB.ov
    exact SV oB (lY (by omega))
   rw[iA,Option.bind_some,sB,Option.bind_some,iB,Option.bind_some]
   refine wT (fun he=>qZ (by simp;omega) ?_) (fun _=>?_)
   ·unfold LH
    refine jq (by omega) (hc2 _ ⟨uH,by simp;omega,by simp only;omega,fun c hcm=>?_⟩ (by simp only;omega))
    rcases List.mem_append.1 hcm with hq|hq
    ·exact j4 c hq
    ·rw[List.mem_singleton] at hq;subst hq
     simp only[decide_eq_true_eq] at he
     unfold Lb
     rw[if_neg,if_neg]
     ·simp only
      rintro (h|h)
      ·have:=vA.s1;omega
      ·exact h he
     ·unfold Dh
      simp only
      rw[hA,hB,Yg (by simp only;omega)]
      unfold wB
      simp;omega
   ·unfold LH
    exact jq (by omega) (hc2 _ ⟨uH,by simp only;omega,by simp only;omega,j4⟩ (by simp only;omega))
  ·unfold ZR
   obtain⟨a20,p20,e20,l20,u20,zM⟩:=kV j1 4 (by omega) (by omega)
   rw[e20,Option.bind_some]
   have last:∀(q:Int) (sy:List Sync),o8 l q→sy.length≤1→(∀s∈sy,NQ (Plan.mk per [sk] rs ls ch tn [] []) s=0)→WP (LJ ⟨l,0⟩ (b,p0) per [sk] rs ls ch (p11,tn) (q,sy)) (fun y=>CZ y.1 y.2):=by
    intro q sy hq hsy hsv
    unfold LJ
    obtain⟨a21,p21,e21,l21,u21,uI⟩:=kV hq 3 (by omega) (by omega)
    simp only
    rw[e21,Option.bind_some]
    refine Ec (fun (q:Int×List dB×Int)=>o8 l q.1∧(q.2.1.length:Int)+q.2.2≤3∧0≤q.2.2∧∀d∈q.2.1,Ld b.l d=0) (fun q=>q.2.2.toNat) _ ?_ FUEL _ ⟨uI,by simp;omega,by simp only;omega,by simp⟩ (iW (by simp only;omega))
    rintro c3 ⟨p22,dm,k3⟩ ⟨m1,m2,m3,m4⟩ hc3
    simp only at m1 m2 m3 m4 hc3
    simp only[ZP]
    refine wT (fun hk3=>?_) (fun hk3=>?_)
    ·simp only[decide_eq_true_eq] at hk3
     obtain⟨a23,p23,e23,l23,u23,r23⟩:=kV m1 (b.l.aM.length:Int) (by omega) (by omega)
     rw[e23,Option.bind_some]
     refine jq (by simp only;omega) (jq (by omega) ?_)
     obtain⟨a24,p24,e24,l24,u24,qX⟩:=kV r23 ((b.l.aM.length:Int)-1) (by omega) (by omega)
     rw[e24,Option.bind_some]
     refine jq (by simp only;omega) (qZ (by simp only[decide_eq_true_eq];omega) ?_)
     obtain⟨a25,p25,e25,l25,u25,Hq⟩:=kV qX 9 (by omega) (by omega)
     rw[e25,Option.bind_some]
     refine jq (by simp only;omega) (qZ (by simp;omega) (jq (by omega) (hc3 _ ⟨Hq,by simp;omega,by simp only;omega,fun d hd=>?_⟩ (by simp only;omega))))
     rcases List.mem_append.1 hd with hq|hq
     ·exact m4 d hq
     ·rw[List.mem_singleton] at hq;subst hq
      have tr:=agW (a:=a23+1+a24) (n:=b.l.aM.length) (by omega) (by omega)
      have hne:a23≠(a23+1+a24).tmod (b.l.aM.length:Int):=by
       rw[Int.tmod_eq_emod_of_nonneg (by omega)]
       by_cases h:a23+1+a24<b.l.aM.length
       ·rw[Int.emod_eq_of_lt (by omega) h];omega
       ·have e:(a23+1+a24)=(a23+1+a24-b.l.aM.length)+b.l.aM.length:=by omega
        rw[e,Int.add_emod_right,Int.emod_eq_of_lt (by omega) (by omega)];omega
      unfold Ld
      rw[if_neg]
      simp;omega
    ·unfold ZT
     simp only[decide_eq_false_iff_not] at hk3
     exact vR ⟨hg,⟨by simp,by simp only;omega,by simp only;omega,by simp only;omega,by simp only;omega,by simp only;omega,by simp only;omega,fun x hx=>by have:=(i2.ln x hx).few;omega⟩,
      akN,⟨sk,rfl,akX⟩,i2,by simp only;omega,fun c hc=>j4 c hc,fun t ht=>⟨(t3 t ht).fr,(t3 t ht).tt,(t3 t ht).lo,(t3 t ht).eq⟩,t4,fun s hs=>hsv s hs,m4,⟨by simp only;omega,by simp only;omega,by simp only;omega,by simp only;omega,by simp only;omega⟩,fun x hx=>(i2.ln x hx).few⟩
   refine wT (fun hk=>?_) (fun _=>last _ _ zM (by simp) (by simp))
   simp only[Bool.and_eq_true,decide_eq_true_eq] at hk
   obtain⟨a26,p26,e26,l26,u26,vF⟩:=kV zM per (by omega) (by omega)
   rw[e26,Option.bind_some]
   refine qZ (by simp) (last _ _ vF (by simp) fun s hs=>?_)
   simp only[List.nil_append,List.mem_singleton] at hs
   subst hs
   have o1:=(i2.ln _ (lY (xs:=ls) (i:=0) (by omega))).pos
   have o2:=(i2.ln _ (lY (xs:=ls) (i:=1) (by omega))).pos
   unfold NQ
   rw[if_neg]
   have h0:iE (Plan.mk per [sk] rs ls ch tn [] []) 0 0=true:=UK (by show (0:Int)<(ls.length:Int);omega) (by omega) (by omega) (by show (0:Int)<((ls.getD 0 default).bL.length:Int);omega)
   have h1:iE (Plan.mk per [sk] rs ls ch tn [] []) 1 0=true:=UK (by show (1:Int)<(ls.length:Int);omega) (by omega) (by omega) (by show (0:Int)<((ls.getD 1 default).bL.length:Int);omega)
   dsimp only
   rw[h0,h1]
   simp;omega
end Go.Proofs.YtcalibhfgdncaaaGreatDoor
