/- Several parts of the engine, one behind the other. -/
import Derived.Test.YtcalibhfgdncaaaGreatPk
import Derived.Test.YtcalibhfgdncaaaGreatRk
import Derived.IntWalk
import Derived.Test.YtcalibhfgdncaaaGreatRl
import Derived.Test.YtcalibhfgdncaaaGreatQ1
import Derived.Test.YtcalibhfgdncaaaGreatTm
import Derived.Test.YtcalibhfgdncaaaGreatPy
import Derived.Test.YtcalibhfgdncaaaGreatSm
set_option linter.all false
namespace Go.Proofs.YtcalibhfgdncaaaGreat
open Go.Dc
theorem QG(v n:Int)(h0:1≤n)(h1:n≤4611686018427387904):∃k,F6 v n=some k∧0≤k∧k<n:=by
 have hw:IntKind.u64.wrap n=n:=IntWalk.u64_in n ⟨by omega,by omega⟩
 have hv:0≤IntKind.u64.wrap v:=by rw[IntKind.wrap_u64];omega
 have e:(IntKind.u64.wrap v).tmod n=IntKind.u64.wrap v % n:=Int.tmod_eq_emod_of_nonneg hv
 have a:=Int.emod_nonneg (IntKind.u64.wrap v) (b:=n) (by omega)
 have b:=Int.emod_lt_of_pos (IntKind.u64.wrap v) (b:=n) (by omega)
 refine⟨IntKind.u64.wrap v % n,?_,a,b⟩
 unfold F6
 rw[hw,e,dM (by simp;omega)]
 congr 1
 rw[IntKind.wrap_i64]
 omega
def pq(l:List Int)(i:Int):Prop:=0≤i∧i≤l.length∧l.length≤140737488355328
theorem lC{l:List Int}{i:Int}(h:pq l i)(n:Int)(h0:1≤n)(h1:n≤4611686018427387904):
  ∃v j,kC (bS.mk l i) n=some (v,j)∧0≤v∧v<n∧pq l j:=by
 obtain⟨a,b,c⟩:=h
 unfold kC
 by_cases hl:(l.length:Int)≤i
 ·exact⟨0,i,by simp[hl],by omega,by omega,a,b,c⟩
 ·have e:i+1-1=i:=by omega
  obtain⟨k,hk,k0,k1⟩:=QG (l.getD i.toNat 0) n h0 h1
  refine⟨k,i+1,?_,k0,k1,by omega,by omega,c⟩
  simp only[hl,decide_false,Bool.false_eq_true,if_false,e]
  rw[dM (fq (by omega) (by omega)),dM (fq (by omega) (by omega)),akY a (by omega)]
  simp only[Option.bind_some]
  rw[hk]
  rfl
end Go.Proofs.YtcalibhfgdncaaaGreat
namespace Go.Proofs.YtcalibhfgdncaaaGreat
open Go.Dc
def sP(s:Str)(k:Nat):Str:=⟨s.l++[UInt8.ofNat (48+k)]⟩
theorem aia:∀k:Fin 10,Ws (⟨[48,49,50,51,52,53,54,55,56,57]⟩:Str) ((k.val:Int).tmod 10) ((k.val:Int).tmod 10+1)=some ⟨[UInt8.ofNat (48+k.val)]⟩:=by decide
theorem JG(s:Str)(k:Nat)(h:k<10)(hs:s.l.length≤100):Dz s (k:Int)=some (sP s k):=by
 unfold Dz
 have e:(k:Int).tmod 10=k:=by rw[Int.tmod_eq_emod_of_nonneg (by omega)];omega
 have:=aia ⟨k,h⟩
 simp only at this
 rw[dM (fq (by omega) (by omega)),this,Option.bind_some]
 unfold Wq
 rw[if_pos (by simp;omega)]
 rfl
theorem ae0(s:Str)(k:Nat):(sP s k).l.length=s.l.length+1:=by simp[sP]
def wP(s:Section):Section:=⟨s.Name,1,1000,0,s.nN⟩
def KG(s:Section):Prop:=2≤s.Length∧s.Length≤12∧5000≤s.Limit∧s.Limit≤35000∧ -10≤s.kr∧s.kr≤10
def Am(l:List Section):Prop:=∀s∈l,KG s
theorem agq{l:List Int}{i:Int}(h:pq l i)(nm:Str)(st:Int):
  ∃x j,LD (bS.mk l i) nm st=some (x,j)∧pq l j∧wP x=⟨nm,1,1000,0,st⟩∧KG x∧x.Length≤10∧x.Name=nm∧x.nN=st:=by
 obtain⟨v1,j1,e1,a1,b1,o1⟩:=lC h 9 (by omega) (by omega)
 obtain⟨v2,j2,e2,a2,b2,o2⟩:=lC o1 7 (by omega) (by omega)
 obtain⟨v3,j3,e3,a3,b3,o3⟩:=lC o2 21 (by omega) (by omega)
 refine⟨⟨nm,2+v1,5000+5000*v2,v3-10,st⟩,j3,?_,o3,rfl,?_,?_,rfl,rfl⟩
 ·unfold LD
  rw[e1,Option.bind_some,dM (fq (by simp;omega) (by simp;omega))]
  simp only
  rw[e2,Option.bind_some,dM (fq (by simp;omega) (by simp;omega)),dM (fq (by simp;omega) (by simp;omega))]
  simp only
  rw[e3,Option.bind_some,dM (fq (by simp;omega) (by simp;omega))]
 ·refine⟨?_,?_,?_,?_,?_,?_⟩<;>simp only<;>omega
 ·simp only;omega
theorem abK(b:dP)(x:Section)(h:b.l.Sections.length≤1000):LG b x=some ((b.l.Sections.length:Int),b.l.Sections++[x]):=by
 unfold LG
 have e:((b.l.Sections++[x]).length:Int)-1=b.l.Sections.length:=by simp
 rw[dM (by simp;omega),e,dM (fq (by omega) (by omega))]
theorem aae(b:dP)(x y p q:Int)(h:b.l.Links.length≤1000):Js b x y p q=some (b.l.Links++[⟨x,1,y,0,p,q⟩]):=by
 unfold Js
 rw[dM (by simp;omega)]
theorem amo(b:dP)(h:b.l.bN.length<10):P8 b=some ((b.l.bN.length:Int),b.l.bN++[sP ⟨[80]⟩ b.l.bN.length]):=by
 unfold P8
 have e:((b.l.bN++[sP ⟨[80]⟩ b.l.bN.length]).length:Int)-1=b.l.bN.length:=by simp
 rw[JG _ _ h (by decide),Option.bind_some,dM (by simp;omega),e,dM (fq (by omega) (by omega))]
/-! ### Skeletons -/
def FE(x p:Int)(east:Bool):Nat→List Int→List Link
 |_,[]=>[]
 |i,t::r=>(if east then ⟨x,1,t,0,p,i⟩ else ⟨t,1,x,0,p,i⟩)::FE x p east (i+1) r
def acV(ps:List Str)(ts:List Int):Int:=if 1<ts.length then ps.length else-1
def xH(ps:List Str)(ks:List Link)(x:Int)(ts:List Int)(east:Bool):List Str×List Link:=
 (if 1<ts.length then ps++[sP ⟨[80]⟩ ps.length] else ps,ks++FE x (acV ps ts) east 0 ts)
theorem X3(x p:Int)(e:Bool):∀(ts:List Int) (i:Nat),(FE x p e i ts).length=ts.length
 |[],_=>rfl
 |t::r,i=>by simp[FE,X3 x p e r (i+1)]
theorem acU(b:dP)(x:Int)(ts:List Int)(east:Bool)(ps:List Str)(p:Int)(hk:b.l.Links.length≤500)(ht:ts.length≤100):
  LH ts east b x (ps,p)=some (ps,b.l.Links++FE x p east 0 ts):=by
 simp only[LH]
 have:=oH (B:=P6 ts east b ps x p) (fun (q:List Link×Nat) i=>(q.1,i)) ts (fun q i=>q.1.length≤500+i∧q.2=i) (fun q r=>some (ps,q.1++FE x p east q.2 r)) ?_ ?_ FUEL (b.l.Links,0) 0 ⟨by simp;omega,rfl⟩ (by omega) (jo (by omega))
 ·simpa using this
 ·rintro c ⟨q,qi⟩ i t r ⟨hq,rfl⟩ hdr hi hx hc
  simp only at hq hx hi ⊢
  simp only[P6]
  rw[if_pos (by simpa using hi)]
  cases east with
  |true=>
   rw[if_pos rfl,hx,Option.bind_some,aae _ _ _ _ _ (by simp only;omega),Option.bind_some]
   simp only[LJ]
   have:=hc (q++[⟨x,1,t,0,p,qi⟩],qi+1) ⟨by simp;omega,rfl⟩
   simp only at this
   rw[this]
   simp[FE]
  |false=>
   rw[if_neg (by simp),hx,Option.bind_some,aae _ _ _ _ _ (by simp only;omega),Option.bind_some]
   simp only[LJ]
   have:=hc (q++[⟨t,1,x,0,p,qi⟩],qi+1) ⟨by simp;omega,rfl⟩
   simp only at this
   rw[this]
   simp[FE]
 ·rintro c ⟨q,qi⟩ ⟨hq,h2⟩
  simp only[P6]
  rw[if_neg (by simp)]
  simp[FE]
theorem acW(b:dP)(x:Int)(ts:List Int)(east:Bool)(hk:b.l.Links.length≤500)(ht:ts.length≤100)(hp:b.l.bN.length<10):
  LK b x ts east=some (xH b.l.bN b.l.Links x ts east):=by
 unfold LK xH acV
 by_cases h:1<ts.length
 ·rw[if_pos (by simp;omega),amo b hp,Option.bind_some,acU _ _ _ _ _ _ hk ht]
  simp[h]
 ·rw[if_neg (by simp;omega),acU _ _ _ _ _ _ hk ht]
  simp[h]
def Ku(i:Nat):Nat→List Section
 |0=>[]
 |k+1=>⟨sP (sP ⟨[84]⟩ i) (k+1),1,1000,0,i⟩::Ku i k
def JF(i:Nat):Nat→List Section
 |0=>[]
 |k+1=>⟨sP (sP ⟨[76]⟩ i) (k+1),1,1000,0,-1⟩::JF i k
def vJ(s:Nat):Nat→List Int
 |0=>[]
 |k+1=>(s:Int)::vJ (s+1) k
theorem IG:∀(k s:Nat),(vJ s k).length=k
 |0,_=>rfl
 |k+1,s=>by simp[vJ,IG k (s+1)]
abbrev S1:=List Str×List Section×List (List Int)
abbrev S2:=List Str×List Section×List Link×List (List Int)
def step1(s:S1)(k:Nat):S1:=(s.1++[sP ⟨[83]⟩ s.1.length],s.2.1++Ku s.1.length k,s.2.2++[vJ s.2.1.length k])
def inner(t:List Int):Nat→List Int→List Link
 |_,[]=>[]
 |_,[_]=>[]
 |n,a::b::r=>⟨a,1,b,0,-1,0⟩::inner t n (b::r)
def step2(tr:List (List Int))(s:S2)(k:Nat):S2:=
 let i:=s.2.2.2.length
 let t:=vJ s.2.1.length k
 let f:=xH s.1 (s.2.2.1++inner t 0 t) (t.headD 0) (tr.getD i []) false
 let g:=xH f.1 f.2 (t.getLastD 0) (tr.getD (i+1) []) true
 (g.1,s.2.1++JF i k,g.2,s.2.2.2++[t])
def nU(ts:List Nat):S1:=ts.foldl step1 ([],[],[])
def pJ(ts bs:List Nat):S2:=bs.foldl (step2 (nU ts).2.2) ([],(nU ts).2.1,[],[])
def shape(ts bs:List Nat):Layout:=⟨(nU ts).1,(pJ ts bs).1,(pJ ts bs).2.1,(pJ ts bs).2.2.1⟩
def erase(l:Layout):Layout:=⟨l.bB,l.bN,l.Sections.map wP,l.Links⟩
theorem agV(i:Nat):∀k,(Ku i k).length=k
 |0=>rfl
 |k+1=>by simp[Ku,agV i k]
theorem aeT(i:Nat):∀k,(JF i k).length=k
 |0=>rfl
 |k+1=>by simp[JF,aeT i k]
/-! ### The first loop: stations and their tracks -/
theorem anU{Q:dP×Int→Prop}{l:List Int}{i:Nat}{uK:List Str}{y:Str}{qI:List (List Int)}{cont:(Int×(List Str)×(List Section)×(List (List Int))×Nat)→Option (dP×Int)}{s0:bS}(hs0:s0.l=l)
  (hi:i<5)(ht:qI.length≤100):∀(k n:Nat) (pos:Int) (secs:List Section) (lt:List Int),k≤2→k<n→pq l pos→secs.length+k≤200→lt.length+k≤200→Am secs→
  (∀pos' Br,pq l pos'→Br.map wP=secs.map wP++Ku i k→Am Br→WP (cont (pos',uK++[y],Br,qI++[lt++vJ secs.length k],i+1)) Q)→
  WP (iter (Ju (i:Nat) s0 uK y qI cont) n (pos,secs,lt,(k:Int))) Q:=by
 intro k
 induction k with
 |zero=>
  intro n pos secs lt _ hn hp hs hl hr hc
  obtain⟨m,rfl⟩:∃m,n=m+1:=⟨n-1,by omega⟩
  show WP (Ju _ _ _ _ _ _ _ _) Q
  simp only[Ju]
  rw[if_neg (by simp)]
  simp only[ZW,ZV]
  refine uh (by simp;omega) (jJ ⟨by omega,by omega⟩ ?_)
  have:=hc pos secs hp (by simp[Ku]) hr
  simpa [vJ] using this
 |succ k ih=>
  intro n pos secs lt hk hn hp hs hl hr hc
  obtain⟨m,rfl⟩:∃m,n=m+1:=⟨n-1,by omega⟩
  show WP (Ju _ _ _ _ _ _ _ _) Q
  simp only[Ju]
  rw[if_pos (by simp<;>omega),JG _ _ (by omega) (by decide),Option.bind_some,JG _ _ (by omega) (by rw[ae0];decide),Option.bind_some]
  obtain⟨x,j,e,hj,e1,e2,e3,e4,e5⟩:=agq hp (sP (sP ⟨[84]⟩ i) (k+1)) i
  rw[hs0,e,Option.bind_some]
  unfold KG at e2
  refine jJ ⟨by simp only;omega,by simp only;omega⟩ ?_
  rw[abK _ _ (by simp only;omega),Option.bind_some]
  simp only
  refine uh (by simp;omega) (jJ ⟨by omega,by omega⟩ ?_)
  have ek:(((k+1:Nat):Int)-1)=(k:Int):=by omega
  rw[ek]
  refine ih m j _ _ (by omega) (by omega) hj (by simp;omega) (by simp;omega) ?_ ?_
  ·intro s hm
   rcases List.mem_append.1 hm with h|h
   ·exact hr s h
   ·rw[List.mem_singleton] at h;subst h
    unfold KG;simp only;omega
  ·intro pos' Br h1 h2 h3
   have akg:wP ⟨x.Name,x.Length+2,x.Limit,x.kr,x.nN⟩=⟨sP (sP ⟨[84]⟩ i) (k+1),1,1000,0,i⟩:=by rw[←e1];rfl
   have:=hc pos' Br h1 (by rw[h2];simp[Ku,akg]) h3
   have e6:lt++[(secs.length:Int)]++vJ (secs++[(⟨x.Name,x.Length+2,x.Limit,x.kr,x.nN⟩:Section)]).length k=lt++vJ secs.length (k+1):=by simp[vJ]
   rw[e6]
   exact this
theorem ahq{Q:dP×Int→Prop}{l:List Int}{i:Nat}{uK ps:List Str}{ks:List Link}{qI zL:List (List Int)}{cont:(Int×(List Str)×(List Section)×(List Link)×(List (List Int))×Nat)→Option (dP×Int)}{s0:bS}(hs0:s0.l=l)
  (hi:i<5):∀(k n:Nat) (pos:Int) (secs:List Section) (lt:List Int),k≤2→k<n→pq l pos→secs.length+k≤200→lt.length+k≤200→Am secs→
  (∀pos' Br,pq l pos'→Br.map wP=secs.map wP++JF i k→Am Br→WP (Qc (lt++vJ secs.length k) uK ps Br qI zL i cont pos' ks ()) Q)→
  WP (iter (Jv (i:Nat) s0 uK ps ks qI zL cont) n (pos,secs,lt,(k:Int))) Q:=by
 intro k
 induction k with
 |zero=>
  intro n pos secs lt _ hn hp hs hl hr hc
  obtain⟨m,rfl⟩:∃m,n=m+1:=⟨n-1,by omega⟩
  show WP (Jv _ _ _ _ _ _ _ _ _ _) Q
  simp only[Jv]
  rw[if_neg (by simp)]
  have:=hc pos secs hp (by simp[JF]) hr
  simpa [vJ] using this
 |succ k ih=>
  intro n pos secs lt hk hn hp hs hl hr hc
  obtain⟨m,rfl⟩:∃m,n=m+1:=⟨n-1,by omega⟩
  show WP (Jv _ _ _ _ _ _ _ _ _ _) Q
  simp only[Jv]
  rw[if_pos (by simp<;>omega),JG _ _ (by omega) (by decide),Option.bind_some,JG _ _ (by omega) (by rw[ae0];decide),Option.bind_some]
  obtain⟨x,j,e,hj,e1,e2,e3,e4,e5⟩:=agq hp (sP (sP ⟨[76]⟩ i) (k+1)) (-1)
  rw[hs0,e,Option.bind_some,abK _ _ (by simp only;omega),Option.bind_some]
  simp only
  refine uh (by simp;omega) (jJ ⟨by omega,by omega⟩ ?_)
  have ek:(((k+1:Nat):Int)-1)=(k:Int):=by omega
  rw[ek]
  refine ih m j _ _ (by omega) (by omega) hj (by simp;omega) (by simp;omega) ?_ ?_
  ·intro s hm
   rcases List.mem_append.1 hm with h|h
   ·exact hr s h
   ·rw[List.mem_singleton] at h;subst h;exact e2
  ·intro pos' Br h1 h2 h3
   have:=hc pos' Br h1 (by rw[h2];simp[JF,e1]) h3
   have e6:lt++[(secs.length:Int)]++vJ (secs++[x]).length k=lt++vJ secs.length (k+1):=by simp[vJ]
   rw[e6]
   exact this
end Go.Proofs.YtcalibhfgdncaaaGreat
namespace Go.Proofs.YtcalibhfgdncaaaGreat
open Go.Dc
theorem ak0(lt:List Int)(uK ps:List Str)(secs:List Section)(qI zL:List (List Int))(i:Nat)(cont:(Int×(List Str)×(List Section)×(List Link)×(List (List Int))×Nat)→Option (dP×Int))(pos:Int)(ks:List Link)(hl:lt.length≤100)(hk:ks.length≤200)(h0:0<lt.length):
  Qc lt uK ps secs qI zL i cont pos ks ()=LQ lt qI i uK ps secs (ks++inner lt 0 lt) zL cont pos ():=by
 unfold Qc
 have key:∀(r:List Int) (n j:Nat) (q:List Link),0<r.length→lt.drop j=r→q.length≤200+j→r.length<n→
   iter (Qb lt uK ps secs qI zL i cont pos) n (q,j)=LQ lt qI i uK ps secs (q++inner lt 0 r) zL cont pos ():=by
  intro r
  induction r with
  |nil=>intro n j q h _ _ _;simp at h
  |cons a r ih=>
   intro n j q _ hd hq hn
   obtain⟨m,rfl⟩:∃m,n=m+1:=⟨n-1,by omega⟩
   have hj:j<lt.length:=by
    apply Nat.lt_of_not_le;intro h
    rw[List.drop_eq_nil_of_le h] at hd;cases hd
   have hr:r.length+1+j=lt.length:=by
    have:=congrArg List.length hd
    rw[List.length_drop] at this;simp at this;omega
   show Qb _ _ _ _ _ _ _ _ _ _ _=_
   simp only[Qb]
   rw[dM (fq (by omega) (by omega))]
   cases r with
   |nil=>
    simp at hr
    rw[if_neg (by simp;omega)]
    simp[inner]
   |cons b r=>
    simp at hr
    have ea:lt[j]?=some a:=by have:=congrArg List.head? hd;simpa [List.head?_drop] using this
    have hd2:lt.drop (j+1)=b::r:=by rw[←List.drop_drop,hd];rfl
    have eb:lt[j+1]?=some b:=by have:=congrArg List.head? hd2;simpa [List.head?_drop] using this
    rw[if_pos (by simp;omega),nO,ea,Option.bind_some,dM (fq (by omega) (by omega))]
    have e1:((j:Int)+1)=((j+1:Nat):Int):=by omega
    rw[e1,nO,eb,Option.bind_some,aae _ _ _ _ _ (by simp only;omega),Option.bind_some,dM (fq (by omega) (by omega))]
    rw[ih m (j+1) _ (by simp) hd2 (by simp;omega) (by simp at hn ⊢;omega)]
    simp[inner]
 exact key lt FUEL 0 ks h0 rfl (by omega) (jo (by omega))
theorem ZC(t:List Int)(n:Nat):∀r:List Int,(inner t n r).length≤r.length
 |[]=>by simp[inner]
 |[_]=>by simp[inner]
 |a::b::r=>by have:=ZC t n (b::r);simp[inner] at this ⊢;omega
theorem alf{Q:dP×Int→Prop}(lt:List Int)(uK ps:List Str)(secs:List Section)(qI zL:List (List Int))(i:Nat)(cont:(Int×(List Str)×(List Section)×(List Link)×(List (List Int))×Nat)→Option (dP×Int))(pos:Int)(ks:List Link)(hl:lt.length≤100)(hk:ks.length≤100)(h0:0<lt.length)
  (hi:i<5)(ht:i+1<qI.length)(htt:∀t∈qI,t.length≤10)(hp:ps.length<9)(hb:zL.length≤100)(x y:List Int)(hx:qI[i]?=some x)(hy:qI[i+1]?=some y)
  (hc:WP (cont (pos,(xH (xH ps ks (lt.headD 0) x false).1 (xH ps ks (lt.headD 0) x false).2 (lt.getLastD 0) y true).1,secs,(xH (xH ps ks (lt.headD 0) x false).1 (xH ps ks (lt.headD 0) x false).2 (lt.getLastD 0) y true).2,zL++[lt],i+1)) Q):
  WP (LQ lt qI i uK ps secs ks zL cont pos ()) Q:=by
 unfold LQ
 have hx2:x.length≤10:=htt x (List.mem_of_getElem? hx)
 have hy2:y.length≤10:=htt y (List.mem_of_getElem? hy)
 obtain⟨a,r,rfl⟩:∃a r,lt=a::r:=by cases lt with|nil=>simp at h0|cons a r=>exact⟨a,r,rfl⟩
 have e0:idx (a::r) 0=some a:=rfl
 rw[e0,Option.bind_some,nO,hx,Option.bind_some,acW _ _ _ _ (by simp only;omega) (by omega) (by simp only;omega),Option.bind_some]
 refine jJ ⟨by omega,by omega⟩ ?_
 have e1:idx (a::r) (((a::r).length:Int)-1)=some ((a::r).getLastD 0):=by
  have:(((a::r).length:Int)-1)=((r.length:Nat):Int):=by simp
  rw[this,nO,List.getLastD_eq_getLast?,List.getLast?_eq_getElem?]
  simp
 rw[e1,Option.bind_some]
 refine jJ ⟨by omega,by omega⟩ ?_
 have e2:((i:Int)+1)=((i+1:Nat):Int):=by omega
 rw[e2,nO,hy,Option.bind_some]
 have l1:(xH ps ks a x false).2.length≤200:=by simp[xH,X3];omega
 have l2:(xH ps ks a x false).1.length<10:=by unfold xH;split<;>simp<;>omega
 rw[acW _ _ _ _ (by simp only;omega) (by omega) (by simpa using l2),Option.bind_some]
 refine uh (by simp;omega) ?_
 simp only[ZY]
 refine jJ ⟨by omega,by omega⟩ ?_
 exact hc
structure Inv1(l:List Int)(n:Nat)(s:Int×(List Str)×(List Section)×(List (List Int))×Nat):Prop where
 src:pq l s.1
 rng:Am s.2.2.1
 ex:∃ts:List Nat,ts.length=s.2.2.2.2∧ts.length≤n∧(∀k∈ts,k=1∨k=2)∧(s.2.1,s.2.2.1.map wP,s.2.2.2.1)=nU ts
theorem agu(ts:List Nat)(k:Nat):nU (ts++[k])=step1 (nU ts) k:=by simp[nU,List.foldl_append]
theorem agv(ts bs:List Nat)(k:Nat):pJ ts (bs++[k])=step2 (nU ts).2.2 (pJ ts bs) k:=by simp[pJ,List.foldl_append]
theorem agC{P:List Nat→Prop}(h0:P [])(h1:∀l k,P l→P (l++[k]))(l:List Nat):P l:=by
 have:∀r:List Nat,P r.reverse:=by
  intro r
  induction r with
  |nil=>exact h0
  |cons a r ih=>rw[List.reverse_cons];exact h1 _ _ ih
 have:=this l.reverse
 rwa [List.reverse_reverse] at this
theorem aa3(ts:List Nat):(∀k∈ts,k=1∨k=2)→(nU ts).1.length=ts.length∧(nU ts).2.1.length≤2*ts.length∧(nU ts).2.2.length=ts.length∧∀t∈(nU ts).2.2,t.length≤10:=by
 induction ts using agC with
 |h0=>intro _;simp[nU]
 |h1 l k ih=>
  intro hk
  obtain⟨a,b,c,d⟩:=ih (fun x hx=>hk x (by simp[hx]))
  have:=hk k (by simp)
  rw[agu]
  refine⟨by simp[step1,a],by simp[step1,agV];omega,by simp[step1,c],?_⟩
  intro t ht
  simp[step1] at ht
  rcases ht with h|rfl
  ·exact d t h
  ·rw[IG];omega
theorem anr(ts bs:List Nat):(∀k∈ts,k=1∨k=2)→(∀k∈bs,k=1∨k=2)→(pJ ts bs).1.length≤2*bs.length∧(pJ ts bs).2.1.length≤2*ts.length+2*bs.length∧(pJ ts bs).2.2.1.length≤30*bs.length∧(pJ ts bs).2.2.2.length=bs.length:=by
 intro h1
 obtain⟨a,b,c,d⟩:=aa3 ts h1
 have dd:∀i,((nU ts).2.2.getD i []).length≤10:=by
  intro i
  rw[List.getD_eq_getElem?_getD]
  cases h:(nU ts).2.2[i]? with
  |none=>simp
  |some t=>simpa using d t (List.mem_of_getElem? h)
 induction bs using agC with
 |h0=>intro _;simp[pJ];omega
 |h1 l k ih=>
  intro hk
  obtain⟨e,f,g,j⟩:=ih (fun x hx=>hk x (by simp[hx]))
  have hk2:=hk k (by simp)
  rw[agv]
  have d1:=dd (pJ ts l).2.2.2.length
  have d2:=dd ((pJ ts l).2.2.2.length+1)
  have il:=ZC (vJ (pJ ts l).2.1.length k) 0 (vJ (pJ ts l).2.1.length k)
  rw[IG] at il
  refine⟨?_,?_,?_,?_⟩
  ·simp only[step2,xH]
   split<;>split<;>simp<;>omega
  ·simp[step2,aeT];omega
  ·simp only[step2,xH]
   simp only[List.length_append,X3]
   simp only[List.length_singleton,List.length_nil]
   omega
  ·simp[step2,j]
structure Inv2(l:List Int)(n:Nat)(ts:List Nat)(s:Int×(List Str)×(List Section)×(List Link)×(List (List Int))×Nat):Prop where
 src:pq l s.1
 rng:Am s.2.2.1
 ex:∃bs:List Nat,bs.length=s.2.2.2.2.2∧bs.length+1≤n∧(∀k∈bs,k=1∨k=2)∧(s.2.1,s.2.2.1.map wP,s.2.2.2.1,s.2.2.2.2.1)=pJ ts bs
structure Xv(l:List Int)(y:dP×Int):Prop where
 src:pq l y.2
 rng:Am y.1.l.Sections
 ex:∃ts bs:List Nat,(ts.length=2∨ts.length=3)∧bs.length+1=ts.length∧(∀k∈ts,k=1∨k=2)∧(∀k∈bs,k=1∨k=2)∧erase y.1.l=shape ts bs∧y.1.tracks=(nU ts).2.2∧y.1.between=(pJ ts bs).2.2.2∧y.1.eZ=[]
theorem amY{l:List Int}{s0:bS}(hs0:s0.l=l)(y2:Int×Int)(n:Nat)(hn:n=2∨n=3)(hy:2+y2.1=n)(ts:List Nat)(ht:ts.length=n)(htk:∀k∈ts,k=1∨k=2)
  (uK:List Str)(qI:List (List Int))(secs:List Section)(pos:Int)(hsrc:pq l pos)(akC:Am secs)(he:(uK,secs.map wP,qI)=nU ts):
  WP (UE y2 s0 uK qI pos secs ()) (Xv l):=by
 unfold UE
 obtain⟨f1,f2,f3,f4⟩:=aa3 ts htk
 have e1:uK=(nU ts).1:=congrArg Prod.fst he
 have e2:secs.map wP=(nU ts).2.1:=congrArg (fun p=>p.2.1) he
 have e3:qI=(nU ts).2.2:=congrArg (fun p=>p.2.2) he
 refine CP (Inv2 l n ts) (fun s=>n-s.2.2.2.2.2) _ ?_ FUEL _ ⟨hsrc,akC,[],rfl,by simp;omega,by simp,by rw[e2];rfl⟩ (jo (by omega))
 rintro c ⟨p,ps,ss,ks,zL,i⟩ ⟨h1,h2,bs,h3,h4,h5,h6⟩ hc
 simp only at h1 h2 h3 h6 hc
 obtain⟨g1,g2,g3,g4⟩:=anr ts bs htk h5
 have a1:ps=(pJ ts bs).1:=congrArg Prod.fst h6
 have a2:ss.map wP=(pJ ts bs).2.1:=congrArg (fun p=>p.2.1) h6
 have a3:ks=(pJ ts bs).2.2.1:=congrArg (fun p=>p.2.2.1) h6
 have a4:zL=(pJ ts bs).2.2.2:=congrArg (fun p=>p.2.2.2) h6
 have a2l:ss.length=(pJ ts bs).2.1.length:=by rw[←a2];simp
 simp only[ZU]
 refine jJ ⟨by omega,by omega⟩ ?_
 rw[hy]
 refine tH ?_ ?_
 ·intro hlt
  have hlt:i+1<n:=by simp at hlt;omega
  obtain⟨v,j,ev,v0,v1,hj⟩:=lC h1 2 (by omega) (by omega)
  rw[hs0,ev,Option.bind_some]
  simp only
  refine jJ ⟨by omega,by omega⟩ ?_
  obtain⟨k,hk⟩:∃k:Nat,(1+v)=(k:Int):=⟨(1+v).toNat,by omega⟩
  have Y2:k=1∨k=2:=by omega
  rw[hk]
  refine ahq hs0 (by omega) k FUEL j ss [] (by omega) (jo (by omega)) hj (by omega) (by simp;omega) h2 ?_
  intro pos' Br hp' Y9 hr'
  rw[List.nil_append]
  have til:=ZC (vJ ss.length k) 0 (vJ ss.length k)
  rw[IG] at til
  rw[ak0 _ _ _ _ _ _ _ _ _ _ (by rw[IG];omega) (by rw[a3];omega) (by rw[IG];omega)]
  obtain⟨x,hx⟩:∃x,qI[i]?=some x:=⟨_,List.getElem?_eq_getElem (by rw[e3];omega)⟩
  obtain⟨y,hy2⟩:∃y,qI[i+1]?=some y:=⟨_,List.getElem?_eq_getElem (by rw[e3];omega)⟩
  refine alf _ _ _ _ _ _ _ _ _ _ (by rw[IG];omega) (by simp only[List.length_append];rw[a3];omega) (by rw[IG];omega) (by omega) (by rw[e3];omega) (by rw[e3];exact f4) (by rw[a1];omega) (by rw[a4];omega) x y hx hy2 ?_
  refine hc _ ⟨hp',hr',bs++[k],by simp[h3],by simp;omega,?_,?_⟩ (by simp only;omega)
  ·intro q hq
   rcases List.mem_append.1 hq with h|h
   ·exact h5 q h
   ·rw[List.mem_singleton] at h;subst h;exact Y2
  ·have b4:zL.length=i:=by rw[a4,g4,h3]
   have ex:(nU ts).2.2.getD i []=x:=by rw[←e3,List.getD_eq_getElem?_getD,hx];rfl
   have ey:(nU ts).2.2.getD (i+1) []=y:=by rw[←e3,List.getD_eq_getElem?_getD,hy2];rfl
   rw[agv]
   simp only[step2]
   rw[←a1,←a3,←a4,←a2,List.length_map,b4,ex,ey,Y9]
 ·intro hge
  have hge:¬(i+1<n):=by simp at hge;omega
  simp only[ZX]
  refine Sw ⟨h1,h2,ts,bs,by omega,by omega,htk,h5,?_,e3,a4,rfl⟩
  simp only[erase,shape]
  rw[←a1,←a2,←a3,←e1]
theorem am2{l:List Int}{i:Int}(h:pq l i):WP (Qd ⟨l,i⟩) (Xv l):=by
 unfold Qd
 obtain⟨v,j,ev,v0,v1,hj⟩:=lC h 2 (by omega) (by omega)
 rw[ev,Option.bind_some]
 simp only
 refine jJ ⟨by omega,by omega⟩ ?_
 obtain⟨n,hn⟩:∃n:Nat,(2+v)=(n:Int):=⟨(2+v).toNat,by omega⟩
 have aku:n=2∨n=3:=by omega
 refine CP (Inv1 l n) (fun s=>n-s.2.2.2.2) _ ?_ FUEL _ ⟨hj,fun s hs=>by simp at hs,[],rfl,by simp,by simp,rfl⟩ (jo (by omega))
 rintro c ⟨p,uK,ss,qI,i⟩ ⟨h1,h2,ts,h3,h4,h5,h6⟩ hc
 simp only at h1 h2 h3 h6 hc
 obtain⟨f1,f2,f3,f4⟩:=aa3 ts h5
 have e1:uK=(nU ts).1:=congrArg Prod.fst h6
 have e2:ss.map wP=(nU ts).2.1:=congrArg (fun p=>p.2.1) h6
 have e3:qI=(nU ts).2.2:=congrArg (fun p=>p.2.2) h6
 have e2l:ss.length=(nU ts).2.1.length:=by rw[←e2];simp
 simp only[ZT]
 rw[hn]
 refine tH ?_ ?_
 ·intro hlt
  have hlt:i<n:=by simp at hlt;omega
  rw[JG _ _ (by omega) (by decide),Option.bind_some]
  refine uh (by simp[e1];omega) ?_
  obtain⟨w,j,ev,v0,v1,hj⟩:=lC h1 2 (by omega) (by omega)
  rw[ev,Option.bind_some]
  simp only
  refine jJ ⟨by omega,by omega⟩ ?_
  obtain⟨k,hk⟩:∃k:Nat,(1+w)=(k:Int):=⟨(1+w).toNat,by omega⟩
  have Y2:k=1∨k=2:=by omega
  rw[hk]
  refine anU rfl (by omega) (by rw[e3];omega) k FUEL j ss [] (by omega) (jo (by omega)) hj (by omega) (by simp;omega) h2 ?_
  intro pos' Br hp' Y9 hr'
  refine hc _ ⟨hp',hr',ts++[k],by simp[h3],by simp;omega,?_,?_⟩ (by simp only;omega)
  ·intro q hq
   rcases List.mem_append.1 hq with h|h
   ·exact h5 q h
   ·rw[List.mem_singleton] at h;subst h;exact Y2
  ·have b4:uK.length=i:=by rw[e1,f1,h3]
   rw[agu]
   simp only[step1]
   rw[←e1,←e2,←e3,List.length_map,b4,Y9,List.nil_append]
 ·intro hge
  have hge:¬(i<n):=by simp at hge;omega
  exact amY rfl (v,j) n aku hn ts (by omega) h5 uK qI ss p h1 h2 h6
/-! ### The forty shapes -/
def ano:List (List Nat×List Nat):=[1,2].flatMap fun a=>[1,2].flatMap fun b=>[1,2].map fun c=>([a,b],[c])
def anp:List (List Nat×List Nat):=[1,2].flatMap fun a=>[1,2].flatMap fun b=>[1,2].flatMap fun c=>[1,2].flatMap fun d=>[1,2].map fun e=>([a,b,c],[d,e])
def shapes:List (List Nat×List Nat):=ano++anp
theorem len1{l:List Nat}(h:l.length=1):∃a,l=[a]:=by
 match l,h with
 |[a],_=>exact⟨a,rfl⟩
theorem len2{l:List Nat}(h:l.length=2):∃a b,l=[a,b]:=by
 match l,h with
 |[a,b],_=>exact⟨a,b,rfl⟩
theorem als{l:List Nat}(h:l.length=3):∃a b c,l=[a,b,c]:=by
 match l,h with
 |[a,b,c],_=>exact⟨a,b,c,rfl⟩
theorem aeV{ts bs:List Nat}(h1:ts.length=2∨ts.length=3)(h2:bs.length+1=ts.length)(h3:∀k∈ts,k=1∨k=2)(h4:∀k∈bs,k=1∨k=2):(ts,bs)∈shapes:=by
 rcases h1 with h|h
 ·obtain⟨a,b,rfl⟩:=len2 h
  obtain⟨c,rfl⟩:=len1 (show bs.length=1 by simp at h2;omega)
  have a1:=h3 a (by simp);have b1:=h3 b (by simp);have c1:=h4 c (by simp)
  rcases a1 with rfl|rfl<;>rcases b1 with rfl|rfl<;>rcases c1 with rfl|rfl<;>decide
 ·obtain⟨a,b,c,rfl⟩:=als h
  obtain⟨d,e,rfl⟩:=len2 (show bs.length=2 by simp at h2;omega)
  have a1:=h3 a (by simp);have b1:=h3 b (by simp);have c1:=h3 c (by simp);have d1:=h4 d (by simp);have e1:=h4 e (by simp)
  rcases a1 with rfl|rfl<;>rcases b1 with rfl|rfl<;>rcases c1 with rfl|rfl<;>rcases d1 with rfl|rfl<;>rcases e1 with rfl|rfl<;>decide
structure NZ(l:Layout):Prop where
 rng:Am l.Sections
 ex:∃p∈shapes,erase l=shape p.1 p.2
theorem anq:shapes.all (fun p=>decide (kZ (fG (shape p.1 p.2))=0))=true:=by decide+kernel
theorem agn(n:Nat):∀(ss:List Section) (seen:List ByteArray),Am ss→nJ n seen (ss.map rR)=nJ n seen ((ss.map wP).map rR)
 |[],_,_=>rfl
 |s::ss,seen,h=>by
  have ih:=agn n ss (seen++[s.Name.ba]) (fun x hx=>h x (by simp[hx]))
  have hs:=h s (by simp)
  unfold KG at hs
  have e:zh n (rR s)=zh n (rR (wP s)):=by
   rw[Bool.eq_iff_iff]
   simp only[zh,rR,wP,Bool.and_eq_true,decide_eq_true_eq]
   obtain⟨q1,q2,q3,q4,q5,q6⟩:=hs
   constructor<;>(rintro⟨⟨_,a⟩,b⟩;refine⟨⟨⟨⟨⟨⟨⟨?_,?_⟩,?_⟩,?_⟩,?_⟩,?_⟩,a⟩,b⟩<;>first|omega|decide|(apply decide_eq_true;omega))
  simp only[List.map_cons,nJ]
  rw[e]
  have e2:(rR s).name=s.Name.ba:=rfl
  have e3:(rR (wP s)).name=s.Name.ba:=rfl
  rw[e2,e3,ih]
theorem aeP(a b:Lay)(h1:a.sections.length=b.sections.length)(h2:a.points.length=b.points.length):∀(ks done:List fU),qD a done ks=qD b done ks
 |[],_=>rfl
 |k::ks,done=>by
  have ih:=aeP a b h1 h2 ks (done++[k])
  have e:qc a k=qc b k:=by simp only[qc,h1,h2]
  simp only[qD]
  rw[e,ih]
theorem ahN(l:Layout)(h:Am l.Sections):kZ (fG l)=kZ (fG (erase l)):=by
 have e1:(fG (erase l)).ow=(fG l).ow:=rfl
 have e2:(fG (erase l)).points=(fG l).points:=rfl
 have e4:(fG (erase l)).links=(fG l).links:=rfl
 have e3:(fG (erase l)).sections.length=(fG l).sections.length:=by simp[fG,erase]
 have e5:nJ (fG l).ow.length [] (fG l).sections=nJ (fG l).ow.length [] (fG (erase l)).sections:=agn _ _ _ h
 unfold kZ wQ
 rw[e1,e2,e4,e3,e5,aeP (fG (erase l)) (fG l) e3 rfl]
theorem adM{l:Layout}(h:NZ l):kZ (fG l)=0:=by
 obtain⟨hr,p,hp,he⟩:=h
 rw[ahN l hr,he]
 have:=List.all_eq_true.1 anq p hp
 simpa using this
end Go.Proofs.YtcalibhfgdncaaaGreat
namespace Go.Proofs.YtcalibhfgdncaaaGreat
open Go.Dc
set_option maxRecDepth 10000
theorem ag1{α β:Type}{xs:List α}{i:Int}{K:α→Option β}{Q:β→Prop}(h:0≤i∧i<xs.length)(hk:∀x∈xs,WP (K x) Q):WP ((idx xs i).bind K) Q:=by
 have hl:i.toNat<xs.length:=by omega
 have e:idx xs i=some (xs[i.toNat]):=by simp[idx,h.1,List.getElem?_eq_getElem hl]
 rw[e];exact hk _ (List.getElem_mem hl)
theorem agU{a:Int}{n:Nat}(h0:0≤a)(hn:0<n):0≤a.tmod (n:Int)∧a.tmod (n:Int)<n:=by
 rw[Int.tmod_eq_emod_of_nonneg h0]
 exact⟨Int.emod_nonneg _ (by omega),Int.emod_lt_of_pos _ (by omega)⟩
theorem Ez{α β:Type}[Inhabited α]{xs:List α}{i:Int}{K:α→Option β}(h:0≤i∧i<xs.length):(idx xs i).bind K=K (xs.getD i.toNat default):=by
 rw[rF h.1 h.2,Option.bind_some]
/-! ### What is read of a row of stations: for the forty shapes -/
def NR(tr:List (List Int))(i a:Int):Int:=gi (gll tr i) (a.tmod ((gll tr i).length:Int))
def rtB(p:List Nat×List Nat)(i a c:Int)(up:Bool):Bool:=
 match F7 ⟨⟨[],[],[],[]⟩,(nU p.1).2.2,(pJ p.1 p.2).2.2.2,[]⟩ i a c up with
 |some r=>decide (r.Overlap=0)&&decide (2≤r.Steps.length)&&decide (r.Steps.length≤10)&&r.Steps.all (kF (shape p.1 p.2))&& !(sO [] r.Steps)&&decide ((vo (shape p.1 p.2) r).2=0)
  &&decide (ou r=NR (nU p.1).2.2 (if up then i else i+1) (if up then a else c))&&decide (lD r=NR (nU p.1).2.2 (if up then i+1 else i) (if up then c else a))
  &&decide (0≤qH (shape p.1 p.2) (ou r))&&decide (0≤qH (shape p.1 p.2) (lD r))
 |none=>false
def af9(p:List Nat×List Nat):Bool:=
 decide (1≤(pJ p.1 p.2).2.2.2.length)&&decide ((pJ p.1 p.2).2.2.2.length≤2)&&decide (2≤(shape p.1 p.2).bB.length)&&decide ((shape p.1 p.2).bB.length≤3)
 &&[0,1].all fun i=>decide (((pJ p.1 p.2).2.2.2.length:Int)≤i)||[0,1].all fun a=>[0,1].all fun c=>[true,false].all fun up=>rtB p i a c up
theorem amZ:shapes.all af9=true:=by decide+kernel
theorem amV{b b':dP}(h1:b.tracks=b'.tracks)(h2:b.between=b'.between)(i a c:Int)(up:Bool):F7 b i a c up=F7 b' i a c up:=by
 have e1:∀x,P9 x i b c=P9 x i b' c:=fun x=>by
  funext k ⟨q,t⟩
  simp only[P9,ZQ,h1]
 have e2:∀x,Qa x b i a=Qa x b' i a:=fun x=>by
  funext k ⟨q,t⟩
  simp only[Qa,ZR,h1]
 unfold F7 ZP
 simp only[h1,h2,e1,e2]
structure KH(l:Layout)(r:aO):Prop where
 pt:(jR l r).2=0
 ov:r.Overlap=0
 two:2≤r.Steps.length
 few:r.Steps.length≤10
 s0:0≤qH l (ou r)
 s1:0≤qH l (lD r)
theorem ak3(l:Layout):kF (erase l)=kF l:=by
 funext s
 unfold kF
 simp only[erase,List.length_map]
theorem afl(l:Layout):∀(ss:List Step) (a:Step),Bg (erase l) a ss=Bg l a ss
 |[],_=>rfl
 |b::r,a=>by
  simp only[Bg]
  rw[afl l r b];rfl
theorem amt(l:Layout)(r:aO):vo (erase l) r=vo l r:=by
 have e:ML (erase l) r.Steps=ML l r.Steps:=by
  cases r.Steps with
  |nil=>rfl
  |cons a q=>exact afl l q a
 unfold vo
 rw[e]
theorem anD(l:Layout)(s:Int):qH (erase l) s=qH l s:=by
 unfold qH
 simp only[erase,List.getD_eq_getElem?_getD,List.getElem?_map]
 cases l.Sections[s.toNat]?<;>rfl
structure abE(b:dP):Prop where
 g:NZ b.l
 b1:1≤b.between.length
 b2:b.between.length≤2
 st:2≤b.l.bB.length∧b.l.bB.length≤3
 rt:∀(i a c:Int) (up:Bool),0≤i→i<b.between.length→0≤a→a<2→0≤c→c<2→∃r,F7 b i a c up=some r∧KH b.l r
  ∧ou r=NR b.tracks (if up then i else i+1) (if up then a else c)∧lD r=NR b.tracks (if up then i+1 else i) (if up then c else a)
theorem abh{i:Int}(h0:0≤i)(h1:i<2):i∈[(0:Int),1]:=by
 have:i=0∨i=1:=by omega
 rcases this with rfl|rfl<;>simp
theorem am0{l:List Int}{y:dP×Int}(h:Xv l y):abE y.1:=by
 obtain⟨_,hr,ts,bs,h1,h2,h3,h4,h5,h6,h7,_⟩:=h
 have hg:NZ y.1.l:=⟨hr,(ts,bs),aeV h1 h2 h3 h4,h5⟩
 have hb:=List.all_eq_true.1 amZ _ (aeV h1 h2 h3 h4)
 unfold af9 at hb
 simp only[Bool.and_eq_true,decide_eq_true_eq] at hb
 obtain⟨⟨⟨⟨q1,q2⟩,q3⟩,q4⟩,q5⟩:=hb
 have est:y.1.l.bB.length=(shape ts bs).bB.length:=by rw[←h5];rfl
 refine⟨hg,by rw[h7];exact q1,by rw[h7];exact q2,by rw[est];exact⟨q3,q4⟩,fun i a c up i0 i1 a0 a1 c0 c1=>?_⟩
 rw[h7] at i1
 have f1:=List.all_eq_true.1 q5 i (abh i0 (by omega))
 simp only[Bool.or_eq_true,decide_eq_true_eq] at f1
 rcases f1 with f1|f1
 ·omega
 have f2:=List.all_eq_true.1 f1 a (abh a0 a1)
 have f3:=List.all_eq_true.1 f2 c (abh c0 c1)
 have f4:=List.all_eq_true.1 f3 up (by cases up<;>simp)
 unfold rtB at f4
 rw[amV (b:=y.1) (b':=⟨⟨[],[],[],[]⟩,(nU ts).2.2,(pJ ts bs).2.2.2,[]⟩) h6 h7]
 cases hm:F7 ⟨⟨[],[],[],[]⟩,(nU ts).2.2,(pJ ts bs).2.2.2,[]⟩ i a c up with
 |none=>simp only[hm] at f4;cases f4
 |some r=>
  simp only[hm,Bool.and_eq_true,decide_eq_true_eq,Bool.not_eq_true'] at f4
  obtain⟨⟨⟨⟨⟨⟨⟨⟨⟨g1,g2⟩,g3⟩,g4⟩,g5⟩,g6⟩,g7⟩,g8⟩,g9⟩,g10⟩:=f4
  rw[←h5] at g4 g6 g9 g10
  rw[ak3] at g4
  rw[amt] at g6
  rw[anD] at g9 g10
  refine⟨r,rfl,⟨?_,g1,g2,g3,g9,g10⟩,by rw[h6];exact g7,by rw[h6];exact g8⟩
  unfold jR
  rw[if_neg (by simp[adM hg]),if_neg (by omega),if_neg (by omega),if_neg (by simp[g4]),if_neg (by simp[g5])]
  exact g6
/-! ### A line -/
def RdV(rs:List aO)(n k:Nat)(r:gL):Prop:=
 (0≤r.aO∧r.aO<(rs.length:Int))∧(0≤r.Extra∧r.Extra≤2)∧(0≤r.Min∧r.Min≤r.Max∧r.Max≤r.Min+3∧r.Min≤10)∧(k+1=n→r.Min=0∧r.Max=0)
def Ki(rs:List aO)(r:gL):aO:=rs.getD r.aO.toNat default
structure Xn(rs:List aO)(x:Line):Prop where
 st:x.bL=0
 w:0≤x.Weight∧x.Weight≤3
 pos:0<x.bC.length
 few:x.bC.length≤2
 rd:∀k,k<x.bC.length→RdV rs x.bC.length k (jD x k)
 jn:∀k,0<k→k<x.bC.length→ou (Ki rs (jD x k))=lD (Ki rs (jD x (k-1)))
structure GH(l:Layout)(rs:List aO)(ls:List Line):Prop where
 rt:∀r∈rs,KH l r
 ln:∀x∈ls,Xn rs x
 nm:∀i,i<ls.length→(ls.getD i default).Name=sP ⟨[78]⟩ i
theorem agd{rs q:List aO}{r:gL}(h:0≤r.aO∧r.aO<(rs.length:Int)):Ki (rs++q) r=Ki rs r:=by
 unfold Ki
 rw[List.getD_eq_getElem?_getD,List.getD_eq_getElem?_getD,List.getElem?_append_left (by omega)]
theorem alG{rs q:List aO}{x:Line}(h:Xn rs x):Xn (rs++q) x:=by
 refine⟨h.st,h.w,h.pos,h.few,fun k hk=>?_,fun k h0 hk=>?_⟩
 ·obtain⟨a,b⟩:=h.rd k hk
  exact⟨⟨a.1,by rw[List.length_append];omega⟩,b⟩
 ·rw[agd (h.rd k hk).1,agd (h.rd (k-1) (by omega)).1]
  exact h.jn k h0 hk
def Xm(l:List Int)(lay:Layout)(p:Plan)(y:Int×List aO×List Line):Prop:=pq l y.1∧GH lay y.2.1 y.2.2∧y.2.1.length≤p.Routes.length+2∧y.2.2.length=p.Lines.length+1
structure RdI(b:dP)(up:Bool)(BU:List Int)(p:Plan)(many:Int)(l:List Int)(q:Int×List aO×List gL×Nat):Prop where
 src:pq l q.1
 le:(q.2.2.2:Int)≤many
 len:q.2.2.1.length=q.2.2.2
 ex:∃new,q.2.1=p.Routes++new∧new.length=q.2.2.2∧(∀r∈new,KH b.l r)∧(∀j,j<q.2.2.2→ou (new.getD j default)=NR b.tracks (if up then (j:Int) else many-j) (gi BU (if up then (j:Int) else many-j))
  ∧lD (new.getD j default)=NR b.tracks (if up then (j:Int)+1 else many-j-1) (gi BU (if up then (j:Int)+1 else many-j-1)))
 rd:∀j,j<q.2.2.2→(q.2.2.1.getD j default).aO=(p.Routes.length:Int)+j∧(0≤(q.2.2.1.getD j default).Extra∧(q.2.2.1.getD j default).Extra≤2)∧
  (0≤(q.2.2.1.getD j default).Min∧(q.2.2.1.getD j default).Min≤(q.2.2.1.getD j default).Max∧(q.2.2.1.getD j default).Max≤(q.2.2.1.getD j default).Min+3∧(q.2.2.1.getD j default).Min≤10)∧
  ((j:Int)+1=many→(q.2.2.1.getD j default).Min=0∧(q.2.2.1.getD j default).Max=0)
theorem Yi{α:Type}[Inhabited α](xs:List α)(x:α)(j:Nat)(h:j<xs.length+1):(xs++[x]).getD j default=if j<xs.length then xs.getD j default else x:=by
 rw[List.getD_eq_getElem?_getD,List.getD_eq_getElem?_getD]
 split
 ·rename_i hj;rw[List.getElem?_append_left hj]
 ·have:j=xs.length:=by omega
  subst this;simp
theorem alv{b:dP}(R:abE b){l:List Int}{pos:Int}(hs:pq l pos){p:Plan}(hp:GH b.l p.Routes p.Lines)(h1:p.Routes.length≤100)(h2:p.Lines.length<10){up:Bool}{many:Int}(hm:1≤many∧many≤b.between.length):
  WP (P7 b ⟨l,pos⟩ p up many) (Xm l b.l p):=by
 have hb2:=R.b2
 unfold P7
 rw[JG _ _ h2 (by decide),Option.bind_some]
 obtain⟨v,j,ev,v0,v1,hj⟩:=lC hs 4 (by omega) (by omega)
 rw[ev,Option.bind_some]
 refine CP (fun (q:Int×List Int×Nat)=>pq l q.1∧q.2.1.length=3∧q.2.2≤3∧∀x∈q.2.1,0≤x∧x<2) (fun q=>3-q.2.2) _ ?_ FUEL _ ⟨hj,by simp,by simp,by simp⟩ (jo (by omega))
 rintro c ⟨p1,BU,t⟩ ⟨g1,g2,g3,g4⟩ hc
 simp only at g1 g2 g3 g4 hc
 simp only[ZK]
 refine tH (fun h=>?_) (fun h=>?_)
 ·simp only[decide_eq_true_eq] at h
  obtain⟨x,k,ex,x0,x1,hk⟩:=lC g1 2 (by omega) (by omega)
  rw[ex,Option.bind_some]
  refine ag1 (by omega) fun _ _=>hc _ ⟨hk,by simp only[List.length_set];omega,by simp only;omega,fun z hz=>?_⟩ (by simp only;omega)
  rcases List.mem_or_eq_of_mem_set hz with hz|hz
  ·exact g4 z hz
  ·subst hz;exact⟨x0,x1⟩
 ·have adN:∀i:Int,0≤i→i<3→0≤gi BU i∧gi BU i<2:=fun i i0 i1=>by
   have hl:i.toNat<BU.length:=by omega
   have:gi BU i∈BU:=by unfold gi;simp[hl]
   exact g4 _ this
  unfold ZM
  refine CP (RdI b up BU p many l) (fun q=>2-q.2.2.2) _ ?_ FUEL _ ⟨g1,by simp;omega,rfl,⟨[],by simp,rfl,by simp,fun j hj=>by simp at hj⟩,fun j hj=>by simp at hj⟩ (jo (by omega))
  rintro c2 ⟨p2,rs,rd,k⟩ ⟨i1,i2,i3,⟨new,n1,n2,n3,n4⟩,i5⟩ hc2
  simp only at i1 i2 i3 n1 n2 n4 i5 hc2
  subst n1
  simp only[ZL]
  refine tH (fun hk=>?_) (fun hk=>?_)
  ·simp only[decide_eq_true_eq] at hk
   have core:∀i:Int,i=(if up then (k:Int) else many-1-k)→WP (LM BU b up (p.Routes++new) ⟨l,pos⟩ p2 k many rd c2 i) (Xm l b.l p):=by
    intro i ei
    have hi:0≤i∧i<many:=by cases up<;>simp at ei<;>omega
    unfold LM
    have ga:=adN i hi.1 (by omega)
    have gd:=adN (i+1) (by omega) (by omega)
    refine ag0 (by omega) (jJ (by omega) (ag0 (by omega) ?_))
    obtain⟨r,er,hr,hr1,hr2⟩:=R.rt i (gi BU i) (gi BU (i+1)) up hi.1 (by omega) ga.1 ga.2 gd.1 gd.2
    rw[er,Option.bind_some]
    refine uh (by simp;omega) (jJ (by simp;omega) ?_)
    obtain⟨x,k3,ex,x0,x1,hk3⟩:=lC i1 3 (by omega) (by omega)
    rw[ex,Option.bind_some]
    have fin:∀(p5 mn mx:Int),pq l p5→0≤mn∧mn≤mx∧mx≤mn+3∧mn≤10→((k:Int)+1=many→mn=0∧mx=0)→WP (LP rd (p.Routes++new) r x k c2 (p5,mn,mx)) (Xm l b.l p):=by
     intro p5 mn mx h5 hb hlast
     unfold LP
     refine uh (by simp;omega) (jJ (by omega) (hc2 _ ⟨h5,by simp only;omega,by simp;omega,⟨new++[r],by simp,by simp;omega,fun q hq=>?_,fun j hj=>?_⟩,fun j hj=>?_⟩ (by simp only;omega)))
     ·rcases List.mem_append.1 hq with hq|hq
      ·exact n3 q hq
      ·rw[List.mem_singleton] at hq;subst hq;exact hr
     ·simp only at hj
      rw[Yi _ _ _ (by omega)]
      split
      ·exact n4 j (by omega)
      ·have:j=k:=by omega
       subst this
       rw[hr1,hr2]
       cases up
       ·simp at ei ⊢
        have e1:i+1=many-j:=by omega
        have e2:i=many-j-1:=by omega
        rw[e1,e2];exact⟨rfl,rfl⟩
       ·simp at ei ⊢
        rw[ei];exact⟨rfl,rfl⟩
     ·simp only at hj ⊢
      rw[Yi _ _ _ (by omega)]
      split
      ·exact i5 j (by omega)
      ·have:j=k:=by omega
       subst this
       simp only[List.length_append,List.length_singleton]
       exact⟨by omega,by omega,hb,hlast⟩
    unfold UD
    refine jJ (by omega) (tH (fun hlt=>?_) (fun hlt=>fin _ _ _ hk3 (by omega) (fun _=>⟨rfl,rfl⟩)))
    simp only[decide_eq_true_eq] at hlt
    obtain⟨y,k4,ey,y0,y1,hk4⟩:=lC hk3 6 (by omega) (by omega)
    rw[ey,Option.bind_some]
    refine jJ (by simp only;omega) ?_
    obtain⟨z,k5,ez,z0,z1,hk5⟩:=lC hk4 4 (by omega) (by omega)
    rw[ez,Option.bind_some]
    exact jJ (by simp only;omega) (fin _ _ _ hk5 (by simp only;omega) (by omega))
   refine tH (fun hu=>jJ (by omega) (jJ (by omega) (core _ ?_))) (fun hu=>core _ ?_)
   ·simp at hu;rw[hu];rfl
   ·simp at hu;rw[hu];rfl
  ·unfold ZN
   simp only[decide_eq_false_iff_not] at hk
   have ekm:(k:Int)=many:=by omega
   refine uh (by simp;omega) (Sw ⟨i1,⟨fun q hq=>?_,fun x hx=>?_,fun i hi=>?_⟩,(by simp;omega),by simp⟩)
   ·rcases List.mem_append.1 hq with hq|hq
    ·exact hp.rt q hq
    ·exact n3 q hq
   ·rcases List.mem_append.1 hx with hx|hx
    ·exact alG (hp.ln x hx)
    ·rw[List.mem_singleton] at hx;subst hx
     have nth:∀j,j<k→Ki (p.Routes++new) (rd.getD j default)=new.getD j default:=fun j hj=>by
      unfold Ki
      rw[(i5 j hj).1,List.getD_eq_getElem?_getD,List.getD_eq_getElem?_getD,List.getElem?_append_right (by omega)]
      congr 2;omega
     refine⟨rfl,⟨by simp only;omega,by simp only;omega⟩,by simp only;omega,by simp only;omega,fun j hj=>?_,fun j h0 hj=>?_⟩
     ·simp only at hj
      obtain⟨d1,d2,d3,d4⟩:=i5 j (by omega)
      refine⟨?_,d2,d3,fun e=>d4 (by simp only at e;omega)⟩
      unfold jD
      simp only
      rw[d1,List.length_append];omega
     ·simp only at hj
      unfold jD
      simp only
      rw[nth j (by omega),nth (j-1) (by omega),(n4 j (by omega)).1,(n4 (j-1) (by omega)).2]
      cases up
      ·have e:many-(j:Int)=many-((j-1:Nat):Int)-1:=by omega
       simp only[Bool.false_eq_true,if_false];rw[e]
      ·have e:(j:Int)=((j-1:Nat):Int)+1:=by omega
       simp only[if_true];rw[←e]
   ·simp only at hi ⊢
    rw[Yi _ _ _ (by simpa using hi)]
    split
    ·rename_i hlt;exact hp.nm i hlt
    ·simp at hi
     have:i=p.Lines.length:=by omega
     subst this;rfl
/-! ### Starts and stops, turns -/
theorem T9{p:Plan}{i k:Int}(h1:i<(p.Lines.length:Int))(h0:0≤i)(h2:0≤k)(h3:k<((cZ p i.toNat).bC.length:Int)):fV p i k=true:=by
 unfold fV iy
 simp only[Bool.and_eq_true,decide_eq_true_eq]
 exact⟨⟨⟨h0,h1⟩,h2⟩,h3⟩
theorem Ua{l:Layout}{p:Plan}(hp:GH l p.Routes p.Lines){i k:Int}(h:fV p i k=true):(0≤i∧i<(p.Lines.length:Int))∧(0≤k∧k<((cZ p i.toNat).bC.length:Int))∧(0≤(iq p i k).aO∧(iq p i k).aO<(p.Routes.length:Int))∧KH l (gM p (iq p i k)):=by
 unfold fV iy at h
 simp only[Bool.and_eq_true,decide_eq_true_eq] at h
 obtain⟨⟨⟨a,b⟩,c⟩,d⟩:=h
 have hm:cZ p i.toNat∈p.Lines:=ng (by omega)
 have r:=((hp.ln _ hm).rd k.toNat (by omega)).1
 exact⟨⟨a,b⟩,⟨c,d⟩,r,hp.rt _ (ng (by unfold iq;omega))⟩
theorem agN{l:Layout}{p:Plan}(hp:GH l p.Routes p.Lines){i k:Int}(h:fV p i k=true):Jy p i k=some (lD (gM p (iq p i k))):=by
 obtain⟨a,b,c,d⟩:=Ua hp h
 have d1:=d.two;have d2:=d.few;have d3:=d.ov
 unfold Jy
 rw[Ez a,show p.Lines.getD i.toNat default=cZ p i.toNat from rfl,Ez b,show (cZ p i.toNat).bC.getD k.toNat default=iq p i k from rfl,Ez c]
 rw[show p.Routes.getD (iq p i k).aO.toNat default=gM p (iq p i k) from rfl,dM (fq (by omega) (by omega)),Ez (by omega)]
 unfold lD
 rw[d3,show ((gM p (iq p i k)).Steps.length:Int)-0-1=((gM p (iq p i k)).Steps.length:Int)-1 by omega]
theorem agL{l:Layout}{p:Plan}(hp:GH l p.Routes p.Lines){i k:Int}(h:fV p i k=true):Jw p i k=some (ou (gM p (iq p i k))):=by
 obtain⟨a,b,c,d⟩:=Ua hp h
 have d1:=d.two
 unfold Jw
 rw[Ez a,show p.Lines.getD i.toNat default=cZ p i.toNat from rfl,Ez b,show (cZ p i.toNat).bC.getD k.toNat default=iq p i k from rfl,Ez c]
 rw[show p.Routes.getD (iq p i k).aO.toNat default=gM p (iq p i k) from rfl,Ez (by omega)]
 rfl
structure Xw(p:Plan)(t:Turn):Prop where
 fr:iy p t.From=true
 tt:iy p t.To=true
 lo:10≤t.Min∧t.Min≤19∧t.Min≤t.Max∧t.Max≤t.Min+29
 eq:lD (gM p (iq p t.From ((cZ p t.From.toNat).bC.length-1)))=ou (gM p (iq p t.To 0))
def SL(u t:Turn):Prop:=u.From≠t.From∧u.To≠t.To
def TnP(p:Plan)(l:List Int)(y:Int×List Turn):Prop:=pq l y.1∧y.2.length≤12∧(∀t∈y.2,Xw p t)∧y.2.Pairwise SL
structure SN(p:Plan)(l:List Int)(m:Nat)(q:Int×List Turn×List Bool×List Bool×Nat):Prop where
 src:pq l q.1
 len:q.2.1.length≤m+q.2.2.2.2
 f4:q.2.2.1.length=4
 t4:q.2.2.2.1.length=4
 le:q.2.2.2.2≤p.Lines.length
 ok:∀t∈q.2.1,Xw p t∧gb q.2.2.1 t.From=true∧gb q.2.2.2.1 t.To=true
 pw:q.2.1.Pairwise SL
theorem anY{lay:Layout}{l:List Int}{pos:Int}(hs:pq l pos){p:Plan}(hp:GH lay p.Routes p.Lines)(h3:p.Lines.length≤3)(ht:p.Turns=[]):WP (Qe ⟨l,pos⟩ p) (TnP p l):=by
 unfold Qe
 rw[ht]
 refine CP (fun q=>SN p l (3*q.2.2.2.2) q) (fun q=>4-q.2.2.2.2) _ ?_ FUEL _ ⟨hs,by simp,by simp,by simp,by simp,by simp,by simp⟩ (jo (by omega))
 rintro c ⟨p1,tn,f,to,a⟩ ⟨i1,i2,i3,i4,i5,i6,i7⟩ hc
 simp only at i1 i2 i3 i4 i5 i6 i7 hc
 simp only[Z0]
 refine tH (fun h=>?_) (fun h=>Sw ⟨i1,by simp only;omega,fun t ht=>(i6 t ht).1,i7⟩)
 simp only[decide_eq_true_eq] at h
 refine CP (SN p l (4*a)) (fun q=>4-q.2.2.2.2) _ ?_ FUEL _ ⟨i1,by simp only;omega,i3,i4,by simp,i6,i7⟩ (jo (by omega))
 rintro c2 ⟨p2,tn2,f2,to2,b⟩ ⟨j1,j2,j3,j4,j5,j6,j7⟩ hc2
 simp only at j1 j2 j3 j4 j5 j6 j7 hc2
 simp only[Z4]
 refine tH (fun hb=>?_) (fun hb=>?_)
 ·simp only[decide_eq_true_eq] at hb
  obtain⟨x,k,ex,x0,x1,hk⟩:=lC j1 3 (by omega) (by omega)
  rw[ex,Option.bind_some]
  have go:∀(q:Int) (t:List Turn) (u w:List Bool),SN p l (4*a) (q,t,u,w,b+1)→WP (Jz c2 b (q,t,u,w)) (TnP p l):=by
   intro q t u w hI
   unfold Jz
   exact hc2 _ hI (by simp only;omega)
  have keep:SN p l (4*a) (k,tn2,f2,to2,b+1):=⟨hk,by simp only;omega,j3,j4,by simp only;omega,j6,j7⟩
  have hA:(0:Int)≤(a:Int)∧(a:Int)<(p.Lines.length:Int):=by omega
  have hB:(0:Int)≤(b:Int)∧(b:Int)<(p.Lines.length:Int):=by omega
  have aip:idx f2 (a:Int)=some (gb f2 a):=by rw[rF (by omega) (by omega)];rfl
  have aiq:idx to2 (b:Int)=some (gb to2 b):=by rw[rF (by omega) (by omega)];rfl
  have air:idx p.Lines (a:Int)=some (cZ p a):=by rw[rF hA.1 hA.2];rfl
  rw[aip,wL,Option.bind_some,aiq,wL,Option.bind_some,air,wL,Option.bind_some]
  refine tH (fun hg=>?_) (fun _=>go _ _ _ _ keep)
  rw[hg]
  simp only[Bool.and_eq_true,decide_eq_true_eq,Bool.not_eq_true'] at hg
  obtain⟨⟨hx,hf⟩,hto⟩:=hg
  rw[if_pos (by simpa using hx)] at hf
  rw[if_pos (by simp[hx,hf])] at hto
  have ma:cZ p a∈p.Lines:=ng (by omega)
  have lo:=hp.ln _ ma
  have lp:=lo.pos;have lf:=lo.few
  have mb:cZ p b∈p.Lines:=ng (by omega)
  have lo2:=(hp.ln _ mb).pos
  rw[if_pos rfl]
  have rA:fV p (a:Int) (((cZ p a).bC.length:Int)-1)=true:=by
   unfold fV iy;simp;omega
  have rB:fV p (b:Int) 0=true:=by
   unfold fV iy;simp;omega
  have s1:=agN (p:=Plan.mk p.eX p.bJ p.Routes p.Lines p.Changes tn2 p.dx p.dn) hp (i:=(a:Int)) (k:=((cZ p a).bC.length:Int)-1) rA
  have s2:=agL (p:=Plan.mk p.eX p.bJ p.Routes p.Lines p.Changes tn2 p.dx p.dn) hp (i:=(b:Int)) (k:=0) rB
  refine jJ (by omega) ?_
  rw[s1,Option.bind_some,s2,Option.bind_some]
  refine tH (fun he=>?_) (fun _=>go _ _ _ _ keep)
  simp only[Bool.true_and,decide_eq_true_eq] at he
  rw[Option.bind_some,Option.bind_some]
  obtain⟨y,k4,ey,y0,y1,hk4⟩:=lC hk 10 (by omega) (by omega)
  rw[ey,Option.bind_some]
  refine jJ (by simp only;omega) ?_
  obtain⟨z,k5,ez,z0,z1,hk5⟩:=lC hk4 30 (by omega) (by omega)
  rw[ez,Option.bind_some]
  refine jJ (by simp only;omega) (uh (by simp;omega) (go _ _ _ _ ⟨hk5,by simp;omega,by simp;omega,by simp;omega,by simp only;omega,fun t ht=>?_,?_⟩))
  ·simp only at ht ⊢
   have gs:∀(g:List Bool) (n:Nat) (j:Int),g.length=4→n<4→0≤j→(gb g j=true∨j=n)→gb (g.set (n:Int).toNat true) j=true:=fun g n j h4 hn hj hor=>by
    rw[adL g (n:Int) j true (by omega) hj (by omega)]
    split
    ·rfl
    ·rcases hor with h|h
     ·exact h
     ·contradiction
   rcases List.mem_append.1 ht with hq|hq
   ·obtain⟨v,q1,q2⟩:=j6 t hq
    have vf:=v.fr;have vt:=v.tt
    unfold iy at vf vt
    simp only[Bool.and_eq_true,decide_eq_true_eq] at vf vt
    exact⟨v,gs _ _ _ j3 (by omega) vf.1 (.inl q1),gs _ _ _ j4 (by omega) vt.1 (.inl q2)⟩
   ·rw[List.mem_singleton] at hq;subst hq
    refine⟨⟨by unfold iy;simp;omega,by unfold iy;simp;omega,by simp only;omega,he⟩,gs _ _ _ j3 (by omega) (by simp) (.inr rfl),gs _ _ _ j4 (by omega) (by simp) (.inr rfl)⟩
  ·simp only
   rw[List.pairwise_append]
   refine⟨j7,List.pairwise_singleton _ _,fun u hu t ht=>?_⟩
   rw[List.mem_singleton] at ht;subst ht
   obtain⟨_,q1,q2⟩:=j6 u hu
   refine⟨fun e=>?_,fun e=>?_⟩
   ·rw[e] at q1;rw[q1] at hf;cases hf
   ·rw[e] at q2;rw[q2] at hto;cases hto
 ·unfold Z5
  simp only[decide_eq_false_iff_not] at hb
  exact hc _ ⟨j1,by simp only;omega,j3,j4,by simp only;omega,j6,j7⟩ (by simp only;omega)
/-! ### A valid plan -/
theorem GR{g:Nat→Option Int}{k:Option Int}:∀m i,(∀j,i≤j→j<i+m→g j=some 0)→k=some 0→errs g k m i=some 0:=by
 intro m
 induction m with
 |zero=>intro i _ h;exact h
 |succ m ih=>
  intro i h hk
  simp only[errs]
  rw[h i (Nat.le_refl _) (by omega),Option.bind_some,if_neg (by simp)]
  exact ih (i+1) (fun j a b=>h j (by omega) (by omega)) hk
theorem agk{l:Layout}(hr:Am l.Sections){s:Step}(h:kF l s=true):2≤(jI l s).Length∧(jI l s).Length≤12:=by
 unfold kF at h
 simp only[Bool.and_eq_true,decide_eq_true_eq] at h
 have:=hr (jI l s) (ng (by omega))
 unfold KG at this
 omega
theorem abS{l:Layout}(hr:Am l.Sections):∀ss:List Step,(∀s∈ss,kF l s=true)→(Dj l ss).length≤12*ss.length
 |[],_=>by simp[Dj]
 |s::r,h=>by
  have ih:=abS hr r (fun t ht=>h t (List.mem_cons_of_mem _ ht))
  have hs:=agk hr (h s List.mem_cons_self)
  have e:Dj l (s::r)=List.replicate (jI l s).Length.toNat (cellOf l s)++Dj l r:=rfl
  rw[e,List.length_append,List.length_replicate,List.length_cons];omega
theorem aiw{l:Layout}(hg:NZ l){r:aO}(h:KH l r){s:bL}(hs:zl s=true)(h2:s.Length≤2):Ew l r s=0:=by
 have o:=J8 h.pt
 have hT:∀x∈vH r,kF l x=true:=fun x hx=>o.st x (List.mem_of_mem_take hx)
 have hl:(vH r).length≤24:=by have:=o.len;unfold vH;rw[List.length_take];omega
 have hc:=abS hg.rng (vH r) hT
 have e:(yH l r).2.2=0:=by
  unfold yH
  rw[if_neg (by simp[h.pt]),show r.Steps.take ((r.Steps.length:Int)-r.Overlap).toNat=vH r from rfl]
  unfold cellsE
  rw[if_neg (by omega)]
 unfold Ew
 rw[if_neg (by simp[e]),if_neg (by simp[hs]),if_neg (by omega:¬s.Length>2),if_neg]
 simp only[List.any_eq_true,decide_eq_true_eq,not_exists,not_and]
 intro x hx
 have:=(agk hg.rng (hT x hx)).1
 omega
theorem alX:∀i j:Fin 3,i≠j→sP ⟨[78]⟩ i.val≠sP ⟨[78]⟩ j.val:=by decide
theorem alY:∀i:Fin 3,qd (sP ⟨[78]⟩ i.val).ba=true:=by decide+kernel
theorem XG{p:Plan}{lo hi:Int}(h:0≤lo∧lo≤hi∧hi≤7200∧hi<lo+p.eX):qP p lo hi=true:=by
 unfold qP;simp;omega
structure SI(l:Layout)(p:Plan):Prop where
 g:NZ l
 sz:Sz p
 per:90≤p.eX∧p.eX≤300
 sk:∃s,p.bJ=[s]∧qd s.Name.ba=true∧zl s=true∧s.Length≤2
 ok:GH l p.Routes p.Lines
 ln:p.Lines.length≤3
 ch:∀c∈p.Changes,I9 l p c=0
 tn:∀t∈p.Turns,Xw p t
 td:p.Turns.Pairwise SL
 sy:∀s∈p.dx,NK p s=0
 dm:∀d∈p.dn,KX l d=0
 few:p.Routes.length≤6∧p.Changes.length≤3∧p.Turns.length≤12∧p.dx.length≤1∧p.dn.length≤3
 ri2:∀x∈p.Lines,x.bC.length≤2
 ne:0<p.Lines.length
theorem amR{l:Layout}{p:Plan}(v:SI l p){x:Line}(hx:x∈p.Lines){k:Nat}(hk:k<x.bC.length):xu l p x k=0:=by
 have hl:=v.ok.ln x hx
 obtain⟨⟨a1,a2⟩,b,c,d⟩:=hl.rd k hk
 have hr:KH l (gM p (jD x k)):=v.ok.rt _ (ng (by omega))
 obtain⟨s,es,_,hs,h2⟩:=v.sk
 have per:=v.per
 have e:p.bJ.getD x.bL.toNat default=s:=by rw[es,hl.st];rfl
 unfold xu
 rw[if_neg,e,aiw v.g hr hs h2,if_neg (by simp),if_neg]
 ·rintro⟨h0,hne⟩
  exact hne (hl.jn k h0 hk)
 ·have hb:qP p (jD x k).Min (jD x k).Max=true:=XG (by omega)
  simp only[Bool.not_eq_false]
  unfold zf
  rw[hb]
  have hlast:(decide (k+1=x.bC.length)&&(decide ((jD x k).Min≠0)||decide ((jD x k).Max≠0)))=false:=by
   by_cases e:k+1=x.bC.length
   ·obtain⟨d1,d2⟩:=d e
    simp[d1,d2]
   ·simp[e]
  rw[hlast]
  simp
  omega
theorem al7{l:Layout}{p:Plan}(v:SI l p):Bf l p=some 0:=by
 have per:=v.per
 obtain⟨s,es,hn,hs,h2⟩:=v.sk
 have e0:Ec l p=0:=by
  unfold Ec
  rw[if_neg (by simp[adM v.g]),if_neg (by simp[v.sz]),if_neg (by omega)]
 unfold Bf
 rw[if_neg (by simp[e0])]
 refine GR _ _ (fun j _ hj=>?_) (GR _ _ (fun j _ hj=>?_) (GR _ _ (fun j _ hj=>?_) (GR _ _ (fun j _ hj=>?_) (GR _ _ (fun j _ hj=>?_) (GR _ _ (fun j _ hj=>?_) (GR _ _ (fun j _ hj=>?_) rfl))))))
 ·rw[es] at hj
  have:j=0:=by simp at hj;omega
  subst this
  unfold NI
  rw[es]
  simp[hn,hs]
 ·unfold RA
  rw[(v.ok.rt _ (ng (by omega))).pt]
 ·have hj':j<p.Lines.length:=by omega
  have h3:=v.ln
  have hx:cZ p j∈p.Lines:=ng hj'
  have hl:=v.ok.ln _ hx
  have acM:(cZ p j).Name=sP ⟨[78]⟩ j:=v.ok.nm j hj'
  unfold Ga
  rw[if_neg,if_neg,if_neg,if_neg (by have:=hl.pos;omega)]
  ·exact GR _ _ (fun k _ hk=>by rw[amR v hx (by omega)]) rfl
  ·simp only[Bool.not_eq_false,Bool.and_eq_true,decide_eq_true_eq]
   have w:=hl.w
   unfold wB
   rw[hl.st,es]
   simp;omega
  ·simp only[List.any_eq_true,decide_eq_true_eq,not_exists,not_and]
   intro t ht
   obtain⟨i,hi,rfl⟩:=List.getElem_of_mem ht
   rw[List.length_take] at hi
   have hij:i<j:=by omega
   rw[List.getElem_take,acM]
   have:=v.ok.nm i (by omega)
   rw[getD_lt (by omega)] at this
   rw[this]
   exact alX ⟨i,by omega⟩ ⟨j,by omega⟩ (by simp[Fin.ext_iff];omega)
  ·rw[acM]
   simpa using alY ⟨j,by omega⟩
 ·unfold Ti
  rw[v.ch _ (ng (by omega))]
 ·unfold Kv
  have hj':j<p.Turns.length:=by omega
  have t:=v.tn _ (ng hj')
  have tlo:=t.lo
  unfold Wz
  rw[if_neg,if_neg,if_neg]
  ·have f1:=t.fr;have f2:=t.tt
   unfold iy at f1 f2
   simp only[Bool.and_eq_true,decide_eq_true_eq] at f1 f2
   have k1:(cZ p (p.Turns.getD j default).From.toNat).bL=0:=(v.ok.ln _ (ng (by omega))).st
   have k2:(cZ p (p.Turns.getD j default).To.toNat).bL=0:=(v.ok.ln _ (ng (by omega))).st
   rintro (h|h)
   ·exact h t.eq
   ·exact h (k1.trans k2.symm)
  ·simp only[List.any_eq_true,Bool.or_eq_true,decide_eq_true_eq,not_exists,not_and]
   intro u hu
   obtain⟨i,hi,rfl⟩:=List.getElem_of_mem hu
   rw[List.length_take] at hi
   rw[List.getElem_take,getD_lt hj']
   have:=List.pairwise_iff_getElem.1 v.td i j (by omega) hj' (by omega)
   unfold SL at this
   omega
  ·simp only[Bool.not_eq_false,Bool.and_eq_true]
   exact⟨⟨t.fr,t.tt⟩,XG (by omega)⟩
 ·unfold NJ
  rw[v.sy _ (ng (by omega))]
 ·unfold KV
  rw[v.dm _ (ng (by omega))]
/-! ### The plan -/
structure an4(p:Plan):Prop where
 st:p.bJ.length≤100
 ro:p.Routes.length≤100
 li:p.Lines.length≤100
 ch:p.Changes.length≤100
 tu:p.Turns.length≤100
 sy:p.dx.length≤100
 de:p.dn.length≤100
 per:0≤p.eX∧p.eX≤7200
theorem amn(l:List Int)(hl:l.length≤140737488355328):WP (PY l) (fun y=>SI y.1 y.2):=by
 unfold PY
 have e:LA l=some ⟨l,0⟩:=rfl
 rw[e,Option.bind_some]
 refine wp_bind _ (am2 (l:=l) ⟨by omega,by omega,hl⟩) ?_
 rintro⟨b,p0⟩ ro
 have R:=am0 ro
 have hg:=R.g
 have r0:=ro.src
 simp only at r0 R hg ⊢
 have hb1:=R.b1
 have hb2:=R.b2
 have hst:=R.st
 obtain⟨a1,p1,e1,l1,u1,r1⟩:=lC r0 6 (by omega) (by omega)
 rw[e1,Option.bind_some]
 refine ag1 (by simp;omega) fun per akx=>?_
 have aky:90≤per∧per≤300:=by
  simp only[List.mem_cons,List.not_mem_nil,or_false] at akx
  omega
 obtain⟨a2,p2,e2,l2,u2,r2⟩:=lC r1 2 (by omega) (by omega)
 rw[e2,Option.bind_some]
 refine jJ (by simp only;omega) ?_
 obtain⟨a3,p3,e3,l3,u3,r3⟩:=lC r2 4 (by omega) (by omega)
 rw[e3,Option.bind_some]
 refine jJ (by simp only;omega) (jJ (by simp only;omega) ?_)
 obtain⟨a4,p4,e4,l4,u4,r4⟩:=lC r3 3 (by omega) (by omega)
 rw[e4,Option.bind_some]
 refine jJ (by simp only;omega) (jJ (by simp only;omega) ?_)
 obtain⟨a5,p5,e5,l5,u5,r5⟩:=lC r4 3 (by omega) (by omega)
 rw[e5,Option.bind_some]
 refine jJ (by simp only;omega) (jJ (by simp only;omega) ?_)
 generalize hsk:(bL.mk (⟨[88]⟩:Str) (1+a2) (10000+(5000*a3)) (400+(200*a4)) (400+(200*a5)))=sk
 have akE:qd sk.Name.ba=true∧zl sk=true∧sk.Length≤2:=by
  subst hsk
  refine⟨by show qd (⟨[88]⟩:Str).ba=true;decide+kernel,?_,by simp only;omega⟩
  unfold zl;simp;omega
 clear hsk
 unfold Uz
 obtain⟨a6,p6,e6,l6,u6,r6⟩:=lC r5 3 (by omega) (by omega)
 simp only
 rw[e6,Option.bind_some]
 refine jJ (by simp only;omega) ?_
 refine CP (fun (q:Int×List aO×List Line×Int)=>pq l q.1∧GH b.l q.2.1 q.2.2.1∧(q.2.2.1.length:Int)+q.2.2.2≤3∧0≤q.2.2.2∧q.2.1.length≤2*q.2.2.1.length∧(0<q.2.2.2∨0<q.2.2.1.length)) (fun q=>q.2.2.2.toNat) _ ?_ FUEL _ ⟨r6,⟨by simp,by simp,by simp⟩,by simp;omega,by simp only;omega,by simp,by simp only;omega⟩ (jo (by simp only;omega))
 rintro c ⟨p7,rs,ls,n⟩ ⟨i1,i2,i3,i4,i5,i6⟩ hc
 simp only at i1 i2 i3 i4 i5 i6 hc
 simp only[ZE]
 refine tH (fun h=>?_) (fun h=>?_)
 ·simp only[decide_eq_true_eq] at h
  obtain⟨a8,p8,e8,l8,u8,r8⟩:=lC i1 2 (by omega) (by omega)
  rw[e8,Option.bind_some]
  obtain⟨a9,p9,e9,l9,u9,r9⟩:=lC r8 (b.between.length:Int) (by omega) (by omega)
  rw[e9,Option.bind_some]
  refine jJ (by simp only;omega) ?_
  refine wp_bind _ (alv R (p:=Plan.mk _ _ rs ls _ _ _ _) r9 i2 (by simp only;omega) (by simp only;omega) (by omega)) ?_
  rintro⟨p10,rs2,ls2⟩ ⟨q1,q2,q3,q4⟩
  simp only at q1 q2 q3 q4 ⊢
  exact jJ (by omega) (hc _ ⟨q1,q2,by simp only;omega,by simp only;omega,by simp only;omega,by simp only;omega⟩ (by simp only;omega))
 ·simp only[decide_eq_false_iff_not] at h
  unfold ZH
  refine wp_bind _ (anY (p:=Plan.mk _ _ rs ls _ _ _ _) i1 i2 (by simp only;omega) rfl) ?_
  rintro⟨p11,tn⟩ ⟨t1,t2,t3,t4⟩
  simp only at t1 t2 t3 t4 ⊢
  obtain⟨a12,p12,e12,Qf,u12,Cn⟩:=lC t1 3 (by omega) (by omega)
  rw[e12,Option.bind_some]
  refine CP (fun (q:Int×List Change×Int)=>pq l q.1∧(q.2.1.length:Int)+q.2.2≤3∧0≤q.2.2∧∀c∈q.2.1,I9 b.l (Plan.mk per [sk] rs ls [] tn [] []) c=0) (fun q=>q.2.2.toNat) _ ?_ FUEL _ ⟨Cn,by simp;omega,by simp only;omega,by simp⟩ (jo (by simp only;omega))
  rintro c2 ⟨p13,ch,k2⟩ ⟨j1,j2,j3,j4⟩ hc2
  simp only at j1 j2 j3 j4 hc2
  simp only[ZF]
  refine tH (fun hk=>?_) (fun hk=>?_)
  ·simp only[Bool.and_eq_true,decide_eq_true_eq] at hk
   obtain⟨zH,p14,e14,l14,u14,r14⟩:=lC j1 (ls.length:Int) (by omega) (by omega)
   rw[e14,Option.bind_some]
   obtain⟨a15,p15,e15,DC,u15,r15⟩:=lC r14 3 (by omega) (by omega)
   rw[e15,Option.bind_some]
   have tr:=agU (a:=zH+1) (n:=ls.length) (by omega) (by omega)
   generalize hto:(zH+1).tmod (ls.length:Int)=to at tr
   have hne:zH≠to:=by
    rw[Int.tmod_eq_emod_of_nonneg (by omega)] at hto
    by_cases h:zH+1<ls.length
    ·rw[Int.emod_eq_of_lt (by omega) h] at hto;omega
    ·have:zH+1=ls.length:=by omega
     rw[this,Int.emod_self] at hto;omega
   simp only[hto]
   refine jJ (by omega) (uh (by simp only[decide_eq_true_eq];omega) ?_)
   rw[Ez (by omega),Ez (by omega)]
   have o1:=i2.ln _ (ng (xs:=ls) (i:=zH.toNat) (by omega))
   have o2:=i2.ln _ (ng (xs:=ls) (i:=to.toNat) (by omega))
   have o1p:=o1.pos
   have o2p:=o2.pos
   have o1f:=o1.few
   have o2f:=o2.few
   obtain⟨a16,p16,e16,l16,u16,r16⟩:=lC r15 ((ls.getD zH.toNat default).bC.length:Int) (by omega) (by omega)
   rw[e16,Option.bind_some]
   obtain⟨a17,p17,e17,l17,u17,jv⟩:=lC r16 ((ls.getD to.toNat default).bC.length:Int) (by omega) (by omega)
   simp only
   rw[e17,Option.bind_some]
   obtain⟨a18,p18,e18,l18,u18,r18⟩:=lC jv 20 (by omega) (by omega)
   simp only
   rw[e18,Option.bind_some]
   obtain⟨a19,p19,e19,l19,u19,rO⟩:=lC r18 per (by omega) (by omega)
   simp only
   rw[e19,Option.bind_some]
   have hA:fV (Plan.mk per [sk] rs ls [] tn [] []) zH a16=true:=T9 (by show zH<(ls.length:Int);omega) (by omega) (by omega) (by show a16<((ls.getD zH.toNat default).bC.length:Int);omega)
   have hB:fV (Plan.mk per [sk] rs ls [] tn [] []) to a17=true:=T9 (by show to<(ls.length:Int);omega) (by omega) (by omega) (by show a17<((ls.getD to.toNat default).bC.length:Int);omega)
   have sA:Jy (Plan.mk per [sk] rs ls ch tn [] []) zH a16=some (lD (gM (Plan.mk per [sk] rs ls [] tn [] []) (iq (Plan.mk per [sk] rs ls [] tn [] []) zH a16))):=agN (p:=Plan.mk per [sk] rs ls [] tn [] []) i2 hA
   have sB:Jw (Plan.mk per [sk] rs ls ch tn [] []) to a17=some (ou (gM (Plan.mk per [sk] rs ls [] tn [] []) (iq (Plan.mk per [sk] rs ls [] tn [] []) to a17))):=agL (p:=Plan.mk per [sk] rs ls [] tn [] []) i2 hB
   have vA:=(Ua (p:=Plan.mk per [sk] rs ls [] tn [] []) i2 hA).2.2.2
   have vB:=(Ua (p:=Plan.mk per [sk] rs ls [] tn [] []) i2 hB).2.2.2
   have oA:=J8 vA.pt;have oB:=J8 vB.pt
   refine jJ (by omega) ?_
   rw[sA,Option.bind_some]
   have iA:idx b.l.Sections (lD (gM (Plan.mk per [sk] rs ls [] tn [] []) (iq (Plan.mk per [sk] rs ls [] tn [] []) zH a16)))=some (b.l.Sections.getD (lD (gM (Plan.mk per [sk] rs ls [] tn [] []) (iq (Plan.mk per [sk] rs ls [] tn [] []) zH a16))).toNat default):=by
    have:=oA.two;have:=oA.ov
    exact VY oA (ng (by omega))
   have iB:idx b.l.Sections (ou (gM (Plan.mk per [sk] rs ls [] tn [] []) (iq (Plan.mk per [sk] rs ls [] tn [] []) to a17)))=some (b.l.Sections.getD (ou (gM (Plan.mk per [sk] rs ls [] tn [] []) (iq (Plan.mk per [sk] rs ls [] tn [] []) to a17))).toNat default):=by
    have:=oB.two;have:=oB.ov
    exact VY oB (ng (by omega))
   rw[iA,Option.bind_some,sB,Option.bind_some,iB,Option.bind_some]
   refine tH (fun he=>uh (by simp;omega) ?_) (fun _=>?_)
   ·unfold LB
    refine jJ (by omega) (hc2 _ ⟨rO,by simp;omega,by simp only;omega,fun c hcm=>?_⟩ (by simp only;omega))
    rcases List.mem_append.1 hcm with hq|hq
    ·exact j4 c hq
    ·rw[List.mem_singleton] at hq;subst hq
     simp only[decide_eq_true_eq] at he
     unfold I9
     rw[if_neg,if_neg]
     ·simp only
      rintro (h|h)
      ·have:=vA.s1;omega
      ·exact h he
     ·unfold Ep
      simp only
      rw[hA,hB,XG (by simp only;omega)]
      unfold wB
      simp;omega
   ·unfold LB
    exact jJ (by omega) (hc2 _ ⟨rO,by simp only;omega,by simp only;omega,j4⟩ (by simp only;omega))
  ·unfold ZI
   obtain⟨a20,p20,e20,l20,u20,kE⟩:=lC j1 4 (by omega) (by omega)
   rw[e20,Option.bind_some]
   have last:∀(q:Int) (sy:List Sync),pq l q→sy.length≤1→(∀s∈sy,NK (Plan.mk per [sk] rs ls ch tn [] []) s=0)→WP (LC ⟨l,0⟩ (b,p0) per [sk] rs ls ch (p11,tn) (q,sy)) (fun y=>SI y.1 y.2):=by
    intro q sy hq hsy hsv
    unfold LC
    obtain⟨a21,p21,e21,l21,u21,vv⟩:=lC hq 3 (by omega) (by omega)
    simp only
    rw[e21,Option.bind_some]
    refine CP (fun (q:Int×List iY×Int)=>pq l q.1∧(q.2.1.length:Int)+q.2.2≤3∧0≤q.2.2∧∀d∈q.2.1,KX b.l d=0) (fun q=>q.2.2.toNat) _ ?_ FUEL _ ⟨vv,by simp;omega,by simp only;omega,by simp⟩ (jo (by simp only;omega))
    rintro c3 ⟨p22,dm,k3⟩ ⟨m1,m2,m3,m4⟩ hc3
    simp only at m1 m2 m3 m4 hc3
    simp only[ZG]
    refine tH (fun hk3=>?_) (fun hk3=>?_)
    ·simp only[decide_eq_true_eq] at hk3
     obtain⟨a23,p23,e23,l23,u23,Bh⟩:=lC m1 (b.l.bB.length:Int) (by omega) (by omega)
     rw[e23,Option.bind_some]
     refine jJ (by simp only;omega) (jJ (by omega) ?_)
     obtain⟨a24,p24,e24,l24,u24,xq⟩:=lC Bh ((b.l.bB.length:Int)-1) (by omega) (by omega)
     rw[e24,Option.bind_some]
     refine jJ (by simp only;omega) (uh (by simp only[decide_eq_true_eq];omega) ?_)
     obtain⟨a25,p25,e25,l25,u25,Co⟩:=lC xq 9 (by omega) (by omega)
     rw[e25,Option.bind_some]
     refine jJ (by simp only;omega) (uh (by simp;omega) (jJ (by omega) (hc3 _ ⟨Co,by simp;omega,by simp only;omega,fun d hd=>?_⟩ (by simp only;omega))))
     rcases List.mem_append.1 hd with hq|hq
     ·exact m4 d hq
     ·rw[List.mem_singleton] at hq;subst hq
      have tr:=agU (a:=a23+1+a24) (n:=b.l.bB.length) (by omega) (by omega)
      have hne:a23≠(a23+1+a24).tmod (b.l.bB.length:Int):=by
       rw[Int.tmod_eq_emod_of_nonneg (by omega)]
       by_cases h:a23+1+a24<b.l.bB.length
       ·rw[Int.emod_eq_of_lt (by omega) h];omega
       ·have e:(a23+1+a24)=(a23+1+a24-b.l.bB.length)+b.l.bB.length:=by omega
        rw[e,Int.add_emod_right,Int.emod_eq_of_lt (by omega) (by omega)];omega
      unfold KX
      rw[if_neg]
      simp;omega
    ·unfold ZJ
     simp only[decide_eq_false_iff_not] at hk3
     exact Sw ⟨hg,⟨by simp,by simp only;omega,by simp only;omega,by simp only;omega,by simp only;omega,by simp only;omega,by simp only;omega,fun x hx=>by have:=(i2.ln x hx).few;omega⟩,
      aky,⟨sk,rfl,akE⟩,i2,by simp only;omega,fun c hc=>j4 c hc,fun t ht=>⟨(t3 t ht).fr,(t3 t ht).tt,(t3 t ht).lo,(t3 t ht).eq⟩,t4,fun s hs=>hsv s hs,m4,⟨by simp only;omega,by simp only;omega,by simp only;omega,by simp only;omega,by simp only;omega⟩,fun x hx=>(i2.ln x hx).few,by simp only;omega⟩
   refine tH (fun hk=>?_) (fun _=>last _ _ kE (by simp) (by simp))
   simp only[Bool.and_eq_true,decide_eq_true_eq] at hk
   obtain⟨a26,p26,e26,l26,u26,tX⟩:=lC kE per (by omega) (by omega)
   rw[e26,Option.bind_some]
   refine uh (by simp) (last _ _ tX (by simp) fun s hs=>?_)
   simp only[List.nil_append,List.mem_singleton] at hs
   subst hs
   have o1:=(i2.ln _ (ng (xs:=ls) (i:=0) (by omega))).pos
   have o2:=(i2.ln _ (ng (xs:=ls) (i:=1) (by omega))).pos
   unfold NK
   rw[if_neg]
   have h0:fV (Plan.mk per [sk] rs ls ch tn [] []) 0 0=true:=T9 (by show (0:Int)<(ls.length:Int);omega) (by omega) (by omega) (by show (0:Int)<((ls.getD 0 default).bC.length:Int);omega)
   have h1:fV (Plan.mk per [sk] rs ls ch tn [] []) 1 0=true:=T9 (by show (1:Int)<(ls.length:Int);omega) (by omega) (by omega) (by show (0:Int)<((ls.getD 1 default).bC.length:Int);omega)
   dsimp only
   rw[h0,h1]
   simp;omega
end Go.Proofs.YtcalibhfgdncaaaGreat
