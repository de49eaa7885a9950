/- Several parts of the engine, one behind the other. -/
import Derived.Test.YtcalibhfgdncaaaGreatDoorPk
import Derived.Test.YtcalibhfgdncaaaGreatDoorRk
import Derived.IntWalk
import Derived.Test.YtcalibhfgdncaaaGreatDoorRl
import Derived.Test.YtcalibhfgdncaaaGreatDoorQ1
import Derived.Test.YtcalibhfgdncaaaGreatDoorTm
import Derived.Test.YtcalibhfgdncaaaGreatDoorPy
import Derived.Test.YtcalibhfgdncaaaGreatDoorSm
import Derived.Test.YtcalibhfgdncaaaGreatDoorPv
set_option linter.all false
namespace Go.Proofs.YtcalibhfgdncaaaGreatDoor
open Go.Dc
theorem afO(v n:Int)(h0:1≤n)(h1:n≤4611686018427387904):∃k,lI v n=some k∧0≤k∧k<n:=by
 have hw:IntKind.u64.wrap n=n:=IntWalk.u64_in n ⟨by omega,by omega⟩
 have hv:0≤IntKind.u64.wrap v:=by rw[IntKind.wrap_u64];omega
 have e:(IntKind.u64.wrap v).tmod n=IntKind.u64.wrap v % n:=Int.tmod_eq_emod_of_nonneg hv
 have a:=Int.emod_nonneg (IntKind.u64.wrap v) (b:=n) (by omega)
 have b:=Int.emod_lt_of_pos (IntKind.u64.wrap v) (b:=n) (by omega)
 refine⟨IntKind.u64.wrap v % n,?_,a,b⟩
 unfold lI
 rw[hw,e,cO (by simp;omega)]
 congr 1
 rw[IntKind.wrap_i64]
 omega
def qd(l:List Int)(i:Int):Prop:=0≤i∧i≤l.length∧l.length≤140737488355328
theorem mE{l:List Int}{i:Int}(h:qd l i)(n:Int)(h0:1≤n)(h1:n≤4611686018427387904):
  ∃v j,kS (bZ.mk l i) n=some (v,j)∧0≤v∧v<n∧qd l j:=by
 obtain⟨a,b,c⟩:=h
 unfold kS
 by_cases hl:(l.length:Int)≤i
 ·exact⟨0,i,by simp[hl],by omega,by omega,a,b,c⟩
 ·have e:i+1-1=i:=by omega
  obtain⟨k,hk,k0,k1⟩:=afO (l.getD i.toNat 0) n h0 h1
  refine⟨k,i+1,?_,k0,k1,by omega,by omega,c⟩
  simp only[hl,decide_false,Bool.false_eq_true,if_false,e]
  rw[cO (eB (by omega) (by omega)),cO (eB (by omega) (by omega)),aor a (by omega)]
  simp only[Option.bind_some]
  rw[hk]
  rfl
end Go.Proofs.YtcalibhfgdncaaaGreatDoor
namespace Go.Proofs.YtcalibhfgdncaaaGreatDoor
open Go.Dc
def rM(s:Str)(k:Nat):Str:=⟨s.l++[UInt8.ofNat (48+k)]⟩
theorem ajA:∀k:Fin 10,BH (⟨[48,49,50,51,52,53,54,55,56,57]⟩:Str) ((k.val:Int).tmod 10) ((k.val:Int).tmod 10+1)=some ⟨[UInt8.ofNat (48+k.val)]⟩:=by decide
theorem J8(s:Str)(k:Nat)(h:k<10)(hs:s.l.length≤100):Ct s (k:Int)=some (rM s k):=by
 unfold Ct
 have e:(k:Int).tmod 10=k:=by rw[Int.tmod_eq_emod_of_nonneg (by omega)];omega
 have:=ajA ⟨k,h⟩
 simp only at this
 rw[cO (eB (by omega) (by omega)),this,Option.bind_some]
 unfold dX
 rw[if_pos (by simp;omega)]
 rfl
theorem afJ(s:Str)(k:Nat):(rM s k).l.length=s.l.length+1:=by simp[rM]
def vM(s:Section):Section:=⟨s.Name,1,1000,0,s.nG⟩
def LG(s:Section):Prop:=2≤s.Length∧s.Length≤12∧5000≤s.Limit∧s.Limit≤35000∧ -10≤s.jQ∧s.jQ≤10
def zD(l:List Section):Prop:=∀s∈l,LG s
theorem ahK{l:List Int}{i:Int}(h:qd l i)(nm:Str)(st:Int):
  ∃x j,MF (bZ.mk l i) nm st=some (x,j)∧qd l j∧vM x=⟨nm,1,1000,0,st⟩∧LG x∧x.Length≤10∧x.Name=nm∧x.nG=st:=by
 obtain⟨v1,j1,e1,a1,b1,o1⟩:=mE h 9 (by omega) (by omega)
 obtain⟨v2,j2,e2,a2,b2,o2⟩:=mE o1 7 (by omega) (by omega)
 obtain⟨v3,j3,e3,a3,b3,o3⟩:=mE o2 21 (by omega) (by omega)
 refine⟨⟨nm,2+v1,5000+5000*v2,v3-10,st⟩,j3,?_,o3,rfl,?_,?_,rfl,rfl⟩
 ·unfold MF
  rw[e1,Option.bind_some,cO (eB (by simp;omega) (by simp;omega))]
  simp only
  rw[e2,Option.bind_some,cO (eB (by simp;omega) (by simp;omega)),cO (eB (by simp;omega) (by simp;omega))]
  simp only
  rw[e3,Option.bind_some,cO (eB (by simp;omega) (by simp;omega))]
 ·refine⟨?_,?_,?_,?_,?_,?_⟩<;>simp only<;>omega
 ·simp only;omega
theorem adD(b:dM)(x:Section)(h:b.l.Sections.length≤1000):MG b x=some ((b.l.Sections.length:Int),b.l.Sections++[x]):=by
 unfold MG
 have e:((b.l.Sections++[x]).length:Int)-1=b.l.Sections.length:=by simp
 rw[cO (by simp;omega),e,cO (eB (by omega) (by omega))]
theorem aa8(b:dM)(x y p q:Int)(h:b.l.Links.length≤1000):JK b x y p q=some (b.l.Links++[⟨x,1,y,0,p,q⟩]):=by
 unfold JK
 rw[cO (by simp;omega)]
theorem ap5(b:dM)(h:b.l.bG.length<10):Q7 b=some ((b.l.bG.length:Int),b.l.bG++[rM ⟨[80]⟩ b.l.bG.length]):=by
 unfold Q7
 have e:((b.l.bG++[rM ⟨[80]⟩ b.l.bG.length]).length:Int)-1=b.l.bG.length:=by simp
 rw[J8 _ _ h (by decide),Option.bind_some,cO (by simp;omega),e,cO (eB (by omega) (by omega))]
/-! ### Skeletons -/
def Fb(x p:Int)(east:Bool):Nat→List Int→List Link
 |_,[]=>[]
 |i,t::r=>(if east then ⟨x,1,t,0,p,i⟩ else ⟨t,1,x,0,p,i⟩)::Fb x p east (i+1) r
def aea(ps:List Str)(ts:List Int):Int:=if 1<ts.length then ps.length else-1
def wL(ps:List Str)(ks:List Link)(x:Int)(ts:List Int)(east:Bool):List Str×List Link:=
 (if 1<ts.length then ps++[rM ⟨[80]⟩ ps.length] else ps,ks++Fb x (aea ps ts) east 0 ts)
theorem Y9(x p:Int)(e:Bool):∀(ts:List Int) (i:Nat),(Fb x p e i ts).length=ts.length
 |[],_=>rfl
 |t::r,i=>by simp[Fb,Y9 x p e r (i+1)]
theorem ad9(b:dM)(x:Int)(ts:List Int)(east:Bool)(ps:List Str)(p:Int)(hk:b.l.Links.length≤500)(ht:ts.length≤100):
  MH ts east b x (ps,p)=some (ps,b.l.Links++Fb x p east 0 ts):=by
 simp only[MH]
 have:=nu (B:=Q5 ts east b ps x p) (fun (q:List Link×Nat) i=>(q.1,i)) ts (fun q i=>q.1.length≤500+i∧q.2=i) (fun q r=>some (ps,q.1++Fb x p east q.2 r)) ?_ ?_ FUEL (b.l.Links,0) 0 ⟨by simp;omega,rfl⟩ (by omega) (jh (by omega))
 ·simpa using this
 ·rintro c ⟨q,qi⟩ i t r ⟨hq,rfl⟩ hdr hi hx hc
  simp only at hq hx hi ⊢
  simp only[Q5]
  rw[if_pos (by simpa using hi)]
  cases east with
  |true=>
   rw[if_pos rfl,hx,Option.bind_some,aa8 _ _ _ _ _ (by simp only;omega),Option.bind_some]
   simp only[MI]
   have:=hc (q++[⟨x,1,t,0,p,qi⟩],qi+1) ⟨by simp;omega,rfl⟩
   simp only at this
   rw[this]
   simp[Fb]
  |false=>
   rw[if_neg (by simp),hx,Option.bind_some,aa8 _ _ _ _ _ (by simp only;omega),Option.bind_some]
   simp only[MI]
   have:=hc (q++[⟨t,1,x,0,p,qi⟩],qi+1) ⟨by simp;omega,rfl⟩
   simp only at this
   rw[this]
   simp[Fb]
 ·rintro c ⟨q,qi⟩ ⟨hq,h2⟩
  simp only[Q5]
  rw[if_neg (by simp)]
  simp[Fb]
theorem aeb(b:dM)(x:Int)(ts:List Int)(east:Bool)(hk:b.l.Links.length≤500)(ht:ts.length≤100)(hp:b.l.bG.length<10):
  MJ b x ts east=some (wL b.l.bG b.l.Links x ts east):=by
 unfold MJ wL aea
 by_cases h:1<ts.length
 ·rw[if_pos (by simp;omega),ap5 b hp,Option.bind_some,ad9 _ _ _ _ _ _ hk ht]
  simp[h]
 ·rw[if_neg (by simp;omega),ad9 _ _ _ _ _ _ hk ht]
  simp[h]
def Lg(i:Nat):Nat→List Section
 |0=>[]
 |k+1=>⟨rM (rM ⟨[84]⟩ i) (k+1),1,1000,0,i⟩::Lg i k
def JX(i:Nat):Nat→List Section
 |0=>[]
 |k+1=>⟨rM (rM ⟨[76]⟩ i) (k+1),1,1000,0,-1⟩::JX i k
def uL(s:Nat):Nat→List Int
 |0=>[]
 |k+1=>(s:Int)::uL (s+1) k
theorem IY:∀(k s:Nat),(uL s k).length=k
 |0,_=>rfl
 |k+1,s=>by simp[uL,IY k (s+1)]
abbrev S1:=List Str×List Section×List (List Int)
abbrev S2:=List Str×List Section×List Link×List (List Int)
def step1(s:S1)(k:Nat):S1:=(s.1++[rM ⟨[83]⟩ s.1.length],s.2.1++Lg s.1.length k,s.2.2++[uL s.2.1.length k])
def inner(t:List Int):Nat→List Int→List Link
 |_,[]=>[]
 |_,[_]=>[]
 |n,a::b::r=>⟨a,1,b,0,-1,0⟩::inner t n (b::r)
def step2(tr:List (List Int))(s:S2)(k:Nat):S2:=
 let i:=s.2.2.2.length
 let t:=uL s.2.1.length k
 let f:=wL s.1 (s.2.2.1++inner t 0 t) (t.headD 0) (tr.getD i []) false
 let g:=wL f.1 f.2 (t.getLastD 0) (tr.getD (i+1) []) true
 (g.1,s.2.1++JX i k,g.2,s.2.2.2++[t])
def nM(ts:List Nat):S1:=ts.foldl step1 ([],[],[])
def oV(ts bs:List Nat):S2:=bs.foldl (step2 (nM ts).2.2) ([],(nM ts).2.1,[],[])
def shape(ts bs:List Nat):Layout:=⟨(nM ts).1,(oV ts bs).1,(oV ts bs).2.1,(oV ts bs).2.2.1⟩
def erase(l:Layout):Layout:=⟨l.aU,l.bG,l.Sections.map vM,l.Links⟩
theorem aia(i:Nat):∀k,(Lg i k).length=k
 |0=>rfl
 |k+1=>by simp[Lg,aia i k]
theorem afC(i:Nat):∀k,(JX i k).length=k
 |0=>rfl
 |k+1=>by simp[JX,afC i k]
/-! ### The first loop: stations and their tracks -/
theorem arQ{Q:dM×Int→Prop}{l:List Int}{i:Nat}{sW:List Str}{y:Str}{qb:List (List Int)}{cont:(Int×(List Str)×(List Section)×(List (List Int))×Nat)→Option (dM×Int)}{s0:bZ}(hs0:s0.l=l)
  (hi:i<5)(ht:qb.length≤100):∀(k n:Nat) (pos:Int) (secs:List Section) (lt:List Int),k≤2→k<n→qd l pos→secs.length+k≤200→lt.length+k≤200→zD secs→
  (∀pos' Ar,qd l pos'→Ar.map vM=secs.map vM++Lg i k→zD Ar→WP (cont (pos',sW++[y],Ar,qb++[lt++uL secs.length k],i+1)) Q)→
  WP (iter (JM (i:Nat) s0 sW y qb cont) n (pos,secs,lt,(k:Int))) Q:=by
 intro k
 induction k with
 |zero=>
  intro n pos secs lt _ hn hp hs hl hr hc
  obtain⟨m,rfl⟩:∃m,n=m+1:=⟨n-1,by omega⟩
  show WP (JM _ _ _ _ _ _ _ _) Q
  simp only[JM]
  rw[if_neg (by simp)]
  simp only[aaY,aaX]
  refine kK (by simp;omega) (gX ⟨by omega,by omega⟩ ?_)
  have:=hc pos secs hp (by simp[Lg]) hr
  simpa [uL] using this
 |succ k ih=>
  intro n pos secs lt hk hn hp hs hl hr hc
  obtain⟨m,rfl⟩:∃m,n=m+1:=⟨n-1,by omega⟩
  show WP (JM _ _ _ _ _ _ _ _) Q
  simp only[JM]
  rw[if_pos (by simp<;>omega),J8 _ _ (by omega) (by decide),Option.bind_some,J8 _ _ (by omega) (by rw[afJ];decide),Option.bind_some]
  obtain⟨x,j,e,hj,e1,e2,e3,e4,e5⟩:=ahK hp (rM (rM ⟨[84]⟩ i) (k+1)) i
  rw[hs0,e,Option.bind_some]
  unfold LG at e2
  refine gX ⟨by simp only;omega,by simp only;omega⟩ ?_
  rw[adD _ _ (by simp only;omega),Option.bind_some]
  simp only
  refine kK (by simp;omega) (gX ⟨by omega,by omega⟩ ?_)
  have ek:(((k+1:Nat):Int)-1)=(k:Int):=by omega
  rw[ek]
  refine ih m j _ _ (by omega) (by omega) hj (by simp;omega) (by simp;omega) ?_ ?_
  ·intro s hm
   rcases List.mem_append.1 hm with h|h
   ·exact hr s h
   ·rw[List.mem_singleton] at h;subst h
    unfold LG;simp only;omega
  ·intro pos' Ar h1 h2 h3
   have amj:vM ⟨x.Name,x.Length+2,x.Limit,x.jQ,x.nG⟩=⟨rM (rM ⟨[84]⟩ i) (k+1),1,1000,0,i⟩:=by rw[←e1];rfl
   have:=hc pos' Ar h1 (by rw[h2];simp[Lg,amj]) h3
   have e6:lt++[(secs.length:Int)]++uL (secs++[(⟨x.Name,x.Length+2,x.Limit,x.jQ,x.nG⟩:Section)]).length k=lt++uL secs.length (k+1):=by simp[uL]
   rw[e6]
   exact this
theorem aiZ{Q:dM×Int→Prop}{l:List Int}{i:Nat}{sW ps:List Str}{ks:List Link}{qb yK:List (List Int)}{cont:(Int×(List Str)×(List Section)×(List Link)×(List (List Int))×Nat)→Option (dM×Int)}{s0:bZ}(hs0:s0.l=l)
  (hi:i<5):∀(k n:Nat) (pos:Int) (secs:List Section) (lt:List Int),k≤2→k<n→qd l pos→secs.length+k≤200→lt.length+k≤200→zD secs→
  (∀pos' Ar,qd l pos'→Ar.map vM=secs.map vM++JX i k→zD Ar→WP (Rb (lt++uL secs.length k) sW ps Ar qb yK i cont pos' ks ()) Q)→
  WP (iter (JN (i:Nat) s0 sW ps ks qb yK cont) n (pos,secs,lt,(k:Int))) Q:=by
 intro k
 induction k with
 |zero=>
  intro n pos secs lt _ hn hp hs hl hr hc
  obtain⟨m,rfl⟩:∃m,n=m+1:=⟨n-1,by omega⟩
  show WP (JN _ _ _ _ _ _ _ _ _ _) Q
  simp only[JN]
  rw[if_neg (by simp)]
  have:=hc pos secs hp (by simp[JX]) hr
  simpa [uL] using this
 |succ k ih=>
  intro n pos secs lt hk hn hp hs hl hr hc
  obtain⟨m,rfl⟩:∃m,n=m+1:=⟨n-1,by omega⟩
  show WP (JN _ _ _ _ _ _ _ _ _ _) Q
  simp only[JN]
  rw[if_pos (by simp<;>omega),J8 _ _ (by omega) (by decide),Option.bind_some,J8 _ _ (by omega) (by rw[afJ];decide),Option.bind_some]
  obtain⟨x,j,e,hj,e1,e2,e3,e4,e5⟩:=ahK hp (rM (rM ⟨[76]⟩ i) (k+1)) (-1)
  rw[hs0,e,Option.bind_some,adD _ _ (by simp only;omega),Option.bind_some]
  simp only
  refine kK (by simp;omega) (gX ⟨by omega,by omega⟩ ?_)
  have ek:(((k+1:Nat):Int)-1)=(k:Int):=by omega
  rw[ek]
  refine ih m j _ _ (by omega) (by omega) hj (by simp;omega) (by simp;omega) ?_ ?_
  ·intro s hm
   rcases List.mem_append.1 hm with h|h
   ·exact hr s h
   ·rw[List.mem_singleton] at h;subst h;exact e2
  ·intro pos' Ar h1 h2 h3
   have:=hc pos' Ar h1 (by rw[h2];simp[JX,e1]) h3
   have e6:lt++[(secs.length:Int)]++uL (secs++[x]).length k=lt++uL secs.length (k+1):=by simp[uL]
   rw[e6]
   exact this
end Go.Proofs.YtcalibhfgdncaaaGreatDoor
namespace Go.Proofs.YtcalibhfgdncaaaGreatDoor
open Go.Dc
theorem aot(lt:List Int)(sW ps:List Str)(secs:List Section)(qb yK:List (List Int))(i:Nat)(cont:(Int×(List Str)×(List Section)×(List Link)×(List (List Int))×Nat)→Option (dM×Int))(pos:Int)(ks:List Link)(hl:lt.length≤100)(hk:ks.length≤200)(h0:0<lt.length):
  Rb lt sW ps secs qb yK i cont pos ks ()=MN lt qb i sW ps secs (ks++inner lt 0 lt) yK cont pos ():=by
 unfold Rb
 have key:∀(r:List Int) (n j:Nat) (q:List Link),0<r.length→lt.drop j=r→q.length≤200+j→r.length<n→
   iter (Ra lt sW ps secs qb yK i cont pos) n (q,j)=MN lt qb i sW ps secs (q++inner lt 0 r) yK cont pos ():=by
  intro r
  induction r with
  |nil=>intro n j q h _ _ _;simp at h
  |cons a r ih=>
   intro n j q _ hd hq hn
   obtain⟨m,rfl⟩:∃m,n=m+1:=⟨n-1,by omega⟩
   have hj:j<lt.length:=by
    apply Nat.lt_of_not_le;intro h
    rw[List.drop_eq_nil_of_le h] at hd;cases hd
   have hr:r.length+1+j=lt.length:=by
    have:=congrArg List.length hd
    rw[List.length_drop] at this;simp at this;omega
   show Ra _ _ _ _ _ _ _ _ _ _ _=_
   simp only[Ra]
   rw[cO (eB (by omega) (by omega))]
   cases r with
   |nil=>
    simp at hr
    rw[if_neg (by simp;omega)]
    simp[inner]
   |cons b r=>
    simp at hr
    have ea:lt[j]?=some a:=by have:=congrArg List.head? hd;simpa [List.head?_drop] using this
    have hd2:lt.drop (j+1)=b::r:=by rw[←List.drop_drop,hd];rfl
    have eb:lt[j+1]?=some b:=by have:=congrArg List.head? hd2;simpa [List.head?_drop] using this
    rw[if_pos (by simp;omega),mR,ea,Option.bind_some,cO (eB (by omega) (by omega))]
    have e1:((j:Int)+1)=((j+1:Nat):Int):=by omega
    rw[e1,mR,eb,Option.bind_some,aa8 _ _ _ _ _ (by simp only;omega),Option.bind_some,cO (eB (by omega) (by omega))]
    rw[ih m (j+1) _ (by simp) hd2 (by simp;omega) (by simp at hn ⊢;omega)]
    simp[inner]
 exact key lt FUEL 0 ks h0 rfl (by omega) (jh (by omega))
theorem aaE(t:List Int)(n:Nat):∀r:List Int,(inner t n r).length≤r.length
 |[]=>by simp[inner]
 |[_]=>by simp[inner]
 |a::b::r=>by have:=aaE t n (b::r);simp[inner] at this ⊢;omega
theorem aoM{Q:dM×Int→Prop}(lt:List Int)(sW ps:List Str)(secs:List Section)(qb yK:List (List Int))(i:Nat)(cont:(Int×(List Str)×(List Section)×(List Link)×(List (List Int))×Nat)→Option (dM×Int))(pos:Int)(ks:List Link)(hl:lt.length≤100)(hk:ks.length≤100)(h0:0<lt.length)
  (hi:i<5)(ht:i+1<qb.length)(htt:∀t∈qb,t.length≤10)(hp:ps.length<9)(hb:yK.length≤100)(x y:List Int)(hx:qb[i]?=some x)(hy:qb[i+1]?=some y)
  (hc:WP (cont (pos,(wL (wL ps ks (lt.headD 0) x false).1 (wL ps ks (lt.headD 0) x false).2 (lt.getLastD 0) y true).1,secs,(wL (wL ps ks (lt.headD 0) x false).1 (wL ps ks (lt.headD 0) x false).2 (lt.getLastD 0) y true).2,yK++[lt],i+1)) Q):
  WP (MN lt qb i sW ps secs ks yK cont pos ()) Q:=by
 unfold MN
 have hx2:x.length≤10:=htt x (List.mem_of_getElem? hx)
 have hy2:y.length≤10:=htt y (List.mem_of_getElem? hy)
 obtain⟨a,r,rfl⟩:∃a r,lt=a::r:=by cases lt with|nil=>simp at h0|cons a r=>exact⟨a,r,rfl⟩
 have e0:idx (a::r) 0=some a:=rfl
 rw[e0,Option.bind_some,mR,hx,Option.bind_some,aeb _ _ _ _ (by simp only;omega) (by omega) (by simp only;omega),Option.bind_some]
 refine gX ⟨by omega,by omega⟩ ?_
 have e1:idx (a::r) (((a::r).length:Int)-1)=some ((a::r).getLastD 0):=by
  have:(((a::r).length:Int)-1)=((r.length:Nat):Int):=by simp
  rw[this,mR,List.getLastD_eq_getLast?,List.getLast?_eq_getElem?]
  simp
 rw[e1,Option.bind_some]
 refine gX ⟨by omega,by omega⟩ ?_
 have e2:((i:Int)+1)=((i+1:Nat):Int):=by omega
 rw[e2,mR,hy,Option.bind_some]
 have l1:(wL ps ks a x false).2.length≤200:=by simp[wL,Y9];omega
 have l2:(wL ps ks a x false).1.length<10:=by unfold wL;split<;>simp<;>omega
 rw[aeb _ _ _ _ (by simp only;omega) (by omega) (by simpa using l2),Option.bind_some]
 refine kK (by simp;omega) ?_
 simp only[aa0]
 refine gX ⟨by omega,by omega⟩ ?_
 exact hc
structure Inv1(l:List Int)(n:Nat)(s:Int×(List Str)×(List Section)×(List (List Int))×Nat):Prop where
 src:qd l s.1
 rng:zD s.2.2.1
 ex:∃ts:List Nat,ts.length=s.2.2.2.2∧ts.length≤n∧(∀k∈ts,k=1∨k=2)∧(s.2.1,s.2.2.1.map vM,s.2.2.2.1)=nM ts
theorem ahM(ts:List Nat)(k:Nat):nM (ts++[k])=step1 (nM ts) k:=by simp[nM,List.foldl_append]
theorem ahN(ts bs:List Nat)(k:Nat):oV ts (bs++[k])=step2 (nM ts).2.2 (oV ts bs) k:=by simp[oV,List.foldl_append]
theorem ahS{P:List Nat→Prop}(h0:P [])(h1:∀l k,P l→P (l++[k]))(l:List Nat):P l:=by
 have:∀r:List Nat,P r.reverse:=by
  intro r
  induction r with
  |nil=>exact h0
  |cons a r ih=>rw[List.reverse_cons];exact h1 _ _ ih
 have:=this l.reverse
 rwa [List.reverse_reverse] at this
theorem acu(ts:List Nat):(∀k∈ts,k=1∨k=2)→(nM ts).1.length=ts.length∧(nM ts).2.1.length≤2*ts.length∧(nM ts).2.2.length=ts.length∧∀t∈(nM ts).2.2,t.length≤10:=by
 induction ts using ahS with
 |h0=>intro _;simp[nM]
 |h1 l k ih=>
  intro hk
  obtain⟨a,b,c,d⟩:=ih (fun x hx=>hk x (by simp[hx]))
  have:=hk k (by simp)
  rw[ahM]
  refine⟨by simp[step1,a],by simp[step1,aia];omega,by simp[step1,c],?_⟩
  intro t ht
  simp[step1] at ht
  rcases ht with h|rfl
  ·exact d t h
  ·rw[IY];omega
theorem arj(ts bs:List Nat):(∀k∈ts,k=1∨k=2)→(∀k∈bs,k=1∨k=2)→(oV ts bs).1.length≤2*bs.length∧(oV ts bs).2.1.length≤2*ts.length+2*bs.length∧(oV ts bs).2.2.1.length≤30*bs.length∧(oV ts bs).2.2.2.length=bs.length:=by
 intro h1
 obtain⟨a,b,c,d⟩:=acu ts h1
 have dd:∀i,((nM ts).2.2.getD i []).length≤10:=by
  intro i
  rw[List.getD_eq_getElem?_getD]
  cases h:(nM ts).2.2[i]? with
  |none=>simp
  |some t=>simpa using d t (List.mem_of_getElem? h)
 induction bs using ahS with
 |h0=>intro _;simp[oV];omega
 |h1 l k ih=>
  intro hk
  obtain⟨e,f,g,j⟩:=ih (fun x hx=>hk x (by simp[hx]))
  have hk2:=hk k (by simp)
  rw[ahN]
  have d1:=dd (oV ts l).2.2.2.length
  have d2:=dd ((oV ts l).2.2.2.length+1)
  have il:=aaE (uL (oV ts l).2.1.length k) 0 (uL (oV ts l).2.1.length k)
  rw[IY] at il
  refine⟨?_,?_,?_,?_⟩
  ·simp only[step2,wL]
   split<;>split<;>simp<;>omega
  ·simp[step2,afC];omega
  ·simp only[step2,wL]
   simp only[List.length_append,Y9]
   simp only[List.length_singleton,List.length_nil]
   omega
  ·simp[step2,j]
structure Inv2(l:List Int)(n:Nat)(ts:List Nat)(s:Int×(List Str)×(List Section)×(List Link)×(List (List Int))×Nat):Prop where
 src:qd l s.1
 rng:zD s.2.2.1
 ex:∃bs:List Nat,bs.length=s.2.2.2.2.2∧bs.length+1≤n∧(∀k∈bs,k=1∨k=2)∧(s.2.1,s.2.2.1.map vM,s.2.2.2.1,s.2.2.2.2.1)=oV ts bs
structure YB(l:List Int)(y:dM×Int):Prop where
 src:qd l y.2
 rng:zD y.1.l.Sections
 ex:∃ts bs:List Nat,(ts.length=2∨ts.length=3)∧bs.length+1=ts.length∧(∀k∈ts,k=1∨k=2)∧(∀k∈bs,k=1∨k=2)∧erase y.1.l=shape ts bs∧y.1.tracks=(nM ts).2.2∧y.1.between=(oV ts bs).2.2.2∧y.1.eX=[]
theorem aqP{l:List Int}{s0:bZ}(hs0:s0.l=l)(y2:Int×Int)(n:Nat)(hn:n=2∨n=3)(hy:2+y2.1=n)(ts:List Nat)(ht:ts.length=n)(htk:∀k∈ts,k=1∨k=2)
  (sW:List Str)(qb:List (List Int))(secs:List Section)(pos:Int)(hsrc:qd l pos)(anI:zD secs)(he:(sW,secs.map vM,qb)=nM ts):
  WP (VU y2 s0 sW qb pos secs ()) (YB l):=by
 unfold VU
 obtain⟨f1,f2,f3,f4⟩:=acu ts htk
 have e1:sW=(nM ts).1:=congrArg Prod.fst he
 have e2:secs.map vM=(nM ts).2.1:=congrArg (fun p=>p.2.1) he
 have e3:qb=(nM ts).2.2:=congrArg (fun p=>p.2.2) he
 refine EI (Inv2 l n ts) (fun s=>n-s.2.2.2.2.2) _ ?_ FUEL _ ⟨hsrc,anI,[],rfl,by simp;omega,by simp,by rw[e2];rfl⟩ (jh (by omega))
 rintro c ⟨p,ps,ss,ks,yK,i⟩ ⟨h1,h2,bs,h3,h4,h5,h6⟩ hc
 simp only at h1 h2 h3 h6 hc
 obtain⟨g1,g2,g3,g4⟩:=arj ts bs htk h5
 have a1:ps=(oV ts bs).1:=congrArg Prod.fst h6
 have a2:ss.map vM=(oV ts bs).2.1:=congrArg (fun p=>p.2.1) h6
 have a3:ks=(oV ts bs).2.2.1:=congrArg (fun p=>p.2.2.1) h6
 have a4:yK=(oV ts bs).2.2.2:=congrArg (fun p=>p.2.2.2) h6
 have a2l:ss.length=(oV ts bs).2.1.length:=by rw[←a2];simp
 simp only[aaW]
 refine gX ⟨by omega,by omega⟩ ?_
 rw[hy]
 refine nN ?_ ?_
 ·intro hlt
  have hlt:i+1<n:=by simp at hlt;omega
  obtain⟨v,j,ev,v0,v1,hj⟩:=mE h1 2 (by omega) (by omega)
  rw[hs0,ev,Option.bind_some]
  simp only
  refine gX ⟨by omega,by omega⟩ ?_
  obtain⟨k,hk⟩:∃k:Nat,(1+v)=(k:Int):=⟨(1+v).toNat,by omega⟩
  have ZT:k=1∨k=2:=by omega
  rw[hk]
  refine aiZ hs0 (by omega) k FUEL j ss [] (by omega) (jh (by omega)) hj (by omega) (by simp;omega) h2 ?_
  intro pos' Ar hp' Z6 hr'
  rw[List.nil_append]
  have til:=aaE (uL ss.length k) 0 (uL ss.length k)
  rw[IY] at til
  rw[aot _ _ _ _ _ _ _ _ _ _ (by rw[IY];omega) (by rw[a3];omega) (by rw[IY];omega)]
  obtain⟨x,hx⟩:∃x,qb[i]?=some x:=⟨_,List.getElem?_eq_getElem (by rw[e3];omega)⟩
  obtain⟨y,hy2⟩:∃y,qb[i+1]?=some y:=⟨_,List.getElem?_eq_getElem (by rw[e3];omega)⟩
  refine aoM _ _ _ _ _ _ _ _ _ _ (by rw[IY];omega) (by simp only[List.length_append];rw[a3];omega) (by rw[IY];omega) (by omega) (by rw[e3];omega) (by rw[e3];exact f4) (by rw[a1];omega) (by rw[a4];omega) x y hx hy2 ?_
  refine hc _ ⟨hp',hr',bs++[k],by simp[h3],by simp;omega,?_,?_⟩ (by simp only;omega)
  ·intro q hq
   rcases List.mem_append.1 hq with h|h
   ·exact h5 q h
   ·rw[List.mem_singleton] at h;subst h;exact ZT
  ·have b4:yK.length=i:=by rw[a4,g4,h3]
   have ex:(nM ts).2.2.getD i []=x:=by rw[←e3,List.getD_eq_getElem?_getD,hx];rfl
   have ey:(nM ts).2.2.getD (i+1) []=y:=by rw[←e3,List.getD_eq_getElem?_getD,hy2];rfl
   rw[ahN]
   simp only[step2]
   rw[←a1,←a3,←a4,←a2,List.length_map,b4,ex,ey,Z6]
 ·intro hge
  have hge:¬(i+1<n):=by simp at hge;omega
  simp only[aaZ]
  refine Ll ⟨h1,h2,ts,bs,by omega,by omega,htk,h5,?_,e3,a4,rfl⟩
  simp only[erase,shape]
  rw[←a1,←a2,←a3,←e1]
theorem aqT{l:List Int}{i:Int}(h:qd l i):WP (Rc ⟨l,i⟩) (YB l):=by
 unfold Rc
 obtain⟨v,j,ev,v0,v1,hj⟩:=mE h 2 (by omega) (by omega)
 rw[ev,Option.bind_some]
 simp only
 refine gX ⟨by omega,by omega⟩ ?_
 obtain⟨n,hn⟩:∃n:Nat,(2+v)=(n:Int):=⟨(2+v).toNat,by omega⟩
 have amu:n=2∨n=3:=by omega
 refine EI (Inv1 l n) (fun s=>n-s.2.2.2.2) _ ?_ FUEL _ ⟨hj,fun s hs=>by simp at hs,[],rfl,by simp,by simp,rfl⟩ (jh (by omega))
 rintro c ⟨p,sW,ss,qb,i⟩ ⟨h1,h2,ts,h3,h4,h5,h6⟩ hc
 simp only at h1 h2 h3 h6 hc
 obtain⟨f1,f2,f3,f4⟩:=acu ts h5
 have e1:sW=(nM ts).1:=congrArg Prod.fst h6
 have e2:ss.map vM=(nM ts).2.1:=congrArg (fun p=>p.2.1) h6
 have e3:qb=(nM ts).2.2:=congrArg (fun p=>p.2.2) h6
 have e2l:ss.length=(nM ts).2.1.length:=by rw[←e2];simp
 simp only[aaV]
 rw[hn]
 refine nN ?_ ?_
 ·intro hlt
  have hlt:i<n:=by simp at hlt;omega
  rw[J8 _ _ (by omega) (by decide),Option.bind_some]
  refine kK (by simp[e1];omega) ?_
  obtain⟨w,j,ev,v0,v1,hj⟩:=mE h1 2 (by omega) (by omega)
  rw[ev,Option.bind_some]
  simp only
  refine gX ⟨by omega,by omega⟩ ?_
  obtain⟨k,hk⟩:∃k:Nat,(1+w)=(k:Int):=⟨(1+w).toNat,by omega⟩
  have ZT:k=1∨k=2:=by omega
  rw[hk]
  refine arQ rfl (by omega) (by rw[e3];omega) k FUEL j ss [] (by omega) (jh (by omega)) hj (by omega) (by simp;omega) h2 ?_
  intro pos' Ar hp' Z6 hr'
  refine hc _ ⟨hp',hr',ts++[k],by simp[h3],by simp;omega,?_,?_⟩ (by simp only;omega)
  ·intro q hq
   rcases List.mem_append.1 hq with h|h
   ·exact h5 q h
   ·rw[List.mem_singleton] at h;subst h;exact ZT
  ·have b4:sW.length=i:=by rw[e1,f1,h3]
   rw[ahM]
   simp only[step1]
   rw[←e1,←e2,←e3,List.length_map,b4,Z6,List.nil_append]
 ·intro hge
  have hge:¬(i<n):=by simp at hge;omega
  exact aqP rfl (v,j) n amu hn ts (by omega) h5 sW qb ss p h1 h2 h6
/-! ### The forty shapes -/
def arf:List (List Nat×List Nat):=[1,2].flatMap fun a=>[1,2].flatMap fun b=>[1,2].map fun c=>([a,b],[c])
def arh:List (List Nat×List Nat):=[1,2].flatMap fun a=>[1,2].flatMap fun b=>[1,2].flatMap fun c=>[1,2].flatMap fun d=>[1,2].map fun e=>([a,b,c],[d,e])
def shapes:List (List Nat×List Nat):=arf++arh
theorem len1{l:List Nat}(h:l.length=1):∃a,l=[a]:=by
 match l,h with
 |[a],_=>exact⟨a,rfl⟩
theorem len2{l:List Nat}(h:l.length=2):∃a b,l=[a,b]:=by
 match l,h with
 |[a,b],_=>exact⟨a,b,rfl⟩
theorem ao2{l:List Nat}(h:l.length=3):∃a b c,l=[a,b,c]:=by
 match l,h with
 |[a,b,c],_=>exact⟨a,b,c,rfl⟩
theorem afE{ts bs:List Nat}(h1:ts.length=2∨ts.length=3)(h2:bs.length+1=ts.length)(h3:∀k∈ts,k=1∨k=2)(h4:∀k∈bs,k=1∨k=2):(ts,bs)∈shapes:=by
 rcases h1 with h|h
 ·obtain⟨a,b,rfl⟩:=len2 h
  obtain⟨c,rfl⟩:=len1 (show bs.length=1 by simp at h2;omega)
  have a1:=h3 a (by simp);have b1:=h3 b (by simp);have c1:=h4 c (by simp)
  rcases a1 with rfl|rfl<;>rcases b1 with rfl|rfl<;>rcases c1 with rfl|rfl<;>decide
 ·obtain⟨a,b,c,rfl⟩:=ao2 h
  obtain⟨d,e,rfl⟩:=len2 (show bs.length=2 by simp at h2;omega)
  have a1:=h3 a (by simp);have b1:=h3 b (by simp);have c1:=h3 c (by simp);have d1:=h4 d (by simp);have e1:=h4 e (by simp)
  rcases a1 with rfl|rfl<;>rcases b1 with rfl|rfl<;>rcases c1 with rfl|rfl<;>rcases d1 with rfl|rfl<;>rcases e1 with rfl|rfl<;>decide
structure Pg(l:Layout):Prop where
 rng:zD l.Sections
 ex:∃p∈shapes,erase l=shape p.1 p.2
theorem ari:shapes.all (fun p=>decide (kR (fG (shape p.1 p.2))=0))=true:=by decide+kernel
theorem ahH(n:Nat):∀(ss:List Section) (seen:List ByteArray),zD ss→mO n seen (ss.map pX)=mO n seen ((ss.map vM).map pX)
 |[],_,_=>rfl
 |s::ss,seen,h=>by
  have ih:=ahH n ss (seen++[s.Name.ba]) (fun x hx=>h x (by simp[hx]))
  have hs:=h s (by simp)
  unfold LG at hs
  have e:xq n (pX s)=xq n (pX (vM s)):=by
   rw[Bool.eq_iff_iff]
   simp only[xq,pX,vM,Bool.and_eq_true,decide_eq_true_eq]
   obtain⟨q1,q2,q3,q4,q5,q6⟩:=hs
   constructor<;>(rintro⟨⟨_,a⟩,b⟩;refine⟨⟨⟨⟨⟨⟨⟨?_,?_⟩,?_⟩,?_⟩,?_⟩,?_⟩,a⟩,b⟩<;>first|omega|decide|(apply decide_eq_true;omega))
  simp only[List.map_cons,mO]
  rw[e]
  have e2:(pX s).name=s.Name.ba:=rfl
  have e3:(pX (vM s)).name=s.Name.ba:=rfl
  rw[e2,e3,ih]
theorem afy(a b:Lay)(h1:a.sections.length=b.sections.length)(h2:a.points.length=b.points.length):∀(ks done:List fQ),pQ a done ks=pQ b done ks
 |[],_=>rfl
 |k::ks,done=>by
  have ih:=afy a b h1 h2 ks (done++[k])
  have e:oM a k=oM b k:=by simp only[oM,h1,h2]
  simp only[pQ]
  rw[e,ih]
theorem ajm(l:Layout)(h:zD l.Sections):kR (fG l)=kR (fG (erase l)):=by
 have e1:(fG (erase l)).nU=(fG l).nU:=rfl
 have e2:(fG (erase l)).points=(fG l).points:=rfl
 have e4:(fG (erase l)).links=(fG l).links:=rfl
 have e3:(fG (erase l)).sections.length=(fG l).sections.length:=by simp[fG,erase]
 have e5:mO (fG l).nU.length [] (fG l).sections=mO (fG l).nU.length [] (fG (erase l)).sections:=ahH _ _ _ h
 unfold kR vQ
 rw[e1,e2,e4,e3,e5,afy (fG (erase l)) (fG l) e3 rfl]
theorem aej{l:Layout}(h:Pg l):kR (fG l)=0:=by
 obtain⟨hr,p,hp,he⟩:=h
 rw[ajm l hr,he]
 have:=List.all_eq_true.1 ari p hp
 simpa using this
end Go.Proofs.YtcalibhfgdncaaaGreatDoor
namespace Go.Proofs.YtcalibhfgdncaaaGreatDoor
open Go.Dc
set_option maxRecDepth 10000
theorem zq{α β:Type}{xs:List α}{i:Int}{K:α→Option β}{Q:β→Prop}(h:0≤i∧i<xs.length)(hk:∀x∈xs,WP (K x) Q):WP ((idx xs i).bind K) Q:=by
 have hl:i.toNat<xs.length:=by omega
 have e:idx xs i=some (xs[i.toNat]):=by simp[idx,h.1,List.getElem?_eq_getElem hl]
 rw[e];exact hk _ (List.getElem_mem hl)
theorem ah8{a:Int}{n:Nat}(h0:0≤a)(hn:0<n):0≤a.tmod (n:Int)∧a.tmod (n:Int)<n:=by
 rw[Int.tmod_eq_emod_of_nonneg h0]
 exact⟨Int.emod_nonneg _ (by omega),Int.emod_lt_of_pos _ (by omega)⟩
theorem Ec{α β:Type}[Inhabited α]{xs:List α}{i:Int}{K:α→Option β}(h:0≤i∧i<xs.length):(idx xs i).bind K=K (xs.getD i.toNat default):=by
 rw[uq h.1 h.2,Option.bind_some]
/-! ### What is read of a row of stations: for the forty shapes -/
def OL(tr:List (List Int))(i a:Int):Int:=gi (gll tr i) (a.tmod ((gll tr i).length:Int))
def rtB(p:List Nat×List Nat)(i a c:Int)(up:Bool):Bool:=
 match FE ⟨⟨[],[],[],[]⟩,(nM p.1).2.2,(oV p.1 p.2).2.2.2,[]⟩ i a c up with
 |some r=>decide (r.Overlap=0)&&decide (2≤r.Steps.length)&&decide (r.Steps.length≤10)&&r.Steps.all (iR (shape p.1 p.2))&& !(rF [] r.Steps)&&decide ((uD (shape p.1 p.2) r).2=0)
  &&decide (nZ r=OL (nM p.1).2.2 (if up then i else i+1) (if up then a else c))&&decide (lC r=OL (nM p.1).2.2 (if up then i+1 else i) (if up then c else a))
  &&decide (0≤pY (shape p.1 p.2) (nZ r))&&decide (0≤pY (shape p.1 p.2) (lC r))
 |none=>false
def ahs(p:List Nat×List Nat):Bool:=
 decide (1≤(oV p.1 p.2).2.2.2.length)&&decide ((oV p.1 p.2).2.2.2.length≤2)&&decide (2≤(shape p.1 p.2).aU.length)&&decide ((shape p.1 p.2).aU.length≤3)
 &&[0,1].all fun i=>decide (((oV p.1 p.2).2.2.2.length:Int)≤i)||[0,1].all fun a=>[0,1].all fun c=>[true,false].all fun up=>rtB p i a c up
theorem aqQ:shapes.all ahs=true:=by decide+kernel
theorem aqM{b b':dM}(h1:b.tracks=b'.tracks)(h2:b.between=b'.between)(i a c:Int)(up:Bool):FE b i a c up=FE b' i a c up:=by
 have e1:∀x,Q8 x i b c=Q8 x i b' c:=fun x=>by
  funext k ⟨q,t⟩
  simp only[Q8,aaT,h1]
 have e2:∀x,Q9 x b i a=Q9 x b' i a:=fun x=>by
  funext k ⟨q,t⟩
  simp only[Q9,aaU,h1]
 unfold FE aaS
 simp only[h1,h2,e1,e2]
structure LH(l:Layout)(r:aO):Prop where
 pt:(jH l r).2=0
 ov:r.Overlap=0
 two:2≤r.Steps.length
 few:r.Steps.length≤10
 s0:0≤pY l (nZ r)
 s1:0≤pY l (lC r)
theorem aow(l:Layout):iR (erase l)=iR l:=by
 funext s
 unfold iR
 simp only[erase,List.length_map]
theorem af3(l:Layout):∀(ss:List Step) (a:Step),Ag (erase l) a ss=Ag l a ss
 |[],_=>rfl
 |b::r,a=>by
  simp only[Ag]
  rw[af3 l r b];rfl
theorem ap9(l:Layout)(r:aO):uD (erase l) r=uD l r:=by
 have e:Nv (erase l) r.Steps=Nv l r.Steps:=by
  cases r.Steps with
  |nil=>rfl
  |cons a q=>exact af3 l q a
 unfold uD
 rw[e]
theorem arv(l:Layout)(s:Int):pY (erase l) s=pY l s:=by
 unfold pY
 simp only[erase,List.getD_eq_getElem?_getD,List.getElem?_map]
 cases l.Sections[s.toNat]?<;>rfl
structure ady(b:dM):Prop where
 g:Pg b.l
 b1:1≤b.between.length
 b2:b.between.length≤2
 st:2≤b.l.aU.length∧b.l.aU.length≤3
 rt:∀(i a c:Int) (up:Bool),0≤i→i<b.between.length→0≤a→a<2→0≤c→c<2→∃r,FE b i a c up=some r∧LH b.l r
  ∧nZ r=OL b.tracks (if up then i else i+1) (if up then a else c)∧lC r=OL b.tracks (if up then i+1 else i) (if up then c else a)
theorem acN{i:Int}(h0:0≤i)(h1:i<2):i∈[(0:Int),1]:=by
 have:i=0∨i=1:=by omega
 rcases this with rfl|rfl<;>simp
theorem aqR{l:List Int}{y:dM×Int}(h:YB l y):ady y.1:=by
 obtain⟨_,hr,ts,bs,h1,h2,h3,h4,h5,h6,h7,_⟩:=h
 have hg:Pg y.1.l:=⟨hr,(ts,bs),afE h1 h2 h3 h4,h5⟩
 have hb:=List.all_eq_true.1 aqQ _ (afE h1 h2 h3 h4)
 unfold ahs at hb
 simp only[Bool.and_eq_true,decide_eq_true_eq] at hb
 obtain⟨⟨⟨⟨q1,q2⟩,q3⟩,q4⟩,q5⟩:=hb
 have est:y.1.l.aU.length=(shape ts bs).aU.length:=by rw[←h5];rfl
 refine⟨hg,by rw[h7];exact q1,by rw[h7];exact q2,by rw[est];exact⟨q3,q4⟩,fun i a c up i0 i1 a0 a1 c0 c1=>?_⟩
 rw[h7] at i1
 have f1:=List.all_eq_true.1 q5 i (acN i0 (by omega))
 simp only[Bool.or_eq_true,decide_eq_true_eq] at f1
 rcases f1 with f1|f1
 ·omega
 have f2:=List.all_eq_true.1 f1 a (acN a0 a1)
 have f3:=List.all_eq_true.1 f2 c (acN c0 c1)
 have f4:=List.all_eq_true.1 f3 up (by cases up<;>simp)
 unfold rtB at f4
 rw[aqM (b:=y.1) (b':=⟨⟨[],[],[],[]⟩,(nM ts).2.2,(oV ts bs).2.2.2,[]⟩) h6 h7]
 cases hm:FE ⟨⟨[],[],[],[]⟩,(nM ts).2.2,(oV ts bs).2.2.2,[]⟩ i a c up with
 |none=>simp only[hm] at f4;cases f4
 |some r=>
  simp only[hm,Bool.and_eq_true,decide_eq_true_eq,Bool.not_eq_true'] at f4
  obtain⟨⟨⟨⟨⟨⟨⟨⟨⟨g1,g2⟩,g3⟩,g4⟩,g5⟩,g6⟩,g7⟩,g8⟩,g9⟩,g10⟩:=f4
  rw[←h5] at g4 g6 g9 g10
  rw[aow] at g4
  rw[ap9] at g6
  rw[arv] at g9 g10
  refine⟨r,rfl,⟨?_,g1,g2,g3,g9,g10⟩,by rw[h6];exact g7,by rw[h6];exact g8⟩
  unfold jH
  rw[if_neg (by simp[aej hg]),if_neg (by omega),if_neg (by omega),if_neg (by simp[g4]),if_neg (by simp[g5])]
  exact g6
/-! ### A line -/
def RdV(rs:List aO)(n k:Nat)(r:aM):Prop:=
 (0≤r.aO∧r.aO<(rs.length:Int))∧(0≤r.Extra∧r.Extra≤2)∧(0≤r.Min∧r.Min≤r.Max∧r.Max≤r.Min+3∧r.Min≤10)∧(k+1=n→r.Min=0∧r.Max=0)
def KH(rs:List aO)(r:aM):aO:=rs.getD r.aO.toNat default
structure Yu(rs:List aO)(x:Line):Prop where
 st:x.aH=0
 w:0≤x.Weight∧x.Weight≤3
 pos:0<x.aJ.length
 few:x.aJ.length≤2
 rd:∀k,k<x.aJ.length→RdV rs x.aJ.length k (jo x k)
 jn:∀k,0<k→k<x.aJ.length→nZ (KH rs (jo x k))=lC (KH rs (jo x (k-1)))
structure Gm(l:Layout)(rs:List aO)(ls:List Line):Prop where
 rt:∀r∈rs,LH l r
 ln:∀x∈ls,Yu rs x
 nm:∀i,i<ls.length→(ls.getD i default).Name=rM ⟨[78]⟩ i
theorem ahw{rs q:List aO}{r:aM}(h:0≤r.aO∧r.aO<(rs.length:Int)):KH (rs++q) r=KH rs r:=by
 unfold KH
 rw[List.getD_eq_getElem?_getD,List.getD_eq_getElem?_getD,List.getElem?_append_left (by omega)]
theorem apf{rs q:List aO}{x:Line}(h:Yu rs x):Yu (rs++q) x:=by
 refine⟨h.st,h.w,h.pos,h.few,fun k hk=>?_,fun k h0 hk=>?_⟩
 ·obtain⟨a,b⟩:=h.rd k hk
  exact⟨⟨a.1,by rw[List.length_append];omega⟩,b⟩
 ·rw[ahw (h.rd k hk).1,ahw (h.rd (k-1) (by omega)).1]
  exact h.jn k h0 hk
def Yt(l:List Int)(lay:Layout)(p:Plan)(y:Int×List aO×List Line):Prop:=qd l y.1∧Gm lay y.2.1 y.2.2∧y.2.1.length≤p.Routes.length+2∧y.2.2.length=p.Lines.length+1
structure RdI(b:dM)(up:Bool)(Bj:List Int)(p:Plan)(many:Int)(l:List Int)(q:Int×List aO×List aM×Nat):Prop where
 src:qd l q.1
 le:(q.2.2.2:Int)≤many
 len:q.2.2.1.length=q.2.2.2
 ex:∃new,q.2.1=p.Routes++new∧new.length=q.2.2.2∧(∀r∈new,LH b.l r)∧(∀j,j<q.2.2.2→nZ (new.getD j default)=OL b.tracks (if up then (j:Int) else many-j) (gi Bj (if up then (j:Int) else many-j))
  ∧lC (new.getD j default)=OL b.tracks (if up then (j:Int)+1 else many-j-1) (gi Bj (if up then (j:Int)+1 else many-j-1)))
 rd:∀j,j<q.2.2.2→(q.2.2.1.getD j default).aO=(p.Routes.length:Int)+j∧(0≤(q.2.2.1.getD j default).Extra∧(q.2.2.1.getD j default).Extra≤2)∧
  (0≤(q.2.2.1.getD j default).Min∧(q.2.2.1.getD j default).Min≤(q.2.2.1.getD j default).Max∧(q.2.2.1.getD j default).Max≤(q.2.2.1.getD j default).Min+3∧(q.2.2.1.getD j default).Min≤10)∧
  ((j:Int)+1=many→(q.2.2.1.getD j default).Min=0∧(q.2.2.1.getD j default).Max=0)
theorem Ze{α:Type}[Inhabited α](xs:List α)(x:α)(j:Nat)(h:j<xs.length+1):(xs++[x]).getD j default=if j<xs.length then xs.getD j default else x:=by
 rw[List.getD_eq_getElem?_getD,List.getD_eq_getElem?_getD]
 split
 ·rename_i hj;rw[List.getElem?_append_left hj]
 ·have:j=xs.length:=by omega
  subst this;simp
theorem ao6{b:dM}(R:ady b){l:List Int}{pos:Int}(hs:qd l pos){p:Plan}(hp:Gm b.l p.Routes p.Lines)(h1:p.Routes.length≤100)(h2:p.Lines.length<10){up:Bool}{many:Int}(hm:1≤many∧many≤b.between.length):
  WP (Q6 b ⟨l,pos⟩ p up many) (Yt l b.l p):=by
 have hb2:=R.b2
 unfold Q6
 rw[J8 _ _ h2 (by decide),Option.bind_some]
 obtain⟨v,j,ev,v0,v1,hj⟩:=mE hs 4 (by omega) (by omega)
 rw[ev,Option.bind_some]
 refine EI (fun (q:Int×List Int×Nat)=>qd l q.1∧q.2.1.length=3∧q.2.2≤3∧∀x∈q.2.1,0≤x∧x<2) (fun q=>3-q.2.2) _ ?_ FUEL _ ⟨hj,by simp,by simp,by simp⟩ (jh (by omega))
 rintro c ⟨p1,Bj,t⟩ ⟨g1,g2,g3,g4⟩ hc
 simp only at g1 g2 g3 g4 hc
 simp only[aaN]
 refine nN (fun h=>?_) (fun h=>?_)
 ·simp only[decide_eq_true_eq] at h
  obtain⟨x,k,ex,x0,x1,hk⟩:=mE g1 2 (by omega) (by omega)
  rw[ex,Option.bind_some]
  refine zq (by omega) fun _ _=>hc _ ⟨hk,by simp only[List.length_set];omega,by simp only;omega,fun z hz=>?_⟩ (by simp only;omega)
  rcases List.mem_or_eq_of_mem_set hz with hz|hz
  ·exact g4 z hz
  ·subst hz;exact⟨x0,x1⟩
 ·have aek:∀i:Int,0≤i→i<3→0≤gi Bj i∧gi Bj i<2:=fun i i0 i1=>by
   have hl:i.toNat<Bj.length:=by omega
   have:gi Bj i∈Bj:=by unfold gi;simp[hl]
   exact g4 _ this
  unfold aaP
  refine EI (RdI b up Bj p many l) (fun q=>2-q.2.2.2) _ ?_ FUEL _ ⟨g1,by simp;omega,rfl,⟨[],by simp,rfl,by simp,fun j hj=>by simp at hj⟩,fun j hj=>by simp at hj⟩ (jh (by omega))
  rintro c2 ⟨p2,rs,rd,k⟩ ⟨i1,i2,i3,⟨new,n1,n2,n3,n4⟩,i5⟩ hc2
  simp only at i1 i2 i3 n1 n2 n4 i5 hc2
  subst n1
  simp only[aaO]
  refine nN (fun hk=>?_) (fun hk=>?_)
  ·simp only[decide_eq_true_eq] at hk
   have core:∀i:Int,i=(if up then (k:Int) else many-1-k)→WP (MK Bj b up (p.Routes++new) ⟨l,pos⟩ p2 k many rd c2 i) (Yt l b.l p):=by
    intro i ei
    have hi:0≤i∧i<many:=by cases up<;>simp at ei<;>omega
    unfold MK
    have ga:=aek i hi.1 (by omega)
    have gd:=aek (i+1) (by omega) (by omega)
    refine aio (by omega) (gX (by omega) (aio (by omega) ?_))
    obtain⟨r,er,hr,hr1,hr2⟩:=R.rt i (gi Bj i) (gi Bj (i+1)) up hi.1 (by omega) ga.1 ga.2 gd.1 gd.2
    rw[er,Option.bind_some]
    refine kK (by simp;omega) (gX (by simp;omega) ?_)
    obtain⟨x,k3,ex,x0,x1,hk3⟩:=mE i1 3 (by omega) (by omega)
    rw[ex,Option.bind_some]
    have fin:∀(p5 mn mx:Int),qd l p5→0≤mn∧mn≤mx∧mx≤mn+3∧mn≤10→((k:Int)+1=many→mn=0∧mx=0)→WP (ML rd (p.Routes++new) r x k c2 (p5,mn,mx)) (Yt l b.l p):=by
     intro p5 mn mx h5 hb hlast
     unfold ML
     refine kK (by simp;omega) (gX (by omega) (hc2 _ ⟨h5,by simp only;omega,by simp;omega,⟨new++[r],by simp,by simp;omega,fun q hq=>?_,fun j hj=>?_⟩,fun j hj=>?_⟩ (by simp only;omega)))
     ·rcases List.mem_append.1 hq with hq|hq
      ·exact n3 q hq
      ·rw[List.mem_singleton] at hq;subst hq;exact hr
     ·simp only at hj
      rw[Ze _ _ _ (by omega)]
      split
      ·exact n4 j (by omega)
      ·have:j=k:=by omega
       subst this
       rw[hr1,hr2]
       cases up
       ·simp at ei ⊢
        have e1:i+1=many-j:=by omega
        have e2:i=many-j-1:=by omega
        rw[e1,e2];exact⟨rfl,rfl⟩
       ·simp at ei ⊢
        rw[ei];exact⟨rfl,rfl⟩
     ·simp only at hj ⊢
      rw[Ze _ _ _ (by omega)]
      split
      ·exact i5 j (by omega)
      ·have:j=k:=by omega
       subst this
       simp only[List.length_append,List.length_singleton]
       exact⟨by omega,by omega,hb,hlast⟩
    unfold VT
    refine gX (by omega) (nN (fun hlt=>?_) (fun hlt=>fin _ _ _ hk3 (by omega) (fun _=>⟨rfl,rfl⟩)))
    simp only[decide_eq_true_eq] at hlt
    obtain⟨y,k4,ey,y0,y1,hk4⟩:=mE hk3 6 (by omega) (by omega)
    rw[ey,Option.bind_some]
    refine gX (by simp only;omega) ?_
    obtain⟨z,k5,ez,z0,z1,hk5⟩:=mE hk4 4 (by omega) (by omega)
    rw[ez,Option.bind_some]
    exact gX (by simp only;omega) (fin _ _ _ hk5 (by simp only;omega) (by omega))
   refine nN (fun hu=>gX (by omega) (gX (by omega) (core _ ?_))) (fun hu=>core _ ?_)
   ·simp at hu;rw[hu];rfl
   ·simp at hu;rw[hu];rfl
  ·unfold aaQ
   simp only[decide_eq_false_iff_not] at hk
   have ekm:(k:Int)=many:=by omega
   refine kK (by simp;omega) (Ll ⟨i1,⟨fun q hq=>?_,fun x hx=>?_,fun i hi=>?_⟩,(by simp;omega),by simp⟩)
   ·rcases List.mem_append.1 hq with hq|hq
    ·exact hp.rt q hq
    ·exact n3 q hq
   ·rcases List.mem_append.1 hx with hx|hx
    ·exact apf (hp.ln x hx)
    ·rw[List.mem_singleton] at hx;subst hx
     have nth:∀j,j<k→KH (p.Routes++new) (rd.getD j default)=new.getD j default:=fun j hj=>by
      unfold KH
      rw[(i5 j hj).1,List.getD_eq_getElem?_getD,List.getD_eq_getElem?_getD,List.getElem?_append_right (by omega)]
      congr 2;omega
     refine⟨rfl,⟨by simp only;omega,by simp only;omega⟩,by simp only;omega,by simp only;omega,fun j hj=>?_,fun j h0 hj=>?_⟩
     ·simp only at hj
      obtain⟨d1,d2,d3,d4⟩:=i5 j (by omega)
      refine⟨?_,d2,d3,fun e=>d4 (by simp only at e;omega)⟩
      unfold jo
      simp only
      rw[d1,List.length_append];omega
     ·simp only at hj
      unfold jo
      simp only
      rw[nth j (by omega),nth (j-1) (by omega),(n4 j (by omega)).1,(n4 (j-1) (by omega)).2]
      cases up
      ·have e:many-(j:Int)=many-((j-1:Nat):Int)-1:=by omega
       simp only[Bool.false_eq_true,if_false];rw[e]
      ·have e:(j:Int)=((j-1:Nat):Int)+1:=by omega
       simp only[if_true];rw[←e]
   ·simp only at hi ⊢
    rw[Ze _ _ _ (by simpa using hi)]
    split
    ·rename_i hlt;exact hp.nm i hlt
    ·simp at hi
     have:i=p.Lines.length:=by omega
     subst this;rfl
/-! ### Starts and stops, turns -/
theorem Vr{p:Plan}{i k:Int}(h1:i<(p.Lines.length:Int))(h0:0≤i)(h2:0≤k)(h3:k<((dB p i.toNat).aJ.length:Int)):fF p i k=true:=by
 unfold fF iH
 simp only[Bool.and_eq_true,decide_eq_true_eq]
 exact⟨⟨⟨h0,h1⟩,h2⟩,h3⟩
theorem Vs{l:Layout}{p:Plan}(hp:Gm l p.Routes p.Lines){i k:Int}(h:fF p i k=true):(0≤i∧i<(p.Lines.length:Int))∧(0≤k∧k<((dB p i.toNat).aJ.length:Int))∧(0≤(iq p i k).aO∧(iq p i k).aO<(p.Routes.length:Int))∧LH l (gK p (iq p i k)):=by
 unfold fF iH at h
 simp only[Bool.and_eq_true,decide_eq_true_eq] at h
 obtain⟨⟨⟨a,b⟩,c⟩,d⟩:=h
 have hm:dB p i.toNat∈p.Lines:=lT (by omega)
 have r:=((hp.ln _ hm).rd k.toNat (by omega)).1
 exact⟨⟨a,b⟩,⟨c,d⟩,r,hp.rt _ (lT (by unfold iq;omega))⟩
theorem ah5{l:Layout}{p:Plan}(hp:Gm l p.Routes p.Lines){i k:Int}(h:fF p i k=true):JQ p i k=some (lC (gK p (iq p i k))):=by
 obtain⟨a,b,c,d⟩:=Vs hp h
 have d1:=d.two;have d2:=d.few;have d3:=d.ov
 unfold JQ
 rw[Ec a,show p.Lines.getD i.toNat default=dB p i.toNat from rfl,Ec b,show (dB p i.toNat).aJ.getD k.toNat default=iq p i k from rfl,Ec c]
 rw[show p.Routes.getD (iq p i k).aO.toNat default=gK p (iq p i k) from rfl,cO (eB (by omega) (by omega)),Ec (by omega)]
 unfold lC
 rw[d3,show ((gK p (iq p i k)).Steps.length:Int)-0-1=((gK p (iq p i k)).Steps.length:Int)-1 by omega]
theorem ah1{l:Layout}{p:Plan}(hp:Gm l p.Routes p.Lines){i k:Int}(h:fF p i k=true):JO p i k=some (nZ (gK p (iq p i k))):=by
 obtain⟨a,b,c,d⟩:=Vs hp h
 have d1:=d.two
 unfold JO
 rw[Ec a,show p.Lines.getD i.toNat default=dB p i.toNat from rfl,Ec b,show (dB p i.toNat).aJ.getD k.toNat default=iq p i k from rfl,Ec c]
 rw[show p.Routes.getD (iq p i k).aO.toNat default=gK p (iq p i k) from rfl,Ec (by omega)]
 rfl
structure YC(p:Plan)(t:Turn):Prop where
 fr:iH p t.From=true
 tt:iH p t.To=true
 lo:10≤t.Min∧t.Min≤19∧t.Min≤t.Max∧t.Max≤t.Min+29
 eq:lC (gK p (iq p t.From ((dB p t.From.toNat).aJ.length-1)))=nZ (gK p (iq p t.To 0))
def UQ(u t:Turn):Prop:=u.From≠t.From∧u.To≠t.To
def TnP(p:Plan)(l:List Int)(y:Int×List Turn):Prop:=qd l y.1∧y.2.length≤12∧(∀t∈y.2,YC p t)∧y.2.Pairwise UQ
structure UR(p:Plan)(l:List Int)(m:Nat)(q:Int×List Turn×List Bool×List Bool×Nat):Prop where
 src:qd l q.1
 len:q.2.1.length≤m+q.2.2.2.2
 f4:q.2.2.1.length=4
 t4:q.2.2.2.1.length=4
 le:q.2.2.2.2≤p.Lines.length
 ok:∀t∈q.2.1,YC p t∧gb q.2.2.1 t.From=true∧gb q.2.2.2.1 t.To=true
 pw:q.2.1.Pairwise UQ
theorem arT{lay:Layout}{l:List Int}{pos:Int}(hs:qd l pos){p:Plan}(hp:Gm lay p.Routes p.Lines)(h3:p.Lines.length≤3)(ht:p.Turns=[]):WP (Rf ⟨l,pos⟩ p) (TnP p l):=by
 unfold Rf
 rw[ht]
 refine EI (fun q=>UR p l (3*q.2.2.2.2) q) (fun q=>4-q.2.2.2.2) _ ?_ FUEL _ ⟨hs,by simp,by simp,by simp,by simp,by simp,by simp⟩ (jh (by omega))
 rintro c ⟨p1,tn,f,to,a⟩ ⟨i1,i2,i3,i4,i5,i6,i7⟩ hc
 simp only at i1 i2 i3 i4 i5 i6 i7 hc
 simp only[aa1]
 refine nN (fun h=>?_) (fun h=>Ll ⟨i1,by simp only;omega,fun t ht=>(i6 t ht).1,i7⟩)
 simp only[decide_eq_true_eq] at h
 refine EI (UR p l (4*a)) (fun q=>4-q.2.2.2.2) _ ?_ FUEL _ ⟨i1,by simp only;omega,i3,i4,by simp,i6,i7⟩ (jh (by omega))
 rintro c2 ⟨p2,tn2,f2,to2,b⟩ ⟨j1,j2,j3,j4,j5,j6,j7⟩ hc2
 simp only at j1 j2 j3 j4 j5 j6 j7 hc2
 simp only[aa2]
 refine nN (fun hb=>?_) (fun hb=>?_)
 ·simp only[decide_eq_true_eq] at hb
  obtain⟨x,k,ex,x0,x1,hk⟩:=mE j1 3 (by omega) (by omega)
  rw[ex,Option.bind_some]
  have go:∀(q:Int) (t:List Turn) (u w:List Bool),UR p l (4*a) (q,t,u,w,b+1)→WP (JR c2 b (q,t,u,w)) (TnP p l):=by
   intro q t u w hI
   unfold JR
   exact hc2 _ hI (by simp only;omega)
  have keep:UR p l (4*a) (k,tn2,f2,to2,b+1):=⟨hk,by simp only;omega,j3,j4,by simp only;omega,j6,j7⟩
  have hA:(0:Int)≤(a:Int)∧(a:Int)<(p.Lines.length:Int):=by omega
  have hB:(0:Int)≤(b:Int)∧(b:Int)<(p.Lines.length:Int):=by omega
  have ajI:idx f2 (a:Int)=some (gb f2 a):=by rw[uq (by omega) (by omega)];rfl
  have ajJ:idx to2 (b:Int)=some (gb to2 b):=by rw[uq (by omega) (by omega)];rfl
  have ajK:idx p.Lines (a:Int)=some (dB p a):=by rw[uq hA.1 hA.2];rfl
  rw[ajI,vG,Option.bind_some,ajJ,vG,Option.bind_some,ajK,vG,Option.bind_some]
  refine nN (fun hg=>?_) (fun _=>go _ _ _ _ keep)
  rw[hg]
  simp only[Bool.and_eq_true,decide_eq_true_eq,Bool.not_eq_true'] at hg
  obtain⟨⟨hx,hf⟩,hto⟩:=hg
  rw[if_pos (by simpa using hx)] at hf
  rw[if_pos (by simp[hx,hf])] at hto
  have ma:dB p a∈p.Lines:=lT (by omega)
  have lo:=hp.ln _ ma
  have lp:=lo.pos;have lf:=lo.few
  have mb:dB p b∈p.Lines:=lT (by omega)
  have lo2:=(hp.ln _ mb).pos
  rw[if_pos rfl]
  have rA:fF p (a:Int) (((dB p a).aJ.length:Int)-1)=true:=by
   unfold fF iH;simp;omega
  have rB:fF p (b:Int) 0=true:=by
   unfold fF iH;simp;omega
  have s1:=ah5 (p:=Plan.mk p.bU p.aR p.Routes p.Lines p.Changes tn2 p.bE p.bF) hp (i:=(a:Int)) (k:=((dB p a).aJ.length:Int)-1) rA
  have s2:=ah1 (p:=Plan.mk p.bU p.aR p.Routes p.Lines p.Changes tn2 p.bE p.bF) hp (i:=(b:Int)) (k:=0) rB
  refine gX (by omega) ?_
  rw[s1,Option.bind_some,s2,Option.bind_some]
  refine nN (fun he=>?_) (fun _=>go _ _ _ _ keep)
  simp only[Bool.true_and,decide_eq_true_eq] at he
  rw[Option.bind_some,Option.bind_some]
  obtain⟨y,k4,ey,y0,y1,hk4⟩:=mE hk 10 (by omega) (by omega)
  rw[ey,Option.bind_some]
  refine gX (by simp only;omega) ?_
  obtain⟨z,k5,ez,z0,z1,hk5⟩:=mE hk4 30 (by omega) (by omega)
  rw[ez,Option.bind_some]
  refine gX (by simp only;omega) (kK (by simp;omega) (go _ _ _ _ ⟨hk5,by simp;omega,by simp;omega,by simp;omega,by simp only;omega,fun t ht=>?_,?_⟩))
  ·simp only at ht ⊢
   have gs:∀(g:List Bool) (n:Nat) (j:Int),g.length=4→n<4→0≤j→(gb g j=true∨j=n)→gb (g.set (n:Int).toNat true) j=true:=fun g n j h4 hn hj hor=>by
    rw[aei g (n:Int) j true (by omega) hj (by omega)]
    split
    ·rfl
    ·rcases hor with h|h
     ·exact h
     ·contradiction
   rcases List.mem_append.1 ht with hq|hq
   ·obtain⟨v,q1,q2⟩:=j6 t hq
    have vf:=v.fr;have vt:=v.tt
    unfold iH at vf vt
    simp only[Bool.and_eq_true,decide_eq_true_eq] at vf vt
    exact⟨v,gs _ _ _ j3 (by omega) vf.1 (.inl q1),gs _ _ _ j4 (by omega) vt.1 (.inl q2)⟩
   ·rw[List.mem_singleton] at hq;subst hq
    refine⟨⟨by unfold iH;simp;omega,by unfold iH;simp;omega,by simp only;omega,he⟩,gs _ _ _ j3 (by omega) (by simp) (.inr rfl),gs _ _ _ j4 (by omega) (by simp) (.inr rfl)⟩
  ·simp only
   rw[List.pairwise_append]
   refine⟨j7,List.pairwise_singleton _ _,fun u hu t ht=>?_⟩
   rw[List.mem_singleton] at ht;subst ht
   obtain⟨_,q1,q2⟩:=j6 u hu
   refine⟨fun e=>?_,fun e=>?_⟩
   ·rw[e] at q1;rw[q1] at hf;cases hf
   ·rw[e] at q2;rw[q2] at hto;cases hto
 ·unfold aa3
  simp only[decide_eq_false_iff_not] at hb
  exact hc _ ⟨j1,by simp only;omega,j3,j4,by simp only;omega,j6,j7⟩ (by simp only;omega)
/-! ### A valid plan -/
theorem Gz{g:Nat→Option Int}{k:Option Int}:∀m i,(∀j,i≤j→j<i+m→g j=some 0)→k=some 0→errs g k m i=some 0:=by
 intro m
 induction m with
 |zero=>intro i _ h;exact h
 |succ m ih=>
  intro i h hk
  simp only[errs]
  rw[h i (Nat.le_refl _) (by omega),Option.bind_some,if_neg (by simp)]
  exact ih (i+1) (fun j a b=>h j (by omega) (by omega)) hk
theorem ahD{l:Layout}(hr:zD l.Sections){s:Step}(h:iR l s=true):2≤(jE l s).Length∧(jE l s).Length≤12:=by
 unfold iR at h
 simp only[Bool.and_eq_true,decide_eq_true_eq] at h
 have:=hr (jE l s) (lT (by omega))
 unfold LG at this
 omega
theorem adN{l:Layout}(hr:zD l.Sections):∀ss:List Step,(∀s∈ss,iR l s=true)→(BS l ss).length≤12*ss.length
 |[],_=>by simp[BS]
 |s::r,h=>by
  have ih:=adN hr r (fun t ht=>h t (List.mem_cons_of_mem _ ht))
  have hs:=ahD hr (h s List.mem_cons_self)
  have e:BS l (s::r)=List.replicate (jE l s).Length.toNat (cellOf l s)++BS l r:=rfl
  rw[e,List.length_append,List.length_replicate,List.length_cons];omega
theorem ajP{l:Layout}(hg:Pg l){r:aO}(h:LH l r){s:aH}(hs:uG s=true)(h2:s.Length≤2):D6 l r s=0:=by
 have o:=Ap h.pt
 have hT:∀x∈uK r,iR l x=true:=fun x hx=>o.st x (List.mem_of_mem_take hx)
 have hl:(uK r).length≤24:=by have:=o.len;unfold uK;rw[List.length_take];omega
 have hc:=adN hg.rng (uK r) hT
 have e:(xI l r).2.2=0:=by
  unfold xI
  rw[if_neg (by simp[h.pt]),show r.Steps.take ((r.Steps.length:Int)-r.Overlap).toNat=uK r from rfl]
  unfold cellsE
  rw[if_neg (by omega)]
 unfold D6
 rw[if_neg (by simp[e]),if_neg (by simp[hs]),if_neg (by omega:¬s.Length>2),if_neg]
 simp only[List.any_eq_true,decide_eq_true_eq,not_exists,not_and]
 intro x hx
 have:=(ahD hg.rng (hT x hx)).1
 omega
theorem apx:∀i j:Fin 3,i≠j→rM ⟨[78]⟩ i.val≠rM ⟨[78]⟩ j.val:=by decide
theorem apy:∀i:Fin 3,lJ (rM ⟨[78]⟩ i.val).ba=true:=by decide+kernel
theorem YL{p:Plan}{lo hi:Int}(h:0≤lo∧lo≤hi∧hi≤7200∧hi<lo+p.bU):nW p lo hi=true:=by
 unfold nW;simp;omega
structure LD(l:Layout)(p:Plan):Prop where
 g:Pg l
 sz:Sz p
 per:90≤p.bU∧p.bU≤300
 sk:∃s,p.aR=[s]∧lJ s.Name.ba=true∧uG s=true∧s.Length≤2
 ok:Gm l p.Routes p.Lines
 ln:p.Lines.length≤3
 ch:∀c∈p.Changes,Gu l p c=0
 tn:∀t∈p.Turns,YC p t
 td:p.Turns.Pairwise UQ
 sy:∀s∈p.bE,Le p s=0
 dm:∀d∈p.bF,Jl l d=0
 few:p.Routes.length≤6∧p.Changes.length≤3∧p.Turns.length≤12∧p.bE.length≤1∧p.bF.length≤3
 ri2:∀x∈p.Lines,x.aJ.length≤2
theorem aqH{l:Layout}{p:Plan}(v:LD l p){x:Line}(hx:x∈p.Lines){k:Nat}(hk:k<x.aJ.length):vv l p x k=0:=by
 have hl:=v.ok.ln x hx
 obtain⟨⟨a1,a2⟩,b,c,d⟩:=hl.rd k hk
 have hr:LH l (gK p (jo x k)):=v.ok.rt _ (lT (by omega))
 obtain⟨s,es,_,hs,h2⟩:=v.sk
 have per:=v.per
 have e:p.aR.getD x.aH.toNat default=s:=by rw[es,hl.st];rfl
 unfold vv
 rw[if_neg,e,ajP v.g hr hs h2,if_neg (by simp),if_neg]
 ·rintro⟨h0,hne⟩
  exact hne (hl.jn k h0 hk)
 ·have hb:nW p (jo x k).Min (jo x k).Max=true:=YL (by omega)
  simp only[Bool.not_eq_false]
  unfold uF
  rw[hb]
  have hlast:(decide (k+1=x.aJ.length)&&(decide ((jo x k).Min≠0)||decide ((jo x k).Max≠0)))=false:=by
   by_cases e:k+1=x.aJ.length
   ·obtain⟨d1,d2⟩:=d e
    simp[d1,d2]
   ·simp[e]
  rw[hlast]
  simp
  omega
theorem apM{l:Layout}{p:Plan}(v:LD l p):xZ l p=some 0:=by
 have per:=v.per
 obtain⟨s,es,hn,hs,h2⟩:=v.sk
 have e0:CU l p=0:=by
  unfold CU
  rw[if_neg (by simp[aej v.g]),if_neg (by simp[v.sz]),if_neg (by omega)]
 unfold xZ
 rw[if_neg (by simp[e0])]
 refine Gz _ _ (fun j _ hj=>?_) (Gz _ _ (fun j _ hj=>?_) (Gz _ _ (fun j _ hj=>?_) (Gz _ _ (fun j _ hj=>?_) (Gz _ _ (fun j _ hj=>?_) (Gz _ _ (fun j _ hj=>?_) (Gz _ _ (fun j _ hj=>?_) rfl))))))
 ·rw[es] at hj
  have:j=0:=by simp at hj;omega
  subst this
  unfold Lb
  rw[es]
  simp[hn,hs]
 ·unfold Xh
  rw[(v.ok.rt _ (lT (by omega))).pt]
 ·have hj':j<p.Lines.length:=by omega
  have h3:=v.ln
  have hx:dB p j∈p.Lines:=lT hj'
  have hl:=v.ok.ln _ hx
  have adZ:(dB p j).Name=rM ⟨[78]⟩ j:=v.ok.nm j hj'
  unfold Bn
  rw[if_neg,if_neg,if_neg,if_neg (by have:=hl.pos;omega)]
  ·exact Gz _ _ (fun k _ hk=>by rw[aqH v hx (by omega)]) rfl
  ·simp only[Bool.not_eq_false,Bool.and_eq_true,decide_eq_true_eq]
   have w:=hl.w
   unfold wB
   rw[hl.st,es]
   simp;omega
  ·simp only[List.any_eq_true,decide_eq_true_eq,not_exists,not_and]
   intro t ht
   obtain⟨i,hi,rfl⟩:=List.getElem_of_mem ht
   rw[List.length_take] at hi
   have hij:i<j:=by omega
   rw[List.getElem_take,adZ]
   have:=v.ok.nm i (by omega)
   rw[getD_lt (by omega)] at this
   rw[this]
   exact apx ⟨i,by omega⟩ ⟨j,by omega⟩ (by simp[Fin.ext_iff];omega)
  ·rw[adZ]
   simpa using apy ⟨j,by omega⟩
 ·unfold PU
  rw[v.ch _ (lT (by omega))]
 ·unfold Lh
  have hj':j<p.Turns.length:=by omega
  have t:=v.tn _ (lT hj')
  have tlo:=t.lo
  unfold Uk
  rw[if_neg,if_neg,if_neg]
  ·have f1:=t.fr;have f2:=t.tt
   unfold iH at f1 f2
   simp only[Bool.and_eq_true,decide_eq_true_eq] at f1 f2
   have k1:(dB p (p.Turns.getD j default).From.toNat).aH=0:=(v.ok.ln _ (lT (by omega))).st
   have k2:(dB p (p.Turns.getD j default).To.toNat).aH=0:=(v.ok.ln _ (lT (by omega))).st
   rintro (h|h)
   ·exact h t.eq
   ·exact h (k1.trans k2.symm)
  ·simp only[List.any_eq_true,Bool.or_eq_true,decide_eq_true_eq,not_exists,not_and]
   intro u hu
   obtain⟨i,hi,rfl⟩:=List.getElem_of_mem hu
   rw[List.length_take] at hi
   rw[List.getElem_take,getD_lt hj']
   have:=List.pairwise_iff_getElem.1 v.td i j (by omega) hj' (by omega)
   unfold UQ at this
   omega
  ·simp only[Bool.not_eq_false,Bool.and_eq_true]
   exact⟨⟨t.fr,t.tt⟩,YL (by omega)⟩
 ·unfold Ld
  rw[v.sy _ (lT (by omega))]
 ·unfold Jk
  rw[v.dm _ (lT (by omega))]
/-! ### The plan -/
structure adv(p:Plan):Prop where
 st:p.aR.length≤100
 ro:p.Routes.length≤100
 li:p.Lines.length≤100
 ch:p.Changes.length≤100
 tu:p.Turns.length≤100
 sy:p.bE.length≤100
 de:p.bF.length≤100
 per:0≤p.bU∧p.bU≤7200
theorem LD.bnd{l:Layout}{p:Plan}(v:LD l p):adv p:=by
 have s:=v.sz
 have per:=v.per
 have a1:=s.st;have a2:=s.ro;have a3:=s.li;have a4:=s.ch;have a5:=s.tu;have a6:=s.sy;have a7:=s.de
 exact⟨by omega,by omega,by omega,by omega,by omega,by omega,by omega,by omega⟩
theorem ap3(l:List Int)(hl:l.length≤140737488355328):WP (Q0 l) (fun y=>LD y.1 y.2):=by
 unfold Q0
 have e:VQ l=some ⟨l,0⟩:=rfl
 rw[e,Option.bind_some]
 refine wp_bind _ (aqT (l:=l) ⟨by omega,by omega,hl⟩) ?_
 rintro⟨b,p0⟩ ro
 have R:=aqR ro
 have hg:=R.g
 have r0:=ro.src
 simp only at r0 R hg ⊢
 have hb1:=R.b1
 have hb2:=R.b2
 have hst:=R.st
 obtain⟨a1,p1,e1,l1,u1,r1⟩:=mE r0 6 (by omega) (by omega)
 rw[e1,Option.bind_some]
 refine zq (by simp;omega) fun per amx=>?_
 have amy:90≤per∧per≤300:=by
  simp only[List.mem_cons,List.not_mem_nil,or_false] at amx
  omega
 obtain⟨a2,p2,e2,l2,u2,r2⟩:=mE r1 2 (by omega) (by omega)
 rw[e2,Option.bind_some]
 refine gX (by simp only;omega) ?_
 obtain⟨a3,p3,e3,l3,u3,r3⟩:=mE r2 4 (by omega) (by omega)
 rw[e3,Option.bind_some]
 refine gX (by simp only;omega) (gX (by simp only;omega) ?_)
 obtain⟨a4,p4,e4,l4,u4,r4⟩:=mE r3 3 (by omega) (by omega)
 rw[e4,Option.bind_some]
 refine gX (by simp only;omega) (gX (by simp only;omega) ?_)
 obtain⟨a5,p5,e5,l5,u5,r5⟩:=mE r4 3 (by omega) (by omega)
 rw[e5,Option.bind_some]
 refine gX (by simp only;omega) (gX (by simp only;omega) ?_)
 generalize hsk:(aH.mk (⟨[88]⟩:Str) (1+a2) (10000+(5000*a3)) (400+(200*a4)) (400+(200*a5)))=sk
 have anK:lJ sk.Name.ba=true∧uG sk=true∧sk.Length≤2:=by
  subst hsk
  refine⟨by show lJ (⟨[88]⟩:Str).ba=true;decide+kernel,?_,by simp only;omega⟩
  unfold uG;simp;omega
 clear hsk
 unfold VR
 obtain⟨a6,p6,e6,l6,u6,r6⟩:=mE r5 3 (by omega) (by omega)
 simp only
 rw[e6,Option.bind_some]
 refine gX (by simp only;omega) ?_
 refine EI (fun (q:Int×List aO×List Line×Int)=>qd l q.1∧Gm b.l q.2.1 q.2.2.1∧(q.2.2.1.length:Int)+q.2.2.2≤3∧0≤q.2.2.2∧q.2.1.length≤2*q.2.2.1.length∧(0<q.2.2.2∨0<q.2.2.1.length)) (fun q=>q.2.2.2.toNat) _ ?_ FUEL _ ⟨r6,⟨by simp,by simp,by simp⟩,by simp;omega,by simp only;omega,by simp,by simp only;omega⟩ (jh (by simp only;omega))
 rintro c ⟨p7,rs,ls,n⟩ ⟨i1,i2,i3,i4,i5,i6⟩ hc
 simp only at i1 i2 i3 i4 i5 i6 hc
 simp only[aaH]
 refine nN (fun h=>?_) (fun h=>?_)
 ·simp only[decide_eq_true_eq] at h
  obtain⟨a8,p8,e8,l8,u8,r8⟩:=mE i1 2 (by omega) (by omega)
  rw[e8,Option.bind_some]
  obtain⟨a9,p9,e9,l9,u9,r9⟩:=mE r8 (b.between.length:Int) (by omega) (by omega)
  rw[e9,Option.bind_some]
  refine gX (by simp only;omega) ?_
  refine wp_bind _ (ao6 R (p:=Plan.mk _ _ rs ls _ _ _ _) r9 i2 (by simp only;omega) (by simp only;omega) (by omega)) ?_
  rintro⟨p10,rs2,ls2⟩ ⟨q1,q2,q3,q4⟩
  simp only at q1 q2 q3 q4 ⊢
  exact gX (by omega) (hc _ ⟨q1,q2,by simp only;omega,by simp only;omega,by simp only;omega,by simp only;omega⟩ (by simp only;omega))
 ·simp only[decide_eq_false_iff_not] at h
  unfold aaK
  refine wp_bind _ (arT (p:=Plan.mk _ _ rs ls _ _ _ _) i1 i2 (by simp only;omega) rfl) ?_
  rintro⟨p11,tn⟩ ⟨t1,t2,t3,t4⟩
  simp only at t1 t2 t3 t4 ⊢
  obtain⟨a12,p12,e12,Rh,u12,Kj⟩:=mE t1 3 (by omega) (by omega)
  rw[e12,Option.bind_some]
  refine EI (fun (q:Int×List Change×Int)=>qd l q.1∧(q.2.1.length:Int)+q.2.2≤3∧0≤q.2.2∧∀c∈q.2.1,Gu b.l (Plan.mk per [sk] rs ls [] tn [] []) c=0) (fun q=>q.2.2.toNat) _ ?_ FUEL _ ⟨Kj,by simp;omega,by simp only;omega,by simp⟩ (jh (by simp only;omega))
  rintro c2 ⟨p13,ch,k2⟩ ⟨j1,j2,j3,j4⟩ hc2
  simp only at j1 j2 j3 j4 hc2
  simp only[aaI]
  refine nN (fun hk=>?_) (fun hk=>?_)
  ·simp only[Bool.and_eq_true,decide_eq_true_eq] at hk
   obtain⟨yF,p14,e14,l14,u14,dW⟩:=mE j1 (ls.length:Int) (by omega) (by omega)
   rw[e14,Option.bind_some]
   obtain⟨a15,p15,e15,Cu,u15,Ai⟩:=mE dW 3 (by omega) (by omega)
   rw[e15,Option.bind_some]
   have tr:=ah8 (a:=yF+1) (n:=ls.length) (by omega) (by omega)
   generalize hto:(yF+1).tmod (ls.length:Int)=to at tr
   have hne:yF≠to:=by
    rw[Int.tmod_eq_emod_of_nonneg (by omega)] at hto
    by_cases h:yF+1<ls.length
    ·rw[Int.emod_eq_of_lt (by omega) h] at hto;omega
    ·have:yF+1=ls.length:=by omega
     rw[this,Int.emod_self] at hto;omega
   simp only[hto]
   refine gX (by omega) (kK (by simp only[decide_eq_true_eq];omega) ?_)
   rw[Ec (by omega),Ec (by omega)]
   have o1:=i2.ln _ (lT (xs:=ls) (i:=yF.toNat) (by omega))
   have o2:=i2.ln _ (lT (xs:=ls) (i:=to.toNat) (by omega))
   have o1p:=o1.pos
   have o2p:=o2.pos
   have o1f:=o1.few
   have o2f:=o2.few
   obtain⟨a16,p16,e16,l16,u16,r16⟩:=mE Ai ((ls.getD yF.toNat default).aJ.length:Int) (by omega) (by omega)
   rw[e16,Option.bind_some]
   obtain⟨a17,p17,e17,l17,u17,dJ⟩:=mE r16 ((ls.getD to.toNat default).aJ.length:Int) (by omega) (by omega)
   simp only
   rw[e17,Option.bind_some]
   obtain⟨a18,p18,e18,l18,u18,Wp⟩:=mE dJ 20 (by omega) (by omega)
   simp only
   rw[e18,Option.bind_some]
   obtain⟨a19,p19,e19,l19,u19,yc⟩:=mE Wp per (by omega) (by omega)
   simp only
   rw[e19,Option.bind_some]
   have hA:fF (Plan.mk per [sk] rs ls [] tn [] []) yF a16=true:=Vr (by show yF<(ls.length:Int);omega) (by omega) (by omega) (by show a16<((ls.getD yF.toNat default).aJ.length:Int);omega)
   have hB:fF (Plan.mk per [sk] rs ls [] tn [] []) to a17=true:=Vr (by show to<(ls.length:Int);omega) (by omega) (by omega) (by show a17<((ls.getD to.toNat default).aJ.length:Int);omega)
   have sA:JQ (Plan.mk per [sk] rs ls ch tn [] []) yF a16=some (lC (gK (Plan.mk per [sk] rs ls [] tn [] []) (iq (Plan.mk per [sk] rs ls [] tn [] []) yF a16))):=ah5 (p:=Plan.mk per [sk] rs ls [] tn [] []) i2 hA
   have sB:JO (Plan.mk per [sk] rs ls ch tn [] []) to a17=some (nZ (gK (Plan.mk per [sk] rs ls [] tn [] []) (iq (Plan.mk per [sk] rs ls [] tn [] []) to a17))):=ah1 (p:=Plan.mk per [sk] rs ls [] tn [] []) i2 hB
   have vA:=(Vs (p:=Plan.mk per [sk] rs ls [] tn [] []) i2 hA).2.2.2
   have vB:=(Vs (p:=Plan.mk per [sk] rs ls [] tn [] []) i2 hB).2.2.2
   have oA:=Ap vA.pt;have oB:=Ap vB.pt
   refine gX (by omega) ?_
   rw[sA,Option.bind_some]
   have iA:idx b.l.Sections (lC (gK (Plan.mk per [sk] rs ls [] tn [] []) (iq (Plan.mk per [sk] rs ls [] tn [] []) yF a16)))=some (b.l.Sections.getD (lC (gK (Plan.mk per [sk] rs ls [] tn [] []) (iq (Plan.mk per [sk] rs ls [] tn [] []) yF a16))).toNat default):=by
    have:=oA.two;have:=oA.ov
    exact OE oA (lT (by omega))
   have iB:idx b.l.Sections (nZ (gK (Plan.mk per [sk] rs ls [] tn [] []) (iq (Plan.mk per [sk] rs ls [] tn [] []) to a17)))=some (b.l.Sections.getD (nZ (gK (Plan.mk per [sk] rs ls [] tn [] []) (iq (Plan.mk per [sk] rs ls [] tn [] []) to a17))).toNat default):=by
    have:=oB.two;have:=oB.ov
    exact OE oB (lT (by omega))
   rw[iA,Option.bind_some,sB,Option.bind_some,iB,Option.bind_some]
   refine nN (fun he=>kK (by simp;omega) ?_) (fun _=>?_)
   ·unfold MC
    refine gX (by omega) (hc2 _ ⟨yc,by simp;omega,by simp only;omega,fun c hcm=>?_⟩ (by simp only;omega))
    rcases List.mem_append.1 hcm with hq|hq
    ·exact j4 c hq
    ·rw[List.mem_singleton] at hq;subst hq
     simp only[decide_eq_true_eq] at he
     unfold Gu
     rw[if_neg,if_neg]
     ·simp only
      rintro (h|h)
      ·have:=vA.s1;omega
      ·exact h he
     ·unfold yL
      simp only
      rw[hA,hB,YL (by simp only;omega)]
      unfold wB
      simp;omega
   ·unfold MC
    exact gX (by omega) (hc2 _ ⟨yc,by simp only;omega,by simp only;omega,j4⟩ (by simp only;omega))
  ·unfold aaL
   obtain⟨a20,p20,e20,l20,u20,dS⟩:=mE j1 4 (by omega) (by omega)
   rw[e20,Option.bind_some]
   have last:∀(q:Int) (sy:List Sync),qd l q→sy.length≤1→(∀s∈sy,Le (Plan.mk per [sk] rs ls ch tn [] []) s=0)→WP (ME ⟨l,0⟩ (b,p0) per [sk] rs ls ch (p11,tn) (q,sy)) (fun y=>LD y.1 y.2):=by
    intro q sy hq hsy hsv
    unfold ME
    obtain⟨a21,p21,e21,l21,u21,Aj⟩:=mE hq 3 (by omega) (by omega)
    simp only
    rw[e21,Option.bind_some]
    refine EI (fun (q:Int×List dF×Int)=>qd l q.1∧(q.2.1.length:Int)+q.2.2≤3∧0≤q.2.2∧∀d∈q.2.1,Jl b.l d=0) (fun q=>q.2.2.toNat) _ ?_ FUEL _ ⟨Aj,by simp;omega,by simp only;omega,by simp⟩ (jh (by simp only;omega))
    rintro c3 ⟨p22,dm,k3⟩ ⟨m1,m2,m3,m4⟩ hc3
    simp only at m1 m2 m3 m4 hc3
    simp only[aaJ]
    refine nN (fun hk3=>?_) (fun hk3=>?_)
    ·simp only[decide_eq_true_eq] at hk3
     obtain⟨a23,p23,e23,l23,u23,fH⟩:=mE m1 (b.l.aU.length:Int) (by omega) (by omega)
     rw[e23,Option.bind_some]
     refine gX (by simp only;omega) (gX (by omega) ?_)
     obtain⟨a24,p24,e24,l24,u24,rD⟩:=mE fH ((b.l.aU.length:Int)-1) (by omega) (by omega)
     rw[e24,Option.bind_some]
     refine gX (by simp only;omega) (kK (by simp only[decide_eq_true_eq];omega) ?_)
     obtain⟨a25,p25,e25,l25,u25,Hy⟩:=mE rD 9 (by omega) (by omega)
     rw[e25,Option.bind_some]
     refine gX (by simp only;omega) (kK (by simp;omega) (gX (by omega) (hc3 _ ⟨Hy,by simp;omega,by simp only;omega,fun d hd=>?_⟩ (by simp only;omega))))
     rcases List.mem_append.1 hd with hq|hq
     ·exact m4 d hq
     ·rw[List.mem_singleton] at hq;subst hq
      have tr:=ah8 (a:=a23+1+a24) (n:=b.l.aU.length) (by omega) (by omega)
      have hne:a23≠(a23+1+a24).tmod (b.l.aU.length:Int):=by
       rw[Int.tmod_eq_emod_of_nonneg (by omega)]
       by_cases h:a23+1+a24<b.l.aU.length
       ·rw[Int.emod_eq_of_lt (by omega) h];omega
       ·have e:(a23+1+a24)=(a23+1+a24-b.l.aU.length)+b.l.aU.length:=by omega
        rw[e,Int.add_emod_right,Int.emod_eq_of_lt (by omega) (by omega)];omega
      unfold Jl
      rw[if_neg]
      simp;omega
    ·unfold aaM
     simp only[decide_eq_false_iff_not] at hk3
     exact Ll ⟨hg,⟨by simp,by simp only;omega,by simp only;omega,by simp only;omega,by simp only;omega,by simp only;omega,by simp only;omega,fun x hx=>by have:=(i2.ln x hx).few;omega⟩,
      amy,⟨sk,rfl,anK⟩,i2,by simp only;omega,fun c hc=>j4 c hc,fun t ht=>⟨(t3 t ht).fr,(t3 t ht).tt,(t3 t ht).lo,(t3 t ht).eq⟩,t4,fun s hs=>hsv s hs,m4,⟨by simp only;omega,by simp only;omega,by simp only;omega,by simp only;omega,by simp only;omega⟩,fun x hx=>(i2.ln x hx).few⟩
   refine nN (fun hk=>?_) (fun _=>last _ _ dS (by simp) (by simp))
   simp only[Bool.and_eq_true,decide_eq_true_eq] at hk
   obtain⟨a26,p26,e26,l26,u26,wm⟩:=mE dS per (by omega) (by omega)
   rw[e26,Option.bind_some]
   refine kK (by simp) (last _ _ wm (by simp) fun s hs=>?_)
   simp only[List.nil_append,List.mem_singleton] at hs
   subst hs
   have o1:=(i2.ln _ (lT (xs:=ls) (i:=0) (by omega))).pos
   have o2:=(i2.ln _ (lT (xs:=ls) (i:=1) (by omega))).pos
   unfold Le
   rw[if_neg]
   have h0:fF (Plan.mk per [sk] rs ls ch tn [] []) 0 0=true:=Vr (by show (0:Int)<(ls.length:Int);omega) (by omega) (by omega) (by show (0:Int)<((ls.getD 0 default).aJ.length:Int);omega)
   have h1:fF (Plan.mk per [sk] rs ls ch tn [] []) 1 0=true:=Vr (by show (1:Int)<(ls.length:Int);omega) (by omega) (by omega) (by show (0:Int)<((ls.getD 1 default).aJ.length:Int);omega)
   dsimp only
   rw[h0,h1]
   simp;omega
end Go.Proofs.YtcalibhfgdncaaaGreatDoor
namespace Go.Proofs.YtcalibhfgdncaaaGreatDoor
open Go.Dc
set_option maxRecDepth 10000
theorem arO{v k:Int}(h: -9223372036854775808≤v∧v≤9223372036854775807)(hk:2≤k):bJ (v.tdiv k)=true:=by
 rcases Int.le_total 0 v with h0|h0
 ·have a:=Int.tdiv_nonneg h0 (show (0:Int)≤k by omega)
  have b:=Int.ediv_le_self k h0
  rw[Int.tdiv_eq_ediv_of_nonneg h0] at a ⊢
  exact eB (by omega) (by omega)
 ·have e:v.tdiv k= -((-v).tdiv k):=by rw[Int.neg_tdiv,Int.neg_neg]
  have a:=Int.tdiv_nonneg (a:= -v) (by omega) (show (0:Int)≤k by omega)
  have b:=Int.ediv_le_self k (show (0:Int)≤ -v by omega)
  rw[e]
  rw[Int.tdiv_eq_ediv_of_nonneg (by omega)] at a ⊢
  exact eB (by omega) (by omega)
theorem nO{β:Type}{v n:Int}{K:Int→Option β}{Q:β→Prop}(h:1≤n∧n≤4611686018427387904)(hk:∀k,0≤k→k<n→WP (K k) Q):WP ((lI v n).bind K) Q:=by
 obtain⟨k,e,a,b⟩:=afO v n h.1 h.2
 rw[e];exact hk k a b
theorem apI{p:Plan}(b:adv p)(hr:∀r∈p.Routes,0<r.Steps.length∧r.Steps.length≤10)(hx:∀x∈p.Lines,x.aJ.length≤100){how at_ v:Int}
  (hv: -9223372036854775808≤v∧v≤9223372036854775807):WP (QZ p how at_ v) (fun _=>True):=by
 have b1:=b.st;have b2:=b.ro;have b3:=b.li;have b4:=b.ch;have b5:=b.tu;have b6:=b.sy;have b7:=b.de;have b8:=b.per
 have hd:∀(k:Int),2≤k→bJ (v.tdiv k)=true:=fun k hk=>arO hv hk
 have kk:∀z,WP (vX p z) (fun _=>True):=fun⟨_,_,_,_,_,_,_⟩=>⟨_,rfl,trivial⟩
 unfold QZ
 simp only[List.nil_append,List.length_nil,Nat.zero_add]
 refine kK (by simp;omega) (kK (by simp;omega) (kK (by simp;omega) (kK (by simp;omega) (kK (by simp;omega) (kK (by simp;omega) (kK (by simp;omega) ?_))))))
 refine nN (fun _=>Ll trivial) (fun h0=>?_)
 simp only[Bool.or_eq_false_iff,decide_eq_false_iff_not] at h0
 refine nO (by omega) fun aP a0 a1=>zq (by omega) fun x28 m28=>?_
 have Kk:=hx x28 m28
 refine kK (by simp;omega) (zq (by omega) fun au _=>nN (fun _=>Ll trivial) (fun h1=>?_))
 simp only[decide_eq_false_iff_not] at h1
 refine nO (by omega) fun y38 c0 c1=>nO (by omega) fun xD _ _=>?_
 refine nN (fun _=>nO (by omega) fun _ _ _=>gX (by omega) (kk _)) (fun _=>?_)
 refine nN (fun _=>nO (by omega) fun _ _ _=>zq (by simp;omega) fun _ _=>nO (by omega) fun _ _ _=>nO (by omega) fun _ _ _=>kK (by simp;omega) (kk _)) (fun _=>?_)
 refine nN (fun _=>nO (by omega) fun _ _ _=>gX (by omega) (zq (by omega) fun _ _=>kk _)) (fun _=>?_)
 refine nN (fun _=>zq (by omega) fun mX m70=>?_) (fun _=>?_)
 ·have s70:=hr mX m70
  exact kK (by simp;omega) (zq (by omega) fun _ _=>kK (by rw[hd 8 (by omega)];rfl) (nO (by omega) fun _ _ _=>nO (by omega) fun _ _ _=>zq (by omega) fun _ _=>kk _))
 refine nN (fun _=>nO (by omega) fun _ _ _=>gX (by omega) (kk _)) (fun _=>?_)
 refine nN (fun _=>nO (by omega) fun _ _ _=>gX (by omega) (kk _)) (fun _=>?_)
 refine nN (fun _=>gX (by omega) ?_) (fun _=>?_)
 ·have e:sub x28.aJ 0 ((x28.aJ.length:Int)-1)=some (x28.aJ.take ((x28.aJ.length:Int)-1).toNat):=by
   unfold sub
   rw[if_pos (by omega)];simp
  rw[e,Option.bind_some];exact kk _
 refine nN (fun _=>kK (by rw[hd 4 (by omega)];rfl) (gX (by omega) (nO (by omega) fun _ _ _=>nO (by omega) fun _ _ _=>gX (by omega) (zq (by omega) fun _ _=>kk _)))) (fun _=>?_)
 refine nN (fun _=>kK (by rw[hd 4 (by omega)];rfl) (gX (by omega) (nO (by omega) fun _ _ _=>nO (by omega) fun _ _ _=>gX (by omega) (zq (by omega) fun _ _=>kk _)))) (fun _=>?_)
 refine nN (fun _=>nO (by omega) fun _ _ _=>kK (by rw[hd 4 (by omega)];rfl) (kK (by rw[hd 80 (by omega)];rfl) (gX (by split<;>omega) (nO (by omega) fun _ _ _=>gX (by omega) (nO (by split<;>omega) fun _ _ _=>zq (by omega) fun _ _=>zq (by simp;omega) fun _ _=>kk _))))) (fun _=>?_)
 refine nN (fun _=>gX (by omega) (kK (by rw[hd 4 (by omega)];rfl) (kK (by rw[hd 120 (by omega)];rfl) (nO (by omega) fun _ _ _=>nO (by omega) fun _ _ _=>nO (by omega) fun _ _ _=>gX (by omega) (kK (by simp;omega) (kk _)))))) (fun _=>?_)
 refine nN (fun _=>kK (by rw[hd 3 (by omega)];rfl) (gX (by omega) (kK (by rw[hd 12 (by omega)];rfl) (nO (by omega) fun _ _ _=>nO (by omega) fun _ _ _=>nO (by omega) fun _ _ _=>nO (by omega) fun _ _ _=>gX (by omega) (kK (by simp;omega) (kk _)))))) (fun _=>?_)
 refine nN (fun _=>kK (by rw[hd 2 (by omega)];rfl) (kK (by rw[hd 8 (by omega)];rfl) (kK (by rw[hd 16 (by omega)];rfl) (gX (by omega) (nO (by omega) fun _ _ _=>nO (by omega) fun _ _ _=>nO (by omega) fun _ _ _=>nO (by omega) fun _ _ _=>gX (by omega) (kK (by simp;omega) (kk _))))))) (fun _=>?_)
 exact nO (by omega) fun _ _ _=>zq (by simp;omega) fun _ _=>kk _
end Go.Proofs.YtcalibhfgdncaaaGreatDoor
