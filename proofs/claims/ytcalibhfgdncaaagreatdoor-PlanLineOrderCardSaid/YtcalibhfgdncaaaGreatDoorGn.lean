/- Several parts of the engine, one behind the other. -/
import Derived.Test.YtcalibhfgdncaaaGreatDoorPy
import Derived.Test.YtcalibhfgdncaaaGreatDoorSm
set_option linter.all false
namespace Go.Proofs.YtcalibhfgdncaaaGreatDoor
open Go.Dc
theorem aev(v n:Int)(h0:1≤n)(h1:n≤4611686018427387904):∃k,LH v n=some k∧0≤k∧k<n:=by
 have hw:IntKind.u64.wrap n=n:=IntWalk.u64_in n ⟨by omega,by omega⟩
 have hv:0≤IntKind.u64.wrap v:=by rw[IntKind.wrap_u64];omega
 have e:(IntKind.u64.wrap v).tmod n=IntKind.u64.wrap v % n:=Int.tmod_eq_emod_of_nonneg hv
 have a:=Int.emod_nonneg (IntKind.u64.wrap v) (b:=n) (by omega)
 have b:=Int.emod_lt_of_pos (IntKind.u64.wrap v) (b:=n) (by omega)
 refine⟨IntKind.u64.wrap v % n,?_,a,b⟩
 unfold LH
 rw[hw,e,bH (by simp;omega)]
 congr 1
 rw[IntKind.wrap_i64]
 omega
def pR(l:List Int)(i:Int):Prop:=0≤i∧i≤l.length∧l.length≤140737488355328
theorem lN{l:List Int}{i:Int}(h:pR l i)(n:Int)(h0:1≤n)(h1:n≤4611686018427387904):
  ∃v j,jY (bN.mk l i) n=some (v,j)∧0≤v∧v<n∧pR l j:=by
 obtain⟨a,b,c⟩:=h
 unfold jY
 by_cases hl:(l.length:Int)≤i
 ·exact⟨0,i,by simp[hl],by omega,by omega,a,b,c⟩
 ·have e:i+1-1=i:=by omega
  obtain⟨k,hk,k0,k1⟩:=aev (l.getD i.toNat 0) n h0 h1
  refine⟨k,i+1,?_,k0,k1,by omega,by omega,c⟩
  simp only[hl,decide_false,Bool.false_eq_true,if_false,e]
  rw[bH (bO (by omega) (by omega)),bH (bO (by omega) (by omega)),arK a (by omega)]
  simp only[Option.bind_some]
  rw[hk]
  rfl
def rC(s:Str)(k:Nat):Str:=⟨s.l++[UInt8.ofNat (48+k)]⟩
theorem anf:∀k:Fin 10,ji (⟨[48,49,50,51,52,53,54,55,56,57]⟩:Str) ((k.val:Int).tmod 10) ((k.val:Int).tmod 10+1)=some ⟨[UInt8.ofNat (48+k.val)]⟩:=by decide
theorem Mc(s:Str)(k:Nat)(h:k<10)(hs:s.l.length≤100):DV s (k:Int)=some (rC s k):=by
 unfold DV
 have e:(k:Int).tmod 10=k:=by rw[Int.tmod_eq_emod_of_nonneg (by omega)];omega
 have:=anf ⟨k,h⟩
 simp only at this
 rw[bH (bO (by omega) (by omega)),this,Option.bind_some]
 unfold dM
 rw[if_pos (by simp;omega)]
 rfl
theorem aiy(s:Str)(k:Nat):(rC s k).l.length=s.l.length+1:=by simp[rC]
def vX(s:Section):Section:=⟨s.Name,1,1000,0,s.nH⟩
def NJ(s:Section):Prop:=2≤s.Length∧s.Length≤12∧5000≤s.Limit∧s.Limit≤35000∧ -10≤s.jM∧s.jM≤10
def Am(l:List Section):Prop:=∀s∈l,NJ s
theorem akE{l:List Int}{i:Int}(h:pR l i)(nm:Str)(st:Int):
  ∃x j,Ol (bN.mk l i) nm st=some (x,j)∧pR l j∧vX x=⟨nm,1,1000,0,st⟩∧NJ x∧x.Length≤10∧x.Name=nm∧x.nH=st:=by
 obtain⟨v1,j1,e1,a1,b1,o1⟩:=lN h 9 (by omega) (by omega)
 obtain⟨v2,j2,e2,a2,b2,o2⟩:=lN o1 7 (by omega) (by omega)
 obtain⟨v3,j3,e3,a3,b3,o3⟩:=lN o2 21 (by omega) (by omega)
 refine⟨⟨nm,2+v1,5000+5000*v2,v3-10,st⟩,j3,?_,o3,rfl,?_,?_,rfl,rfl⟩
 ·unfold Ol
  rw[e1,Option.bind_some,bH (bO (by simp;omega) (by simp;omega))]
  simp only
  rw[e2,Option.bind_some,bH (bO (by simp;omega) (by simp;omega)),bH (bO (by simp;omega) (by simp;omega))]
  simp only
  rw[e3,Option.bind_some,bH (bO (by simp;omega) (by simp;omega))]
 ·refine⟨?_,?_,?_,?_,?_,?_⟩<;>simp only<;>omega
 ·simp only;omega
theorem agx(b:dB)(x:Section)(h:b.l.Sections.length≤1000):Om b x=some ((b.l.Sections.length:Int),b.l.Sections++[x]):=by
 unfold Om
 have e:((b.l.Sections++[x]).length:Int)-1=b.l.Sections.length:=by simp
 rw[bH (by simp;omega),e,bH (bO (by omega) (by omega))]
theorem aea(b:dB)(x y p q:Int)(h:b.l.Links.length≤1000):LJ b x y p q=some (b.l.Links++[⟨x,1,y,0,p,q⟩]):=by
 unfold LJ
 rw[bH (by simp;omega)]
theorem auf(b:dB)(h:b.l.bE.length<10):TV b=some ((b.l.bE.length:Int),b.l.bE++[rC ⟨[80]⟩ b.l.bE.length]):=by
 unfold TV
 have e:((b.l.bE++[rC ⟨[80]⟩ b.l.bE.length]).length:Int)-1=b.l.bE.length:=by simp
 rw[Mc _ _ h (by decide),Option.bind_some,bH (by simp;omega),e,bH (bO (by omega) (by omega))]
/-! ### Skeletons -/
def Gf(x p:Int)(east:Bool):Nat→List Int→List Link
 |_,[]=>[]
 |i,t::r=>(if east then ⟨x,1,t,0,p,i⟩ else ⟨t,1,x,0,p,i⟩)::Gf x p east (i+1) r
def ahd(ps:List Str)(ts:List Int):Int:=if 1<ts.length then ps.length else-1
def xJ(ps:List Str)(ks:List Link)(x:Int)(ts:List Int)(east:Bool):List Str×List Link:=
 (if 1<ts.length then ps++[rC ⟨[80]⟩ ps.length] else ps,ks++Gf x (ahd ps ts) east 0 ts)
theorem acd(x p:Int)(e:Bool):∀(ts:List Int) (i:Nat),(Gf x p e i ts).length=ts.length
 |[],_=>rfl
 |t::r,i=>by simp[Gf,acd x p e r (i+1)]
theorem ahc(b:dB)(x:Int)(ts:List Int)(east:Bool)(ps:List Str)(p:Int)(hk:b.l.Links.length≤500)(ht:ts.length≤100):
  Oo ts east b x (ps,p)=some (ps,b.l.Links++Gf x p east 0 ts):=by
 simp only[Oo]
 have:=jF (B:=TT ts east b ps x p) (fun (q:List Link×Nat) i=>(q.1,i)) ts (fun q i=>q.1.length≤500+i∧q.2=i) (fun q r=>some (ps,q.1++Gf x p east q.2 r)) ?_ ?_ FUEL (b.l.Links,0) 0 ⟨by simp;omega,rfl⟩ (by omega) (fD (by omega))
 ·simpa using this
 ·rintro c ⟨q,qi⟩ i t r ⟨hq,rfl⟩ hdr hi hx hc
  simp only at hq hx hi ⊢
  simp only[TT]
  rw[if_pos (by simpa using hi)]
  cases east with
  |true=>
   rw[if_pos rfl,hx,Option.bind_some,aea _ _ _ _ _ (by simp only;omega),Option.bind_some]
   simp only[Oq]
   have:=hc (q++[⟨x,1,t,0,p,qi⟩],qi+1) ⟨by simp;omega,rfl⟩
   simp only at this
   rw[this]
   simp[Gf]
  |false=>
   rw[if_neg (by simp),hx,Option.bind_some,aea _ _ _ _ _ (by simp only;omega),Option.bind_some]
   simp only[Oq]
   have:=hc (q++[⟨t,1,x,0,p,qi⟩],qi+1) ⟨by simp;omega,rfl⟩
   simp only at this
   rw[this]
   simp[Gf]
 ·rintro c ⟨q,qi⟩ ⟨hq,h2⟩
  simp only[TT]
  rw[if_neg (by simp)]
  simp[Gf]
theorem ahe(b:dB)(x:Int)(ts:List Int)(east:Bool)(hk:b.l.Links.length≤500)(ht:ts.length≤100)(hp:b.l.bE.length<10):
  Ot b x ts east=some (xJ b.l.bE b.l.Links x ts east):=by
 unfold Ot xJ ahd
 by_cases h:1<ts.length
 ·rw[if_pos (by simp;omega),auf b hp,Option.bind_some,ahc _ _ _ _ _ _ hk ht]
  simp[h]
 ·rw[if_neg (by simp;omega),ahc _ _ _ _ _ _ hk ht]
  simp[h]
def Ns(i:Nat):Nat→List Section
 |0=>[]
 |k+1=>⟨rC (rC ⟨[84]⟩ i) (k+1),1,1000,0,i⟩::Ns i k
def L6(i:Nat):Nat→List Section
 |0=>[]
 |k+1=>⟨rC (rC ⟨[76]⟩ i) (k+1),1,1000,0,-1⟩::L6 i k
def uW(s:Nat):Nat→List Int
 |0=>[]
 |k+1=>(s:Int)::uW (s+1) k
theorem Kh:∀(k s:Nat),(uW s k).length=k
 |0,_=>rfl
 |k+1,s=>by simp[uW,Kh k (s+1)]
abbrev S1:=List Str×List Section×List (List Int)
abbrev S2:=List Str×List Section×List Link×List (List Int)
def step1(s:S1)(k:Nat):S1:=(s.1++[rC ⟨[83]⟩ s.1.length],s.2.1++Ns s.1.length k,s.2.2++[uW s.2.1.length k])
def inner(t:List Int):Nat→List Int→List Link
 |_,[]=>[]
 |_,[_]=>[]
 |n,a::b::r=>⟨a,1,b,0,-1,0⟩::inner t n (b::r)
def step2(tr:List (List Int))(s:S2)(k:Nat):S2:=
 let i:=s.2.2.2.length
 let t:=uW s.2.1.length k
 let f:=xJ s.1 (s.2.2.1++inner t 0 t) (t.headD 0) (tr.getD i []) false
 let g:=xJ f.1 f.2 (t.getLastD 0) (tr.getD (i+1) []) true
 (g.1,s.2.1++L6 i k,g.2,s.2.2.2++[t])
def nu(ts:List Nat):S1:=ts.foldl step1 ([],[],[])
def oH(ts bs:List Nat):S2:=bs.foldl (step2 (nu ts).2.2) ([],(nu ts).2.1,[],[])
def shape(ts bs:List Nat):Layout:=⟨(nu ts).1,(oH ts bs).1,(oH ts bs).2.1,(oH ts bs).2.2.1⟩
def erase(l:Layout):Layout:=⟨l.aT,l.bE,l.Sections.map vX,l.Links⟩
theorem alm(i:Nat):∀k,(Ns i k).length=k
 |0=>rfl
 |k+1=>by simp[Ns,alm i k]
theorem aip(i:Nat):∀k,(L6 i k).length=k
 |0=>rfl
 |k+1=>by simp[L6,aip i k]
/-! ### The first loop: stations and their tracks -/
theorem awS{Q:dB×Int→Prop}{l:List Int}{i:Nat}{tX:List Str}{y:Str}{pK:List (List Int)}{cont:(Int×(List Str)×(List Section)×(List (List Int))×Nat)→Option (dB×Int)}{s0:bN}(hs0:s0.l=l)
  (hi:i<5)(ht:pK.length≤100):∀(k n:Nat) (pos:Int) (secs:List Section) (lt:List Int),k≤2→k<n→pR l pos→secs.length+k≤200→lt.length+k≤200→Am secs→
  (∀pos' Bv,pR l pos'→Bv.map vX=secs.map vX++Ns i k→Am Bv→WP (cont (pos',tX++[y],Bv,pK++[lt++uW secs.length k],i+1)) Q)→
  WP (iter (LM (i:Nat) s0 tX y pK cont) n (pos,secs,lt,(k:Int))) Q:=by
 intro k
 induction k with
 |zero=>
  intro n pos secs lt _ hn hp hs hl hr hc
  obtain⟨m,rfl⟩:∃m,n=m+1:=⟨n-1,by omega⟩
  show WP (LM _ _ _ _ _ _ _ _) Q
  simp only[LM]
  rw[if_neg (by simp)]
  simp only[adV,adU]
  refine mV (by simp;omega) (iM ⟨by omega,by omega⟩ ?_)
  have:=hc pos secs hp (by simp[Ns]) hr
  simpa [uW] using this
 |succ k ih=>
  intro n pos secs lt hk hn hp hs hl hr hc
  obtain⟨m,rfl⟩:∃m,n=m+1:=⟨n-1,by omega⟩
  show WP (LM _ _ _ _ _ _ _ _) Q
  simp only[LM]
  rw[if_pos (by simp<;>omega),Mc _ _ (by omega) (by decide),Option.bind_some,Mc _ _ (by omega) (by rw[aiy];decide),Option.bind_some]
  obtain⟨x,j,e,hj,e1,e2,e3,e4,e5⟩:=akE hp (rC (rC ⟨[84]⟩ i) (k+1)) i
  rw[hs0,e,Option.bind_some]
  unfold NJ at e2
  refine iM ⟨by simp only;omega,by simp only;omega⟩ ?_
  rw[agx _ _ (by simp only;omega),Option.bind_some]
  simp only
  refine mV (by simp;omega) (iM ⟨by omega,by omega⟩ ?_)
  have ek:(((k+1:Nat):Int)-1)=(k:Int):=by omega
  rw[ek]
  refine ih m j _ _ (by omega) (by omega) hj (by simp;omega) (by simp;omega) ?_ ?_
  ·intro s hm
   rcases List.mem_append.1 hm with h|h
   ·exact hr s h
   ·rw[List.mem_singleton] at h;subst h
    unfold NJ;simp only;omega
  ·intro pos' Bv h1 h2 h3
   have apy:vX ⟨x.Name,x.Length+2,x.Limit,x.jM,x.nH⟩=⟨rC (rC ⟨[84]⟩ i) (k+1),1,1000,0,i⟩:=by rw[←e1];rfl
   have:=hc pos' Bv h1 (by rw[h2];simp[Ns,apy]) h3
   have e6:lt++[(secs.length:Int)]++uW (secs++[(⟨x.Name,x.Length+2,x.Limit,x.jM,x.nH⟩:Section)]).length k=lt++uW secs.length (k+1):=by simp[uW]
   rw[e6]
   exact this
theorem amu{Q:dB×Int→Prop}{l:List Int}{i:Nat}{tX ps:List Str}{ks:List Link}{pK zI:List (List Int)}{cont:(Int×(List Str)×(List Section)×(List Link)×(List (List Int))×Nat)→Option (dB×Int)}{s0:bN}(hs0:s0.l=l)
  (hi:i<5):∀(k n:Nat) (pos:Int) (secs:List Section) (lt:List Int),k≤2→k<n→pR l pos→secs.length+k≤200→lt.length+k≤200→Am secs→
  (∀pos' Bv,pR l pos'→Bv.map vX=secs.map vX++L6 i k→Am Bv→WP (Ua (lt++uW secs.length k) tX ps Bv pK zI i cont pos' ks ()) Q)→
  WP (iter (LP (i:Nat) s0 tX ps ks pK zI cont) n (pos,secs,lt,(k:Int))) Q:=by
 intro k
 induction k with
 |zero=>
  intro n pos secs lt _ hn hp hs hl hr hc
  obtain⟨m,rfl⟩:∃m,n=m+1:=⟨n-1,by omega⟩
  show WP (LP _ _ _ _ _ _ _ _ _ _) Q
  simp only[LP]
  rw[if_neg (by simp)]
  have:=hc pos secs hp (by simp[L6]) hr
  simpa [uW] using this
 |succ k ih=>
  intro n pos secs lt hk hn hp hs hl hr hc
  obtain⟨m,rfl⟩:∃m,n=m+1:=⟨n-1,by omega⟩
  show WP (LP _ _ _ _ _ _ _ _ _ _) Q
  simp only[LP]
  rw[if_pos (by simp<;>omega),Mc _ _ (by omega) (by decide),Option.bind_some,Mc _ _ (by omega) (by rw[aiy];decide),Option.bind_some]
  obtain⟨x,j,e,hj,e1,e2,e3,e4,e5⟩:=akE hp (rC (rC ⟨[76]⟩ i) (k+1)) (-1)
  rw[hs0,e,Option.bind_some,agx _ _ (by simp only;omega),Option.bind_some]
  simp only
  refine mV (by simp;omega) (iM ⟨by omega,by omega⟩ ?_)
  have ek:(((k+1:Nat):Int)-1)=(k:Int):=by omega
  rw[ek]
  refine ih m j _ _ (by omega) (by omega) hj (by simp;omega) (by simp;omega) ?_ ?_
  ·intro s hm
   rcases List.mem_append.1 hm with h|h
   ·exact hr s h
   ·rw[List.mem_singleton] at h;subst h;exact e2
  ·intro pos' Bv h1 h2 h3
   have:=hc pos' Bv h1 (by rw[h2];simp[L6,e1]) h3
   have e6:lt++[(secs.length:Int)]++uW (secs++[x]).length k=lt++uW secs.length (k+1):=by simp[uW]
   rw[e6]
   exact this
theorem arN(lt:List Int)(tX ps:List Str)(secs:List Section)(pK zI:List (List Int))(i:Nat)(cont:(Int×(List Str)×(List Section)×(List Link)×(List (List Int))×Nat)→Option (dB×Int))(pos:Int)(ks:List Link)(hl:lt.length≤100)(hk:ks.length≤200)(h0:0<lt.length):
  Ua lt tX ps secs pK zI i cont pos ks ()=Ow lt pK i tX ps secs (ks++inner lt 0 lt) zI cont pos ():=by
 unfold Ua
 have key:∀(r:List Int) (n j:Nat) (q:List Link),0<r.length→lt.drop j=r→q.length≤200+j→r.length<n→
   iter (T9 lt tX ps secs pK zI i cont pos) n (q,j)=Ow lt pK i tX ps secs (q++inner lt 0 r) zI cont pos ():=by
  intro r
  induction r with
  |nil=>intro n j q h _ _ _;simp at h
  |cons a r ih=>
   intro n j q _ hd hq hn
   obtain⟨m,rfl⟩:∃m,n=m+1:=⟨n-1,by omega⟩
   have hj:j<lt.length:=by
    apply Nat.lt_of_not_le;intro h
    rw[List.drop_eq_nil_of_le h] at hd;cases hd
   have hr:r.length+1+j=lt.length:=by
    have:=congrArg List.length hd
    rw[List.length_drop] at this;simp at this;omega
   show T9 _ _ _ _ _ _ _ _ _ _ _=_
   simp only[T9]
   rw[bH (bO (by omega) (by omega))]
   cases r with
   |nil=>
    simp at hr
    rw[if_neg (by simp;omega)]
    simp[inner]
   |cons b r=>
    simp at hr
    have ea:lt[j]?=some a:=by have:=congrArg List.head? hd;simpa [List.head?_drop] using this
    have hd2:lt.drop (j+1)=b::r:=by rw[←List.drop_drop,hd];rfl
    have eb:lt[j+1]?=some b:=by have:=congrArg List.head? hd2;simpa [List.head?_drop] using this
    rw[if_pos (by simp;omega),kF,ea,Option.bind_some,bH (bO (by omega) (by omega))]
    have e1:((j:Int)+1)=((j+1:Nat):Int):=by omega
    rw[e1,kF,eb,Option.bind_some,aea _ _ _ _ _ (by simp only;omega),Option.bind_some,bH (bO (by omega) (by omega))]
    rw[ih m (j+1) _ (by simp) hd2 (by simp;omega) (by simp at hn ⊢;omega)]
    simp[inner]
 exact key lt FUEL 0 ks h0 rfl (by omega) (fD (by omega))
theorem adz(t:List Int)(n:Nat):∀r:List Int,(inner t n r).length≤r.length
 |[]=>by simp[inner]
 |[_]=>by simp[inner]
 |a::b::r=>by have:=adz t n (b::r);simp[inner] at this ⊢;omega
theorem ar4{Q:dB×Int→Prop}(lt:List Int)(tX ps:List Str)(secs:List Section)(pK zI:List (List Int))(i:Nat)(cont:(Int×(List Str)×(List Section)×(List Link)×(List (List Int))×Nat)→Option (dB×Int))(pos:Int)(ks:List Link)(hl:lt.length≤100)(hk:ks.length≤100)(h0:0<lt.length)
  (hi:i<5)(ht:i+1<pK.length)(htt:∀t∈pK,t.length≤10)(hp:ps.length<9)(hb:zI.length≤100)(x y:List Int)(hx:pK[i]?=some x)(hy:pK[i+1]?=some y)
  (hc:WP (cont (pos,(xJ (xJ ps ks (lt.headD 0) x false).1 (xJ ps ks (lt.headD 0) x false).2 (lt.getLastD 0) y true).1,secs,(xJ (xJ ps ks (lt.headD 0) x false).1 (xJ ps ks (lt.headD 0) x false).2 (lt.getLastD 0) y true).2,zI++[lt],i+1)) Q):
  WP (Ow lt pK i tX ps secs ks zI cont pos ()) Q:=by
 unfold Ow
 have hx2:x.length≤10:=htt x (List.mem_of_getElem? hx)
 have hy2:y.length≤10:=htt y (List.mem_of_getElem? hy)
 obtain⟨a,r,rfl⟩:∃a r,lt=a::r:=by cases lt with|nil=>simp at h0|cons a r=>exact⟨a,r,rfl⟩
 have e0:idx (a::r) 0=some a:=rfl
 rw[e0,Option.bind_some,kF,hx,Option.bind_some,ahe _ _ _ _ (by simp only;omega) (by omega) (by simp only;omega),Option.bind_some]
 refine iM ⟨by omega,by omega⟩ ?_
 have e1:idx (a::r) (((a::r).length:Int)-1)=some ((a::r).getLastD 0):=by
  have:(((a::r).length:Int)-1)=((r.length:Nat):Int):=by simp
  rw[this,kF,List.getLastD_eq_getLast?,List.getLast?_eq_getElem?]
  simp
 rw[e1,Option.bind_some]
 refine iM ⟨by omega,by omega⟩ ?_
 have e2:((i:Int)+1)=((i+1:Nat):Int):=by omega
 rw[e2,kF,hy,Option.bind_some]
 have l1:(xJ ps ks a x false).2.length≤200:=by simp[xJ,acd];omega
 have l2:(xJ ps ks a x false).1.length<10:=by unfold xJ;split<;>simp<;>omega
 rw[ahe _ _ _ _ (by simp only;omega) (by omega) (by simpa using l2),Option.bind_some]
 refine mV (by simp;omega) ?_
 simp only[adX]
 refine iM ⟨by omega,by omega⟩ ?_
 exact hc
structure Inv1(l:List Int)(n:Nat)(s:Int×(List Str)×(List Section)×(List (List Int))×Nat):Prop where
 src:pR l s.1
 rng:Am s.2.2.1
 ex:∃ts:List Nat,ts.length=s.2.2.2.2∧ts.length≤n∧(∀k∈ts,k=1∨k=2)∧(s.2.1,s.2.2.1.map vX,s.2.2.2.1)=nu ts
theorem akJ(ts:List Nat)(k:Nat):nu (ts++[k])=step1 (nu ts) k:=by simp[nu,List.foldl_append]
theorem akK(ts bs:List Nat)(k:Nat):oH ts (bs++[k])=step2 (nu ts).2.2 (oH ts bs) k:=by simp[oH,List.foldl_append]
theorem akU{P:List Nat→Prop}(h0:P [])(h1:∀l k,P l→P (l++[k]))(l:List Nat):P l:=by
 have:∀r:List Nat,P r.reverse:=by
  intro r
  induction r with
  |nil=>exact h0
  |cons a r ih=>rw[List.reverse_cons];exact h1 _ _ ih
 have:=this l.reverse
 rwa [List.reverse_reverse] at this
theorem afz(ts:List Nat):(∀k∈ts,k=1∨k=2)→(nu ts).1.length=ts.length∧(nu ts).2.1.length≤2*ts.length∧(nu ts).2.2.length=ts.length∧∀t∈(nu ts).2.2,t.length≤10:=by
 induction ts using akU with
 |h0=>intro _;simp[nu]
 |h1 l k ih=>
  intro hk
  obtain⟨a,b,c,d⟩:=ih (fun x hx=>hk x (by simp[hx]))
  have:=hk k (by simp)
  rw[akJ]
  refine⟨by simp[step1,a],by simp[step1,alm];omega,by simp[step1,c],?_⟩
  intro t ht
  simp[step1] at ht
  rcases ht with h|rfl
  ·exact d t h
  ·rw[Kh];omega
theorem awd(ts bs:List Nat):(∀k∈ts,k=1∨k=2)→(∀k∈bs,k=1∨k=2)→(oH ts bs).1.length≤2*bs.length∧(oH ts bs).2.1.length≤2*ts.length+2*bs.length∧(oH ts bs).2.2.1.length≤30*bs.length∧(oH ts bs).2.2.2.length=bs.length:=by
 intro h1
 obtain⟨a,b,c,d⟩:=afz ts h1
 have dd:∀i,((nu ts).2.2.getD i []).length≤10:=by
  intro i
  rw[List.getD_eq_getElem?_getD]
  cases h:(nu ts).2.2[i]? with
  |none=>simp
  |some t=>simpa using d t (List.mem_of_getElem? h)
 induction bs using akU with
 |h0=>intro _;simp[oH];omega
 |h1 l k ih=>
  intro hk
  obtain⟨e,f,g,j⟩:=ih (fun x hx=>hk x (by simp[hx]))
  have hk2:=hk k (by simp)
  rw[akK]
  have d1:=dd (oH ts l).2.2.2.length
  have d2:=dd ((oH ts l).2.2.2.length+1)
  have il:=adz (uW (oH ts l).2.1.length k) 0 (uW (oH ts l).2.1.length k)
  rw[Kh] at il
  refine⟨?_,?_,?_,?_⟩
  ·simp only[step2,xJ]
   split<;>split<;>simp<;>omega
  ·simp[step2,aip];omega
  ·simp only[step2,xJ]
   simp only[List.length_append,acd]
   simp only[List.length_singleton,List.length_nil]
   omega
  ·simp[step2,j]
structure Inv2(l:List Int)(n:Nat)(ts:List Nat)(s:Int×(List Str)×(List Section)×(List Link)×(List (List Int))×Nat):Prop where
 src:pR l s.1
 rng:Am s.2.2.1
 ex:∃bs:List Nat,bs.length=s.2.2.2.2.2∧bs.length+1≤n∧(∀k∈bs,k=1∨k=2)∧(s.2.1,s.2.2.1.map vX,s.2.2.2.1,s.2.2.2.2.1)=oH ts bs
structure abK(l:List Int)(y:dB×Int):Prop where
 src:pR l y.2
 rng:Am y.1.l.Sections
 ex:∃ts bs:List Nat,(ts.length=2∨ts.length=3)∧bs.length+1=ts.length∧(∀k∈ts,k=1∨k=2)∧(∀k∈bs,k=1∨k=2)∧erase y.1.l=shape ts bs∧y.1.tracks=(nu ts).2.2∧y.1.between=(oH ts bs).2.2.2∧y.1.jU=[]
theorem avu{l:List Int}{s0:bN}(hs0:s0.l=l)(y2:Int×Int)(n:Nat)(hn:n=2∨n=3)(hy:2+y2.1=n)(ts:List Nat)(ht:ts.length=n)(htk:∀k∈ts,k=1∨k=2)
  (tX:List Str)(pK:List (List Int))(secs:List Section)(pos:Int)(hsrc:pR l pos)(aqS:Am secs)(he:(tX,secs.map vX,pK)=nu ts):
  WP (Y6 y2 s0 tX pK pos secs ()) (abK l):=by
 unfold Y6
 obtain⟨f1,f2,f3,f4⟩:=afz ts htk
 have e1:tX=(nu ts).1:=congrArg Prod.fst he
 have e2:secs.map vX=(nu ts).2.1:=congrArg (fun p=>p.2.1) he
 have e3:pK=(nu ts).2.2:=congrArg (fun p=>p.2.2) he
 refine BR (Inv2 l n ts) (fun s=>n-s.2.2.2.2.2) _ ?_ FUEL _ ⟨hsrc,aqS,[],rfl,by simp;omega,by simp,by rw[e2];rfl⟩ (fD (by omega))
 rintro c ⟨p,ps,ss,ks,zI,i⟩ ⟨h1,h2,bs,h3,h4,h5,h6⟩ hc
 simp only at h1 h2 h3 h6 hc
 obtain⟨g1,g2,g3,g4⟩:=awd ts bs htk h5
 have a1:ps=(oH ts bs).1:=congrArg Prod.fst h6
 have a2:ss.map vX=(oH ts bs).2.1:=congrArg (fun p=>p.2.1) h6
 have a3:ks=(oH ts bs).2.2.1:=congrArg (fun p=>p.2.2.1) h6
 have a4:zI=(oH ts bs).2.2.2:=congrArg (fun p=>p.2.2.2) h6
 have a2l:ss.length=(oH ts bs).2.1.length:=by rw[←a2];simp
 simp only[adT]
 refine iM ⟨by omega,by omega⟩ ?_
 rw[hy]
 refine gX ?_ ?_
 ·intro hlt
  have hlt:i+1<n:=by simp at hlt;omega
  obtain⟨v,j,ev,v0,v1,hj⟩:=lN h1 2 (by omega) (by omega)
  rw[hs0,ev,Option.bind_some]
  simp only
  refine iM ⟨by omega,by omega⟩ ?_
  obtain⟨k,hk⟩:∃k:Nat,(1+v)=(k:Int):=⟨(1+v).toNat,by omega⟩
  have ac2:k=1∨k=2:=by omega
  rw[hk]
  refine amu hs0 (by omega) k FUEL j ss [] (by omega) (fD (by omega)) hj (by omega) (by simp;omega) h2 ?_
  intro pos' Bv hp' ade hr'
  rw[List.nil_append]
  have til:=adz (uW ss.length k) 0 (uW ss.length k)
  rw[Kh] at til
  rw[arN _ _ _ _ _ _ _ _ _ _ (by rw[Kh];omega) (by rw[a3];omega) (by rw[Kh];omega)]
  obtain⟨x,hx⟩:∃x,pK[i]?=some x:=⟨_,List.getElem?_eq_getElem (by rw[e3];omega)⟩
  obtain⟨y,hy2⟩:∃y,pK[i+1]?=some y:=⟨_,List.getElem?_eq_getElem (by rw[e3];omega)⟩
  refine ar4 _ _ _ _ _ _ _ _ _ _ (by rw[Kh];omega) (by simp only[List.length_append];rw[a3];omega) (by rw[Kh];omega) (by omega) (by rw[e3];omega) (by rw[e3];exact f4) (by rw[a1];omega) (by rw[a4];omega) x y hx hy2 ?_
  refine hc _ ⟨hp',hr',bs++[k],by simp[h3],by simp;omega,?_,?_⟩ (by simp only;omega)
  ·intro q hq
   rcases List.mem_append.1 hq with h|h
   ·exact h5 q h
   ·rw[List.mem_singleton] at h;subst h;exact ac2
  ·have b4:zI.length=i:=by rw[a4,g4,h3]
   have ex:(nu ts).2.2.getD i []=x:=by rw[←e3,List.getD_eq_getElem?_getD,hx];rfl
   have ey:(nu ts).2.2.getD (i+1) []=y:=by rw[←e3,List.getD_eq_getElem?_getD,hy2];rfl
   rw[akK]
   simp only[step2]
   rw[←a1,←a3,←a4,←a2,List.length_map,b4,ex,ey,ade]
 ·intro hge
  have hge:¬(i+1<n):=by simp at hge;omega
  simp only[adW]
  refine gD ⟨h1,h2,ts,bs,by omega,by omega,htk,h5,?_,e3,a4,rfl⟩
  simp only[erase,shape]
  rw[←a1,←a2,←a3,←e1]
theorem avy{l:List Int}{i:Int}(h:pR l i):WP (Ub ⟨l,i⟩) (abK l):=by
 unfold Ub
 obtain⟨v,j,ev,v0,v1,hj⟩:=lN h 2 (by omega) (by omega)
 rw[ev,Option.bind_some]
 simp only
 refine iM ⟨by omega,by omega⟩ ?_
 obtain⟨n,hn⟩:∃n:Nat,(2+v)=(n:Int):=⟨(2+v).toNat,by omega⟩
 have apH:n=2∨n=3:=by omega
 refine BR (Inv1 l n) (fun s=>n-s.2.2.2.2) _ ?_ FUEL _ ⟨hj,fun s hs=>by simp at hs,[],rfl,by simp,by simp,rfl⟩ (fD (by omega))
 rintro c ⟨p,tX,ss,pK,i⟩ ⟨h1,h2,ts,h3,h4,h5,h6⟩ hc
 simp only at h1 h2 h3 h6 hc
 obtain⟨f1,f2,f3,f4⟩:=afz ts h5
 have e1:tX=(nu ts).1:=congrArg Prod.fst h6
 have e2:ss.map vX=(nu ts).2.1:=congrArg (fun p=>p.2.1) h6
 have e3:pK=(nu ts).2.2:=congrArg (fun p=>p.2.2) h6
 have e2l:ss.length=(nu ts).2.1.length:=by rw[←e2];simp
 simp only[adS]
 rw[hn]
 refine gX ?_ ?_
 ·intro hlt
  have hlt:i<n:=by simp at hlt;omega
  rw[Mc _ _ (by omega) (by decide),Option.bind_some]
  refine mV (by simp[e1];omega) ?_
  obtain⟨w,j,ev,v0,v1,hj⟩:=lN h1 2 (by omega) (by omega)
  rw[ev,Option.bind_some]
  simp only
  refine iM ⟨by omega,by omega⟩ ?_
  obtain⟨k,hk⟩:∃k:Nat,(1+w)=(k:Int):=⟨(1+w).toNat,by omega⟩
  have ac2:k=1∨k=2:=by omega
  rw[hk]
  refine awS rfl (by omega) (by rw[e3];omega) k FUEL j ss [] (by omega) (fD (by omega)) hj (by omega) (by simp;omega) h2 ?_
  intro pos' Bv hp' ade hr'
  refine hc _ ⟨hp',hr',ts++[k],by simp[h3],by simp;omega,?_,?_⟩ (by simp only;omega)
  ·intro q hq
   rcases List.mem_append.1 hq with h|h
   ·exact h5 q h
   ·rw[List.mem_singleton] at h;subst h;exact ac2
  ·have b4:tX.length=i:=by rw[e1,f1,h3]
   rw[akJ]
   simp only[step1]
   rw[←e1,←e2,←e3,List.length_map,b4,ade,List.nil_append]
 ·intro hge
  have hge:¬(i<n):=by simp at hge;omega
  exact avu rfl (v,j) n apH hn ts (by omega) h5 tX pK ss p h1 h2 h6
/-! ### The forty shapes -/
def av8:List (List Nat×List Nat):=[1,2].flatMap fun a=>[1,2].flatMap fun b=>[1,2].map fun c=>([a,b],[c])
def av9:List (List Nat×List Nat):=[1,2].flatMap fun a=>[1,2].flatMap fun b=>[1,2].flatMap fun c=>[1,2].flatMap fun d=>[1,2].map fun e=>([a,b,c],[d,e])
def shapes:List (List Nat×List Nat):=av8++av9
theorem len1{l:List Nat}(h:l.length=1):∃a,l=[a]:=by
 match l,h with
 |[a],_=>exact⟨a,rfl⟩
theorem len2{l:List Nat}(h:l.length=2):∃a b,l=[a,b]:=by
 match l,h with
 |[a,b],_=>exact⟨a,b,rfl⟩
theorem asA{l:List Nat}(h:l.length=3):∃a b c,l=[a,b,c]:=by
 match l,h with
 |[a,b,c],_=>exact⟨a,b,c,rfl⟩
theorem ait{ts bs:List Nat}(h1:ts.length=2∨ts.length=3)(h2:bs.length+1=ts.length)(h3:∀k∈ts,k=1∨k=2)(h4:∀k∈bs,k=1∨k=2):(ts,bs)∈shapes:=by
 rcases h1 with h|h
 ·obtain⟨a,b,rfl⟩:=len2 h
  obtain⟨c,rfl⟩:=len1 (show bs.length=1 by simp at h2;omega)
  have a1:=h3 a (by simp);have b1:=h3 b (by simp);have c1:=h4 c (by simp)
  rcases a1 with rfl|rfl<;>rcases b1 with rfl|rfl<;>rcases c1 with rfl|rfl<;>decide
 ·obtain⟨a,b,c,rfl⟩:=asA h
  obtain⟨d,e,rfl⟩:=len2 (show bs.length=2 by simp at h2;omega)
  have a1:=h3 a (by simp);have b1:=h3 b (by simp);have c1:=h3 c (by simp);have d1:=h4 d (by simp);have e1:=h4 e (by simp)
  rcases a1 with rfl|rfl<;>rcases b1 with rfl|rfl<;>rcases c1 with rfl|rfl<;>rcases d1 with rfl|rfl<;>rcases e1 with rfl|rfl<;>decide
structure Q9(l:Layout):Prop where
 rng:Am l.Sections
 ex:∃p∈shapes,erase l=shape p.1 p.2
theorem awc:shapes.all (fun p=>decide (jB (dZ (shape p.1 p.2))=0))=true:=by decide+kernel
theorem akB(n:Nat):∀(ss:List Section) (seen:List ByteArray),Am ss→mh n seen (ss.map pF)=mh n seen ((ss.map vX).map pF)
 |[],_,_=>rfl
 |s::ss,seen,h=>by
  have ih:=akB n ss (seen++[s.Name.ba]) (fun x hx=>h x (by simp[hx]))
  have hs:=h s (by simp)
  unfold NJ at hs
  have e:yh n (pF s)=yh n (pF (vX s)):=by
   rw[Bool.eq_iff_iff]
   simp only[yh,pF,vX,Bool.and_eq_true,decide_eq_true_eq]
   obtain⟨q1,q2,q3,q4,q5,q6⟩:=hs
   constructor<;>(rintro⟨⟨_,a⟩,b⟩;refine⟨⟨⟨⟨⟨⟨⟨?_,?_⟩,?_⟩,?_⟩,?_⟩,?_⟩,a⟩,b⟩<;>first|omega|decide|(apply decide_eq_true;omega))
  simp only[List.map_cons,mh]
  rw[e]
  have e2:(pF s).name=s.Name.ba:=rfl
  have e3:(pF (vX s)).name=s.Name.ba:=rfl
  rw[e2,e3,ih]
theorem aif(a b:Lay)(h1:a.sections.length=b.sections.length)(h2:a.points.length=b.points.length):∀(ks done:List fK),pz a done ks=pz b done ks
 |[],_=>rfl
 |k::ks,done=>by
  have ih:=aif a b h1 h2 ks (done++[k])
  have e:oC a k=oC b k:=by simp only[oC,h1,h2]
  simp only[pz]
  rw[e,ih]
theorem amS(l:Layout)(h:Am l.Sections):jB (dZ l)=jB (dZ (erase l)):=by
 have e1:(dZ (erase l)).nN=(dZ l).nN:=rfl
 have e2:(dZ (erase l)).points=(dZ l).points:=rfl
 have e4:(dZ (erase l)).links=(dZ l).links:=rfl
 have e3:(dZ (erase l)).sections.length=(dZ l).sections.length:=by simp[dZ,erase]
 have e5:mh (dZ l).nN.length [] (dZ l).sections=mh (dZ l).nN.length [] (dZ (erase l)).sections:=akB _ _ _ h
 unfold jB wm
 rw[e1,e2,e4,e3,e5,aif (dZ (erase l)) (dZ l) e3 rfl]
theorem aho{l:Layout}(h:Q9 l):jB (dZ l)=0:=by
 obtain⟨hr,p,hp,he⟩:=h
 rw[amS l hr,he]
 have:=List.all_eq_true.1 awc p hp
 simpa using this
set_option maxRecDepth 10000
theorem alE{α β:Type}{xs:List α}{i:Int}{K:α→Option β}{Q:β→Prop}(h:0≤i∧i<xs.length)(hk:∀x∈xs,WP (K x) Q):WP ((idx xs i).bind K) Q:=by
 have hl:i.toNat<xs.length:=by omega
 have e:idx xs i=some (xs[i.toNat]):=by simp[idx,h.1,List.getElem?_eq_getElem hl]
 rw[e];exact hk _ (List.getElem_mem hl)
theorem alj{a:Int}{n:Nat}(h0:0≤a)(hn:0<n):0≤a.tmod (n:Int)∧a.tmod (n:Int)<n:=by
 rw[Int.tmod_eq_emod_of_nonneg h0]
 exact⟨Int.emod_nonneg _ (by omega),Int.emod_lt_of_pos _ (by omega)⟩
theorem ER{α β:Type}[Inhabited α]{xs:List α}{i:Int}{K:α→Option β}(h:0≤i∧i<xs.length):(idx xs i).bind K=K (xs.getD i.toNat default):=by
 rw[tJ h.1 h.2,Option.bind_some]
/-! ### What is read of a row of stations: for the forty shapes -/
def QS(tr:List (List Int))(i a:Int):Int:=gi (gll tr i) (a.tmod ((gll tr i).length:Int))
def rtB(p:List Nat×List Nat)(i a c:Int)(up:Bool):Bool:=
 match Gq ⟨⟨[],[],[],[]⟩,(nu p.1).2.2,(oH p.1 p.2).2.2.2,[]⟩ i a c up with
 |some r=>decide (r.Overlap=0)&&decide (2≤r.Steps.length)&&decide (r.Steps.length≤10)&&r.Steps.all (jv (shape p.1 p.2))&& !(qX [] r.Steps)&&decide ((uK (shape p.1 p.2) r).2=0)
  &&decide (nY r=QS (nu p.1).2.2 (if up then i else i+1) (if up then a else c))&&decide (kP r=QS (nu p.1).2.2 (if up then i+1 else i) (if up then c else a))
  &&decide (0≤pG (shape p.1 p.2) (nY r))&&decide (0≤pG (shape p.1 p.2) (kP r))
 |none=>false
def aki(p:List Nat×List Nat):Bool:=
 decide (1≤(oH p.1 p.2).2.2.2.length)&&decide ((oH p.1 p.2).2.2.2.length≤2)&&decide (2≤(shape p.1 p.2).aT.length)&&decide ((shape p.1 p.2).aT.length≤3)
 &&[0,1].all fun i=>decide (((oH p.1 p.2).2.2.2.length:Int)≤i)||[0,1].all fun a=>[0,1].all fun c=>[true,false].all fun up=>rtB p i a c up
theorem avv:shapes.all aki=true:=by decide+kernel
theorem avq{b b':dB}(h1:b.tracks=b'.tracks)(h2:b.between=b'.between)(i a c:Int)(up:Bool):Gq b i a c up=Gq b' i a c up:=by
 have e1:∀x,TW x i b c=TW x i b' c:=fun x=>by
  funext k ⟨q,t⟩
  simp only[TW,adQ,h1]
 have e2:∀x,TY x b i a=TY x b' i a:=fun x=>by
  funext k ⟨q,t⟩
  simp only[TY,adR,h1]
 unfold Gq adP
 simp only[h1,h2,e1,e2]
structure NK(l:Layout)(r:aG):Prop where
 pt:(jf l r).2=0
 ov:r.Overlap=0
 two:2≤r.Steps.length
 few:r.Steps.length≤10
 s0:0≤pG l (nY r)
 s1:0≤pG l (kP r)
theorem arR(l:Layout):jv (erase l)=jv l:=by
 funext s
 unfold jv
 simp only[erase,List.length_map]
theorem aiY(l:Layout):∀(ss:List Step) (a:Step),Bf (erase l) a ss=Bf l a ss
 |[],_=>rfl
 |b::r,a=>by
  simp only[Bf]
  rw[aiY l r b];rfl
theorem aur(l:Layout)(r:aG):uK (erase l) r=uK l r:=by
 have e:Pq (erase l) r.Steps=Pq l r.Steps:=by
  cases r.Steps with
  |nil=>rfl
  |cons a q=>exact aiY l q a
 unfold uK
 rw[e]
theorem awr(l:Layout)(s:Int):pG (erase l) s=pG l s:=by
 unfold pG
 simp only[erase,List.getD_eq_getElem?_getD,List.getElem?_map]
 cases l.Sections[s.toNat]?<;>rfl
structure ags(b:dB):Prop where
 g:Q9 b.l
 b1:1≤b.between.length
 b2:b.between.length≤2
 st:2≤b.l.aT.length∧b.l.aT.length≤3
 rt:∀(i a c:Int) (up:Bool),0≤i→i<b.between.length→0≤a→a<2→0≤c→c<2→∃r,Gq b i a c up=some r∧NK b.l r
  ∧nY r=QS b.tracks (if up then i else i+1) (if up then a else c)∧kP r=QS b.tracks (if up then i+1 else i) (if up then c else a)
theorem afO{i:Int}(h0:0≤i)(h1:i<2):i∈[(0:Int),1]:=by
 have:i=0∨i=1:=by omega
 rcases this with rfl|rfl<;>simp
theorem avw{l:List Int}{y:dB×Int}(h:abK l y):ags y.1:=by
 obtain⟨_,hr,ts,bs,h1,h2,h3,h4,h5,h6,h7,_⟩:=h
 have hg:Q9 y.1.l:=⟨hr,(ts,bs),ait h1 h2 h3 h4,h5⟩
 have hb:=List.all_eq_true.1 avv _ (ait h1 h2 h3 h4)
 unfold aki at hb
 simp only[Bool.and_eq_true,decide_eq_true_eq] at hb
 obtain⟨⟨⟨⟨q1,q2⟩,q3⟩,q4⟩,q5⟩:=hb
 have est:y.1.l.aT.length=(shape ts bs).aT.length:=by rw[←h5];rfl
 refine⟨hg,by rw[h7];exact q1,by rw[h7];exact q2,by rw[est];exact⟨q3,q4⟩,fun i a c up i0 i1 a0 a1 c0 c1=>?_⟩
 rw[h7] at i1
 have f1:=List.all_eq_true.1 q5 i (afO i0 (by omega))
 simp only[Bool.or_eq_true,decide_eq_true_eq] at f1
 rcases f1 with f1|f1
 ·omega
 have f2:=List.all_eq_true.1 f1 a (afO a0 a1)
 have f3:=List.all_eq_true.1 f2 c (afO c0 c1)
 have f4:=List.all_eq_true.1 f3 up (by cases up<;>simp)
 unfold rtB at f4
 rw[avq (b:=y.1) (b':=⟨⟨[],[],[],[]⟩,(nu ts).2.2,(oH ts bs).2.2.2,[]⟩) h6 h7]
 cases hm:Gq ⟨⟨[],[],[],[]⟩,(nu ts).2.2,(oH ts bs).2.2.2,[]⟩ i a c up with
 |none=>simp only[hm] at f4;cases f4
 |some r=>
  simp only[hm,Bool.and_eq_true,decide_eq_true_eq,Bool.not_eq_true'] at f4
  obtain⟨⟨⟨⟨⟨⟨⟨⟨⟨g1,g2⟩,g3⟩,g4⟩,g5⟩,g6⟩,g7⟩,g8⟩,g9⟩,g10⟩:=f4
  rw[←h5] at g4 g6 g9 g10
  rw[arR] at g4
  rw[aur] at g6
  rw[awr] at g9 g10
  refine⟨r,rfl,⟨?_,g1,g2,g3,g9,g10⟩,by rw[h6];exact g7,by rw[h6];exact g8⟩
  unfold jf
  rw[if_neg (by simp[aho hg]),if_neg (by omega),if_neg (by omega),if_neg (by simp[g4]),if_neg (by simp[g5])]
  exact g6
/-! ### A line -/
def RdV(rs:List aG)(n k:Nat)(r:bW):Prop:=
 (0≤r.aG∧r.aG<(rs.length:Int))∧(0≤r.Extra∧r.Extra≤2)∧(0≤r.Min∧r.Min≤r.Max∧r.Max≤r.Min+3∧r.Min≤10)∧(k+1=n→r.Min=0∧r.Max=0)
def M4(rs:List aG)(r:bW):aG:=rs.getD r.aG.toNat default
structure LnV(rs:List aG)(x:Line):Prop where
 st:x.aQ=0
 w:0≤x.Weight∧x.Weight≤3
 pos:0<x.bD.length
 few:x.bD.length≤2
 rd:∀k,k<x.bD.length→RdV rs x.bD.length k (iK x k)
 jn:∀k,0<k→k<x.bD.length→nY (M4 rs (iK x k))=kP (M4 rs (iK x (k-1)))
structure Ib(l:Layout)(rs:List aG)(ls:List Line):Prop where
 rt:∀r∈rs,NK l r
 ln:∀x∈ls,LnV rs x
 nm:∀i,i<ls.length→(ls.getD i default).Name=rC ⟨[78]⟩ i
theorem ako{rs q:List aG}{r:bW}(h:0≤r.aG∧r.aG<(rs.length:Int)):M4 (rs++q) r=M4 rs r:=by
 unfold M4
 rw[List.getD_eq_getElem?_getD,List.getD_eq_getElem?_getD,List.getElem?_append_left (by omega)]
theorem asR{rs q:List aG}{x:Line}(h:LnV rs x):LnV (rs++q) x:=by
 refine⟨h.st,h.w,h.pos,h.few,fun k hk=>?_,fun k h0 hk=>?_⟩
 ·obtain⟨a,b⟩:=h.rd k hk
  exact⟨⟨a.1,by rw[List.length_append];omega⟩,b⟩
 ·rw[ako (h.rd k hk).1,ako (h.rd (k-1) (by omega)).1]
  exact h.jn k h0 hk
def LnP(l:List Int)(lay:Layout)(p:Plan)(y:Int×List aG×List Line):Prop:=pR l y.1∧Ib lay y.2.1 y.2.2∧y.2.1.length≤p.Routes.length+2∧y.2.2.length=p.Lines.length+1
structure RdI(b:dB)(up:Bool)(Cn:List Int)(p:Plan)(many:Int)(l:List Int)(q:Int×List aG×List bW×Nat):Prop where
 src:pR l q.1
 le:(q.2.2.2:Int)≤many
 len:q.2.2.1.length=q.2.2.2
 ex:∃new,q.2.1=p.Routes++new∧new.length=q.2.2.2∧(∀r∈new,NK b.l r)∧(∀j,j<q.2.2.2→nY (new.getD j default)=QS b.tracks (if up then (j:Int) else many-j) (gi Cn (if up then (j:Int) else many-j))
  ∧kP (new.getD j default)=QS b.tracks (if up then (j:Int)+1 else many-j-1) (gi Cn (if up then (j:Int)+1 else many-j-1)))
 rd:∀j,j<q.2.2.2→(q.2.2.1.getD j default).aG=(p.Routes.length:Int)+j∧(0≤(q.2.2.1.getD j default).Extra∧(q.2.2.1.getD j default).Extra≤2)∧
  (0≤(q.2.2.1.getD j default).Min∧(q.2.2.1.getD j default).Min≤(q.2.2.1.getD j default).Max∧(q.2.2.1.getD j default).Max≤(q.2.2.1.getD j default).Min+3∧(q.2.2.1.getD j default).Min≤10)∧
  ((j:Int)+1=many→(q.2.2.1.getD j default).Min=0∧(q.2.2.1.getD j default).Max=0)
theorem acj{α:Type}[Inhabited α](xs:List α)(x:α)(j:Nat)(h:j<xs.length+1):(xs++[x]).getD j default=if j<xs.length then xs.getD j default else x:=by
 rw[List.getD_eq_getElem?_getD,List.getD_eq_getElem?_getD]
 split
 ·rename_i hj;rw[List.getElem?_append_left hj]
 ·have:j=xs.length:=by omega
  subst this;simp
theorem asE{b:dB}(R:ags b){l:List Int}{pos:Int}(hs:pR l pos){p:Plan}(hp:Ib b.l p.Routes p.Lines)(h1:p.Routes.length≤100)(h2:p.Lines.length<10){up:Bool}{many:Int}(hm:1≤many∧many≤b.between.length):
  WP (TU b ⟨l,pos⟩ p up many) (LnP l b.l p):=by
 have hb2:=R.b2
 unfold TU
 rw[Mc _ _ h2 (by decide),Option.bind_some]
 obtain⟨v,j,ev,v0,v1,hj⟩:=lN hs 4 (by omega) (by omega)
 rw[ev,Option.bind_some]
 refine BR (fun (q:Int×List Int×Nat)=>pR l q.1∧q.2.1.length=3∧q.2.2≤3∧∀x∈q.2.1,0≤x∧x<2) (fun q=>3-q.2.2) _ ?_ FUEL _ ⟨hj,by simp,by simp,by simp⟩ (fD (by omega))
 rintro c ⟨p1,Cn,t⟩ ⟨g1,g2,g3,g4⟩ hc
 simp only at g1 g2 g3 g4 hc
 simp only[adK]
 refine gX (fun h=>?_) (fun h=>?_)
 ·simp only[decide_eq_true_eq] at h
  obtain⟨x,k,ex,x0,x1,hk⟩:=lN g1 2 (by omega) (by omega)
  rw[ex,Option.bind_some]
  refine alE (by omega) fun _ _=>hc _ ⟨hk,by simp only[List.length_set];omega,by simp only;omega,fun z hz=>?_⟩ (by simp only;omega)
  rcases List.mem_or_eq_of_mem_set hz with hz|hz
  ·exact g4 z hz
  ·subst hz;exact⟨x0,x1⟩
 ·have ahp:∀i:Int,0≤i→i<3→0≤gi Cn i∧gi Cn i<2:=fun i i0 i1=>by
   have hl:i.toNat<Cn.length:=by omega
   have:gi Cn i∈Cn:=by unfold gi;simp[hl]
   exact g4 _ this
  unfold adM
  refine BR (RdI b up Cn p many l) (fun q=>2-q.2.2.2) _ ?_ FUEL _ ⟨g1,by simp;omega,rfl,⟨[],by simp,rfl,by simp,fun j hj=>by simp at hj⟩,fun j hj=>by simp at hj⟩ (fD (by omega))
  rintro c2 ⟨p2,rs,rd,k⟩ ⟨i1,i2,i3,⟨new,n1,n2,n3,n4⟩,i5⟩ hc2
  simp only at i1 i2 i3 n1 n2 n4 i5 hc2
  subst n1
  simp only[adL]
  refine gX (fun hk=>?_) (fun hk=>?_)
  ·simp only[decide_eq_true_eq] at hk
   have core:∀i:Int,i=(if up then (k:Int) else many-1-k)→WP (Ou Cn b up (p.Routes++new) ⟨l,pos⟩ p2 k many rd c2 i) (LnP l b.l p):=by
    intro i ei
    have hi:0≤i∧i<many:=by cases up<;>simp at ei<;>omega
    unfold Ou
    have ga:=ahp i hi.1 (by omega)
    have gd:=ahp (i+1) (by omega) (by omega)
    refine alD (by omega) (iM (by omega) (alD (by omega) ?_))
    obtain⟨r,er,hr,hr1,hr2⟩:=R.rt i (gi Cn i) (gi Cn (i+1)) up hi.1 (by omega) ga.1 ga.2 gd.1 gd.2
    rw[er,Option.bind_some]
    refine mV (by simp;omega) (iM (by simp;omega) ?_)
    obtain⟨x,k3,ex,x0,x1,hk3⟩:=lN i1 3 (by omega) (by omega)
    rw[ex,Option.bind_some]
    have fin:∀(p5 mn mx:Int),pR l p5→0≤mn∧mn≤mx∧mx≤mn+3∧mn≤10→((k:Int)+1=many→mn=0∧mx=0)→WP (Ov rd (p.Routes++new) r x k c2 (p5,mn,mx)) (LnP l b.l p):=by
     intro p5 mn mx h5 hb hlast
     unfold Ov
     refine mV (by simp;omega) (iM (by omega) (hc2 _ ⟨h5,by simp only;omega,by simp;omega,⟨new++[r],by simp,by simp;omega,fun q hq=>?_,fun j hj=>?_⟩,fun j hj=>?_⟩ (by simp only;omega)))
     ·rcases List.mem_append.1 hq with hq|hq
      ·exact n3 q hq
      ·rw[List.mem_singleton] at hq;subst hq;exact hr
     ·simp only at hj
      rw[acj _ _ _ (by omega)]
      split
      ·exact n4 j (by omega)
      ·have:j=k:=by omega
       subst this
       rw[hr1,hr2]
       cases up
       ·simp at ei ⊢
        have e1:i+1=many-j:=by omega
        have e2:i=many-j-1:=by omega
        rw[e1,e2];exact⟨rfl,rfl⟩
       ·simp at ei ⊢
        rw[ei];exact⟨rfl,rfl⟩
     ·simp only at hj ⊢
      rw[acj _ _ _ (by omega)]
      split
      ·exact i5 j (by omega)
      ·have:j=k:=by omega
       subst this
       simp only[List.length_append,List.length_singleton]
       exact⟨by omega,by omega,hb,hlast⟩
    unfold Y5
    refine iM (by omega) (gX (fun hlt=>?_) (fun hlt=>fin _ _ _ hk3 (by omega) (fun _=>⟨rfl,rfl⟩)))
    simp only[decide_eq_true_eq] at hlt
    obtain⟨y,k4,ey,y0,y1,hk4⟩:=lN hk3 6 (by omega) (by omega)
    rw[ey,Option.bind_some]
    refine iM (by simp only;omega) ?_
    obtain⟨z,k5,ez,z0,z1,hk5⟩:=lN hk4 4 (by omega) (by omega)
    rw[ez,Option.bind_some]
    exact iM (by simp only;omega) (fin _ _ _ hk5 (by simp only;omega) (by omega))
   refine gX (fun hu=>iM (by omega) (iM (by omega) (core _ ?_))) (fun hu=>core _ ?_)
   ·simp at hu;rw[hu];rfl
   ·simp at hu;rw[hu];rfl
  ·unfold adN
   simp only[decide_eq_false_iff_not] at hk
   have ekm:(k:Int)=many:=by omega
   refine mV (by simp;omega) (gD ⟨i1,⟨fun q hq=>?_,fun x hx=>?_,fun i hi=>?_⟩,(by simp;omega),by simp⟩)
   ·rcases List.mem_append.1 hq with hq|hq
    ·exact hp.rt q hq
    ·exact n3 q hq
   ·rcases List.mem_append.1 hx with hx|hx
    ·exact asR (hp.ln x hx)
    ·rw[List.mem_singleton] at hx;subst hx
     have nth:∀j,j<k→M4 (p.Routes++new) (rd.getD j default)=new.getD j default:=fun j hj=>by
      unfold M4
      rw[(i5 j hj).1,List.getD_eq_getElem?_getD,List.getD_eq_getElem?_getD,List.getElem?_append_right (by omega)]
      congr 2;omega
     refine⟨rfl,⟨by simp only;omega,by simp only;omega⟩,by simp only;omega,by simp only;omega,fun j hj=>?_,fun j h0 hj=>?_⟩
     ·simp only at hj
      obtain⟨d1,d2,d3,d4⟩:=i5 j (by omega)
      refine⟨?_,d2,d3,fun e=>d4 (by simp only at e;omega)⟩
      unfold iK
      simp only
      rw[d1,List.length_append];omega
     ·simp only at hj
      unfold iK
      simp only
      rw[nth j (by omega),nth (j-1) (by omega),(n4 j (by omega)).1,(n4 (j-1) (by omega)).2]
      cases up
      ·have e:many-(j:Int)=many-((j-1:Nat):Int)-1:=by omega
       simp only[Bool.false_eq_true,if_false];rw[e]
      ·have e:(j:Int)=((j-1:Nat):Int)+1:=by omega
       simp only[if_true];rw[←e]
   ·simp only at hi ⊢
    rw[acj _ _ _ (by simpa using hi)]
    split
    ·rename_i hlt;exact hp.nm i hlt
    ·simp at hi
     have:i=p.Lines.length:=by omega
     subst this;rfl
/-! ### Starts and stops, turns -/
theorem YC{p:Plan}{i k:Int}(h1:i<(p.Lines.length:Int))(h0:0≤i)(h2:0≤k)(h3:k<((dn p i.toNat).bD.length:Int)):eY p i k=true:=by
 unfold eY ig
 simp only[Bool.and_eq_true,decide_eq_true_eq]
 exact⟨⟨⟨h0,h1⟩,h2⟩,h3⟩
theorem YD{l:Layout}{p:Plan}(hp:Ib l p.Routes p.Lines){i k:Int}(h:eY p i k=true):(0≤i∧i<(p.Lines.length:Int))∧(0≤k∧k<((dn p i.toNat).bD.length:Int))∧(0≤(gQ p i k).aG∧(gQ p i k).aG<(p.Routes.length:Int))∧NK l (gI p (gQ p i k)):=by
 unfold eY ig at h
 simp only[Bool.and_eq_true,decide_eq_true_eq] at h
 obtain⟨⟨⟨a,b⟩,c⟩,d⟩:=h
 have hm:dn p i.toNat∈p.Lines:=kE (by omega)
 have r:=((hp.ln _ hm).rd k.toNat (by omega)).1
 exact⟨⟨a,b⟩,⟨c,d⟩,r,hp.rt _ (kE (by unfold gQ;omega))⟩
theorem alc{l:Layout}{p:Plan}(hp:Ib l p.Routes p.Lines){i k:Int}(h:eY p i k=true):LU p i k=some (kP (gI p (gQ p i k))):=by
 obtain⟨a,b,c,d⟩:=YD hp h
 have d1:=d.two;have d2:=d.few;have d3:=d.ov
 unfold LU
 rw[ER a,show p.Lines.getD i.toNat default=dn p i.toNat from rfl,ER b,show (dn p i.toNat).bD.getD k.toNat default=gQ p i k from rfl,ER c]
 rw[show p.Routes.getD (gQ p i k).aG.toNat default=gI p (gQ p i k) from rfl,bH (bO (by omega) (by omega)),ER (by omega)]
 unfold kP
 rw[d3,show ((gI p (gQ p i k)).Steps.length:Int)-0-1=((gI p (gQ p i k)).Steps.length:Int)-1 by omega]
theorem ak7{l:Layout}{p:Plan}(hp:Ib l p.Routes p.Lines){i k:Int}(h:eY p i k=true):LQ p i k=some (nY (gI p (gQ p i k))):=by
 obtain⟨a,b,c,d⟩:=YD hp h
 have d1:=d.two
 unfold LQ
 rw[ER a,show p.Lines.getD i.toNat default=dn p i.toNat from rfl,ER b,show (dn p i.toNat).bD.getD k.toNat default=gQ p i k from rfl,ER c]
 rw[show p.Routes.getD (gQ p i k).aG.toNat default=gI p (gQ p i k) from rfl,ER (by omega)]
 rfl
structure TnV(p:Plan)(t:Turn):Prop where
 fr:ig p t.From=true
 tt:ig p t.To=true
 lo:10≤t.Min∧t.Min≤19∧t.Min≤t.Max∧t.Max≤t.Min+29
 eq:kP (gI p (gQ p t.From ((dn p t.From.toNat).bD.length-1)))=nY (gI p (gQ p t.To 0))
def Xx(u t:Turn):Prop:=u.From≠t.From∧u.To≠t.To
def TnP(p:Plan)(l:List Int)(y:Int×List Turn):Prop:=pR l y.1∧y.2.length≤12∧(∀t∈y.2,TnV p t)∧y.2.Pairwise Xx
structure Xy(p:Plan)(l:List Int)(m:Nat)(q:Int×List Turn×List Bool×List Bool×Nat):Prop where
 src:pR l q.1
 len:q.2.1.length≤m+q.2.2.2.2
 f4:q.2.2.1.length=4
 t4:q.2.2.2.1.length=4
 le:q.2.2.2.2≤p.Lines.length
 ok:∀t∈q.2.1,TnV p t∧gb q.2.2.1 t.From=true∧gb q.2.2.2.1 t.To=true
 pw:q.2.1.Pairwise Xx
theorem awV{lay:Layout}{l:List Int}{pos:Int}(hs:pR l pos){p:Plan}(hp:Ib lay p.Routes p.Lines)(h3:p.Lines.length≤3)(ht:p.Turns=[]):WP (Uc ⟨l,pos⟩ p) (TnP p l):=by
 unfold Uc
 rw[ht]
 refine BR (fun q=>Xy p l (3*q.2.2.2.2) q) (fun q=>4-q.2.2.2.2) _ ?_ FUEL _ ⟨hs,by simp,by simp,by simp,by simp,by simp,by simp⟩ (fD (by omega))
 rintro c ⟨p1,tn,f,to,a⟩ ⟨i1,i2,i3,i4,i5,i6,i7⟩ hc
 simp only at i1 i2 i3 i4 i5 i6 i7 hc
 simp only[adY]
 refine gX (fun h=>?_) (fun h=>gD ⟨i1,by simp only;omega,fun t ht=>(i6 t ht).1,i7⟩)
 simp only[decide_eq_true_eq] at h
 refine BR (Xy p l (4*a)) (fun q=>4-q.2.2.2.2) _ ?_ FUEL _ ⟨i1,by simp only;omega,i3,i4,by simp,i6,i7⟩ (fD (by omega))
 rintro c2 ⟨p2,tn2,f2,to2,b⟩ ⟨j1,j2,j3,j4,j5,j6,j7⟩ hc2
 simp only at j1 j2 j3 j4 j5 j6 j7 hc2
 simp only[adZ]
 refine gX (fun hb=>?_) (fun hb=>?_)
 ·simp only[decide_eq_true_eq] at hb
  obtain⟨x,k,ex,x0,x1,hk⟩:=lN j1 3 (by omega) (by omega)
  rw[ex,Option.bind_some]
  have go:∀(q:Int) (t:List Turn) (u w:List Bool),Xy p l (4*a) (q,t,u,w,b+1)→WP (LV c2 b (q,t,u,w)) (TnP p l):=by
   intro q t u w hI
   unfold LV
   exact hc2 _ hI (by simp only;omega)
  have keep:Xy p l (4*a) (k,tn2,f2,to2,b+1):=⟨hk,by simp only;omega,j3,j4,by simp only;omega,j6,j7⟩
  have hA:(0:Int)≤(a:Int)∧(a:Int)<(p.Lines.length:Int):=by omega
  have hB:(0:Int)≤(b:Int)∧(b:Int)<(p.Lines.length:Int):=by omega
  have anr:idx f2 (a:Int)=some (gb f2 a):=by rw[tJ (by omega) (by omega)];rfl
  have ant:idx to2 (b:Int)=some (gb to2 b):=by rw[tJ (by omega) (by omega)];rfl
  have anu:idx p.Lines (a:Int)=some (dn p a):=by rw[tJ hA.1 hA.2];rfl
  rw[anr,vQ,Option.bind_some,ant,vQ,Option.bind_some,anu,vQ,Option.bind_some]
  refine gX (fun hg=>?_) (fun _=>go _ _ _ _ keep)
  rw[hg]
  simp only[Bool.and_eq_true,decide_eq_true_eq,Bool.not_eq_true'] at hg
  obtain⟨⟨hx,hf⟩,hto⟩:=hg
  rw[if_pos (by simpa using hx)] at hf
  rw[if_pos (by simp[hx,hf])] at hto
  have ma:dn p a∈p.Lines:=kE (by omega)
  have lo:=hp.ln _ ma
  have lp:=lo.pos;have lf:=lo.few
  have mb:dn p b∈p.Lines:=kE (by omega)
  have lo2:=(hp.ln _ mb).pos
  rw[if_pos rfl]
  have rA:eY p (a:Int) (((dn p a).bD.length:Int)-1)=true:=by
   unfold eY ig;simp;omega
  have rB:eY p (b:Int) 0=true:=by
   unfold eY ig;simp;omega
  have s1:=alc (p:=Plan.mk p.bJ p.aP p.Routes p.Lines p.Changes tn2 p.bB p.bA) hp (i:=(a:Int)) (k:=((dn p a).bD.length:Int)-1) rA
  have s2:=ak7 (p:=Plan.mk p.bJ p.aP p.Routes p.Lines p.Changes tn2 p.bB p.bA) hp (i:=(b:Int)) (k:=0) rB
  refine iM (by omega) ?_
  rw[s1,Option.bind_some,s2,Option.bind_some]
  refine gX (fun he=>?_) (fun _=>go _ _ _ _ keep)
  simp only[Bool.true_and,decide_eq_true_eq] at he
  rw[Option.bind_some,Option.bind_some]
  obtain⟨y,k4,ey,y0,y1,hk4⟩:=lN hk 10 (by omega) (by omega)
  rw[ey,Option.bind_some]
  refine iM (by simp only;omega) ?_
  obtain⟨z,k5,ez,z0,z1,hk5⟩:=lN hk4 30 (by omega) (by omega)
  rw[ez,Option.bind_some]
  refine iM (by simp only;omega) (mV (by simp;omega) (go _ _ _ _ ⟨hk5,by simp;omega,by simp;omega,by simp;omega,by simp only;omega,fun t ht=>?_,?_⟩))
  ·simp only at ht ⊢
   have gs:∀(g:List Bool) (n:Nat) (j:Int),g.length=4→n<4→0≤j→(gb g j=true∨j=n)→gb (g.set (n:Int).toNat true) j=true:=fun g n j h4 hn hj hor=>by
    rw[ahn g (n:Int) j true (by omega) hj (by omega)]
    split
    ·rfl
    ·rcases hor with h|h
     ·exact h
     ·contradiction
   rcases List.mem_append.1 ht with hq|hq
   ·obtain⟨v,q1,q2⟩:=j6 t hq
    have vf:=v.fr;have vt:=v.tt
    unfold ig at vf vt
    simp only[Bool.and_eq_true,decide_eq_true_eq] at vf vt
    exact⟨v,gs _ _ _ j3 (by omega) vf.1 (.inl q1),gs _ _ _ j4 (by omega) vt.1 (.inl q2)⟩
   ·rw[List.mem_singleton] at hq;subst hq
    refine⟨⟨by unfold ig;simp;omega,by unfold ig;simp;omega,by simp only;omega,he⟩,gs _ _ _ j3 (by omega) (by simp) (.inr rfl),gs _ _ _ j4 (by omega) (by simp) (.inr rfl)⟩
  ·simp only
   rw[List.pairwise_append]
   refine⟨j7,List.pairwise_singleton _ _,fun u hu t ht=>?_⟩
   rw[List.mem_singleton] at ht;subst ht
   obtain⟨_,q1,q2⟩:=j6 u hu
   refine⟨fun e=>?_,fun e=>?_⟩
   ·rw[e] at q1;rw[q1] at hf;cases hf
   ·rw[e] at q2;rw[q2] at hto;cases hto
 ·unfold ad1
  simp only[decide_eq_false_iff_not] at hb
  exact hc _ ⟨j1,by simp only;omega,j3,j4,by simp only;omega,j6,j7⟩ (by simp only;omega)
/-! ### A valid plan -/
theorem Iw{g:Nat→Option Int}{k:Option Int}:∀m i,(∀j,i≤j→j<i+m→g j=some 0)→k=some 0→errs g k m i=some 0:=by
 intro m
 induction m with
 |zero=>intro i _ h;exact h
 |succ m ih=>
  intro i h hk
  simp only[errs]
  rw[h i (Nat.le_refl _) (by omega),Option.bind_some,if_neg (by simp)]
  exact ih (i+1) (fun j a b=>h j (by omega) (by omega)) hk
theorem akx{l:Layout}(hr:Am l.Sections){s:Step}(h:jv l s=true):2≤(iV l s).Length∧(iV l s).Length≤12:=by
 unfold jv at h
 simp only[Bool.and_eq_true,decide_eq_true_eq] at h
 have:=hr (iV l s) (kE (by omega))
 unfold NJ at this
 omega
theorem agK{l:Layout}(hr:Am l.Sections):∀ss:List Step,(∀s∈ss,jv l s=true)→(Dt l ss).length≤12*ss.length
 |[],_=>by simp[Dt]
 |s::r,h=>by
  have ih:=agK hr r (fun t ht=>h t (List.mem_cons_of_mem _ ht))
  have hs:=akx hr (h s List.mem_cons_self)
  have e:Dt l (s::r)=List.replicate (iV l s).Length.toNat (cellOf l s)++Dt l r:=rfl
  rw[e,List.length_append,List.length_replicate,List.length_cons];omega
theorem anA{l:Layout}(hg:Q9 l){r:aG}(h:NK l r){s:aQ}(hs:uU s=true)(h2:s.Length≤2):EM l r s=0:=by
 have o:=CO h.pt
 have hT:∀x∈uV r,jv l x=true:=fun x hx=>o.st x (List.mem_of_mem_take hx)
 have hl:(uV r).length≤24:=by have:=o.len;unfold uV;rw[List.length_take];omega
 have hc:=agK hg.rng (uV r) hT
 have e:(yD l r).2.2=0:=by
  unfold yD
  rw[if_neg (by simp[h.pt]),show r.Steps.take ((r.Steps.length:Int)-r.Overlap).toNat=uV r from rfl]
  unfold cellsE
  rw[if_neg (by omega)]
 unfold EM
 rw[if_neg (by simp[e]),if_neg (by simp[hs]),if_neg (by omega:¬s.Length>2),if_neg]
 simp only[List.any_eq_true,decide_eq_true_eq,not_exists,not_and]
 intro x hx
 have:=(akx hg.rng (hT x hx)).1
 omega
theorem atb:∀i j:Fin 3,i≠j→rC ⟨[78]⟩ i.val≠rC ⟨[78]⟩ j.val:=by decide
theorem atc:∀i:Fin 3,kW (rC ⟨[78]⟩ i.val).ba=true:=by decide+kernel
theorem abR{p:Plan}{lo hi:Int}(h:0≤lo∧lo≤hi∧hi≤7200∧hi<lo+p.bJ):nP p lo hi=true:=by
 unfold nP;simp;omega
structure Xu(l:Layout)(p:Plan):Prop where
 g:Q9 l
 sz:Sz p
 per:90≤p.bJ∧p.bJ≤300
 sk:∃s,p.aP=[s]∧kW s.Name.ba=true∧uU s=true∧s.Length≤2
 ok:Ib l p.Routes p.Lines
 ln:p.Lines.length≤3
 ch:∀c∈p.Changes,Iq l p c=0
 tn:∀t∈p.Turns,TnV p t
 td:p.Turns.Pairwise Xx
 sy:∀s∈p.bB,Nj p s=0
 dm:∀d∈p.bA,KQ l d=0
 few:p.Routes.length≤6∧p.Changes.length≤3∧p.Turns.length≤12∧p.bB.length≤1∧p.bA.length≤3
 ri2:∀x∈p.Lines,x.bD.length≤2
 ne:0<p.Lines.length
theorem avj{l:Layout}{p:Plan}(v:Xu l p){x:Line}(hx:x∈p.Lines){k:Nat}(hk:k<x.bD.length):vK l p x k=0:=by
 have hl:=v.ok.ln x hx
 obtain⟨⟨a1,a2⟩,b,c,d⟩:=hl.rd k hk
 have hr:NK l (gI p (iK x k)):=v.ok.rt _ (kE (by omega))
 obtain⟨s,es,_,hs,h2⟩:=v.sk
 have per:=v.per
 have e:p.aP.getD x.aQ.toNat default=s:=by rw[es,hl.st];rfl
 unfold vK
 rw[if_neg,e,anA v.g hr hs h2,if_neg (by simp),if_neg]
 ·rintro⟨h0,hne⟩
  exact hne (hl.jn k h0 hk)
 ·have hb:nP p (iK x k).Min (iK x k).Max=true:=abR (by omega)
  simp only[Bool.not_eq_false]
  unfold uO
  rw[hb]
  have hlast:(decide (k+1=x.bD.length)&&(decide ((iK x k).Min≠0)||decide ((iK x k).Max≠0)))=false:=by
   by_cases e:k+1=x.bD.length
   ·obtain⟨d1,d2⟩:=d e
    simp[d1,d2]
   ·simp[e]
  rw[hlast]
  simp
  omega
theorem atJ{l:Layout}{p:Plan}(v:Xu l p):Aa l p=some 0:=by
 have per:=v.per
 obtain⟨s,es,hn,hs,h2⟩:=v.sk
 have e0:Et l p=0:=by
  unfold Et
  rw[if_neg (by simp[aho v.g]),if_neg (by simp[v.sz]),if_neg (by omega)]
 unfold Aa
 rw[if_neg (by simp[e0])]
 refine Iw _ _ (fun j _ hj=>?_) (Iw _ _ (fun j _ hj=>?_) (Iw _ _ (fun j _ hj=>?_) (Iw _ _ (fun j _ hj=>?_) (Iw _ _ (fun j _ hj=>?_) (Iw _ _ (fun j _ hj=>?_) (Iw _ _ (fun j _ hj=>?_) rfl))))))
 ·rw[es] at hj
  have:j=0:=by simp at hj;omega
  subst this
  unfold Nh
  rw[es]
  simp[hn,hs]
 ·unfold aay
  rw[(v.ok.rt _ (kE (by omega))).pt]
 ·have hj':j<p.Lines.length:=by omega
  have h3:=v.ln
  have hx:dn p j∈p.Lines:=kE hj'
  have hl:=v.ok.ln _ hx
  have ag2:(dn p j).Name=rC ⟨[78]⟩ j:=v.ok.nm j hj'
  unfold Cq
  rw[if_neg,if_neg,if_neg,if_neg (by have:=hl.pos;omega)]
  ·exact Iw _ _ (fun k _ hk=>by rw[avj v hx (by omega)]) rfl
  ·simp only[Bool.not_eq_false,Bool.and_eq_true,decide_eq_true_eq]
   have w:=hl.w
   unfold wB
   rw[hl.st,es]
   simp;omega
  ·simp only[List.any_eq_true,decide_eq_true_eq,not_exists,not_and]
   intro t ht
   obtain⟨i,hi,rfl⟩:=List.getElem_of_mem ht
   rw[List.length_take] at hi
   have hij:i<j:=by omega
   rw[List.getElem_take,ag2]
   have:=v.ok.nm i (by omega)
   rw[getD_lt (by omega)] at this
   rw[this]
   exact atb ⟨i,by omega⟩ ⟨j,by omega⟩ (by simp[Fin.ext_iff];omega)
  ·rw[ag2]
   simpa using atc ⟨j,by omega⟩
 ·unfold RI
  rw[v.ch _ (kE (by omega))]
 ·unfold Nt
  have hj':j<p.Turns.length:=by omega
  have t:=v.tn _ (kE hj')
  have tlo:=t.lo
  unfold Xb
  rw[if_neg,if_neg,if_neg]
  ·have f1:=t.fr;have f2:=t.tt
   unfold ig at f1 f2
   simp only[Bool.and_eq_true,decide_eq_true_eq] at f1 f2
   have k1:(dn p (p.Turns.getD j default).From.toNat).aQ=0:=(v.ok.ln _ (kE (by omega))).st
   have k2:(dn p (p.Turns.getD j default).To.toNat).aQ=0:=(v.ok.ln _ (kE (by omega))).st
   rintro (h|h)
   ·exact h t.eq
   ·exact h (k1.trans k2.symm)
  ·simp only[List.any_eq_true,Bool.or_eq_true,decide_eq_true_eq,not_exists,not_and]
   intro u hu
   obtain⟨i,hi,rfl⟩:=List.getElem_of_mem hu
   rw[List.length_take] at hi
   rw[List.getElem_take,getD_lt hj']
   have:=List.pairwise_iff_getElem.1 v.td i j (by omega) hj' (by omega)
   unfold Xx at this
   omega
  ·simp only[Bool.not_eq_false,Bool.and_eq_true]
   exact⟨⟨t.fr,t.tt⟩,abR (by omega)⟩
 ·unfold Ni
  rw[v.sy _ (kE (by omega))]
 ·unfold KP
  rw[v.dm _ (kE (by omega))]
/-! ### The plan -/
structure axa(p:Plan):Prop where
 st:p.aP.length≤100
 ro:p.Routes.length≤100
 li:p.Lines.length≤100
 ch:p.Changes.length≤100
 tu:p.Turns.length≤100
 sy:p.bB.length≤100
 de:p.bA.length≤100
 per:0≤p.bJ∧p.bJ≤7200
theorem aue(l:List Int)(hl:l.length≤140737488355328):WP (Tt l) (fun y=>Xu y.1 y.2):=by
 unfold Tt
 have e:Y3 l=some ⟨l,0⟩:=rfl
 rw[e,Option.bind_some]
 refine wp_bind _ (avy (l:=l) ⟨by omega,by omega,hl⟩) ?_
 rintro⟨b,p0⟩ ro
 have R:=avw ro
 have hg:=R.g
 have r0:=ro.src
 simp only at r0 R hg ⊢
 have hb1:=R.b1
 have hb2:=R.b2
 have hst:=R.st
 obtain⟨a1,p1,e1,l1,u1,r1⟩:=lN r0 6 (by omega) (by omega)
 rw[e1,Option.bind_some]
 refine alE (by simp;omega) fun per apK=>?_
 have apL:90≤per∧per≤300:=by
  simp only[List.mem_cons,List.not_mem_nil,or_false] at apK
  omega
 obtain⟨a2,p2,e2,l2,u2,r2⟩:=lN r1 2 (by omega) (by omega)
 rw[e2,Option.bind_some]
 refine iM (by simp only;omega) ?_
 obtain⟨a3,p3,e3,l3,u3,r3⟩:=lN r2 4 (by omega) (by omega)
 rw[e3,Option.bind_some]
 refine iM (by simp only;omega) (iM (by simp only;omega) ?_)
 obtain⟨a4,p4,e4,l4,u4,r4⟩:=lN r3 3 (by omega) (by omega)
 rw[e4,Option.bind_some]
 refine iM (by simp only;omega) (iM (by simp only;omega) ?_)
 obtain⟨a5,p5,e5,l5,u5,r5⟩:=lN r4 3 (by omega) (by omega)
 rw[e5,Option.bind_some]
 refine iM (by simp only;omega) (iM (by simp only;omega) ?_)
 generalize hsk:(aQ.mk (⟨[88]⟩:Str) (1+a2) (10000+(5000*a3)) (400+(200*a4)) (400+(200*a5)))=sk
 have aqV:kW sk.Name.ba=true∧uU sk=true∧sk.Length≤2:=by
  subst hsk
  refine⟨by show kW (⟨[88]⟩:Str).ba=true;decide+kernel,?_,by simp only;omega⟩
  unfold uU;simp;omega
 clear hsk
 unfold Y4
 obtain⟨a6,p6,e6,l6,u6,r6⟩:=lN r5 3 (by omega) (by omega)
 simp only
 rw[e6,Option.bind_some]
 refine iM (by simp only;omega) ?_
 refine BR (fun (q:Int×List aG×List Line×Int)=>pR l q.1∧Ib b.l q.2.1 q.2.2.1∧(q.2.2.1.length:Int)+q.2.2.2≤3∧0≤q.2.2.2∧q.2.1.length≤2*q.2.2.1.length∧(0<q.2.2.2∨0<q.2.2.1.length)) (fun q=>q.2.2.2.toNat) _ ?_ FUEL _ ⟨r6,⟨by simp,by simp,by simp⟩,by simp;omega,by simp only;omega,by simp,by simp only;omega⟩ (fD (by simp only;omega))
 rintro c ⟨p7,rs,ls,n⟩ ⟨i1,i2,i3,i4,i5,i6⟩ hc
 simp only at i1 i2 i3 i4 i5 i6 hc
 simp only[adD]
 refine gX (fun h=>?_) (fun h=>?_)
 ·simp only[decide_eq_true_eq] at h
  obtain⟨a8,p8,e8,l8,u8,r8⟩:=lN i1 2 (by omega) (by omega)
  rw[e8,Option.bind_some]
  obtain⟨a9,p9,e9,l9,u9,r9⟩:=lN r8 (b.between.length:Int) (by omega) (by omega)
  rw[e9,Option.bind_some]
  refine iM (by simp only;omega) ?_
  refine wp_bind _ (asE R (p:=Plan.mk _ _ rs ls _ _ _ _) r9 i2 (by simp only;omega) (by simp only;omega) (by omega)) ?_
  rintro⟨p10,rs2,ls2⟩ ⟨q1,q2,q3,q4⟩
  simp only at q1 q2 q3 q4 ⊢
  exact iM (by omega) (hc _ ⟨q1,q2,by simp only;omega,by simp only;omega,by simp only;omega,by simp only;omega⟩ (by simp only;omega))
 ·simp only[decide_eq_false_iff_not] at h
  unfold adG
  refine wp_bind _ (awV (p:=Plan.mk _ _ rs ls _ _ _ _) i1 i2 (by simp only;omega) rfl) ?_
  rintro⟨p11,tn⟩ ⟨t1,t2,t3,t4⟩
  simp only at t1 t2 t3 t4 ⊢
  obtain⟨a12,p12,e12,Ue,u12,Jq⟩:=lN t1 3 (by omega) (by omega)
  rw[e12,Option.bind_some]
  refine BR (fun (q:Int×List Change×Int)=>pR l q.1∧(q.2.1.length:Int)+q.2.2≤3∧0≤q.2.2∧∀c∈q.2.1,Iq b.l (Plan.mk per [sk] rs ls [] tn [] []) c=0) (fun q=>q.2.2.toNat) _ ?_ FUEL _ ⟨Jq,by simp;omega,by simp only;omega,by simp⟩ (fD (by simp only;omega))
  rintro c2 ⟨p13,ch,k2⟩ ⟨j1,j2,j3,j4⟩ hc2
  simp only at j1 j2 j3 j4 hc2
  simp only[adE]
  refine gX (fun hk=>?_) (fun hk=>?_)
  ·simp only[Bool.and_eq_true,decide_eq_true_eq] at hk
   obtain⟨zD,p14,e14,Y7,u14,Pt⟩:=lN j1 (ls.length:Int) (by omega) (by omega)
   rw[e14,Option.bind_some]
   obtain⟨a15,p15,e15,DX,u15,mI⟩:=lN Pt 3 (by omega) (by omega)
   rw[e15,Option.bind_some]
   have tr:=alj (a:=zD+1) (n:=ls.length) (by omega) (by omega)
   generalize hto:(zD+1).tmod (ls.length:Int)=to at tr
   have hne:zD≠to:=by
    rw[Int.tmod_eq_emod_of_nonneg (by omega)] at hto
    by_cases h:zD+1<ls.length
    ·rw[Int.emod_eq_of_lt (by omega) h] at hto;omega
    ·have:zD+1=ls.length:=by omega
     rw[this,Int.emod_self] at hto;omega
   simp only[hto]
   refine iM (by omega) (mV (by simp only[decide_eq_true_eq];omega) ?_)
   rw[ER (by omega),ER (by omega)]
   have o1:=i2.ln _ (kE (xs:=ls) (i:=zD.toNat) (by omega))
   have o2:=i2.ln _ (kE (xs:=ls) (i:=to.toNat) (by omega))
   have o1p:=o1.pos
   have o2p:=o2.pos
   have o1f:=o1.few
   have o2f:=o2.few
   obtain⟨a16,p16,e16,l16,u16,r16⟩:=lN mI ((ls.getD zD.toNat default).bD.length:Int) (by omega) (by omega)
   rw[e16,Option.bind_some]
   obtain⟨a17,p17,e17,l17,u17,tQ⟩:=lN r16 ((ls.getD to.toNat default).bD.length:Int) (by omega) (by omega)
   simp only
   rw[e17,Option.bind_some]
   obtain⟨a18,p18,e18,l18,u18,yZ⟩:=lN tQ 20 (by omega) (by omega)
   simp only
   rw[e18,Option.bind_some]
   obtain⟨a19,p19,e19,l19,u19,rF⟩:=lN yZ per (by omega) (by omega)
   simp only
   rw[e19,Option.bind_some]
   have hA:eY (Plan.mk per [sk] rs ls [] tn [] []) zD a16=true:=YC (by show zD<(ls.length:Int);omega) (by omega) (by omega) (by show a16<((ls.getD zD.toNat default).bD.length:Int);omega)
   have hB:eY (Plan.mk per [sk] rs ls [] tn [] []) to a17=true:=YC (by show to<(ls.length:Int);omega) (by omega) (by omega) (by show a17<((ls.getD to.toNat default).bD.length:Int);omega)
   have sA:LU (Plan.mk per [sk] rs ls ch tn [] []) zD a16=some (kP (gI (Plan.mk per [sk] rs ls [] tn [] []) (gQ (Plan.mk per [sk] rs ls [] tn [] []) zD a16))):=alc (p:=Plan.mk per [sk] rs ls [] tn [] []) i2 hA
   have sB:LQ (Plan.mk per [sk] rs ls ch tn [] []) to a17=some (nY (gI (Plan.mk per [sk] rs ls [] tn [] []) (gQ (Plan.mk per [sk] rs ls [] tn [] []) to a17))):=ak7 (p:=Plan.mk per [sk] rs ls [] tn [] []) i2 hB
   have vA:=(YD (p:=Plan.mk per [sk] rs ls [] tn [] []) i2 hA).2.2.2
   have vB:=(YD (p:=Plan.mk per [sk] rs ls [] tn [] []) i2 hB).2.2.2
   have oA:=CO vA.pt;have oB:=CO vB.pt
   refine iM (by omega) ?_
   rw[sA,Option.bind_some]
   have iA:idx b.l.Sections (kP (gI (Plan.mk per [sk] rs ls [] tn [] []) (gQ (Plan.mk per [sk] rs ls [] tn [] []) zD a16)))=some (b.l.Sections.getD (kP (gI (Plan.mk per [sk] rs ls [] tn [] []) (gQ (Plan.mk per [sk] rs ls [] tn [] []) zD a16))).toNat default):=by
    have:=oA.two;have:=oA.ov
    exact WG oA (kE (by omega))
   have iB:idx b.l.Sections (nY (gI (Plan.mk per [sk] rs ls [] tn [] []) (gQ (Plan.mk per [sk] rs ls [] tn [] []) to a17)))=some (b.l.Sections.getD (nY (gI (Plan.mk per [sk] rs ls [] tn [] []) (gQ (Plan.mk per [sk] rs ls [] tn [] []) to a17))).toNat default):=by
    have:=oB.two;have:=oB.ov
    exact WG oB (kE (by omega))
   rw[iA,Option.bind_some,sB,Option.bind_some,iB,Option.bind_some]
   refine gX (fun he=>mV (by simp;omega) ?_) (fun _=>?_)
   ·unfold Oi
    refine iM (by omega) (hc2 _ ⟨rF,by simp;omega,by simp only;omega,fun c hcm=>?_⟩ (by simp only;omega))
    rcases List.mem_append.1 hcm with hq|hq
    ·exact j4 c hq
    ·rw[List.mem_singleton] at hq;subst hq
     simp only[decide_eq_true_eq] at he
     unfold Iq
     rw[if_neg,if_neg]
     ·simp only
      rintro (h|h)
      ·have:=vA.s1;omega
      ·exact h he
     ·unfold zJ
      simp only
      rw[hA,hB,abR (by simp only;omega)]
      unfold wB
      simp;omega
   ·unfold Oi
    exact iM (by omega) (hc2 _ ⟨rF,by simp only;omega,by simp only;omega,j4⟩ (by simp only;omega))
  ·unfold adH
   obtain⟨a20,p20,e20,l20,u20,za⟩:=lN j1 4 (by omega) (by omega)
   rw[e20,Option.bind_some]
   have last:∀(q:Int) (sy:List Sync),pR l q→sy.length≤1→(∀s∈sy,Nj (Plan.mk per [sk] rs ls ch tn [] []) s=0)→WP (Oj ⟨l,0⟩ (b,p0) per [sk] rs ls ch (p11,tn) (q,sy)) (fun y=>Xu y.1 y.2):=by
    intro q sy hq hsy hsv
    unfold Oj
    obtain⟨a21,p21,e21,l21,u21,ze⟩:=lN hq 3 (by omega) (by omega)
    simp only
    rw[e21,Option.bind_some]
    refine BR (fun (q:Int×List bZ×Int)=>pR l q.1∧(q.2.1.length:Int)+q.2.2≤3∧0≤q.2.2∧∀d∈q.2.1,KQ b.l d=0) (fun q=>q.2.2.toNat) _ ?_ FUEL _ ⟨ze,by simp;omega,by simp only;omega,by simp⟩ (fD (by simp only;omega))
    rintro c3 ⟨p22,dm,k3⟩ ⟨m1,m2,m3,m4⟩ hc3
    simp only at m1 m2 m3 m4 hc3
    simp only[adF]
    refine gX (fun hk3=>?_) (fun hk3=>?_)
    ·simp only[decide_eq_true_eq] at hk3
     obtain⟨a23,p23,e23,l23,u23,r23⟩:=lN m1 (b.l.aT.length:Int) (by omega) (by omega)
     rw[e23,Option.bind_some]
     refine iM (by simp only;omega) (iM (by omega) ?_)
     obtain⟨a24,p24,e24,l24,u24,qy⟩:=lN r23 ((b.l.aT.length:Int)-1) (by omega) (by omega)
     rw[e24,Option.bind_some]
     refine iM (by simp only;omega) (mV (by simp only[decide_eq_true_eq];omega) ?_)
     obtain⟨a25,p25,e25,l25,u25,CB⟩:=lN qy 9 (by omega) (by omega)
     rw[e25,Option.bind_some]
     refine iM (by simp only;omega) (mV (by simp;omega) (iM (by omega) (hc3 _ ⟨CB,by simp;omega,by simp only;omega,fun d hd=>?_⟩ (by simp only;omega))))
     rcases List.mem_append.1 hd with hq|hq
     ·exact m4 d hq
     ·rw[List.mem_singleton] at hq;subst hq
      have tr:=alj (a:=a23+1+a24) (n:=b.l.aT.length) (by omega) (by omega)
      have hne:a23≠(a23+1+a24).tmod (b.l.aT.length:Int):=by
       rw[Int.tmod_eq_emod_of_nonneg (by omega)]
       by_cases h:a23+1+a24<b.l.aT.length
       ·rw[Int.emod_eq_of_lt (by omega) h];omega
       ·have e:(a23+1+a24)=(a23+1+a24-b.l.aT.length)+b.l.aT.length:=by omega
        rw[e,Int.add_emod_right,Int.emod_eq_of_lt (by omega) (by omega)];omega
      unfold KQ
      rw[if_neg]
      simp;omega
    ·unfold adJ
     simp only[decide_eq_false_iff_not] at hk3
     exact gD ⟨hg,⟨by simp,by simp only;omega,by simp only;omega,by simp only;omega,by simp only;omega,by simp only;omega,by simp only;omega,fun x hx=>by have:=(i2.ln x hx).few;omega⟩,
      apL,⟨sk,rfl,aqV⟩,i2,by simp only;omega,fun c hc=>j4 c hc,fun t ht=>⟨(t3 t ht).fr,(t3 t ht).tt,(t3 t ht).lo,(t3 t ht).eq⟩,t4,fun s hs=>hsv s hs,m4,⟨by simp only;omega,by simp only;omega,by simp only;omega,by simp only;omega,by simp only;omega⟩,fun x hx=>(i2.ln x hx).few,by simp only;omega⟩
   refine gX (fun hk=>?_) (fun _=>last _ _ za (by simp) (by simp))
   simp only[Bool.and_eq_true,decide_eq_true_eq] at hk
   obtain⟨a26,p26,e26,l26,u26,Pv⟩:=lN za per (by omega) (by omega)
   rw[e26,Option.bind_some]
   refine mV (by simp) (last _ _ Pv (by simp) fun s hs=>?_)
   simp only[List.nil_append,List.mem_singleton] at hs
   subst hs
   have o1:=(i2.ln _ (kE (xs:=ls) (i:=0) (by omega))).pos
   have o2:=(i2.ln _ (kE (xs:=ls) (i:=1) (by omega))).pos
   unfold Nj
   rw[if_neg]
   have h0:eY (Plan.mk per [sk] rs ls ch tn [] []) 0 0=true:=YC (by show (0:Int)<(ls.length:Int);omega) (by omega) (by omega) (by show (0:Int)<((ls.getD 0 default).bD.length:Int);omega)
   have h1:eY (Plan.mk per [sk] rs ls ch tn [] []) 1 0=true:=YC (by show (1:Int)<(ls.length:Int);omega) (by omega) (by omega) (by show (0:Int)<((ls.getD 1 default).bD.length:Int);omega)
   dsimp only
   rw[h0,h1]
   simp;omega
end Go.Proofs.YtcalibhfgdncaaaGreatDoor
