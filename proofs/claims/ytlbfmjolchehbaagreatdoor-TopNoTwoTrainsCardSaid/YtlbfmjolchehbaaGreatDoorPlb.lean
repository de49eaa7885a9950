/- Several parts of the engine, one behind the other. -/
import Derived.Test.YtlbfmjolchehbaaGreatDoorPla
import Derived.Test.YtlbfmjolchehbaaGreatDoorMod
set_option linter.all false
namespace Go.Z
open Go Go.Proofs Go.Dc Go.R
noncomputable section
instance aO6{l s}:Spec (Si (l,s)) True λb=>b=true->LV l:=⟨λ_=>by
 unfold Si
 dsimp only
 refine Mc (λ_=>trivial) λv a=>aD λh=>?_
 simp only[Bool.and_eq_true] at h
 exact a (by simp only[Bool.and_eq_true];exact h.1) (of_decide_eq_true h.2)⟩
instance aO7{e}:Spec (Kz e) True λ_=>True:=⟨λ_=>by unfold Kz;exact go⟩
instance aOI{l s}:Spec (Sj (l,s)) True λv=>v.length<=192/\All v λh=> -1<=h.3/\h.3<l.2.length:=⟨λ_=>by
 unfold Sj
 dsimp only
 refine rA trivial (aD ⟨sm,All.nil⟩) λp=>av (λ_=>True) (λj _=>?_) λk g=>aB (λ_=>g _ trivial) λ_=>g _ trivial
 refine av (λv:List Hop=>v.length<=192/\All v λh=> -1<=h.3/\h.3<l.2.length) (λv h=>aD h) λu m=>?_
 refine wp_loop (λx=>0<=x.2/\x.2<=l.4.length/\x.1.length<=x.2/\All x.1 λh=> -1<=h.3/\h.3<l.2.length) (λx=>(l.4.length-x.2).toNat) ⟨sm,sm,sm,All.nil⟩ om λc x ⟨q,r,t,i⟩ n=>?_
 unfold an9
 dsimp only
 refine aB (λh=>?_) λh=>m _ ⟨om,i⟩
 have g:=p.2.2.2.2 x.2 q h
 refine av (λj:List Hop=>j.length<=x.2+1/\All j λh=> -1<=h.3/\h.3<l.2.length) (λj o=>ak (n _ ⟨om,om,o⟩ om)) λw f=>aA (aP trivial λe _=>?_)
 have d:∀a b,All (x.1++[Hop.mk a b (gi l.4 x.2).5 (gi l.4 x.2).6]) λh=> -1<=h.3/\h.3<l.2.length:=λa b=>All.app i om
 exact aR (λ_=>aP trivial λ_ _=>aW (f _ ⟨by simp;omega,d _ _⟩)) λ_=>aR (λ_=>aP trivial λ_ _=>aW (f _ ⟨by simp;omega,d _ _⟩)) λ_=>f _ ⟨om,i⟩⟩
instance s95{l s t}:Spec (EF (l,s,t)) True λp=> -1<=p/\(p<l.2.length\/p= -1):=⟨λ_=>by
 unfold EF
 dsimp only
 refine av (λ_=>True) (λ_ _=>aD om) λk b=>aP trivial λv ⟨h1,h2⟩=>?_
 refine wp_loop (λi=>0<=i/\i<=v.length) (λi=>(v.length-i).toNat) om om λc i ⟨d,e⟩ a=>?_
 unfold afR
 refine aB (λh=>aA (aR (λ_=>aD ?_) λ_=>ak (a _ om om))) λ_=>b _ trivial
 have:=h2 i d h
 omega⟩
def pb(l:Layout)(s t:Step):Int:=(EF (l,s,t)).getD (-1)
theorem KV{l s t}:EF (l,s,t)=some (pb l s t)/\ -1<=pb l s t/\(pb l s t<l.2.length\/pb l s t= -1):=by obtain⟨y,h1,h2⟩:=(s95 (l:=l) (s:=s) (t:=t)).h trivial;unfold pb;rw[h1];exact⟨rfl,h2⟩
def jP(t:List aV)(q a b:Int):List aV:=t.set q.toNat ⟨q,if (gi t q).2<(gi t q).3 then min a (gi t q).2 else a,if (gi t q).2<(gi t q).3 then max b (gi t q).3 else b⟩
section
variable (l:Layout)(r:bg)(T:List Int×List Int×Int×Int)(b a:Int)
def eu(i:Int):Int:=if i=0 then-b else if i<T.1.length then gi T.1 (i-1) / 1000-16 else gi T.1 (T.1.length-1) / 1000-16
def dS(i:Int):Int:=if i<T.1.length-1 then (gi T.2.1 i+999) / 1000+4 else if i=T.1.length-1 then T.2.2.1+a else T.2.2.1+20
def qX(i:Int)(t:List aV):List aV:=let c:=jP t (gi r.1 i).1 (eu T b i) (dS T a i);if i=0 then c else let q:=pb l (gi r.1 (i-1)) (gi r.1 i);if q<0 then c else jP c (l.3.length+q) (eu T b i) (if i<T.1.length then dS T a (i-1) else dS T a i)
def tab:Nat->List aV|0=>List.replicate (l.3.length+l.2.length) ⟨0,0,0⟩|n+1=>qX l r T b a n (tab n)
def kF:List aV:=(tab l r T b a r.1.length).filter λo=>decide (o.2<o.3)
end
theorem ug{t:List aV}{q a b:Int}:(jP t q a b).length=t.length:=by simp[jP]
theorem aIQ{l r T b a i t}:(qX l r T b a i t).length=t.length:=by
 unfold qX;dsimp only;split;·exact ug
 ·split;·exact ug
  ·rw[ug,ug]
theorem pQ{l r T b a}:∀n,(tab l r T b a n).length=l.3.length+l.2.length|0=>by simp[tab]|n+1=>by rw[tab,aIQ,pQ n]
theorem aIS{l r T b a}{i:Int}(h:0<=i):tab l r T b a (i+1).toNat=qX l r T b a i (tab l r T b a i.toNat):=by obtain⟨n,rfl⟩:∃n:Nat,i=n:=⟨i.toNat,om⟩;rfl
theorem aqG{α:Type}[Inhabited α]{xs:List α}{i:Int}(h0:0<=i)(h1:i<xs.length):xs.take (i+1).toNat=xs.take i.toNat++[gi xs i]:=by
 have e:(i+1).toNat=i.toNat+1:=by omega
 have a:i.toNat<xs.length:=by omega
 rw[e,List.take_add_one];simp[gi,a]
abbrev VN(T:List Int×List Int×Int×Int)(b a:Int)(sp:List aV)(i:Int):Prop:=(sp.length:Int)=max (T.1.length:Int) i/\∀k:Int,0<=k->k<sp.length->gi sp k=⟨0,eu T b k,dS T a k⟩
instance s33{l r s b a}:Spec (IV (l,r,s,b,a)) (0<=b/\b<=1000000/\0<=a/\a<=1000000) λy=>∃T,Bg (l,r,s)=some T/\(T.2.2.2=0->A8 l r T)/\y=if T.2.2.2=0 then (kF l r T b a,T.2.2.1,0) else ([],0,T.2.2.2):=⟨λ⟨ae,af,aa,ab⟩=>by
 unfold IV
 dsimp only
 refine D5 trivial λT W A=>aR (λh=>aD ⟨T,W,A,by rw[if_neg (by simpa using h)]⟩) λh=>?_
 have Z:T.2.2.2=0:=by simpa using h
 obtain⟨hl,hr,an,ao,M,te,Y,aw,P,K⟩:=A Z
 have hm:(2:Int)<=T.1.length/\(T.1.length:Int)<=24:=by omega
 have G:∀i:Int,0<=i->i<T.1.length->Bj (gi T.1 i)=some (gi T.1 i / 1000)/\ -1000000<=gi T.1 i / 1000/\gi T.1 i / 1000<=1000000000:=λi g E=>by
  have:=K i g E
  exact⟨avz om om,om,om⟩
 have lE:∀i:Int,0<=i->i<T.1.length->Bn (gi T.2.1 i)=some ((gi T.2.1 i+999) / 1000)/\0<=(gi T.2.1 i+999) / 1000/\(gi T.2.1 i+999) / 1000<=1000000001:=λi g E=>by
  have:=M i g om
  exact⟨aqL om om,om,om⟩
 have e0:=G (T.1.length-1) om om
 have F:=G (T.1.length-1-1) om om
 have l0:=lE 0 om om
 have hL:=hl.1
 refine ak (ak (aA ?_))
 rw[l0.1]
 refine ak ?_
 refine av (λj=>(j.length:Int)=T.1.length-1/\∀k:Int,0<=k->k<j.length->gi j k=⟨0,eu T b k,dS T a k⟩) (λj ⟨ag,L⟩=>?_) λjR J=>?_
 ·refine ak (aA ?_)
  rw[F.1]
  refine ak (ak (aW (aA ?_)))
  rw[e0.1]
  refine ak (ak (ak (iJ om ?_)))
  generalize p:j++[aV.mk 0 (gi T.1 (T.1.length-1-1) / 1000-16) (T.2.2.1+a)]=sp0
  have ap:(sp0.length:Int)=T.1.length:=by rw[<-p];simp;omega
  have N:∀k:Int,0<=k->k<sp0.length->gi sp0 k=⟨0,eu T b k,dS T a k⟩:=λk v B=>by
   rw[<-p,fP v]
   split
   ·exact L k v om
   ·have e:k=T.1.length-1:=by omega
    subst e
    rw[show (T.1.length:Int)-1-j.length=0 by omega]
    show (⟨0,_,_⟩:aV)=_
    unfold eu dS
    rw[if_neg om,if_pos om,if_neg om,if_pos rfl]
  refine av (λx=>x.2=tab l r T b a r.1.length) (λx R=>?_) λa1 I=>?_
  ·refine av (λo=>o=kF l r T b a) (λo ho=>aD ⟨T,W,A,by rw[ho,if_pos Z]⟩) λaz H=>?_
   refine wp_loop (λy=>0<=y.2/\y.2<=x.2.length/\y.1=(x.2.take y.2.toNat).filter (λo=>decide (o.2<o.3))) (λy=>(x.2.length-y.2).toNat) ⟨sm,sm,sm⟩ (by dsimp only;rw[R,pQ];omega) λc y ⟨g,E,u⟩ C=>?_
   unfold afO
   have ax:x.2.length<=144:=by rw[R,pQ];omega
   refine aB (λh=>?_) λh=>H _ (by rw[u,List.take_of_length_le om,R];rfl)
   have hy:y.1.length<=144:=by
    rw[u]
    have:=List.length_filter_le (λo:aV=>decide (o.2<o.3)) (x.2.take y.2.toNat)
    simp at this;omega
   have D:=aqG g h
   refine av (λj=>j=(x.2.take (y.2+1).toNat).filter (λo=>decide (o.2<o.3))) (λj m=>ak (C _ ⟨om,om,m⟩ om)) λaE uE=>aA (aA (aB (λh2=>aW (uE _ ?_)) λh2=>uE _ ?_))
   ·rw[D,List.filter_append,<-u];simp[h2]
   ·rw[D,List.filter_append,<-u];simp[h2]
  ·refine wp_loop (λx=>0<=x.2.1/\x.2.1<=r.1.length/\x.2.2=tab l r T b a x.2.1.toNat/\VN T b a x.1 x.2.1) (λx=>(r.1.length-x.2.1).toNat)
    ⟨sm,om,by dsimp only;simp[tab];congr 1,om,N⟩ om λc x ⟨g,E,u,S,i4⟩ C=>?_
   unfold afP
   dsimp only
   refine aB (λh=>?_) λh=>I _ (by dsimp only;rw[u];congr 1;omega)
   have aq:=hr.2.2.2.2 x.2.1 g h
   refine av (λj=>j.2=tab l r T b a (x.2.1+1).toNat/\VN T b a j.1 (x.2.1+1)) (λj m=>ak (C _ ⟨om,om,m⟩ om)) λa2 d=>aA ?_
   have Q:x.2.2.length=l.3.length+l.2.length:=by rw[u,pQ]
   rw[aIS g,<-u] at d
   generalize X:(gi r.1 x.2.1).1=q at*
   generalize x.2.2=t at*
   refine av (λj=>VN T b a j (x.2.1+1)) (λsp p=>?_) λqH U=>?_
   ·obtain⟨n,f⟩:=p
    have V:=f x.2.1 g om
    refine aA (aA (aA ?_))
    rw[V]
    refine av (λj=>aV.mk q j.1 j.2=⟨q,if (gi t q).2<(gi t q).3 then min (eu T b x.2.1) (gi t q).2 else eu T b x.2.1,if (gi t q).2<(gi t q).3 then max (dS T a x.2.1) (gi t q).3 else dS T a x.2.1⟩) (λj m=>aA ?_) λuU z=>aA (aA (aB (λh2=>aA (aA (z _ (by rw[if_pos h2,if_pos h2])))) λh2=>z _ (by rw[if_neg h2,if_neg h2])))
    rw[m]
    have F:t.set q.toNat ⟨q,if (gi t q).2<(gi t q).3 then min (eu T b x.2.1) (gi t q).2 else eu T b x.2.1,if (gi t q).2<(gi t q).3 then max (dS T a x.2.1) (gi t q).3 else dS T a x.2.1⟩=jP t q (eu T b x.2.1) (dS T a x.2.1):=rfl
    rw[F]
    have P:(jP t q (eu T b x.2.1) (dS T a x.2.1)).length=l.3.length+l.2.length:=by rw[ug,Q]
    refine aB (λh0=>d _ ⟨?_,n,f⟩) λh0=>ak (aA ?_)
    ·unfold qX;rw[X,if_pos h0]
    have O:=KV (l:=l) (s:=gi r.1 (x.2.1-1)) (t:=gi r.1 x.2.1)
    rw[O.1]
    have e2:qX l r T b a x.2.1 t=if pb l (gi r.1 (x.2.1-1)) (gi r.1 x.2.1)<0 then jP t q (eu T b x.2.1) (dS T a x.2.1) else jP (jP t q (eu T b x.2.1) (dS T a x.2.1)) (l.3.length+pb l (gi r.1 (x.2.1-1)) (gi r.1 x.2.1)) (eu T b x.2.1) (if x.2.1<T.1.length then dS T a (x.2.1-1) else dS T a x.2.1):=by
     unfold qX;rw[X,if_neg h0]
    rw[e2] at d
    generalize pb l (gi r.1 (x.2.1-1)) (gi r.1 x.2.1)=pq at*
    generalize jP t q (eu T b x.2.1) (dS T a x.2.1)=t1 at*
    refine aB (λh1=>d _ ⟨by rw[if_pos h1],n,f⟩) λh1=>?_
    rw[if_neg h1] at d
    refine aB (λh2=>?_) λh2=>?_
    ·have g2:=f (x.2.1-1) om om
     rw[if_pos om] at d
     refine ak (aA (ak (aA (aA ?_))))
     rw[V,g2]
     have hw:0<=(l.3.length:Int)+pq/\(l.3.length:Int)+pq<t1.length:=by omega
     generalize ((l.3.length:Int)+pq)=w at*
     refine av (λj=>aV.mk w j.1 j.2=⟨w,if (gi t1 w).2<(gi t1 w).3 then min (eu T b x.2.1) (gi t1 w).2 else eu T b x.2.1,if (gi t1 w).2<(gi t1 w).3 then max (dS T a (x.2.1-1)) (gi t1 w).3 else dS T a (x.2.1-1)⟩) (λj m=>aA (d _ ⟨by dsimp only;rw[m];rfl,n,f⟩)) λuU z=>aA (aA (aB (λh2=>aA (aA (z _ (by rw[if_pos h2,if_pos h2])))) λh2=>z _ (by rw[if_neg h2,if_neg h2])))
    ·rw[if_neg om] at d
     have eF:eu T b x.2.1=gi T.1 (T.1.length-1) / 1000-16:=by unfold eu;rw[if_neg om,if_neg om]
     have eT:dS T a x.2.1=T.2.2.1+20:=by unfold dS;rw[if_neg om,if_neg om]
     rw[eF,eT] at d
     refine ak (aA ?_)
     have hw:0<=(l.3.length:Int)+pq/\(l.3.length:Int)+pq<t1.length:=by omega
     generalize ((l.3.length:Int)+pq)=w at*
     generalize gi T.1 (T.1.length-1) / 1000-16=fr at*
     generalize T.2.2.1+20=tt at*
     refine av (λj=>aV.mk w j.1 j.2=⟨w,if (gi t1 w).2<(gi t1 w).3 then min fr (gi t1 w).2 else fr,if (gi t1 w).2<(gi t1 w).3 then max tt (gi t1 w).3 else tt⟩) (λj m=>aA (d _ ⟨by dsimp only;rw[m];rfl,n,f⟩)) λuU z=>aA (aA (aB (λh2=>aA (aA (z _ (by rw[if_pos h2,if_pos h2])))) λh2=>z _ (by rw[if_neg h2,if_neg h2])))
   ·refine aB (λh2=>aW (U _ ⟨by simp;omega,λk v B=>?_⟩)) λh2=>U _ ⟨om,i4⟩
    rw[fP v]
    split
    ·exact i4 k v om
    ·have e:k=x.2.1:=by simp at B;omega
     subst e
     rw[show x.2.1-x.1.length=0 by omega]
     show (⟨0,_,_⟩:aV)=_
     unfold eu dS
     rw[if_neg om,if_neg om,if_neg om,if_neg om]
 ·refine wp_loop (λx=>1<=x.2/\x.2<=T.1.length-1/\(x.1.length:Int)=x.2/\∀k:Int,0<=k->k<x.1.length->gi x.1 k=⟨0,eu T b k,dS T a k⟩) (λx=>(T.1.length-x.2).toNat)
   ⟨sm,om,sm,λk v B=>?_⟩ om λc x ⟨g,E,u,S⟩ C=>?_
  ·have e:k=0:=by simp at B;omega
   subst e
   show (⟨0,_,_⟩:aV)=_
   unfold eu dS
   rw[if_pos rfl,if_pos om]
  ·unfold afQ
   refine aB (λh=>?_) λh=>J _ ⟨om,S⟩
   have f1:=G (x.2-1) om om
   have f2:=lE x.2 om om
   refine ak (aA (aA ?_))
   rw[f1.1]
   refine ak ?_
   rw[f2.1]
   refine ak (aW (ak (C _ ⟨om,om,by simp;omega,λk v B=>?_⟩ om)))
   dsimp only at B |-
   rw[fP v]
   split
   ·exact S k v om
   ·have e:k=x.2:=by simp at B;omega
    subst e
    rw[show x.2-x.1.length=0 by omega]
    show (⟨0,_,_⟩:aV)=_
    unfold eu dS
    rw[if_neg om,if_pos om,if_pos om]⟩
end
abbrev pY(t:List aV)(q a b:Int):Prop:=(gi t q).2<=a/\b<=(gi t q).3
abbrev Full(t:List aV)(q:Int):Prop:=(gi t q).2<(gi t q).3
section
variable {t t':List aV}{q q' a b a' b' c d:Int}
theorem Ew(h0:0<=q)(h1:q<t.length)(h2:0<=q'):gi (jP t q a b) q'=if q'=q then ⟨q,if (gi t q).2<(gi t q).3 then min a (gi t q).2 else a,if (gi t q).2<(gi t q).3 then max b (gi t q).3 else b⟩ else gi t q':=dU h0 h2 h1
theorem asN(h0:0<=q)(h1:q<t.length):pY (jP t q a b) q a b:=by unfold pY;rw[Ew h0 h1 h0,if_pos rfl];dsimp only;split<;>omega
theorem afz(h0:0<=q)(h1:q<t.length)(h2:0<=q')(h:pY t q' c d)(f:c<d):pY (jP t q a b) q' c d:=by
 unfold pY at*;rw[Ew h0 h1 h2];split;·rename_i e;subst e;rw[if_pos om,if_pos om];dsimp only;omega
 ·exact h
def Sub(t a:List aV):Prop:=∀q:Int,0<=q->Full t q->pY a q (gi t q).2 (gi t q).3
theorem afA(hs:Sub t t')(h0:0<=q)(h1:q<t.length)(f:q<t'.length)(h:a'<=a)(i:b<=b'):Sub (jP t q a b) (jP t' q a' b'):=by
 intro p g c;unfold Full at c;unfold pY;rw[Ew h0 h1 g] at c |-;rw[Ew h0 f g];have:=hs p g;unfold Full pY at this;by_cases e:p=q
 ·subst e;rw[if_pos rfl] at c |-;rw[if_pos rfl];dsimp only at c |-;by_cases d:(gi t p).2<(gi t p).3;·have:=this d;rw[if_pos d,if_pos d,if_pos om,if_pos om];omega
  ·rw[if_neg d,if_neg d];split<;>omega
 ·rw[if_neg e] at c |-;rw[if_neg e];exact this c
def Idx(t:List aV):Prop:=∀q:Int,0<=q->Full t q->(gi t q).1=q
theorem asM(hs:Idx t)(h0:0<=q)(h1:q<t.length):Idx (jP t q a b):=by
 intro p d c;unfold Full at c;rw[Ew h0 h1 d] at c |-;by_cases e:p=q;·rw[if_pos e];exact e.symm
 ·rw[if_neg e] at c |-;exact hs p d c
end
section
variable {l:Layout}{r:bg}{T:List Int×List Int×Int×Int}{b a b' a':Int}{t t':List aV}{i:Int}
theorem aqi(h:b<=b'):eu T b' i<=eu T b i:=by unfold eu;split<;>omega
theorem aee(h:a<=a'):dS T a i<=dS T a' i:=by
 unfold dS;split;·omega
 ·split<;>omega
theorem aIP(P:List aV->Prop)(c:∀t,t.length=l.3.length+l.2.length->P t->∀q x y:Int,0<=q->q<l.3.length+l.2.length->P (jP t q x y))(e:RV l r)(h0:0<=i)(h1:i<r.1.length)(d:t.length=l.3.length+l.2.length)(f:P t):P (qX l r T b a i t):=by
 have hs:=e.2.2.2.2 i h0 h1;have hp:=KV (l:=l) (s:=gi r.1 (i-1)) (t:=gi r.1 i);unfold qX;dsimp only;have h2:=c t d f (gi r.1 i).1 (eu T b i) (dS T a i) om om;split;·exact h2
 ·split;·exact h2
  ·exact c _ (by rw[ug,d]) h2 _ _ _ om om
theorem aen(P:List aV->Prop)(c:∀t,t.length=l.3.length+l.2.length->P t->∀q x y:Int,0<=q->q<l.3.length+l.2.length->P (jP t q x y))(d:RV l r){m:Nat}:∀{n:Nat},m<=n->n<=r.1.length->P (tab l r T b a m)->P (tab l r T b a n)
 |0,h,_,h2=>by rwa [show m=0 by omega] at h2
 |n+1,h,h1,h2=>by
  by_cases e:m=n+1
  ·rwa [e] at h2
  ·exact aIP P c d om om (pQ n) (aen P c d (n:=n) om om h2)
theorem aem{q:Int}:gi (tab l r T b a 0) q=⟨0,0,0⟩:=by unfold gi tab;rw[List.getD_eq_getElem?_getD,List.getElem?_replicate];split<;>rfl
theorem aqD(d:RV l r){n:Nat}(h:n<=r.1.length):Idx (tab l r T b a n):=aen Idx (λt f e q x y h0 h1=>asM e h0 om) d (Nat.zero_le n) h λq g c=>by unfold Full at c;rw[aem] at c;exact absurd c dc
theorem aqE(f:RV l r)(d:b<=b')(c:a<=a'):∀{n:Nat},n<=r.1.length->Sub (tab l r T b a n) (tab l r T b' a' n)
 |0,_=>λq j e=>by unfold Full at e;rw[aem] at e;exact absurd e dc
 |n+1,h=>by
  have g:=aqE f d c (n:=n) om
  have hs:=f.2.2.2.2 n om om
  have hp:=KV (l:=l) (s:=gi r.1 (n-1)) (t:=gi r.1 n)
  have l1:=pQ (l:=l) (r:=r) (T:=T) (b:=b) (a:=a) n
  have l2:=pQ (l:=l) (r:=r) (T:=T) (b:=b') (a:=a') n
  unfold tab qX
  dsimp only
  have h2:=afA g (q:=(gi r.1 n).1) om om om (aqi (T:=T) (i:=n) d) (aee (T:=T) (i:=n) c)
  split
  ·exact h2
  ·split
   ·exact h2
   ·refine afA h2 om (by rw[ug];omega) (by rw[ug];omega) (aqi d) ?_
    split
    ·exact aee c
    ·exact aee c
theorem aqC(d:RV l r){n:Nat}(h:n<r.1.length)(c:eu T b n<dS T a n):pY (tab l r T b a r.1.length) (gi r.1 n).1 (eu T b n) (dS T a n):=by
 have hs:=d.2.2.2.2 n om om;have hp:=KV (l:=l) (s:=gi r.1 (n-1)) (t:=gi r.1 n);have l1:=pQ (l:=l) (r:=r) (T:=T) (b:=b) (a:=a) n;refine aen (λt=>pY t (gi r.1 n).1 (eu T b n) (dS T a n)) (λt f e q x y h0 h1=>afz h0 om hs.1 e c) d (show n+1<=r.1.length by omega) (Nat.le_refl _) ?_;unfold tab qX;dsimp only;have h2:=asN (t:=tab l r T b a n) (q:=(gi r.1 n).1) (a:=eu T b n) (b:=dS T a n) om om;split;·exact h2
 ·split;·exact h2
  ·exact afz om (by rw[ug];omega) om h2 c
theorem iH{α:Type}[Inhabited α]{xs:List α}{x:α}(h:x∈xs):∃i:Int,0<=i/\i<xs.length/\gi xs i=x:=by obtain⟨n,a,rfl⟩:=List.getElem_of_mem h;exact⟨n,om,om,by simp[gi,a]⟩
theorem acT(g:RV l r){q c d:Int}(h0:0<=q)(h1:q<l.3.length+l.2.length)(h:pY (tab l r T b a r.1.length) q c d)(f:c<d):∃o∈kF l r T b a,o.1=q/\o.2<=c/\d<=o.3:=by
 have e:Full (tab l r T b a r.1.length) q:=by unfold Full;unfold pY at h;omega
 refine⟨gi (tab l r T b a r.1.length) q,?_,aqD g (Nat.le_refl _) q h0 e,h.1,h.2⟩;unfold kF;rw[List.mem_filter];exact⟨dF ⟨h0,by rw[pQ];omega⟩,decide_eq_true e⟩
theorem ao1(f:RV l r){o:aV}(h:o∈kF l r T b a):0<=o.1/\o.1<l.3.length+l.2.length/\o=gi (tab l r T b a r.1.length) o.1/\o.2<o.3:=by unfold kF at h;rw[List.mem_filter] at h;obtain⟨i,h0,h1,e⟩:=iH h.1;rw[pQ] at h1;have c:o.2<o.3:=of_decide_eq_true h.2;have d:=aqD (T:=T) (b:=b) (a:=a) f (Nat.le_refl _) i h0 (by unfold Full;rw[e];exact c);rw[e] at d;rw[d];exact⟨h0,om,e.symm,c⟩
theorem aIt(c:RV l r)(g:0<=b)(f:0<=a){o:aV}(h:o∈kF l r T 0 0):∃d∈kF l r T b a,d.1=o.1/\d.2<=o.2/\o.3<=d.3:=by obtain⟨h0,h1,h2,e⟩:=ao1 c h;have:=aqE (T:=T) c g f (Nat.le_refl _) o.1 h0 (by unfold Full;rw[<-h2];exact e);rw[<-h2] at this;exact acT c h0 h1 this e
theorem aqo(i:A8 l r T)(t:0<=b):∃o∈kF l r T b a,o.1=(gi r.1 0).1/\o.2<= -b/\4<=o.3:=by
 obtain⟨u,d,k,m,c,v,e,p,q,j⟩:=i;have hs:=d.2.2.2.2 0 om om;have f:eu T b (0:Nat)= -b:=by unfold eu;rw[if_pos om]
 have g:dS T a (0:Nat)=(gi T.2.1 0+999) / 1000+4:=by unfold dS;rw[if_pos om];rfl
 have h0:=c 0 om om;have:=aqC (T:=T) (b:=b) (a:=a) d (n:=0) om om;rw[f,g] at this;obtain⟨o,h1,h2,h,s⟩:=acT d hs.1 om this om;exact⟨o,h1,h2,h,om⟩
theorem aIK(i:A8 l r T)(u:0<=a):∃o∈kF l r T b a,o.1=(gi r.1 (r.1.length-r.2-1)).1/\o.2<=T.2.2.1/\T.2.2.1+a<=o.3:=by
 obtain⟨v,d,m,p,j,w,e,q,s,c⟩:=i;obtain⟨n,k⟩:∃n:Nat,(n:Int)=r.1.length-r.2-1:=⟨((r.1.length:Int)-r.2-1).toNat,om⟩;have hs:=d.2.2.2.2 n om om;have f:eu T b n=gi T.1 (n-1) / 1000-16:=by unfold eu;rw[if_neg om,if_pos om]
 have g:dS T a n=T.2.2.1+a:=by unfold dS;rw[if_neg om,if_pos om]
 have h0:=c (n-1) om om;have:=aqC (T:=T) (b:=b) (a:=a) d (n:=n) om om;rw[f,g] at this;obtain⟨o,h1,h2,t,h⟩:=acT d hs.1 om this om;exact⟨o,h1,by rw[h2,k],om,h⟩
end
abbrev Vf(l:Layout)(r:bg)(s:bO)(b a:Int)(y:List aV×Int):Prop:=∃T,Bg (l,r,s)=some T/\T.2.2.2=0/\A8 l r T/\y.1=kF l r T b a/\y.2=T.2.2.1
instance tF{l r s b a}:Spec (NS (l,r,s,b,a)) True λy=>y.2.2=0->Vf l r s b a (y.1,y.2.1):=⟨λ_=>by
 unfold NS
 dsimp only
 refine aP trivial λv _=>aR (λh=>aD λe=>absurd e (by simpa using h)) λ_=>aR (λ_=>aD λe=>absurd e (by dsimp only;decide)) λh=>?_
 simp only[Bool.or_eq_false_iff,decide_eq_false_iff_not] at h
 refine aP om λy ⟨T,h1,h2,d⟩=>aD λe=>?_
 subst d
 by_cases c:T.2.2.2=0
 ·rw[if_pos c] at e |-;exact⟨T,h1,c,h2 c,rfl,rfl⟩
 ·rw[if_neg c] at e;exact absurd e c⟩
instance s13{l r s}:Spec (vV (l,r,s)) True λy=>y.2.2=0->Vf l r s 0 0 (y.1,y.2.1):=⟨λ_=>by
 unfold vV
 dsimp only
 refine aP om λy ⟨T,h1,h2,b⟩=>aD λe=>?_
 subst b
 by_cases a:T.2.2.2=0
 ·rw[if_pos a] at e |-;exact⟨T,h1,a,h2 a,rfl,rfl⟩
 ·rw[if_neg a] at e;exact absurd e a⟩
abbrev MC(p:Plan)(i x:Int):Prop:=60<=x/\x<=7200/\∀j:Int,0<=j->j<p.6.length->(gi p.6 j).1=i->(gi p.6 j).4<=x
instance aD4{p i}:Spec (SL (p,i)) (p.6.length<=32/\All p.6 (rJ p)/\Uniq p p.6.length) λx=>MC p i x:=⟨λ⟨q,t,u⟩=>by
 unfold SL
 refine av (λ_=>∀j:Int,0<=j->j<p.6.length->(gi p.6 j).1≠i) (λ_ h=>aD ⟨om,om,λj l o e=>absurd e (h j l o)⟩) λk s=>?_
 refine wp_loop (λj=>0<=j/\j<=p.6.length/\∀k:Int,0<=k->k<j->(gi p.6 k).1≠i) (λj=>(p.6.length-j).toNat) ⟨om,om,λk a b=>om⟩ om λc j ⟨l,o,m⟩ r=>?_
 unfold aoU
 dsimp only
 refine aB (λh=>?_) λh=>s _ λk f n=>m k f om
 have:=t j l h
 refine aA (aB (λe=>aD ⟨om,om,λk f n g=>?_⟩) λe=>ak (r _ ⟨om,om,λk f n=>?_⟩ om))
 ·have:k=j:=by
   rcases Int.lt_trichotomy k j with d|d|d
   ·exact absurd g (m k f d)
   ·exact d
   ·exact absurd (e.trans g.symm) (u j k l d n).1
  subst this;omega
 ·by_cases g:k=j
  ·exact g▸e
  ·exact m k f om⟩
def fst(p:Plan)(i:Int):Int:=sumTo (λj=>(gi p.4 j).4.length) i.toNat
theorem BG{p:Plan}{i:Int}(h:0<=i):fst p (i+1)=fst p i+(gi p.4 i).4.length:=UA h
theorem Pz{p:Plan}{i j:Int}(h:i<=j):fst p i<=fst p j:=ael om λk _ _=>by omega
theorem EY{p:Plan}:fst p 0=0:=rfl
theorem TW{p:Plan}{i k n:Int}(h:bZ p i k)(a:i<n):fst p i+k<fst p n:=by have h1:=BG (p:=p) h.1;have h2:=Pz (p:=p) (i:=i+1) (j:=n) om;unfold bZ at h;omega
theorem Gt{p:Plan}{i k i' k':Int}(h:bZ p i k)(b:bZ p i' k')(e:fst p i+k=fst p i'+k'):i=i'/\k=k':=by
 rcases Int.lt_trichotomy i i' with a|a|a;·have:=TW h a;unfold bZ at b;omega
 ·subst a;omega
 ·have:=TW b a;unfold bZ at h;omega
def aM(p:Plan)(i k x:Int):Int:=if k=(gi p.4 i).4.length-1 then (gi (gi p.4 i).4 k).2+x else (gi (gi p.4 i).4 k).2+(gi (gi p.4 i).4 k).4
def afd(l:Layout)(p:Plan)(i k:Int)(O:List aV)(run:Int):Prop:=∃x,MC p i x/\Vf l (gi p.3 (gi (gi p.4 i).4 k).1) (gi p.2 (gi p.4 i).2) (if k=0 then 60 else 0) (aM p i k x) (O,run)
def RG(l:Layout)(p:Plan)(aU:List (List aV))(run:List Int):Prop:=run.length=aU.length/\∀i k:Int,bZ p i k->fst p i+k<aU.length->afd l p i k (gi aU (fst p i+k)) (gi run (fst p i+k))
theorem RG.app{l p aU run i k O t}(h:RG l p aU run)(f:bZ p i k)(e:(aU.length:Int)=fst p i+k)(m:afd l p i k O t):RG l p (aU++[O]) (run++[t]):=by
 refine⟨by simp[h.1],λa b h1 h2=>?_⟩;have g:=h.1;have h0:0<=fst p a+b:=by have:=Pz (p:=p) (i:=0) (j:=a) (by unfold bZ at h1;omega);rw[EY] at this;unfold bZ at h1;omega
 rw[fP h0,fP h0];by_cases c:fst p a+b<aU.length;·rw[if_pos c,if_pos om];exact h.2 a b h1 c
 ·have d:fst p a+b=aU.length:=by simp at h2;omega
  obtain⟨rfl,rfl⟩:=Gt h1 f om;rw[if_neg om,if_neg om,d,g,Int.sub_self];exact m
theorem Js{p:Plan}(h:All p.4 λn=>n.4.length<=12){i:Int}(h0:0<=i)(h1:i<=p.4.length):0<=fst p i/\fst p i<=12*i:=by obtain⟨n,rfl⟩:∃n:Nat,i=n:=⟨i.toNat,om⟩;clear h0;induction n with|zero=>rw[show ((0:Nat):Int)=0 from rfl,EY];omega|succ n a=>have:=a om;have h2:=h n om om;have b:=BG (p:=p) (i:=n) om;rw[show ((n+1:Nat):Int)=(n:Int)+1 by omega];omega
instance qW{l p}:Spec (Gg (l,p)) True λy=>y.2.2=0->PV l p/\(y.1.length:Int)=fst p p.4.length/\RG l p y.1 y.2.1:=⟨λ_=>by
 unfold Gg
 dsimp only
 refine kW trivial (λv o=>aD λe=>absurd e (by dsimp only;decide)) λhp=>?_
 have X:=hp.1.2.2.2.1
 have H:∀{i:Int},0<=i->i<=p.4.length->0<=fst p i/\fst p i<=12*i:=λh0 h1=>Js hp.1.2.2.2.2.2.2.2.2.2.2 h0 h1
 refine av (λx=>(x.1.length:Int)=fst p p.4.length/\RG l p x.1 x.2) (λx N=>aD λ_=>⟨hp,N⟩) λk2 h2=>?_
 refine wp_loop (λx=>0<=x.2.2/\x.2.2<=p.4.length/\(x.1.length:Int)=fst p x.2.2/\RG l p x.1 x.2.1) (λx=>(p.4.length-x.2.2).toNat) ⟨sm,sm,rfl,rfl,λi k h1 h2=>by have:=TW h1 (n:=p.4.length) (by unfold bZ at h1;omega);have:=Pz (p:=p) (i:=0) (j:=i) (by unfold bZ at h1;omega);rw[EY] at this;unfold bZ at h1;simp at h2;omega⟩ om λc x ⟨q,Q,R,D⟩ K=>?_
 unfold aoS
 dsimp only
 refine aB (λh=>?_) λh=>h2 _ ⟨by dsimp only;rw[R];congr 1;omega,D⟩
 have A:=hp.2.2.2.1 x.2.2 q h
 have I:=H q Q
 have J:=BG (p:=p) q
 refine av (λy=>(y.1.length:Int)=fst p (x.2.2+1)/\RG l p y.1 y.2) (λy O=>ak (K _ ⟨om,om,O⟩ om)) λk7 F=>aA ?_
 generalize g:gi p.4 x.2.2=n at*
 refine wp_loop (λy=>0<=y.2.2/\y.2.2<=n.4.length/\(y.1.length:Int)=fst p x.2.2+y.2.2/\RG l p y.1 y.2.1) (λy=>(n.4.length-y.2.2).toNat) ⟨sm,sm,om,D⟩ om λc2 y ⟨E,Z,S,C⟩ w=>?_
 unfold aoT
 dsimp only
 refine aB (λr=>?_) λr=>F _ ⟨om,C⟩
 have M:=A.2.2.2.2.2.2.2 y.2.2 E r
 have s:bZ p x.2.2 y.2.2:=⟨q,h,E,by rw[g];exact r⟩
 have L:=C.1
 refine av (λz=>(z.1.length:Int)=fst p x.2.2+y.2.2+1/\RG l p z.1 z.2) (λz P=>ak (w _ ⟨om,om,om,P.2⟩ om)) λT W=>aA (ak ?_)
 refine av (λb=>b=if y.2.2=0 then 60 else 0) (λb t=>?_) λV f=>aB (λe=>f _ (by rw[if_pos e])) λe=>f _ (by rw[if_neg e])
 refine av (λa=>∃u,MC p x.2.2 u/\a=aM p x.2.2 y.2.2 u) (λa ⟨u,m,G⟩=>?_) λU d=>ak ?_
 ·refine aA (aA (aP trivial λv o=>aR (λh=>aD λe=>absurd e (by simpa using h)) λh=>?_))
  have o:=o (by simpa using h)
  have Y:y.1.length<1000/\y.2.1.length<1000:=by omega
  refine aW (aW (W _ ⟨by simp;omega,RG.app C s S ⟨u,m,?_⟩⟩))
  rw[g,<-G,<-t]
  exact o
 ·obtain⟨u,B,m⟩:=(aD4 (p:=p) (i:=x.2.2)).h ⟨hp.1.2.2.2.2.2.1,hp.2.2.2.2.2.1,hp.2.2.2.2.2.2.1⟩
  refine aB (λe=>?_) λe=>d _ ⟨u,m,by unfold aM;rw[g,if_neg e]⟩
  rw[B]
  exact ak (d _ ⟨u,m,by unfold aM;rw[g,if_pos e]⟩)⟩
theorem wm{a b z k:Int}(h:a=z+b*k)(h0:0<=z)(h1:z<b):a % b=z:=by rw[h,Int.add_mul_emod_self_left,Int.emod_eq_of_lt h0 h1]
theorem yR(a:Int){b:Int}(h:1<=b):0<=a % b/\a % b<b/\∃k,a=a % b+b*k:=⟨Int.emod_nonneg _ om,Int.emod_lt_of_pos _ om,a / b,(Int.emod_add_mul_ediv a b).symm⟩
theorem Gf{a b:Int}(h:1<=b)(h2:b<=1000000000):jo (a,b)=some (a % b):=by
 unfold jo;have g:=Int.mul_tdiv_add_tmod a b;have i:=Int.lt_tmod_of_pos a (b:=b) om;have j:=Int.tmod_lt_of_pos a (b:=b) om;have d:decide (b<1)=false:=by simp;omega
 have e:decide (b=0)=false:=by simp;omega
 simp only[d,e,Bool.false_eq_true,if_false,Bool.not_false,ah,au];by_cases c:a.tmod b<0
 ·have f:aj (a.tmod b+b)=true:=by simp[aj];omega
  simp only[c,decide_true,if_true,f];rw[wm (a:=a) (z:=a.tmod b+b) (k:=a.tdiv b-1) (by rw[Int.mul_sub];omega) om om]
 ·simp only[c,decide_false,Bool.false_eq_true,if_false];rw[wm (a:=a) (z:=a.tmod b) (k:=a.tdiv b) om om om]
def iB(s:List Span)(z:Int):Prop:=∃x∈s,x.1<=z/\z<x.2
def VS(t:Int)(s:List Span):Prop:=(∀i:Int,0<=i->i<s.length->0<=(gi s i).1/\(gi s i).1<(gi s i).2/\(gi s i).2<=t)/\∀i:Int,0<=i->i+1<s.length->(gi s i).2<(gi s (i+1)).1
theorem iB.gi{s:List Span}{z:Int}:iB s z↔∃i:Int,0<=i/\i<s.length/\(gi s i).1<=z/\z<(gi s i).2:=by
 constructor;·rintro⟨x,a,h⟩;obtain⟨i,h0,h1,rfl⟩:=iH a;exact⟨i,h0,h1,h⟩
 ·rintro⟨i,h0,h1,h⟩;exact⟨_,dF ⟨h0,h1⟩,h⟩
theorem VS.nil{t:Int}:VS t []:=⟨λi h0 h1=>by simp at h1;omega,λi h0 h1=>by simp at h1;omega⟩
theorem VS.ge{t:Int}{s:List Span}(h:VS t s):∀n:Nat,(n:Int)<s.length->(n:Int)<=(gi s n).1
 |0,a=>by have:=h.1 0 om om;simpa using this.1
 |n+1,a=>by
  have h1:=VS.ge h n om
  have h2:=h.2 n om om
  have b:=h.1 n om om
  rw[show ((n+1:Nat):Int)=(n:Int)+1 by omega];omega
theorem VS.len{t:Int}{s:List Span}(h:VS t s)(a:0<=t):(s.length:Int)<=t:=by
 by_cases e:s.length=0;·omega
 ·have h1:=h.ge (s.length-1) om;have h2:=h.1 (s.length-1) om om;rw[show ((s.length-1:Nat):Int)=(s.length:Int)-1 by omega] at h1;omega
theorem VS.snoc{t:Int}{s:List Span}(h:VS t s){x:Span}(h0:0<=x.1)(h1:x.1<x.2)(h2:x.2<=t)(c:1<=s.length->(gi s (s.length-1)).2<x.1):VS t (s++[x]):=by
 refine⟨λi a b=>?_,λi a b=>?_⟩
 ·rw[fP a];split;·exact h.1 i a (by assumption)
  ·rw[show i-s.length=0 by simp at b;omega];exact⟨h0,h1,h2⟩
 ·simp at b;rw[fP a,fP om,if_pos om];split;·exact h.2 i a (by assumption)
  ·rw[show i+1-s.length=0 by omega,show i=s.length-1 by omega];exact c om
theorem VS.last{t:Int}{s:List Span}(h:VS t s)(hs:1<=s.length){y:Int}(h1:(gi s (s.length-1)).2<=y)(h2:y<=t):VS t (s.set ((s.length:Int)-1).toNat ⟨(gi s (s.length-1)).1,y⟩):=by
 refine⟨λi a b=>?_,λi a b=>?_⟩
 ·simp at b;have:=h.1 i a b;rw[dU om a om];split;·rename_i e;subst e;dsimp only;omega
  ·exact this
 ·simp at b;rw[dU om a om,dU om om om,if_neg om];have:=h.2 i a b;split;·rename_i e;rw[e] at this;exact this
  ·exact this
theorem aeM{t:Int}{s:List Span}(v:1<=t)(p:t<=7200)(u:s.length<=1000000):∃b,zV (t,s)=some b/\(b=true↔VS t s):=by
 show WP (zV (t,s)) (λb=>b=true↔VS t s);unfold zV Di;dsimp only[Option.bind_some];rw[show (!(decide (1<=t)&&decide (t<=7200)))=false by simp;omega];refine aR (λh=>by cases h) λ_=>av (λ_=>VS t s) (λ_ h=>aD ⟨λ_=>h,λ_=>rfl⟩) λk o=>?_;refine wp_loop (λx=>0<=x.2/\x.2<=s.length/\(x.2=0->x.1= -1)/\(1<=x.2->x.1=(gi s (x.2-1)).2)/\(∀i:Int,0<=i->i<x.2->0<=(gi s i).1/\(gi s i).1<(gi s i).2/\(gi s i).2<=t)/\∀i:Int,0<=i->i+1<x.2->(gi s i).2<(gi s (i+1)).1) (λx=>(s.length-x.2).toNat) ⟨sm,sm,λ_=>rfl,λh=>by simp at h,λi a b=>by dsimp only at b;omega,λi a b=>by dsimp only at b;omega⟩ om λc x ⟨q,w,j,d,f,l⟩ n=>?_;unfold apI;dsimp only;refine aB (λh=>aA (aR (λh2=>aD ⟨λh=>(by cases h),λg=>?_⟩) λh2=>ak (n _ ⟨om,om,λh=>by dsimp only at h;omega,λ_=>by dsimp only;rw[Int.add_sub_cancel],λi a b=>?_,λi a b=>?_⟩ om))) λh=>o _ ⟨λi a b=>f i a om,λi a b=>l i a om⟩
 ·exfalso;have r:=g.1 x.2 q h;simp only[Bool.or_eq_true,decide_eq_true_eq] at h2;by_cases e:x.2=0;·have:=j e;omega
  ·have m:=g.2 (x.2-1) om om;rw[Int.sub_add_cancel] at m;have:=d om;omega
 ·dsimp only at b;simp only[Bool.or_eq_false_iff,decide_eq_false_iff_not] at h2;by_cases e:i=x.2
  ·subst e
   have: -1<=x.1:=by
    by_cases e:x.2=0;·rw[j e];omega
    ·have:=f (x.2-1) om om;rw[d om];omega
   omega
  ·exact f i a om
 ·dsimp only at b;simp only[Bool.or_eq_false_iff,decide_eq_false_iff_not] at h2;by_cases e:i+1=x.2;·have:=d om;rw[show x.2-1=i by omega] at this;rw[e];omega
  ·exact l i a om
instance aPb{t f n}:Spec (TR (t,f,n)) (1<=t/\t<=7200/\1<=n/\n<=1000000) λy=>VS t y.1/\∀d:Int,f<=d->d<f+n->iB y.1 (d % t):=⟨λ⟨h1,h2,i,j⟩=>by
 unfold TR Di
 dsimp only[Option.bind_some]
 rw[show (!(decide (1<=t)&&decide (t<=7200)))=false by simp;omega,Gf h1 om]
 obtain⟨m,o,k,l⟩:=yR f h1
 simp only[Bool.false_eq_true,if_false,Option.bind_some]
 generalize f % t=r at*
 refine aB (λh=>om) λ_=>aB (λh=>aW (aD ⟨VS.snoc (s:=[]) VS.nil sm om om (λh=>by simp at h),λd d0 b=>?_⟩)) λh=>ak (aB (λc=>ak (aW (aD ⟨VS.snoc (s:=[]) VS.nil om om om (λh=>by simp at h),λd d0 b=>?_⟩))) λc=>ak (ak (xY sm (aD ⟨VS.snoc (s:=[Span.mk 0 (r+n-t)]) (VS.snoc (s:=[]) VS.nil sm om om (λh=>by simp at h)) om om om (λ_=>by show (Span.mk 0 (r+n-t)).2<r;dsimp only;omega),λd d0 b=>?_⟩))))
 ·obtain⟨a0,g,_⟩:=yR d h1
  exact⟨_,List.mem_singleton.2 rfl,om,om⟩
 ·rw[wm (a:=d) (z:=r+(d-f)) (k:=k) om om om]
  exact⟨_,List.mem_singleton.2 rfl,om,om⟩
 ·by_cases e:r+(d-f)<t
  ·rw[wm (a:=d) (z:=r+(d-f)) (k:=k) om om om]
   exact⟨Span.mk r t,sm,om,om⟩
  ·rw[wm (a:=d) (z:=r+(d-f)-t) (k:=k+1) (by rw[Int.mul_add];omega) om om]
   exact⟨Span.mk 0 (r+n-t),sm,om,om⟩⟩
theorem Y9{α:Type}[Inhabited α]{xs:List α}{R:α->α->Prop}(h:xs.Pairwise R){i j:Int}(h0:0<=i)(h1:i<j)(h2:j<xs.length):R (gi xs i) (gi xs j):=by
 have a:i.toNat<xs.length:=by omega
 have b:j.toNat<xs.length:=by omega
 have:=List.pairwise_iff_getElem.1 h i.toNat j.toNat a b om;simpa [gi,a,b] using this
theorem aor{t:Int}(S:0<=t)(h7:t<=7200){j:List Span}(O:∀x∈j,0<=x.1/\x.1<x.2/\x.2<=t)(hl:j.length<=1000000){β:Type}{Q:β->Prop}{k:List Span->Option β}(P:∀y,VS t y->(∀z,iB j z->iB y z)->WP (k y) Q):WP (iter (λ(K:List Span×Int->Option β) (s:List Span×Int)=>
   if decide (s.2<(↑(iW (λd=>d.1) j).length:Int)) then au (λ(L:List Span)=>(ah (aj (s.2+1))<|K (L,s.2+1):Option β)) λn=>(idx (iW (λd=>d.1) j) s.2).bind λW=>(idx (iW (λd=>d.1) j) s.2).bind λf=>ah (aj ((↑s.1.length:Int)-1))<|(bC (decide (0<=(↑s.1.length:Int)-1)) (Span.mk 0 0) (idx s.1 ((↑s.1.length:Int)-1))).bind λC=>(bC (decide (0<=(↑s.1.length:Int)-1)) (Span.mk 0 0) (idx s.1 ((↑s.1.length:Int)-1))).bind λr=>if decide (0<=(↑s.1.length:Int)-1)&&decide (f.1<=r.2) then (idx s.1 ((↑s.1.length:Int)-1)).bind λX=>(idx s.1 ((↑s.1.length:Int)-1)).bind λD=>(idx s.1 ((↑s.1.length:Int)-1)).bind λY=>(idx s.1 ((↑s.1.length:Int)-1)).bind λE=>n (List.set s.1 ((↑s.1.length:Int)-1).toNat (Span.mk E.1 (max D.2 f.2))) else ah (aS 16 (s.1++[f]).length)<|n (s.1++[f]) else k s.1) FUEL ([],0)) Q:=by
 have hs:=aIo (λd:Span=>d.1) j
 have hp:=aeg (λd:Span=>d.1) j
 have G:=DT (λd:Span=>d.1) j
 generalize iW (λd:Span=>d.1) j=w at*
 have hw:∀i:Int,0<=i->i<w.length->0<=(gi w i).1/\(gi w i).1<(gi w i).2/\(gi w i).2<=t:=λi h0 h1=>O _ (hp.mem_iff.1 (dF ⟨h0,h1⟩))
 refine wp_loop (λx=>0<=x.2/\x.2<=w.length/\VS t x.1/\(1<=x.1.length->∀i:Int,x.2<=i->i<w.length->(gi x.1 (x.1.length-1)).1<=(gi w i).1)/\∀i:Int,0<=i->i<x.2->∀z,(gi w i).1<=z->z<(gi w i).2->iB x.1 z) (λx=>(w.length-x.2).toNat)
  ⟨sm,sm,VS.nil,λh=>by simp at h,λi a b=>by dsimp only at b;omega⟩ om λc x ⟨H,i1,q,I,B⟩ N=>?_
 have T:=q.len S
 refine aB (λh=>?_) λh=>P _ q λz ⟨y,p,u⟩=>?_
 case refine_2=>
  obtain⟨i,a,b,rfl⟩:=iH (hp.mem_iff.2 p)
  exact B i a om z u.1 u.2
 have l:=hw x.2 H h
 refine av (λy=>VS t y/\(1<=y.length->∀i:Int,x.2+1<=i->i<w.length->(gi y (y.length-1)).1<=(gi w i).1)/\∀i:Int,0<=i->i<x.2+1->∀z,(gi w i).1<=z->z<(gi w i).2->iB y z) (λy p=>ak (N _ ⟨om,om,p⟩ om)) λn o=>?_
 refine aA (aA (ak (fC (λh=>by simp at h;omega) λC M=>fC (λh=>by simp at h;omega) λr F=>aR (λh2=>?_) λh2=>?_)))
 ·simp only[Bool.and_eq_true,decide_eq_true_eq] at h2 M F
  have g:=F h2.1
  subst g
  have hx:=q.1 (x.1.length-1) om om
  refine aA (aA (aA (aA (o _ ⟨q.last om om om,λ_ i a b=>?_,λi a b z v A=>?_⟩))))
  ·have:=I om i om b
   rw[List.length_set,dU om om om,if_pos rfl];exact this
  ·have R:=I om x.2 om h
   rw[iB.gi]
   simp only[List.length_set]
   by_cases e:i=x.2
   ·subst e
    refine⟨x.1.length-1,om,om,?_⟩
    rw[dU om om om,if_pos rfl];dsimp only;omega
   ·obtain⟨m,J,U,V⟩:=iB.gi.1 (B i a om z v A)
    refine⟨m,J,U,?_⟩
    rw[dU om J om]
    split
    ·rename_i e;subst e;dsimp only;omega
    ·exact V
 ·refine aW (o _ ⟨q.snoc l.1 l.2.1 l.2.2 λZ=>?_,λ_ i a b=>?_,λi a b z v A=>?_⟩)
  ·simp only[Bool.and_eq_false_iff,decide_eq_false_iff_not] at h2
   have g:=F (by simp;omega)
   subst g;omega
  ·rw[show ((x.1++[gi w x.2]).length:Int)-1=x.1.length by simp,fP om,if_neg om,Int.sub_self]
   exact Y9 hs H (show x.2<i by omega) b
  ·by_cases e:i=x.2
   ·subst e;exact⟨_,sm,v,A⟩
   ·obtain⟨y,p,u⟩:=B i a om z v A
    exact⟨y,by simp[p],u⟩
theorem VS.mem{t:Int}{s:List Span}(h:VS t s){x:Span}(a:x∈s):0<=x.1/\x.1<x.2/\x.2<=t:=by obtain⟨i,h0,h1,rfl⟩:=iH a;exact h.1 i h0 h1
theorem avb{t:Int}{a b:List Span}(m:1<=t)(d:t<=7200)(g:VS t a)(j:VS t b):Li (t,[a,b])=some 0:=by
 obtain⟨x,o,e⟩:=aeM m d (s:=a) (by have:=g.len om;omega);obtain⟨y,p,f⟩:=aeM m d (s:=b) (by have:=j.len om;omega);obtain rfl:=e.2 g;obtain rfl:=f.2 j
 have h:WP (Li (t,[a,b])) λr=>r=0:=by
  unfold Li Di;dsimp only[Option.bind_some];rw[show (!(decide (1<=t)&&decide (t<=7200)))=false by simp;omega];refine aR (λh=>by cases h) λ_=>av (λ_=>True) (λ_ _=>aD rfl) λk n=>?_;refine wp_loop (λi=>0<=i/\i<=2) (λi=>(2-i).toNat) om om λc i ⟨q,u⟩ l=>?_;unfold apJ;refine aB (λh=>?_) λh=>n _ trivial;have h:i<2:=by simpa using h
  obtain rfl|rfl:i=0\/i=1:=by omega
  ·show WP ((zV (t,a)).bind _) _;rw[o,Option.bind_some];exact aR (λh=>absurd h dc) λ_=>mZ dc (l _ dc dc)
  ·show WP ((zV (t,b)).bind _) _;rw[p,Option.bind_some];exact aR (λh=>absurd h dc) λ_=>mZ dc (l _ dc dc)
 obtain⟨r,h1,h2⟩:=h;rw[h1,h2]
def OV(a:List aV):Prop:=(∀o∈a,0<=o.1/\ -65536<=o.2/\o.2<o.3/\o.3<=65536)/\a.Pairwise λx y=>x.1<y.1
instance aO0{a}:Spec (y9 a) (a.length<=1000000) λb=>b=true->OV a:=⟨λs=>by
 unfold y9
 refine av (λ_=>OV a) (λ_ h=>aD λ_=>h) λk p=>?_
 refine wp_loop (λx=>0<=x.2/\x.2<=a.length/\ -1<=x.1/\∀i:Int,0<=i->i<x.2->0<=(gi a i).1/\(gi a i).1<=x.1/\(-65536<=(gi a i).2/\(gi a i).2<(gi a i).3/\(gi a i).3<=65536)/\∀j:Int,0<=j->j<i->(gi a j).1<(gi a i).1) (λx=>(a.length-x.2).toNat) ⟨sm,sm,sm,λi a b=>by dsimp only at b;omega⟩ (by simp;omega) λc x ⟨t,u,v,d⟩ g=>?_
 unfold ai9
 refine aB (λh=>aA (aR (λ_=>aD λe=>absurd e dc) λh2=>?_)) λh=>p _ ⟨λo ho=>?_,?_⟩
 ·simp only[Bool.or_eq_false_iff,decide_eq_false_iff_not] at h2
  refine ak (g _ ⟨om,om,om,λi a0 f=>?_⟩ om)
  dsimp only at f |-
  by_cases e:i=x.2
  ·subst e
   exact⟨om,om,om,λj q r=>by have:=d j q r;omega⟩
  ·have:=d i a0 om
   exact⟨this.1,om,this.2.2.1,this.2.2.2⟩
 ·obtain⟨i,a0,f,rfl⟩:=iH ho
  have:=d i a0 om
  exact⟨this.1,this.2.2.1⟩
 ·rw[List.pairwise_iff_getElem]
  intro i j l n m
  have:=(d j om om).2.2.2 i om om
  simpa [gi,l,n] using this⟩
instance aOu{t a}:Spec (Qd (t,a)) (a.length<=1000000) λb=>b=true->OV a/\∀o∈a,o.3-o.2<=t:=⟨λl=>by
 unfold Qd
 dsimp only
 refine Mc (λ_=>l) λv m=>aR (λ_=>aD λe=>absurd e dc) λh=>?_
 simp only[Bool.or_eq_false_iff,Bool.not_eq_false'] at h
 have ho:=m (by simp[h.1]) h.2
 refine av (λ_=>∀o∈a,o.3-o.2<=t) (λ_ h=>aD λ_=>⟨ho,h⟩) λk g=>?_
 refine wp_loop (λi=>0<=i/\i<=a.length/\bB a i λo=>o.3-o.2<=t) (λi=>(a.length-i).toNat) ⟨om,om,bB.zero om⟩ om λc i ⟨n,r,d⟩ f=>?_
 unfold ai8
 dsimp only
 refine aB (λh=>?_) λh=>g _ λo ho=>?_
 ·have:=ho.1 _ (dF ⟨n,h⟩)
  exact aA (ak (aB (λ_=>aD λe=>absurd e dc) λq=>ak (f _ ⟨om,om,d.succ om⟩ om)))
 ·obtain⟨j,p,s,rfl⟩:=iH ho
  exact d j p om⟩
def NA(t d:Int)(w:Window):Prop:=(d-w.1) % t<=w.2-w.1
def Done(t:Int)(f:List Span)(x y:aV):Prop:=∀d:Int,x.2-y.3+1<=d->d<=x.3-y.2-1->iB f (d % t)
theorem ahu{β:Type}{Q:β->Prop}{a b:List Span}{k:List Span->Option β}(m:a.length+b.length<=1000000)(j:WP (k (a++b)) Q):WP (iter (λ(K:List Span×Int->Option β) (s:List Span×Int)=>if decide (s.2<(↑[a,b].length:Int)) then (idx [a,b] s.2).bind λf=>ah (aS 16 (s.1++f).length)<|ah (aj (s.2+1))<|K (s.1++f,s.2+1) else k s.1) FUEL ([],0)) Q:=by
 refine wp_loop (λx=>(x.2=0/\x.1=[])\/(x.2=1/\x.1=a)\/(x.2=2/\x.1=a++b)) (λx=>(2-x.2).toNat) (.inl ⟨rfl,rfl⟩) sm λc x l g=>?_;obtain⟨y,i⟩:=x;rcases l with ⟨d,e⟩|⟨d,e⟩|⟨d,e⟩;·dsimp only at d e;subst d e;exact aB (λ_=>bW sm (xY (by show ([]++a).length*16<=_;simp;omega) (mZ dc (g _ (.inr (.inl ⟨rfl,rfl⟩)) sm)))) λh=>absurd h sm
 ·dsimp only at d e;subst d e;exact aB (λ_=>bW sm (xY (by show (y++b).length*16<=_;simp;omega) (ak (g _ (.inr (.inr ⟨rfl,rfl⟩)) sm)))) λh=>absurd h sm
 ·dsimp only at d e;subst d e;exact aB (λh=>absurd h sm) λ_=>j
theorem avj{t:Int}{s:List Span}(i:1<=t)(d:t<=7200)(h:VS t s):WP (TQ (t,s)) λ_=>True:=by have l:=h.len om;obtain⟨b,e,a⟩:=aeM i d (s:=s) om;obtain rfl:=a.2 h;unfold TQ;dsimp only;rw[e,Option.bind_some];refine aR (λh=>absurd h dc) λ_=>wp_bind (λ_=>True) ?_ λ_ _=>aD trivial;unfold adG;refine av (λ_=>True) (λ_ _=>aD trivial) λk g=>?_;refine wp_loop (λx=>0<=x.2/\x.2<=s.length/\0<=x.1/\x.1<=7200*x.2) (λx=>(s.length-x.2).toNat) sm (by simp;omega) λc x ⟨j,m,n,o⟩ f=>?_;unfold apK adH;refine aB (λh2=>?_) λ_=>g _ trivial;have:=h.1 x.2 j h2;refine aA ?_;simp only[aj,ah,Option.bind_some];rw[show decide (-9223372036854775808<=(gi s x.2).2-(gi s x.2).1/\(gi s x.2).2-(gi s x.2).1<=9223372036854775807)=true by simp;omega];exact ak (ak (f _ om om))
theorem aqx{x:aV}{xs:List aV}:sub (x::xs) 1 (x::xs).length=some xs:=by unfold sub;rw[if_pos (by simp;omega)];simp
theorem OV.tail{x:aV}{xs:List aV}(h:OV (x::xs)):OV xs:=⟨λo ho=>h.1 o (List.mem_cons_of_mem _ ho),(List.pairwise_cons.1 h.2).2⟩
theorem Done.mono{t:Int}{f g:List Span}{x y:aV}(h:Done t f x y)(a:∀z,iB f z->iB g z):Done t g x y:=λd h1 h2=>a _ (h d h1 h2)
abbrev IB(t:Int)(a b:List aV)(W:List Window):Prop:=W.length<=7200/\(∀w∈W,0<=w.1/\w.1<=2*t/\ -1<=w.2/\w.2<=2*t)/\∀d:Int,(∀w∈W,NA t d w)->∀x∈a,∀y∈b,x.1=y.1->¬(x.2-y.3+1<=d/\d<=x.3-y.2-1)
theorem aJ0{t:Int}(h2:1<=t)(D:t<=7200){j f:List Span}(F:j.length<=7200)(m:∀x∈j,0<=x.1/\x.1<x.2/\x.2<=2*t/\x.1<=t)(y:∀z:Int,iB f z->0<=z->z<t->∃x∈j,(x.1<=z/\z<x.2/\x.2<=t)\/(x.2-t<=x.1/\t<=x.2/\(x.1<=z\/z<x.2-t))){Q:List Window×Int->Prop}{p:Int×List aV×List aV}(hp:p.1=t){k:List Window->Option (List Window×Int)}(n:∀W:List Window,W.length<=7200->(∀w∈W,0<=w.1/\w.1<=2*t/\ -1<=w.2/\w.2<=2*t)->(∀d:Int,(∀w∈W,NA t d w)->¬iB f (d % t))->WP (k W) Q):WP (iter (Zx p j k) FUEL ([],0)) Q:=by
 refine wp_loop (λx=>0<=x.2/\x.2<=j.length/\(x.1.length:Int)=x.2/\(∀w∈x.1,0<=w.1/\w.1<=2*t/\ -1<=w.2/\w.2<=2*t)/\∀i:Int,0<=i->i<x.2->Window.mk (gi j i).2 ((gi j i).1+t-1)∈x.1) (λx=>(j.length-x.2).toNat) ⟨sm,sm,sm,λw hw=>by simp at hw,λi a b=>by dsimp only at b;omega⟩ (by simp;omega) λc x ⟨A,H,I,o,q⟩ u=>?_;unfold Zx;rw[hp];refine aB (λh=>?_) λh=>n _ om o λd v g=>?_
 ·have G:=m _ (dF ⟨A,h⟩);refine aA (ak (ak (aW (ak (u _ ⟨om,om,by simp;omega,λw hw=>?_,λi a b=>?_⟩ om)))))
  ·rcases List.mem_append.1 hw with hw|hw;·exact o w hw
   ·rw[List.mem_singleton] at hw;subst hw;dsimp only;omega
  ·dsimp only at b |-;by_cases e:i=x.2;·subst e;simp
   ·exact List.mem_append_left _ (q i a om)
 ·obtain⟨B,C,k,n⟩:=yR d h2;obtain⟨s,hs,l⟩:=y (d % t) g B C;obtain⟨i,a,b,rfl⟩:=iH hs;have hw:=v _ (q i a om);have E:=m _ hs;unfold NA at hw;dsimp only at hw;generalize d % t=z at*;generalize gi j i=s at*;rcases l with h1|h1;·rw[wm (a:=d-s.2) (z:=z-s.2+t) (k:=k-1) (by rw[Int.mul_sub];omega) om om] at hw;omega
  ·rcases h1.2.2 with r|r
   ·by_cases e:z<s.2-t;·rw[wm (a:=d-s.2) (z:=z-s.2+t+t) (k:=k-2) (by rw[Int.mul_sub];omega) om om] at hw;omega
    ·rw[wm (a:=d-s.2) (z:=z-s.2+t) (k:=k-1) (by rw[Int.mul_sub];omega) om om] at hw;omega
   ·rw[wm (a:=d-s.2) (z:=z-s.2+t+t) (k:=k-2) (by rw[Int.mul_sub];omega) om om] at hw;omega
end Go.Z
