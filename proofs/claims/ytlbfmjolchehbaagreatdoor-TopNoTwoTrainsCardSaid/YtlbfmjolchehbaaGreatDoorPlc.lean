/- Several parts of the engine, one behind the other. -/
import Derived.Test.YtlbfmjolchehbaaGreatDoorPlb
import Derived.Test.YtlbfmjolchehbaaGreatDoorMoe
set_option linter.all false
namespace Go.Z
open Go Go.Proofs Go.Dc Go.R
theorem VS.inj{t:Int}{s:List Span}(h:VS t s):∀{i j:Int},0<=i->i<j->j<s.length->(gi s i).2<(gi s j).1:=by intro i j h0 h1 h2;obtain⟨n,rfl⟩:∃n:Nat,j=i+1+n:=⟨(j-i-1).toNat,om⟩;clear h1;induction n with|zero=>have:=h.2 i h0 om;simpa using this|succ n a=>have b:=a om;have c:=h.2 (i+1+n) om om;have d:=h.1 (i+1+n) om om;rw[show i+1+((n+1:Nat):Int)=i+1+n+1 by omega];omega
instance aOx{t a b}:Spec (Qe (t,a,b)) (a.length<=1000/\b.length<=1000) λy=>y.2=0->OV a/\OV b/\IB t a b y.1:=⟨λ⟨ha,hb⟩=>by
 unfold Qe
 dsimp only
 refine av (λ_=>1<=t/\t<=7200/\OV a/\OV b) (λ_ ⟨t1,U,X,Y⟩=>?_) λKq ab=>?_
 case refine_2=>
  refine aB (λh=>aB (λ_=>aD λe=>absurd e (by dsimp only;decide)) λh2=>absurd h h2) λh1=>aB (λ_=>aD λe=>absurd e (by dsimp only;decide)) λh2=>rA om (aR (λ_=>aD λe=>absurd e (by dsimp only;decide)) λh=>absurd h dc) λX=>rA om (aD λe=>absurd e (by dsimp only;decide)) λY=>ab _ ⟨om,om,X,Y⟩
 refine wp_loop (λx=>x.1.length<=1000/\x.2.1.length<=1000/\OV x.1/\OV x.2.1/\VS t x.2.2/\∀u∈a,∀v∈b,u.1=v.1->(u∈x.1/\v∈x.2.1)\/Done t x.2.2 u v) (λx=>x.1.length+x.2.1.length) ⟨ha,hb,X,Y,VS.nil,λu p v q _=> .inl ⟨p,q⟩⟩ om λc x ⟨i0,i1,L,M,r,i5⟩ S=>?_
 obtain⟨A,B,f⟩:=x
 dsimp only at i0 i1 L M r i5 S
 unfold aja
 dsimp only
 have ao:=r.len om
 refine aR (λh=>?_) λh=>?_
 ·simp only[Bool.and_eq_true,decide_eq_true_eq] at h
  match A,B,h with
  |D::A,G::B,h=>
  refine bW sm (bW sm ?_)
  rw[show gi (D::A) 0=D from rfl,show gi (G::B) 0=G from rfl,aqx,aqx]
  have b1:=L.1 D sm
  have b2:=M.1 G sm
  have p1:=(List.pairwise_cons.1 L.2).1
  have p2:=(List.pairwise_cons.1 M.2).1
  simp only[List.length_cons] at i0 i1 S
  refine av (λg=>VS t g/\(∀z,iB f z->iB g z)/\(D.1=G.1->Done t g D G)) (λg ⟨g1,g2,g3⟩=>?_) λan Q=>aB (λhe=>?_) λhe=>Q _ ⟨r,λ_ h=>h,λe=>absurd e he⟩
  ·have fin:∀u∈a,∀v∈b,u.1=v.1->(u∈D::A/\v∈G::B)\/Done t g u v:=λu p v q e=>(i5 u p v q e).imp id λh=>h.mono g2
   refine av (λA'=>(A'=if D.1<=G.1 then A else D::A)) (λA' ae=>?_) λk9 h9=>aB (λh1=>h9 _ (by rw[if_pos h1])) λh1=>h9 _ (by rw[if_neg h1])
   subst ae
   refine aB (λh1=>?_) λh1=>?_
   ·by_cases e:D.1<=G.1
    ·rw[if_pos e]
     refine S _ ⟨om,om,L.tail,M.tail,g1,λu p v q J=>?_⟩ om
     rcases fin u p v q J with ⟨l,o⟩|m
     ·rcases List.mem_cons.1 l with rfl|l
      ·rcases List.mem_cons.1 o with rfl|o
       ·exact .inr (g3 J)
       ·have:=p2 v o;omega
      ·rcases List.mem_cons.1 o with rfl|o
       ·have:=p1 u l;omega
       ·exact .inl ⟨l,o⟩
     ·exact .inr m
    ·rw[if_neg e]
     refine S _ ⟨by simp;omega,om,L,M.tail,g1,λu p v q J=>?_⟩ sm
     rcases fin u p v q J with ⟨l,o⟩|m
     ·rcases List.mem_cons.1 o with rfl|o
      ·rcases List.mem_cons.1 l with rfl|l
       ·omega
       ·have:=p1 u l;omega
      ·exact .inl ⟨l,o⟩
     ·exact .inr m
   ·rw[if_pos om]
    refine S _ ⟨om,by simp;omega,L.tail,M,g1,λu p v q J=>?_⟩ sm
    rcases fin u p v q J with ⟨l,o⟩|m
    ·rcases List.mem_cons.1 l with rfl|l
     ·rcases List.mem_cons.1 o with rfl|o
      ·omega
      ·have:=p2 v o;omega
     ·exact .inl ⟨l,o⟩
    ·exact .inr m
  ·refine ak (ak (ak (ak (ak (ak (aP om λm ⟨l,o⟩=>?_))))))
   rw[avb t1 U r l,Option.bind_some]
   have ap:=l.len om
   have F:∀x∈f++m.1,0<=x.1/\x.1<x.2/\x.2<=t:=λx C=>by
    rcases List.mem_append.1 C with C|C
    ·exact r.mem C
    ·exact l.mem C
   have fin:∀y,VS t y->(∀z,iB (f++m.1) z->iB y z)->WP (an y) λy=>y.2=0->OV a/\OV b/\IB t a b y.1:=λy E w=>Q _ ⟨E,λz ⟨s,hs,K⟩=>w z ⟨s,List.mem_append_left _ hs,K⟩,λ_ d d1 d2=>by
    obtain⟨s,hs,K⟩:=o d om om
    exact w _ ⟨s,List.mem_append_right _ hs,K⟩⟩
   refine aR (λh=>absurd h dc) λ_=>av (λn=>0<=n/\n<=20000) (λn hn=>xZ om (aB (λ_=>?_) λ_=>?_)) λjR aa=>?_
   ·refine av (λj=>j=f++m.1) (λj hj=>?_) λk h=>ahu (a:=f) (b:=m.1) om (h _ rfl)
    subst hj
    exact av (λy=>VS t y/\∀z,iB (f++m.1) z->iB y z) (λy T=>fin y T.1 T.2) λk h=>aor om U F (by simp;omega) λy E w=>h _ ⟨E,w⟩
   ·refine av (λj=>j=f++m.1) (λj hj=>?_) λk h=>ahu (a:=f) (b:=m.1) om (h _ rfl)
    subst hj
    exact av (λy=>VS t y/\∀z,iB (f++m.1) z->iB y z) (λy T=>fin y T.1 T.2) λk h=>aor om U F (by simp;omega) λy E w=>h _ ⟨E,w⟩
   ·refine wp_loop (λx=>0<=x.2/\x.2<=2/\0<=x.1/\x.1<=10000*x.2) (λx=>(2-x.2).toNat) sm sm λc2 x ⟨j0,j1,j2,j3⟩ af=>?_
    unfold ajb
    dsimp only
    refine aB (λh=>?_) λ_=>aa _ om
    have h:x.2<2:=by simpa using h
    have hg:(gi [f,m.1] x.2).length<=10000:=by
     obtain e|e:x.2=0\/x.2=1:=by omega
     ·rw[e];show f.length<=_;omega
     ·rw[e];show m.1.length<=_;omega
    exact av (λn=>n=x.1+(gi [f,m.1] x.2).length) (λn hn=>ak (af _ om om)) λCQ Zj=>bW (by simpa using ⟨j0,h⟩) (ak (aB (λh=>om) λ_=>Zj _ rfl))
 ·obtain⟨_,ag,_⟩:=avj t1 U r
  rw[ag,Option.bind_some]
  refine aB (λ_=>aD λe=>absurd e (by dsimp only;decide)) λ_=>?_
  have H:∀u∈a,∀v∈b,u.1=v.1->Done t f u v:=λu p v q e=>by
   rcases i5 u p v q e with ⟨l,o⟩|m
   ·exfalso
    have:=List.length_pos_of_mem l
    have:=List.length_pos_of_mem o
    simp only[Bool.and_eq_false_iff,decide_eq_false_iff_not] at h
    omega
   ·exact m
  refine av (λj=>j.length<=7200/\(∀x∈j,0<=x.1/\x.1<x.2/\x.2<=2*t/\x.1<=t)/\∀z:Int,iB f z->0<=z->z<t->∃x∈j,(x.1<=z/\z<x.2/\x.2<=t)\/(x.2-t<=x.1/\t<=x.2/\(x.1<=z\/z<x.2-t))) (λj ⟨j1,j2,j3⟩=>?_) λqI R=>?_
  ·refine av (λW=>IB t a b W) (λW hW=>aD λ_=>⟨X,Y,hW⟩) λRZ Zk=>aJ0 t1 U j1 j2 j3 rfl λW w1 w2 w3=>Zk _ ⟨w1,w2,λd hd u p v q e hh=>w3 d hd (H u p v q e d hh.1 hh.2)⟩
  ·have N:WP (qI f) λy=>y.2=0->OV a/\OV b/\IB t a b y.1:=R _ ⟨om,λx C=>by have:=r.mem C;omega,λz ⟨s,hs,K⟩ z0 z1=>⟨s,hs,.inl (by have:=r.mem hs;omega)⟩⟩
   refine fC (λh=>by simp at h;omega) λaq _=>fC (λh=>by simp at h;omega) λaw O=>fB ?_ (fC (λh=>by simp at h;omega) λax _=>fC (λh=>by simp at h;omega) λaz P=>aR (λV=>?_) λ_=>N)
   ·simp[aj];omega
   simp only[Bool.and_eq_true,decide_eq_true_eq] at V O P
   have q1:=O V.1.1
   have q2:=P V.1
   subst q1 q2
   have n1:=V.1.1
   have f0:=r.1 0 om om
   have f1:=r.1 (f.length-1) om om
   have f2:=r.inj (i:=0) (j:=f.length-1) om om om
   refine ak (aA (aA (aA (aA (ak (aA (aA (vE (by simp;omega) λys E w=>R _ ⟨by simp at E;omega,λx C=>?_,λz K z0 z1=>?_⟩))))))))
   ·obtain⟨i,a0,Z,rfl⟩:=iH C
    simp at E
    rw[w i a0 Z,dU om om om]
    split
    ·dsimp only;omega
    ·have:=r.1 (1+i) om om;omega
   ·simp at E
    obtain⟨i,a0,Z,a2,a3⟩:=iB.gi.1 K
    have I:gi ys (ys.length-1)=⟨(gi f (f.length-1)).1,(gi f (f.length-1)).2+(gi f 0).2⟩:=by
     rw[w _ om om,dU om om om,if_pos om]
    by_cases e0:i=0\/i=f.length-1
    ·refine⟨gi ys (ys.length-1),dF om,.inr ?_⟩
     rw[I];dsimp only
     rcases e0 with rfl|rfl<;>omega
    ·refine⟨gi ys (i-1),dF om,.inl ?_⟩
     rw[w _ om om,dU om om om,if_neg om,show 1+(i-1)=i by omega]
     have:=r.1 i a0 Z;omega⟩
abbrev D7(n:Network)(a:bE):Prop:=0<=a.2/\a.2<n.2.length/\0<=a.3/\a.3<n.2.length/\a.2≠a.3/\ -65536<=a.4/\a.4<=a.5/\a.5<=65536/\a.5-a.4<n.1/\0<=a.6/\a.6<=1048576
abbrev gK(n:Network):Prop:=2<=n.1/\n.1<=7200/\n.2.length<=48/\n.3.length<=512/\All n.3 (D7 n)
instance s73{n}:Spec (kQ n) True λb=>b=true->gK n:=⟨λ_=>by
 unfold kQ
 refine aR (λ_=>aD λe=>absurd e dc) λh=>?_
 simp only[Bool.or_eq_false_iff,decide_eq_false_iff_not] at h
 refine av (λ_=>All n.3 (D7 n)) (λ_ h2=>aD λ_=>⟨om,om,om,om,h2⟩) λk p=>?_
 refine wp_loop (λi=>0<=i/\i<=n.3.length/\bB n.3 i (D7 n)) (λi=>(n.3.length-i).toNat) ⟨om,om,bB.zero om⟩ om λc i ⟨r,s,f⟩ o=>?_
 unfold aoP SK
 refine aB (λg=>aA ?_) λg=>p _ (f.mono om)
 simp only[Option.bind_some]
 refine ni (λb=>b=(decide (0<=(gi n.3 i).3)&&decide ((gi n.3 i).3<(↑n.2.length:Int)))) (λ_=>⟨_,rfl,rfl⟩) λv a=>aR (λ_=>aD λe=>absurd e dc) λd=>?_
 simp only[Bool.or_eq_false_iff,Bool.not_eq_false',Bool.and_eq_true,decide_eq_true_eq,decide_eq_false_iff_not,Bool.not_not] at d a
 obtain⟨⟨j,rfl⟩,q⟩:=d
 have a:=(a j).symm
 simp only[Bool.and_eq_true,decide_eq_true_eq] at a
 refine fB ?_ (aR (λ_=>aD λe=>absurd e dc) λl=>aR (λ_=>aD λe=>absurd e dc) λm=>?_)
 ·simp only[Bool.not_not,Bool.or_eq_true,decide_eq_true_eq,aj];omega
 ·simp only[Bool.or_eq_false_iff,decide_eq_false_iff_not] at l m
  exact ak (o _ ⟨om,om,f.succ (by unfold D7;omega)⟩ om)⟩
abbrev kK(n:Network)(t:List Int):Prop:=t.length=n.2.length/\All t λx=>0<=x/\x<n.1
instance dL{n t}:Spec (sU (n,t)) True λb=>b=true->gK n/\kK n t:=⟨λ_=>by
 unfold sU
 dsimp only
 refine aP trivial λv m=>aR (λ_=>aD λe=>absurd e dc) λh=>?_
 simp only[Bool.or_eq_false_iff,Bool.not_eq_false',decide_eq_true_eq] at h
 have l:=m h.1
 refine av (λ_=>All t λx=>0<=x/\x<n.1) (λ_ h2=>aD λ_=>⟨l,om,h2⟩) λk j=>?_
 refine wp_loop (λi=>0<=i/\i<=t.length/\bB t i λx=>0<=x/\x<n.1) (λi=>(t.length-i).toNat) ⟨om,om,bB.zero om⟩ om λc i ⟨o,p,a⟩ g=>?_
 unfold acP
 dsimp only
 refine aB (λd=>aA (aR (λ_=>aD λe=>absurd e dc) λf=>?_)) λd=>j _ (a.mono om)
 simp only[Bool.or_eq_false_iff,decide_eq_false_iff_not] at f
 exact ak (g _ ⟨om,om,a.succ om⟩ om)⟩
abbrev Po(p:List Int):Prop:=∀i:Int,0<=i->i<p.length->0<=gi p i/\gi p i<=i
instance aOA{p i}:Spec (nG (p,i)) (Po p/\0<=i/\i<p.length/\p.length<=1000000) λr=>0<=r/\r<=i/\gi p r=r:=⟨λ⟨hp,h0,h1,h2⟩=>by
 unfold nG
 dsimp only
 refine av (λr=>0<=r/\r<=i/\gi p r=r) (λr h=>aD h) λk d=>?_
 refine wp_loop (λr=>0<=r/\r<=i) (λr=>r.toNat) om om λc r ⟨a,e⟩ b=>?_
 unfold XV
 dsimp only
 have:=hp r a om
 refine aA (aR (λh=>aA (b _ om ?_)) λh=>d _ ⟨a,e,by simpa using h⟩)
 simp at h;omega⟩
theorem Po.set{p:List Int}(h:Po p){a b:Int}(h0:0<=a)(h1:0<=b)(h2:a<p.length)(e:b<p.length):Po (p.set (max a b).toNat (min a b)):=λi c d=>by
 simp at d
 rw[dU om c om]
 split
 ·omega
 ·exact h i c d
theorem acL{n:Network}(h:kQ n=some true):gK n:=by obtain⟨b,h1,h2⟩:=(s73 (n:=n)).h trivial;rw[h] at h1;cases h1;exact h2 rfl
instance aO1{n}:Spec (OJ n) (kQ n=some true) λc=>c.length=n.2.length:=⟨λq=>by
 unfold OJ
 rw[q,Option.bind_some]
 obtain⟨h1,h2,G,H,w⟩:=acL q
 refine aR (λh=>absurd h dc) λ_=>iJ om ?_
 refine av (λp:List Int=>p.length=n.2.length/\Po p) (λK ⟨t,l⟩=>?_) λA F=>?_
 ·refine av (λp:List Int=>p.length=n.2.length/\Po p) (λL ⟨t,l⟩=>iJ om ?_) λz v=>?_
  ·refine av (λc=>c.length=n.2.length) (λc h=>aD h) λM k=>?_
   refine wp_loop (λx=>0<=x.2.1/\x.2.1<=n.2.length/\0<=x.1/\x.1<=x.2.1/\x.2.2.length=n.2.length) (λx=>(n.2.length-x.2.1).toNat) sm (by simp;omega) λc x ⟨f,s,g,d,y⟩ e=>?_
   unfold ahQ
   simp only[List.length_replicate,Int.toNat_natCast]
   refine aB (λh=>?_) λh=>k _ y
   refine av (λj=>0<=j.1/\j.1<=x.2.1+1/\j.2.length=n.2.length) (λj J=>ak (e _ om om)) λN o=>aP ⟨l,f,om,om⟩ λr ⟨u,B,D⟩=>?_
   exact aB (λh=>aA (aA (aA (aA (o _ (by simp;omega)))))) λh=>aA (aA (ak (o _ (by simp;omega))))
  ·refine wp_loop (λx=>0<=x.1/\x.1<=n.3.length/\x.2.length=n.2.length/\Po x.2) (λx=>(n.3.length-x.1).toNat) ⟨sm,sm,t,l⟩ (by simp;omega) λc x ⟨f,s,g,d⟩ e=>?_
   unfold ahO
   refine aB (λh=>?_) λh=>v _ ⟨g,d⟩
   have I:=w x.1 f h
   refine aA (aP ⟨d,om,om,om⟩ λr ⟨u,B,D⟩=>aP ⟨d,om,om,om⟩ λO ⟨m,C,E⟩=>aA (aA (ak (e _ ⟨om,om,by simp;omega,d.set u m om om⟩ om))))
 ·refine wp_loop (λx=>0<=x.1/\x.1<=n.2.length/\x.2.length=n.2.length/\(∀i:Int,0<=i->i<n.2.length->0<=gi x.2 i/\gi x.2 i<=i)) (λx=>(n.2.length-x.1).toNat) ⟨sm,sm,sm,λi a b=>by dsimp only;rw[qm a (by simpa using b)];omega⟩ (by simp;omega) λc x ⟨f,s,g,d⟩ e=>?_
  unfold ahP
  simp only[List.length_replicate,Int.toNat_natCast]
  refine aB (λh=>aA (aA (ak (e _ ⟨om,om,by simp;omega,λi a b=>?_⟩ om)))) λh=>F _ ⟨g,λi a b=>d i a om⟩
  dsimp only
  rw[dU f a om]
  split
  ·omega
  ·exact d i a b⟩
def mW(n:Network)(t:List Int)(a:bE):Int:=(gi t a.3-gi t a.2-a.4) % n.1
theorem aed{n:Network}(h:gK n){t a}:0<=mW n t a/\mW n t a<n.1:=by have:=yR (gi t a.3-gi t a.2-a.4) (b:=n.1) om;exact⟨this.1,this.2.1⟩
instance s99{n t a}:Spec (KL (n,t,a)) (gK n/\kK n t/\D7 n a) λx=>x=a.4+mW n t a:=⟨λ⟨c,b,d⟩=>by
 unfold KL
 dsimp only
 have e:=b.2 a.2 om om
 have f:=b.2 a.3 om om
 have hs:=aed c (t:=t) (a:=a)
 refine aA (aA (ak (ak ?_)))
 rw[Gf om om]
 exact mZ (by unfold mW at hs;omega) (aD rfl)⟩
def rD(n:Network)(t:List Int):Prop:=All n.3 λa=>mW n t a<=a.5-a.4
instance s98{n t}:Spec (SI (n,t)) True λx=>x.2=false->sU (n,t)=some true->rD n t:=⟨λ_=>by
 unfold SI
 dsimp only
 refine D5 trivial λb g o=>aR (λh=>aD λ_ e=>by rw[g] at e;cases e;simp at h) λh=>?_
 obtain⟨d,m⟩:=o (by simpa using h)
 refine av (λ_=>rD n t) (λ_ h=>aD λ_ _=>h) λk l=>?_
 refine wp_loop (λi=>0<=i/\i<=n.3.length/\bB n.3 i λa=>mW n t a<=a.5-a.4) (λi=>(n.3.length-i).toNat) ⟨om,om,bB.zero om⟩ om λc i ⟨p,r,f⟩ j=>?_
 unfold aoR
 dsimp only
 refine aB (λh=>aA (aP ⟨d,m,d.2.2.2.2 i p h⟩ λx e=>?_)) λh=>l _ (f.mono om)
 subst e
 exact aB (λ_=>aD λe=>absurd e (by dsimp only;decide)) λq=>ak (j _ ⟨om,om,f.succ om⟩ om)⟩
instance Aa{n t}:Spec (KJ (n,t)) True λb=>b=true->gK n/\kK n t/\rD n t:=⟨λ_=>by
 unfold KJ
 dsimp only
 refine aP trivial λx f=>?_
 obtain⟨b,a,c⟩:=(dL (n:=n) (t:=t)).h trivial
 rw[a]
 refine ni (λy=>y=b) (λ_=>⟨_,rfl,rfl⟩) λy d=>aD λh=>?_
 simp only[Bool.and_eq_true,Bool.not_eq_true'] at h d
 have e:=d h.1
 subst e
 obtain rfl:=h.2
 exact⟨(c rfl).1,(c rfl).2,f h.1 a⟩⟩
theorem apN{p:Plan}{q:Int}(h0:0<=q):∀{n:Nat},(n:Int)<=p.4.length->q<fst p n->∃i k,bZ p i k/\i<n/\q=fst p i+k
 |0,_,h=>by rw[show ((0:Nat):Int)=0 from rfl,EY] at h;omega
 |n+1,b,h=>by
  have hs:=BG (p:=p) (i:=n) om
  rw[show ((n+1:Nat):Int)=(n:Int)+1 by omega] at h |-
  by_cases e:q<fst p n
  ·obtain⟨i,k,h1,h2,a⟩:=apN h0 (n:=n) om e
   exact⟨i,k,h1,om,a⟩
  ·exact⟨n,q-fst p n,⟨om,om,om,om⟩,om,om⟩
abbrev nR(p:Plan):Int:=fst p p.4.length
theorem Gs{l p aU run}(h:RG l p aU run)(d:(aU.length:Int)=nR p){q:Int}(h0:0<=q)(h1:q<aU.length):0<=gi run q/\gi run q<=1000000001/\(gi aU q).length<=144:=by obtain⟨i,k,h2,e,rfl⟩:=apN (p:=p) (n:=p.4.length) h0 (Int.le_refl _) (by unfold nR at d;omega);obtain⟨x,o,T,g,_,a,b,c⟩:=h.2 i k h2 h1;dsimp only at b c;obtain⟨f,j,_,_,_,t,m,r,s,_⟩:=a;rw[b,c];refine⟨om,om,?_⟩;unfold kF;refine Nat.le_trans (List.length_filter_le _ _) ?_;rw[pQ];omega
def Jn(p:Plan)(a b:Int):Prop:=(∃i k,bZ p i k/\bZ p i (k+1)/\a=fst p i+k/\b=fst p i+k+1)\/∃j:Int,0<=j/\j<p.6.length/\a=fst p (gi p.6 j).1+((gi p.4 (gi p.6 j).1).4.length-1)/\b=fst p (gi p.6 j).2
structure BC(l:Layout)(p:Plan)(f:List Int)(aU:List (List aV))(run:List Int):Prop where
 pv:PV l p
 f1:f.length=p.4.length
 f2:∀i:Int,0<=i->i<p.4.length->gi f i=fst p i
 Gq:nR p<=24
 ol:(aU.length:Int)=nR p
 rg:RG l p aU run
theorem BC.rl{l p f aU run}(h:BC l p f aU run):(run.length:Int)=nR p:=by rw[h.rg.1];exact h.ol
theorem BC.ride{l p f aU run}(h:BC l p f aU run){i k:Int}(a:bZ p i k):0<=fst p i+k/\fst p i+k<nR p:=by have h1:=TW a (n:=p.4.length) a.2.1;have h2:=Pz (p:=p) (i:=0) (j:=i) a.1;rw[EY] at h2;exact⟨by have:=a.2.2.1;omega,h1⟩
abbrev Aq(p:Plan)(j:Join):Prop:=Jn p j.1 j.2/\0<=j.1/\j.1<nR p/\0<=j.2/\j.2<nR p/\0<=j.3/\j.3<=2000000000/\0<=j.4/\j.4<=2000000000
def HW(p:Plan)(aU:List (List aV))(b:List bE)(q q':Int):Prop:=¬Jn p q q'->¬Jn p q' q->∃W,IB p.1 (gi aU q) (gi aU q') W/\OV (gi aU q)/\OV (gi aU q')/\∀w∈W,∃a∈b,a.2=2*q/\a.3=2*q'/\a.4=w.1/\a.5=w.2
theorem HW.app{p aU b q q' more}(h:HW p aU b q q'):HW p aU (b++more) q q':=λh1 h2=>by
 obtain⟨W,d,e,f,g⟩:=h h1 h2
 exact⟨W,d,e,f,λw hw=>let ⟨a,c,h⟩:=g w hw;⟨a,List.mem_append_left _ c,h⟩⟩
instance aOv{q}:Spec (sV q) (0<=q/\q<=1000000) λx=>x=2*q:=⟨λh=>by unfold sV;exact ak (aD rfl)⟩
instance aOw{q}:Spec (CY q) (0<=q/\q<=1000000) λx=>x=2*q+1:=⟨λh=>by unfold CY;exact ak (ak (aD rfl))⟩
theorem aCR{x:Int}:sQ x []=false:=rfl
section
variable {l:Layout}{p:Plan}{f:List Int}{aU:List (List aV)}{run:List Int}{ev:List Event}{jn:List Join}{Q:Network×Int->Prop}{bH:Int×List Join}{s3:Int×List Int×List Event}
theorem aq5{L:List Int}{v:List aV}(l:v.length<=144){k:List aV->Option (Network×Int)}(g:∀y:List aV,y.length<=144->(L=[]->y=v)->WP (k y) Q):WP (iter (acN L v k) FUEL ([],0)) Q:=by
 refine wp_loop (λx=>0<=x.2/\x.2<=v.length/\x.1.length<=x.2/\(L=[]->x.1=v.take x.2.toNat)) (λx=>(v.length-x.2).toNat) sm (by simp;omega) λc x ⟨i,m,n,b⟩ d=>?_;unfold acN;refine aB (λh=>?_) λh=>g _ om λe=>by rw[b e,List.take_of_length_le om]
 refine av (λj:List aV=>j.length<=x.2+1/\(L=[]->j=v.take (x.2+1).toNat)) (λj f=>ak (d _ ⟨om,om,f⟩ om)) λo a=>aA (aR (λ_=>aW (a _ ⟨by simp;omega,λe=>by rw[aqG i h,b e]⟩)) λh2=>a _ ⟨om,λe=>?_⟩);subst e;rw[aCR] at h2;cases h2
theorem aIW(s:BC l p f aU run)(A:∀o∈aU,OV o)(G:∀j∈jn,Aq p j)(H:jn.length<=1000){a b:Int×List bE}{k:List Int->Option (Network×Int)}(I:∀y:List Int,(¬Jn p a.1 b.1->¬Jn p b.1 a.1->y=[])->WP (k y) Q):WP (iter (acO (aU,run,0) (bH.1,jn) a b k) FUEL (0,[])) Q:=by
 have g:=s.ol;refine wp_loop (λx=>0<=x.1/\x.1<=jn.length/\(¬Jn p a.1 b.1->¬Jn p b.1 a.1->x.2=[])) (λx=>(jn.length-x.1).toNat) sm (by simp;omega) λc x ⟨K,P,C⟩ F=>?_;unfold acO;dsimp only;refine aB (λh=>?_) λh=>I _ C;refine av (λy=>(¬Jn p a.1 b.1->¬Jn p b.1 a.1->y=[])) (λy J=>ak (F _ ⟨om,om,J⟩ om)) λN d=>aA (aR (λh2=>?_) λ_=>d _ C);have B:=G _ (dF ⟨K,h⟩)
 have v:¬Jn p a.1 b.1->¬Jn p b.1 a.1->False:=λn1 n2=>by
  simp only[Bool.or_eq_true,Bool.and_eq_true,decide_eq_true_eq] at h2;rcases h2 with ⟨m,n⟩|⟨m,n⟩;·exact n1 (m▸n▸B.1)
  ·exact n2 (m▸n▸B.1)
 generalize gi jn x.1=j at*;refine aA ?_;have l1:=(Gs s.rg g (q:=j.1) om om).2.2;refine wp_loop (λx=>0<=x.1/\x.1<=(gi aU j.1).length) (λx=>((gi aU j.1).length-x.1).toNat) sm om λc2 y ⟨R,S⟩ t=>?_;unfold aoJ;dsimp only;refine aB (λD=>?_) λD=>d _ λn1 n2=>(v n1 n2).elim;refine av (λ_=>True) (λz _=>ak (t _ ⟨om,om⟩ om)) λT r=>aA (aA ?_);have l2:=(Gs s.rg g (q:=j.2) om om).2.2;refine wp_loop (λx=>0<=x.1/\x.1<=(gi aU j.2).length) (λx=>((gi aU j.2).length-x.1).toNat) sm om λc3 z ⟨M,U⟩ u=>?_;unfold aoK;refine aB (λE=>?_) λ_=>r _ trivial;have O:=(A _ (dF (xs:=aU) (i:=j.2) ⟨om,om⟩)).1 _ (dF ⟨M,E⟩);exact av (λ_=>True) (λw _=>ak (u _ ⟨om,om⟩ om)) λL e=>aA (fB (by simp[aj];omega) (aR (λ_=>e _ trivial) λ_=>e _ trivial))
end
section
variable {l:Layout}{p:Plan}{f:List Int}{aU:List (List aV)}{run:List Int}{ev:List Event}{jn:List Join}{Q:Network×Int->Prop}{bH:Int×List Join}{s3:Int×List Int×List Event}
theorem aJ1{L:List Int}{v:List aV}(b:v.length<=144){k:List aV->Option (Network×Int)}(a:∀y:List aV,y.length<=144->(L=[]->y=v)->WP (k y) Q):WP (iter (aoH L v k) FUEL ([],0)) Q:=aq5 b a
theorem aAh(m:BC l p f aU run)(E:∀o∈aU,OV o)(hj:∀j∈jn,Aq p j)(D:jn.length<=1000)(hE:∀n e,e≠0->Q (n,e)){g:List bE}(ha:g.length<=1000){k:List bE->Option (Network×Int)}(hk:∀H more,H=g++more->(∀q q':Int,0<=q->q<q'->q'<nR p->HW p aU H q q')->WP (k H) Q):WP (iter (acM (l,p) s3 (aU,run,0) (bH.1,jn) k) FUEL (0,g)) Q:=by
 have r:=m.ol;have QE:=m.Gq;refine wp_loop (λx=>0<=x.1/\x.1<=aU.length/\(x.2.length:Int)<=1000+172800*x.1/\(∃more,x.2=g++more)/\∀q q':Int,0<=q->q<x.1->q<q'->q'<nR p->HW p aU x.2 q q') (λx=>(aU.length-x.1).toNat) ⟨sm,sm,om,⟨[],sm⟩,λq q' a b=>by dsimp only at b;omega⟩ om λc x ⟨i0,i1,i2,⟨more,M⟩,N⟩ hc=>?_;unfold acM;dsimp only;refine aB (λh=>?_) λh=>hk _ more M λq q' a b d=>N q q' a om b d;refine av (λy=>(y.length:Int)<=1000+172800*(x.1+1)/\(∃more,y=g++more)/\∀q q':Int,0<=q->q<x.1+1->q<q'->q'<nR p->HW p aU y q q') (λy hy=>ak (hc _ ⟨om,om,hy⟩ om)) λlX Z=>ak ?_;refine wp_loop (λz=>x.1+1<=z.1/\z.1<=aU.length/\(z.2.length:Int)<=1000+172800*x.1+7200*(z.1-x.1-1)/\(∃more,z.2=g++more)/\(∀q q':Int,0<=q->q<x.1->q<q'->q'<nR p->HW p aU z.2 q q')/\∀q':Int,x.1<q'->q'<z.1->HW p aU z.2 x.1 q') (λz=>(aU.length-z.1).toNat) ⟨sm,om,om,⟨more,M⟩,N,λq' a b=>by dsimp only at b;omega⟩ om λc2 z ⟨z0,z1,z2,⟨O,U⟩,V,X⟩ B=>?_;unfold aoF;dsimp only;refine aB (λh2=>?_) λh2=>Z _ ⟨om,⟨O,U⟩,λq q' a b d e=>?_⟩
 case refine_2=>
  by_cases eq:q=x.1;·subst eq;exact X q' d om
  ·exact V q q' a om d e
 refine av (λy=>(y.length:Int)<=1000+172800*x.1+7200*(z.1-x.1)/\(∃more,y=z.2++more)/\HW p aU y x.1 z.1) (λy ⟨y1,⟨t,J⟩,y3⟩=>ak (B _ ⟨om,om,om,⟨O++t,by dsimp only;rw[J,U,List.append_assoc]⟩,λq q' a b d e=>by dsimp only;rw[J];exact (V q q' a b d e).app,λq' a b=>?_⟩ om)) λqF A=>?_
 ·dsimp only at b |-;by_cases eq:q'=z.1;·exact eq▸y3
  ·rw[J];exact (X q' a om).app
 have l1:=(Gs m.rg r (q:=x.1) om om).2.2;have l2:=(Gs m.rg r (q:=z.1) om om).2.2;refine av (λy:List Int=>(¬Jn p x.1 z.1->¬Jn p z.1 x.1->y=[])) (λL hL=>?_) λqJ Zl=>aIW m E hj D Zl;refine aA (aA ?_);refine av (λy:List aV=>y.length<=144/\(L=[]->y=gi aU x.1)) (λo1 ⟨aa,F⟩=>?_) λjT Y=>aq5 l1 λy a b=>Y y ⟨a,b⟩;refine av (λy:List aV=>y.length<=144/\(L=[]->y=gi aU z.1)) (λo2 ⟨ab,G⟩=>?_) λRY Zi=>aJ1 l2 λy a b=>Zi y ⟨a,b⟩;refine aP om λW hW=>aR (λv=>aR (λs=>aD (hE _ _ (by simpa using s))) λs=>by rw[v] at s;cases s) λv=>?_;obtain⟨S,T,w1,w2,I⟩:=hW (by simpa using v);refine wp_loop (λu=>0<=u.1/\u.1<=W.1.length/\(u.2.length:Int)=z.2.length+u.1/\(∃more,u.2=z.2++more)/\∀i:Int,0<=i->i<u.1->bE.mk 6 (2*x.1) (2*z.1) (gi W.1 i).1 (gi W.1 i).2 0∈u.2) (λu=>(W.1.length-u.1).toNat) ⟨sm,sm,sm,⟨[],sm⟩,λi a b=>by dsimp only at b;omega⟩ om λc3 u ⟨u0,u1,u2,⟨t,P⟩,R⟩ C=>?_;unfold aoG;refine aB (λh5=>aA (aP om λa1 e1=>aP om λa2 e2=>aW (ak (C _ ⟨om,om,by simp;omega,⟨t++[_],by dsimp only;rw[P,List.append_assoc]⟩,λi a b=>?_⟩ om)))) λh5=>A _ ⟨om,⟨t,P⟩,λn1 n2=>?_⟩
 ·dsimp only at b |-;by_cases ei:i=u.1;·subst ei e1 e2;simp
  ·exact List.mem_append_left _ (R i a om)
 ·have K:=hL n1 n2;rw[F K] at S I;rw[G K] at T I;refine⟨W.1,⟨w1,w2,I⟩,S,T,λw hw=>?_⟩;obtain⟨i,a,b,rfl⟩:=iH hw;exact⟨_,R i a om,rfl,rfl,rfl,rfl⟩
end
def ai(p:Plan)(i:Int):Int:=2*fst p i-i
def tX(p:Plan)(run:List Int)(i k:Int):bE:=⟨1,2*(fst p i+k),2*(fst p i+k)+1,gi run (fst p i+k),gi run (fst p i+k)+(gi (gi p.4 i).4 k).2,(gi p.4 i).3⟩
def yg(p:Plan)(i k:Int):bE:=⟨2,2*(fst p i+k)+1,2*(fst p i+k+1),(gi (gi p.4 i).4 k).3,(gi (gi p.4 i).4 k).4,(gi p.4 i).3⟩
def yJ(p:Plan)(j:Int):bE:=⟨4,2*(fst p (gi p.6 j).1+((gi p.4 (gi p.6 j).1).4.length-1))+1,2*fst p (gi p.6 j).2,(gi p.6 j).3,(gi p.6 j).4,1⟩
def ji(p:Plan)(run:List Int)(a:List bE)(n m:Int):Prop:=∀i k:Int,bZ p i k->(i<n\/i=n/\k<m)->gi a (ai p i+2*k)=tX p run i k/\(bZ p i (k+1)->gi a (ai p i+2*k+1)=yg p i k)
theorem WJ{p:Plan}{i:Int}(h:0<=i):ai p (i+1)=ai p i+2*(gi p.4 i).4.length-1:=by unfold ai;rw[BG h];omega
theorem ND{p:Plan}(hp:All p.4 (lM p)){i j:Int}(h0:0<=i)(h1:i<=j)(h2:j<=p.4.length):ai p i<=ai p j:=by obtain⟨n,rfl⟩:∃n:Nat,j=i+n:=⟨(j-i).toNat,om⟩;clear h1;induction n with|zero=>rw[show i+((0:Nat):Int)=i by omega];omega|succ n a=>have b:=a om;have c:=WJ (p:=p) (i:=i+n) om;have d:=hp (i+n) om om;rw[show i+((n+1:Nat):Int)=i+n+1 by omega];omega
theorem NC{p:Plan}(hp:All p.4 (lM p)){i k n:Int}(h:bZ p i k)(d:i<n)(a:n<=p.4.length):ai p i+2*k+1<=ai p n/\(bZ p i (k+1)->ai p i+2*k+1<ai p n):=by have h1:=WJ (p:=p) h.1;have h2:=ND hp (i:=i+1) (j:=n) (by have:=h.1;omega) om a;have c:=h.2.2.2;exact⟨om,λb=>by have:=b.2.2.2;omega⟩
theorem E5{α:Type}[Inhabited α]{xs ys:List α}{i:Int}(h0:0<=i)(h:i<xs.length):gi (xs++ys) i=gi xs i:=by rw[fP h0,if_pos h]
theorem IE{p:Plan}(hp:All p.4 (lM p)){i:Int}(h0:0<=i)(h1:i<=p.4.length):0<=ai p i:=by have:=ND hp (i:=0) (j:=i) om h0 h1;have e:ai p 0=0:=rfl;omega
theorem ji.app{p:Plan}(hp:All p.4 (lM p)){run e more}{n m:Int}(h:ji p run e n m)(o:0<=m)(q:n<p.4.length\/m=0)(g:n<=p.4.length)(l:ai p n+2*m<=e.length):ji p run (e++more) n m:=λi k h1 h2=>by
 have h0:=IE hp h1.1 (by have:=h1.2.1;omega)
 have j:=h1.2.2.1
 obtain⟨a,b⟩:=h i k h1 h2
 rcases h2 with h2|⟨rfl,h2⟩
 ·obtain⟨c,d⟩:=NC hp h1 h2 g
  exact⟨by rw[E5 om om];exact a,λf=>by have:=d f;rw[E5 om om];exact b f⟩
 ·exact⟨by rw[E5 om om];exact a,λf=>by rw[E5 om om];exact b f⟩
def Ba(p:Plan)(a:List bE)(n:Int):Prop:=∀j:Int,0<=j->j<n->gi a (ai p p.4.length+p.5.length+j)=yJ p j
structure NB(l:Layout)(p:Plan)(n:Network)(aU:List (List aV))(run:List Int):Prop where
 bc:∃f,BC l p f aU run
 n1:n.1=p.1
 n2:(n.2.length:Int)=2*nR p
 pl:ji p run n.3 p.4.length 0
 tu:Ba p n.3 p.6.length
 al:∀o∈aU,OV o/\∀x∈o,x.3-x.2<=p.1
 hw:∀q q':Int,0<=q->q<q'->q'<nR p->HW p aU n.3 q q'
 ln:ai p p.4.length+p.5.length+p.6.length<=n.3.length
theorem aCh{p:Plan}{i k:Int}(h:bZ p i k)(h2:bZ p i (k+1)):Jn p (fst p i+k) (fst p i+(k+1)):= .inl ⟨i,k,h,h2,rfl,om⟩
instance mR{l p}:Spec (sS (l,p)) True λy=>y.2=0->∃aU run,Gg (l,p)=some (aU,run,0)/\NB l p y.1 aU run:=⟨λ_=>by
 unfold sS
 dsimp only
 refine kW trivial (λv hv=>aD λe=>absurd e (by dsimp only;decide)) λhp=>?_
 have hL:=hp.1.2.2.2.1
 have ab:=hp.1.2.2.2.2.2.2.2.2.2.2
 have hb:∀{i:Int},0<=i->i<=p.4.length->0<=fst p i/\fst p i<=12*i:=λh0 h1=>Js ab h0 h1
 have g:=hp.2.2.2.1
 refine wp_loop (λx=>0<=x.1/\x.1<=p.4.length/\(x.2.1.length:Int)=x.1/\(∀j:Int,0<=j->j<x.1->gi x.2.1 j=fst p j)/\(x.2.2.length:Int)=2*fst p x.1) (λx=>(p.4.length-x.1).toNat) ⟨sm,sm,sm,λj a b=>by dsimp only at b;omega,by simp[EY]⟩ om λc x ⟨i0,i1,i2,i3,i4⟩ w=>?_
 obtain⟨i,f,ev⟩:=x
 dsimp only at i0 i1 i2 i3 i4 w
 unfold aov
 dsimp only
 have bk:=hb i0 i1
 refine aB (λh=>?_) λh=>?_
 ·have hs:=BG (p:=p) i0
  have bo:=ab i i0 h
  refine av (λy=>(y.1.length:Int)=i+1/\(∀j:Int,0<=j->j<i+1->gi y.1 j=fst p j)/\(y.2.length:Int)=2*fst p (i+1)) (λy E=>ak (w _ ⟨om,om,E⟩ om)) λk5 h5=>aA (fB rfl (xY (by simp;omega) ?_))
  refine wp_loop (λz=>0<=z.1/\z.1<=(gi p.4 i).4.length/\(z.2.length:Int)=2*fst p i+2*z.1) (λz=>((gi p.4 i).4.length-z.1).toNat) ⟨sm,sm,om⟩ om λc2 z ⟨L,z1,T⟩ B=>?_
  unfold aoO
  refine aB (λh2=>aW (ak (B _ ⟨om,om,by simp;omega⟩ om))) λh2=>h5 _ ⟨by simp;omega,λj a b=>?_,om⟩
  dsimp only
  rw[fP a]
  split
  ·exact i3 j a om
  ·rw[show j-f.length=0 by omega]
   show IntKind.i64.wrap ((ev.length:Int).tdiv 2)=_
   obtain⟨e,_,_⟩:=UD (a:=(ev.length:Int)) (b:=2) om om om
   rw[e,show j=i by omega];omega
 have hi:i=p.4.length:=by omega
 subst hi
 refine aB (λ_=>aD λe=>absurd e (by dsimp only;decide)) λbe=>D5 trivial λR hR a5=>aR (λh=>aD λe=>absurd e (by simpa using h)) λhz=>?_
 obtain⟨aU,run,e0⟩:=R
 obtain rfl:e0=0:=by simpa using hz
 obtain⟨_,H,J⟩:=a5 rfl
 dsimp only at H J
 have hB:BC l p f aU run:=⟨hp,om,i3,by unfold nR;omega,H,J⟩
 have QE:=hB.Gq
 have bp:=hB.rl
 have bn:nR p=fst p p.4.length:=rfl
 have W:∀q:Int,0<=q->q<nR p->0<=gi run q/\gi run q<=1000000001:=λq a b=>by have:=Gs J H a om;exact⟨this.1,this.2.1⟩
 have hE:∀(n:Network) (e:Int),e≠0->(λy:Network×Int=>y.2=0->∃aU run,Gg (l,p)=some (aU,run,0)/\NB l p y.1 aU run) (n,e):=λn e h1 h2=>absurd h2 h1
 have s:∀{i:Int},0<=i->i<p.4.length->∀{β:Type}{K:Int->Option β}{Q:β->Prop},WP (K (fst p i)) Q->WP ((idx f i).bind K) Q:=λ{i} h0 h1 β K Q h=>bW ⟨h0,om⟩ (by rw[i3 i h0 h1];exact h)
 have F:∀{i k:Int},bZ p i k->0<=fst p i+k/\fst p i+k<nR p:=λh=>hB.ride h
 refine av (λO=>(∀j∈O,Aq p j)/\O.length<=200) (λO ⟨C,bm⟩=>?_) λCw az=>?_
 case refine_2=>
  refine wp_loop (λx=>0<=x.1/\x.1<=p.4.length/\(∀j∈x.2,Aq p j)/\(x.2.length:Int)<=12*x.1) (λx=>(p.4.length-x.1).toNat) ⟨sm,sm,sm,sm⟩ (by simp;omega) λc x ⟨a0,a1,U,a3⟩ w=>?_
  unfold aoM
  dsimp only
  refine aB (λh2=>?_) λh2=>az _ ⟨U,om⟩
  have hn:=g x.1 a0 h2
  refine av (λy=>(∀j∈y,Aq p j)/\(y.length:Int)<=12*(x.1+1)) (λy E=>ak (w _ ⟨om,om,E⟩ om)) λzD aE=>aA (ak (vE om λv v1 v2=>?_))
  refine wp_loop (λz=>0<=z.1/\z.1<=v.length/\(∀j∈z.2,Aq p j)/\(z.2.length:Int)<=12*x.1+z.1) (λz=>(v.length-z.1).toNat) ⟨sm,sm,U,om⟩ om λc2 z ⟨L,z1,T,z3⟩ B=>?_
  unfold aoN
  dsimp only
  refine aB (λt=>?_) λt=>aE _ ⟨T,om⟩
  have BP:bZ p x.1 z.1:=⟨a0,h2,L,om⟩
  have ae:bZ p x.1 (z.1+1):=⟨a0,h2,om,om⟩
  have P:=F BP
  have X:=F ae
  have af:=hn.2.2.2.2.2.2.2 z.1 L om
  have N:=W _ P.1 P.2
  refine aA ?_
  rw[v2 z.1 L t,Int.zero_add]
  refine ak (s a0 h2 (ak (s a0 h2 (ak (aA (ak (ak (ak (aW (ak (B _ ⟨om,om,λj C=>?_,by simp;omega⟩ om)))))))))))
  rcases List.mem_append.1 C with C|C
  ·exact T j C
  ·rw[List.mem_singleton] at C
   subst C
   exact⟨aCh BP ae,om,om,om,om,om,om,om,om⟩
 have h6:p.6.length<=32:=hp.1.2.2.2.2.2.1
 have h5:p.5.length<=32:=hp.1.2.2.2.2.1
 have h7:p.7.length<=32:=hp.1.2.2.2.2.2.2.1
 have a9:2<=p.1/\p.1<=7200:=⟨hp.1.2.2.2.2.2.2.2.2.1,hp.1.2.2.2.2.2.2.2.2.2.1⟩
 refine wp_loop (λx=>0<=x.1/\x.1<=p.6.length/\(∀j∈x.2,Aq p j)/\(x.2.length:Int)<=200+x.1) (λx=>(p.6.length-x.1).toNat) ⟨sm,sm,C,om⟩ om λc x ⟨a0,a1,U,a3⟩ w=>?_
 obtain⟨S,O⟩:=x
 dsimp only at a0 a1 U a3 w
 unfold aow
 dsimp only
 refine aB (λh2=>?_) λh2=>?_
 ·have u:=hp.2.2.2.2.2.1 S a0 h2
  obtain⟨hA,_⟩:=F9 g u.1 u.2.1
  obtain⟨_,hC⟩:=F9 g u.2.2.1 u.2.2.2.1
  have P:=F hA
  have X:=F hC
  have hn:=g _ u.1 u.2.1
  have af:=hn.2.2.2.2.2.2.2 ((gi p.4 (gi p.6 S).1).4.length-1) om om
  have N:=W _ P.1 P.2
  have hJ:Jn p (fst p (gi p.6 S).1+((gi p.4 (gi p.6 S).1).4.length-1)) (fst p (gi p.6 S).2+0):= .inr ⟨S,a0,h2,rfl,om⟩
  refine aA (aA (ak (aA (aA (ak (s u.1 u.2.1 (ak (s u.2.2.1 u.2.2.2.1 ?_))))))))
  refine ak (aA (ak (ak (ak (aW (ak (w _ ⟨om,om,λj C=>?_,by simp;omega⟩ om)))))))
  rcases List.mem_append.1 C with C|C
  ·exact U j C
  ·rw[List.mem_singleton] at C
   subst C
   exact⟨hJ,om,om,om,om,om,om,om,om⟩
 have br:(S:Int)=p.6.length:=by omega
 have P6:ai p p.4.length<=48:=by unfold ai;omega
 have bi:=IE g (i:=p.4.length) om om
 have Zc:∀q:Int,0<=q->q<nR p->(gi aU q).length<=144:=λq a b=>(Gs J H a om).2.2
 refine av (λ_=>∀o∈aU,OV o/\∀x∈o,x.3-x.2<=p.1) (λ_ I=>?_) λsH ax=>?_
 case refine_2=>
  refine wp_loop (λi=>0<=i/\i<=aU.length/\bB aU i λo=>OV o/\∀x∈o,x.3-x.2<=p.1) (λi=>(aU.length-i).toNat) ⟨om,om,bB.zero om⟩ om λc i ⟨A,Z,G⟩ w=>?_
  unfold aoD
  dsimp only
  refine aB (λt=>?_) λt=>ax _ λo ho=>?_
  ·have:=Zc i A om
   exact aA (rA om (aD λe=>absurd e (by dsimp only;decide)) λh=>ak (w _ ⟨om,om,G.succ h⟩ om))
  ·obtain⟨m,m0,m1,rfl⟩:=iH ho
   exact G m m0 om
 refine av (λ_=>True) (λ_ _=>?_) λRB aq=>?_
 case refine_2=>
  refine wp_loop (λi=>0<=i/\i<=O.length) (λi=>(O.length-i).toNat) om om λc i ⟨A,Z⟩ w=>?_
  unfold aoA
  dsimp only
  refine aB (λt=>?_) λ_=>aq _ trivial
  have hJ:=U _ (dF ⟨A,t⟩)
  refine aA ?_
  generalize gi O i=j at*
  refine aA ?_
  have l1:=Zc j.1 om om
  have l2:=Zc j.2 om om
  have o1:=I _ (dF (xs:=aU) (i:=j.1) om)
  have o2:=I _ (dF (xs:=aU) (i:=j.2) om)
  refine wp_loop (λx=>0<=x.1/\x.1<=(gi aU j.1).length) (λx=>((gi aU j.1).length-x.1).toNat) sm om λc2 x ⟨x0,x1⟩ B=>?_
  unfold aoB
  dsimp only
  refine aB (λh4=>?_) λ_=>aR (λ_=>aD λe=>absurd e (by dsimp only;decide)) λ_=>ak (w _ om om)
  have q1:=o1.1.1 _ (dF ⟨x0,h4⟩)
  refine av (λ_=>True) (λ_ _=>ak (B _ om om)) λCv aw=>aA (aA ?_)
  refine wp_loop (λx=>0<=x.1/\x.1<=(gi aU j.2).length) (λx=>((gi aU j.2).length-x.1).toNat) sm om λc3 y ⟨y0,y1⟩ a6=>?_
  unfold aoC
  dsimp only
  refine aB (λh5=>?_) λ_=>aw _ trivial
  have q2:=o2.1.1 _ (dF ⟨y0,h5⟩)
  exact av (λ_=>True) (λ_ _=>ak (a6 _ om om)) λbb aa=>aA (fB (by simp[aj];omega) (aR (λ_=>ak (ak (fB (by simp[aj];omega) (aa _ trivial)))) λ_=>aa _ trivial))
 refine av (λd:List bE=>(d.length:Int)=ai p p.4.length/\ji p run d p.4.length 0) (λd ⟨P,X⟩=>?_) λzB ao=>?_
 case refine_2=>
  refine wp_loop (λx=>0<=x.1/\x.1<=p.4.length/\(x.2.length:Int)=ai p x.1/\ji p run x.2 x.1 0) (λx=>(p.4.length-x.1).toNat) ⟨sm,sm,rfl,λi k h1 h2=>by have:=h1.1;have:=h1.2.2.1;dsimp only at h2;omega⟩ om λc x ⟨A,Z,G,D⟩ w=>?_
  obtain⟨i,d⟩:=x
  dsimp only at A Z G D w
  unfold aoy
  dsimp only
  refine aB (λt=>?_) λt=>ao _ (by rw[show (p.4.length:Int)=i by omega];exact⟨G,D⟩)
  have hs:=WJ (p:=p) A
  have hn:=g i A t
  have bj:=ND g A (show i<=p.4.length by omega) om
  have a8:=ND g (show 0<=i+1 by omega) (show i+1<=p.4.length by omega) om
  have bh:=IE g A om
  refine av (λy:List bE=>(y.length:Int)=ai p (i+1)/\ji p run y (i+1) 0) (λy E=>ak (w _ ⟨om,om,E⟩ om)) λRy ap=>aA ?_
  refine wp_loop (λz=>0<=z.1/\z.1<=(gi p.4 i).4.length/\(z.2.length:Int)=ai p i+(if z.1=(gi p.4 i).4.length then 2*z.1-1 else 2*z.1)/\ji p run z.2 i z.1) (λz=>((gi p.4 i).4.length-z.1).toNat) ⟨sm,sm,by dsimp only;rw[if_neg om];omega,D⟩ om λc2 z ⟨L,z1,T,z3⟩ B=>?_
  obtain⟨k,Y⟩:=z
  dsimp only at L z1 T z3 B
  unfold aoz
  dsimp only
  refine aB (λh4=>?_) λh4=>ap _ ⟨by rw[if_pos om] at T;omega,λi' k' V g2=>z3 i' k' V (if e:i'=i then .inr ⟨e,by have:=V.2.2.2;subst e;omega⟩ else .inl om)⟩
  rw[if_neg om] at T
  have hR:bZ p i k:=⟨A,t,L,h4⟩
  have rr:=F hR
  have af:=hn.2.2.2.2.2.2.2 k L h4
  have N:=W _ rr.1 rr.2
  have M:∀more:List bE,(∀(hm:gi (Y++more) (Y.length)=tX p run i k),(bZ p i (k+1)->gi (Y++more) (Y.length+1)=yg p i k)->ji p run (Y++more) i (k+1)):=λmore hm a7 i' k' V g2=>by
   by_cases e:i'=i/\k'=k
   ·obtain⟨rfl,rfl⟩:=e
    rw[<-T];exact⟨hm,a7⟩
   ·have:=ji.app g (more:=more) z3 L (.inl t) om om i' k' V om
    exact this
  refine av (λy:List bE=>(y.length:Int)=ai p i+(if k+1=(gi p.4 i).4.length then 2*(k+1)-1 else 2*(k+1))/\ji p run y i (k+1)) (λy E=>ak (B _ ⟨om,om,E⟩ om)) λCt BK=>aA (s A t (ak (aA (ak (aP om λd1 e1=>aP om λd2 e2=>aW (ak ?_))))))
  subst e1 e2
  refine aB (λh5=>ak (aP om λd3 e3=>aP om λd4 e4=>aW (BK _ ⟨by rw[if_neg om];simp;omega,?_⟩))) λh5=>BK _ ⟨by rw[if_pos om];simp;omega,M _ ?_ λh6=>absurd h6.2.2.2 om⟩
  ·subst e3 e4
   rw[List.append_assoc]
   refine M _ ?_ λ_=>?_
   ·rw[fP om,if_neg om,Int.sub_self];rfl
   ·rw[fP om,if_neg om,show (Y.length:Int)+1-Y.length=1 by omega];rfl
  ·rw[fP om,if_neg om,Int.sub_self];rfl
 refine av (λy:List bE=>(y.length:Int)=ai p p.4.length+p.5.length/\ji p run y p.4.length 0) (λd ⟨P,X⟩=>?_) λzA an=>?_
 case refine_2=>
  refine wp_loop (λx=>0<=x.1/\x.1<=p.5.length/\(x.2.length:Int)=ai p p.4.length+x.1/\ji p run x.2 p.4.length 0) (λx=>(p.5.length-x.1).toNat) ⟨sm,sm,om,X⟩ om λc x ⟨A,Z,G,D⟩ w=>?_
  unfold aox
  dsimp only
  refine aB (λt=>?_) λt=>an _ ⟨om,D⟩
  have r:=hp.2.2.2.2.1 x.1 A t
  have V:=F r.1
  have g2:=F r.2.1
  exact aA (s r.1.1 r.1.2.1 (ak (s r.2.1.1 r.2.1.2.1 (ak (aP om λd1 e1=>aP om λd2 e2=>aW (ak (w _ ⟨om,om,by simp;omega,ji.app g D om (.inr rfl) om om⟩ om)))))))
 refine av (λy:List bE=>(y.length:Int)=ai p p.4.length+p.5.length+p.6.length/\ji p run y p.4.length 0/\Ba p y p.6.length) (λd ⟨P,X,r3⟩=>?_) λmM a4=>?_
 case refine_2=>
  refine wp_loop (λx=>0<=x.1/\x.1<=p.6.length/\(x.2.length:Int)=ai p p.4.length+p.5.length+x.1/\ji p run x.2 p.4.length 0/\Ba p x.2 x.1) (λx=>(p.6.length-x.1).toNat) ⟨sm,sm,om,X,λj a b=>by dsimp only at b;omega⟩ om λc x ⟨A,Z,G,D,b4⟩ w=>?_
  unfold aoL
  dsimp only
  refine aB (λt=>?_) λt=>a4 _ ⟨om,D,by rwa [show (p.6.length:Int)=x.1 by omega]⟩
  have u:=hp.2.2.2.2.2.1 x.1 A t
  obtain⟨hA,_⟩:=F9 g u.1 u.2.1
  obtain⟨_,hC⟩:=F9 g u.2.2.1 u.2.2.2.1
  have V:=F hA
  have g2:=F hC
  have hn:=g _ u.1 u.2.1
  refine aA (aA (ak (s u.1 u.2.1 (ak (aP om λd1 e1=>s u.2.2.1 u.2.2.2.1 (ak (aP om λd2 e2=>aW (ak (w _ ⟨om,om,by simp;omega,ji.app g D om (.inr rfl) om om,λj a b=>?_⟩ om)))))))))
  dsimp only at b |-
  by_cases e:j=x.1
  ·subst e e1 e2
   rw[fP om,if_neg om,G,Int.sub_self,Int.add_zero];rfl
  ·rw[E5 om om];exact b4 j a om
 refine wp_loop (λx=>0<=x.1/\x.1<=p.7.length/\(x.2.length:Int)=ai p p.4.length+p.5.length+p.6.length+x.1/\ji p run x.2 p.4.length 0/\Ba p x.2 p.6.length) (λx=>(p.7.length-x.1).toNat) ⟨sm,sm,om,X,r3⟩ om λc x ⟨A,Z,G,D,b4⟩ w=>?_
 have ag:∀{d more:List bE},ai p p.4.length+p.5.length+p.6.length<=d.length->Ba p d p.6.length->Ba p (d++more) p.6.length:=λ{d more} hl h j a b=>by rw[E5 om om];exact h j a b
 unfold aoE
 dsimp only
 refine aB (λt=>?_) λt=>?_
 ·have r:=hp.2.2.2.2.2.2.2.1 x.1 A t
  have V:=F r.1
  have g2:=F r.2.1
  exact aA (s r.1.1 r.1.2.1 (ak (aP om λd1 e1=>s r.2.1.1 r.2.1.2.1 (ak (aP om λd2 e2=>aW (ak (w _ ⟨om,om,by simp;omega,ji.app g D om (.inr rfl) om om,ag om b4⟩ om)))))))
 ·refine av (λy=>∃more,y=x.2++more/\∀q q':Int,0<=q->q<q'->q'<nR p->HW p aU y q q') (λy ⟨more,E,hw⟩=>aB (λ_=>aD λe=>absurd e (by dsimp only;decide)) λ_=>aD λ_=>⟨aU,run,hR,⟨f,hB⟩,rfl,i4,?_,?_,I,hw,?_⟩) λuT Zf=>aAh (bH:=(S,O)) hB (λo ho=>(I o ho).1) U om hE om λy more e hw=>Zf _ ⟨more,e,hw⟩
  ·show ji p run y p.4.length 0
   rw[E];exact ji.app g D om (.inr rfl) om om
  ·show Ba p y p.6.length
   rw[E];exact ag om b4
  ·show _<=(y.length:Int)
   rw[E,List.length_append];omega⟩
end Go.Z
