/- Several parts of the engine, one behind the other. -/
import Derived.Test.YtlbfmjolchehbaaGreatDoorPld
import Derived.Test.YtlbfmjolchehbaaGreatDoorMoh
import Derived.Lib.ItoaLen
set_option linter.all false
namespace Go.Z
open Go Go.Proofs Go.Dc Go.R
section
variable {l:Layout}{p:Plan}{n:Network}{aU:List (List aV)}{run t:List Int}{W:List dO}
theorem Dp.sh{d q:Int}(h:Dp p t d q)(k:Int):Dp p t (d+p.1*k) q:=by obtain⟨m,rfl⟩:=h;exact⟨m+k,by rw[Int.mul_add];omega⟩
theorem adJ(o:vJ p W){a b x:Int}(a0:0<=a)(k:a<W.length)(l:0<=b)(m:b<W.length)(i:x∈(gi W a).1)(j:x∈(gi W b).1):a=b:=by
 have c:∀{a b:Int},0<=a->a<b->b<W.length->x∈(gi W a).1->x∈(gi W b).1->False:=λ{a b} h0 h1 h2 g h=>by
  have:=List.pairwise_iff_getElem.1 o.d a.toNat b.toNat om om om;have n:gi W a=W[a.toNat]'om:=by simp[gi,show a.toNat<W.length by omega]
  have f:gi W b=W[b.toNat]'om:=by simp[gi,show b.toNat<W.length by omega]
  rw[n] at g;rw[f] at h;exact this x g h
 by_cases e:a=b;·exact e
 ·by_cases f:a<b;·exact (c a0 f m i j).elim
  ·exact (c l om k j i).elim
theorem amZ(h:TT l p n aU run t)(q:vJ p W){a b i k i' k':Int}(a0:0<=a)(e:a<W.length)(r:0<=b)(s:b<W.length)(hi:bZ p i k)(d:bZ p i' k')(u:i∈(gi W a).1)(v:i'∈(gi W b).1)(B:Jn p (fst p i+k) (fst p i'+k')):a=b:=by
 obtain⟨f,o⟩:=h.nb.bc;rcases B with ⟨x,y,h1,h2,m,A⟩|⟨j,w,z,m,A⟩;·obtain⟨rfl,rfl⟩:=Gt hi h1 m;obtain⟨rfl,rfl⟩:=Gt d h2 om;exact adJ q a0 e r s u v
 ·have c:=o.pv.2.2.2.2.2.1 j w z;have C:=o.pv.2.2.2.1 _ c.1 c.2.1;have D:=o.pv.2.2.2.1 _ c.2.2.1 c.2.2.2.1;obtain⟨rfl,rfl⟩:=Gt hi (i':=(gi p.6 j).1) (k':=(gi p.4 (gi p.6 j).1).4.length-1) ⟨c.1,c.2.1,om,om⟩ m;obtain⟨rfl,rfl⟩:=Gt d (i':=(gi p.6 j).2) (k':=0) ⟨c.2.2.1,c.2.2.2.1,om,om⟩ om;exact adJ q a0 e r s ((q.g _ (dF ⟨a0,e⟩)).cl _ u _ ⟨j,w,z,rfl,rfl⟩) v
theorem aoq(h:TT l p n aU run t){q q' d e z:Int}(G:0<=q)(H:q<q')(I:q'<nR p)(D:¬Jn p q q')(i:¬Jn p q' q)(A:Dp p t d q)(g:Dp p t e q'){o c:aV}(ho:o∈gi aU q)(j:c∈gi aU q')(B:o.1=c.1)(h1:d+o.2<=z)(h2:z<d+o.3)(J:e+c.2<=z)(K:z<e+c.3):False:=by obtain⟨W,⟨_,_,hw⟩,_,_,y⟩:=h.nb.hw q q' G H I D i;refine hw (e-d) (λw hw=>?_) o ho c j B ⟨om,om⟩;obtain⟨a,f,s,u,v,x⟩:=y w hw;obtain⟨m,E,F,C⟩:=iH f;have b:=h.fe m E F;obtain⟨k,rfl⟩:=A;obtain⟨r,rfl⟩:=g;dsimp only at b;rw[C] at b;unfold mW at b;rw[h.nb.n1,s,u,v,x] at b;unfold NA;rw[show gi t (2*q')+p.1*r-(gi t (2*q)+p.1*k)-w.1=gi t (2*q')-gi t (2*q)-w.1+p.1*(r-k) by rw[Int.mul_sub];omega,Int.add_mul_emod_self_left];exact b
theorem safe(h:TT l p n aU run t)(D:vJ p W){u e:Use}(X:gD p aU t W u)(I:gD p aU t W e)(O:u.1=e.1){s:Int}(hs:(s-u.3) % p.1<u.4)(V:(s-e.3) % p.1<e.4):u.2=e.2:=by
 obtain⟨a0,A,i,k,d,v,F,N,o,ho,K,e2,e3⟩:=X;obtain⟨B,C,w,y,Z,a,g,E,o',q,Q,R,S⟩:=I;obtain⟨f,L⟩:=h.nb.bc;have P:=L.ride v;have r:=L.ride a;have hp:=(KY h).1;obtain⟨z1,_,m,hm⟩:=yR (s-u.3) (b:=p.1) om;obtain⟨Y,_,J,T⟩:=yR (s-e.3) (b:=p.1) om;have M:=E.sh (J-m);have hz:u.3+(s-u.3) % p.1=e.3+(s-e.3) % p.1+p.1*(J-m):=by rw[Int.mul_sub];omega
 generalize (s-u.3) % p.1=x at*;generalize (s-e.3) % p.1=x' at*;generalize p.1*(J-m)=c at*;by_cases U:fst p i+k=fst p w+y;·obtain⟨rfl,rfl⟩:=Gt v a U;exact adJ D a0 A B C F g
 ·by_cases G:Jn p (fst p i+k) (fst p w+y);·exact amZ h D a0 A B C v a F g G
  ·by_cases j:Jn p (fst p w+y) (fst p i+k);·exact (amZ h D B C a0 A a v g F j).symm
   ·by_cases H:fst p i+k<fst p w+y;·exact (aoq h P.1 H r.2 G j N M ho q (by rw[K,Q,O]) (z:=u.3+x) om om om om).elim
    ·exact (aoq h r.1 om P.2 j G M N q ho (by rw[K,Q,O]) (z:=u.3+x) om om om om).elim
theorem ave{l:List Int}(h:∀x∈l,∀y∈l,x=y):(Lib.compact l).length<=1:=by
 have a:∀m,m<=l.length->(Lib.compactUpTo l.toArray m).length<=1:=by
  intro m
  induction m with
  |zero=>intro _;simp[Lib.compactUpTo]
  |succ m c=>
   intro d;rw[Lib.compactUpTo_succ];by_cases e:m=0;·subst e;simp only[Lib.compactUpTo,List.range_zero,List.filter_nil,List.map_nil,List.nil_append];split<;>simp
   ·have b:l.toArray[m]! =l.toArray[m-1]! :=by rw[getElem!_pos l.toArray m (by simp;omega),getElem!_pos l.toArray (m-1) (by simp;omega)];exact h _ sm _ sm
    rw[Lib.keeps_neg om b];simpa using c om
 exact a _ (Nat.le_refl _)
instance s18{n:Int}{us:List Use}:Spec (Tc (n,us)) (us.length<=1000000) λb=>b=true->2<=n/\n<=7200/\∀u∈us,-1099511627776<=u.3/\u.3<=1099511627776:=⟨λq=>by
 unfold Tc
 dsimp only
 refine aR (λ_=>aD λe=>absurd e dc) λh=>?_
 simp only[Bool.or_eq_false_iff,decide_eq_false_iff_not] at h
 refine av (λ_=>All us λu=> -1099511627776<=u.3/\u.3<=1099511627776) (λ_ l=>aD λ_=>⟨om,om,λu p=>?_⟩) λk o=>?_
 ·obtain⟨i,a,d,rfl⟩:=iH p
  exact l i a d
 refine wp_loop (λi=>0<=i/\i<=us.length/\bB us i λu=> -1099511627776<=u.3/\u.3<=1099511627776) (λi=>(us.length-i).toNat) ⟨om,om,bB.zero om⟩ om λc i ⟨a,d,f⟩ m=>?_
 unfold ao3
 dsimp only
 refine aB (λg=>aA (aR (λ_=>aD λe=>absurd e dc) λj=>aR (λ_=>aD λe=>absurd e dc) λ_=>?_)) λg=>o _ (f.mono om)
 simp only[Bool.or_eq_false_iff,decide_eq_false_iff_not] at j
 exact ak (m _ ⟨om,om,f.succ om⟩ om)⟩
theorem asV(h:TT l p n aU run t)(L:vJ p W){us:List Use}(V:us.length<=640000)(J:∀u∈us,gD p aU t W u){r s:Int}(hs: -9007199254740992<=s/\s<=9007199254740992):WP (S9 (p.1,us,r,s)) λy=>y.length<=1:=by
 obtain⟨N,O,_⟩:=KY h;unfold S9;dsimp only;refine aP om λv D=>aR (λ_=>aD sm) λh2=>?_;obtain rfl:v=true:=by simpa using h2
 have D:=(D rfl).2.2;rw[Gf om om,Option.bind_some];have M:=yR s (b:=p.1) om;have F:∀x:Int,(s % p.1-x) % p.1=(s-x) % p.1:=λx=>by obtain⟨_,_,k,U⟩:=M;rw[show s-x=s % p.1-x+p.1*k by omega,Int.add_mul_emod_self_left]
 refine av (λj:List Int=>∀x∈j,∃u∈us,u.2=x/\u.1=r/\(s-u.3) % p.1<u.4) (λj I=>aD (ave λx Q y e=>?_)) λX K=>?_;·obtain⟨u,A,rfl,B,C⟩:=I x ((GA j).mem_iff.1 Q);obtain⟨T,m,rfl,o,q⟩:=I y ((GA j).mem_iff.1 e);exact safe h L (J u A) (J T m) (by rw[B,o]) C q
 ·refine wp_loop (λx=>0<=x.2/\x.2<=us.length/\(x.1.length:Int)<=x.2/\∀z∈x.1,∃u∈us,u.2=z/\u.1=r/\(s-u.3) % p.1<u.4) (λx=>(us.length-x.2).toNat) ⟨sm,sm,sm,sm⟩ om λc x ⟨E,R,S,g⟩ H=>?_;obtain⟨ls,i⟩:=x;dsimp only at E R S g H;unfold ao2;dsimp only;refine aB (λw=>?_) λw=>K _ g;have d:=dF ⟨E,w⟩;have P:=D _ d;refine av (λy:List Int=>(y.length:Int)<=i+1/\∀z∈y,∃u∈us,u.2=z/\u.1=r/\(s-u.3) % p.1<u.4) (λy e=>ak (H _ ⟨om,om,e⟩ om)) λY G=>bW ⟨E,w⟩ (fB ?_ ?_);·simp only[aj,Bool.or_eq_true,decide_eq_true_eq];exact .inr om
  ·refine ni (λy=>y=(s-(gi us i).3) % p.1) (λ_=>⟨_,Gf om om,F _⟩) λy e=>aR (λf=>?_) λ_=>G _ ⟨om,g⟩;simp only[Bool.and_eq_true,decide_eq_true_eq] at f;refine aW (G _ ⟨by simp;omega,λz a=>?_⟩);rcases List.mem_append.1 a with a|a;·exact g z a
   ·rw[List.mem_singleton] at a;subst a;exact⟨_,d,rfl,f.1,by rw[<-e (by simp[f.1])];exact f.2⟩
end
section
variable {β:Type}{Q:β->Prop}{p:List Int}{k:Option β}
theorem apf{v n:Int}(h:1<=n/\n<=1000000000):∃y,cZ (v,n)=some y/\0<=y/\y<n:=by
 have e:IntKind.u64.wrap n=n:=by show n % 18446744073709551616=n;omega
 have b:0<=IntKind.u64.wrap v:=Int.emod_nonneg _ dc;have h1:=Int.tmod_lt_of_pos (IntKind.u64.wrap v) (show 0<n by omega);have h0:=Int.tmod_nonneg n b;refine⟨_,?_,h0,h1⟩;unfold cZ;dsimp only;rw[e];have a:IntKind.i64.wrap ((IntKind.u64.wrap v).tmod n)=(IntKind.u64.wrap v).tmod n:=by exact G5 om om
 rw[a];have:(!decide (n=0))=true:=by simp;omega
 rw[this];rfl
theorem dJ(hp:p.length<=4611686018427387904){i n:Int}{K:Int×Int->Option β}(h:∀x b:Int,0<=x/\x<n->0<=b/\b<=p.length->WP (K (x,b)) Q)(h0:(0<=i/\i<=p.length)/\1<=n/\n<=1000000000:=by first|omega|(dsimp only;omega)|(simp;done)|(simp;omega)):WP (au K λk=>if decide ((↑p.length:Int)<=i) then k (0,i) else ah (aj (i+1))<|ah (aj (i+1-1))<|(idx p (i+1-1)).bind λv=>(cZ (v,n)).bind λw=>k (w,i+1)) Q:=by refine av (λy=>(0<=y.1/\y.1<n)/\0<=y.2/\y.2<=p.length) (λy a=>h _ _ a.1 a.2) λk c=>aB (λ_=>c _ ⟨om,h0.1⟩) λ_=>ak (ak (aA ?_));obtain⟨y,a,h1⟩:=apf (v:=gi p (i+1-1)) h0.2;rw[a];exact c _ ⟨h1,om⟩
end
instance aOl{s n}:Spec (tq (s,n)) (0<=n/\n<=1000000/\s.l.length<=1000000) λy=>y.l.length=s.l.length+1:=⟨λ⟨h0,h1,h2⟩=>by
 unfold tq
 dsimp only
 have a:=Int.tmod_lt_of_pos n (show 0<10 by decide)
 have b:=Int.tmod_nonneg 10 h0
 refine fB rfl (fB rfl (ak (Ak (by simp;omega) (U5 (by simp;omega) (aD ?_)))))
 simp
 omega⟩
abbrev jO(n:Int)(r:List Int):Prop:=1<=r.length/\r.length<=2/\All r λx=>0<=x/\x<n
theorem jO.mono{n m:Int}{r}(h:jO n r)(a:n<=m):jO m r:=⟨h.1,h.2.1,h.2.2.imp λx b=>om⟩
abbrev qb(n:Int)(r:bg):Prop:=1<=r.1.length/\r.1.length<=10/\All r.1 λs=>0<=s.1/\s.1<n
abbrev Ee(m:Int)(l:Line):Prop:=1<=l.4.length/\l.4.length<=2/\All l.4 λr=>0<=r.1/\r.1<m
abbrev Eh(n:Int)(p:Plan):Prop:=All p.3 (qb n)/\All p.4 (Ee p.3.length)
instance gX{p i j}:Spec (Le (p,i,j)) (0<=i/\i<p.4.length/\0<=j/\j<(gi p.4 i).4.length/\∃n,Eh n p) λy=>∀n,Eh n p->0<=y/\y<n:=⟨λ⟨b,c,d,e,n,h1,h2⟩=>by
 unfold Le
 dsimp only
 have a:=(h2 i b c).2.2 j d e
 have f:=h1 _ a.1 a.2
 exact aA (aA (aA (ak (aA (aD λn h=>(h.1 _ a.1 a.2).2.2 _ om om)))))⟩
instance gY{p i j}:Spec (Ld (p,i,j)) (0<=i/\i<p.4.length/\0<=j/\j<(gi p.4 i).4.length/\∃n,Eh n p) λy=>∀n,Eh n p->0<=y/\y<n:=⟨λ⟨b,c,d,e,n,h1,h2⟩=>by
 unfold Ld
 dsimp only
 have a:=(h2 i b c).2.2 j d e
 have f:=h1 _ a.1 a.2
 exact aA (aA (aA (aA (aD λn h=>(h.1 _ a.1 a.2).2.2 _ om om))))⟩
section
variable {p:List Int}{Q:Layout×Plan->Prop}
theorem aIY(hp:p.length<=4611686018427387904){e:Int×List Str×Int×List Section×List (List Int)}(hs:0<=e.1/\e.1<=1000){c pos:Int}{a:List Section}(E:1<=c/\c<=2)(b:0<=pos/\pos<=p.length)(D:a.length<=100){k:List Int×Int×List Section->Option (Layout×Plan)}(A:∀row pos (S:List Section),jO S.length row->0<=pos/\pos<=(p.length:Int)->a.length<=S.length/\S.length<=a.length+2->WP (k (row,pos,S)) Q):WP (iter (adD p e k) FUEL ([],c,pos,a)) Q:=by refine wp_loop (λx=>0<=x.2.1/\x.2.1<=c/\(x.1.length:Int)=c-x.2.1/\(0<=x.2.2.1/\x.2.2.1<=p.length)/\x.2.2.2.length=a.length+x.1.length/\All x.1 λy=>0<=y/\y<x.2.2.2.length) (λx=>x.2.1.toNat) ⟨om,om,om,b,om,All.nil⟩ om λK x ⟨G,H,I,B,J,f⟩ z=>?_;unfold adD;refine aB (λh=>aP om λv j=>aP om λC w=>dJ hp λs l o g=>ak (dJ hp λt m q i=>ak (ak (dJ hp λu n r d=>ak (ak (aW (ak (aW (ak (z _ ⟨om,om,om,d,om,?_⟩ om)))))))))) λh=>A _ _ _ ⟨om,om,f⟩ B om;exact All.app (bB.imp f λy F=>by simp;omega) (by simp;omega)
theorem aIX(hp:p.length<=4611686018427387904){cK:Int×Int×List Section×List Link×List Str×List (List Int)}(hs:0<=cK.1/\cK.1<=1000){c pos:Int}{a:List Section}(C:1<=c/\c<=2)(b:0<=pos/\pos<=p.length)(B:a.length<=100){k:List Int×Int×List Section->Option (Layout×Plan)}(w:∀row pos (S:List Section),jO S.length row->0<=pos/\pos<=(p.length:Int)->a.length<=S.length/\S.length<=a.length+2->WP (k (row,pos,S)) Q):WP (iter (adB p cK k) FUEL ([],c,pos,a)) Q:=by refine wp_loop (λx=>0<=x.2.1/\x.2.1<=c/\(x.1.length:Int)=c-x.2.1/\(0<=x.2.2.1/\x.2.2.1<=p.length)/\x.2.2.2.length=a.length+x.1.length/\All x.1 λy=>0<=y/\y<x.2.2.2.length) (λx=>x.2.1.toNat) ⟨om,om,om,b,om,All.nil⟩ om λK x ⟨E,F,G,z,H,e⟩ v=>?_;unfold adB;refine aB (λh=>aP om λu j=>aP om λA i=>dJ hp λr l n f=>ak (dJ hp λs aaM o g=>ak (ak (dJ hp λt m q d=>ak (aW (ak (aW (ak (v _ ⟨om,om,om,d,om,?_⟩ om))))))))) λh=>w _ _ _ ⟨om,om,e⟩ z om;exact All.app (bB.imp e λy D=>by simp;omega) (by simp;omega)
theorem aIr(hp:p.length<=4611686018427387904){a:Int×Int}(C:0<=a.1/\a.1<2)(b:0<=a.2/\a.2<=p.length){k:List Str×Int×List Section×List (List Int)->Option (Layout×Plan)}(t:∀(N:List Str) pos (S:List Section) (T:List (List Int)),(N.length:Int)=2+a.1->0<=pos/\pos<=(p.length:Int)->S.length<=6->(T.length:Int)=2+a.1->All T (jO S.length)->WP (k (N,pos,S,T)) Q):WP (iter (adC p a k) FUEL (0,[],a.2,[],[])) Q:=by refine wp_loop (λx=>0<=x.1/\x.1<=2+a.1/\(x.2.1.length:Int)=x.1/\(0<=x.2.2.1/\x.2.2.1<=p.length)/\(x.2.2.2.1.length:Int)<=2*x.1/\(x.2.2.2.2.length:Int)=x.1/\All x.2.2.2.2 (jO x.2.2.2.1.length)) (λx=>(2+a.1-x.1).toNat) ⟨om,om,om,b,om,om,All.nil⟩ om λK x ⟨D,E,F,v,G,H,i⟩ s=>?_;unfold adC;refine aB (λh=>av (λj=>(j.1.length:Int)=x.1+1/\(0<=j.2.1/\j.2.1<=p.length)/\(j.2.2.1.length:Int)<=2*(x.1+1)/\(j.2.2.2.length:Int)=x.1+1/\All j.2.2.2 (jO j.2.2.1.length)) (λw d=>ak (s _ ⟨om,om,d⟩ om)) λq f=>aP om λA l=>aW (av (λj=>jO j.2.2.length j.1/\(0<=j.2.1/\j.2.1<=p.length)/\x.2.2.2.1.length<=j.2.2.length/\(j.2.2.length:Int)<=2*(x.1+1)) (λy c=>aW (f _ ⟨om,c.2.1,c.2.2.2,om,All.app (bB.imp i λr u=>u.mono om) c.1⟩)) λz g=>dJ hp λo m n e=>ak (aIY hp om om e om λrow pos S h1 h2 B=>g _ ⟨h1,h2,om,om⟩))) λh=>t _ _ _ _ om v om om i
end
theorem uY{β:Type}{Q:β->Prop}{k:Option β}{n:Int}(a:WP k Q)(h:n≠0:=by first|omega|(dsimp only;omega)):WP (ah (!decide (n=0)) k) Q:=fB (by simp[h]) a
section
variable {p:List Int}{Q:Layout×Plan->Prop}
theorem aCL{c:List Str×Int×List Section×List (List Int)}{cK:Int×Int×List Section×List Link×List Str×List (List Int)}{a:List Int×Int×List Section}{m:Int}{e:List Int}{d:Int×List Str}{b:List Link}{l:Int×List Section×List Link×List Str×List (List Int)->Option (Layout×Plan)}(hi:0<=cK.1/\cK.1<=1000/\cK.1+1<c.2.2.2.length)(v:All c.2.2.2 λr=>1<=r.length/\r.length<=2)(M:1<=a.1.length/\a.1.length<=2)(N:e.length<=2)(H:b.length<=100)(I:d.2.length<=100)(J:cK.2.2.2.2.2.length<=100)(w:∀(L:List Link) (P:List Str),L.length<=b.length+4->P.length<=d.2.length+1->WP (l (a.2.1,a.2.2,L,P,cK.2.2.2.2.2++[a.1])) Q):WP (iter (adA c cK l a m e d) FUEL (0,b)) Q:=by refine wp_loop (λx=>0<=x.1/\x.1<=e.length/\(x.2.length:Int)=b.length+x.1) (λx=>(e.length-x.1).toNat) ⟨om,om,om⟩ om λK x ⟨z,A,B⟩ i=>?_;unfold adA;refine aB (λh=>av (λj=>(j.length:Int)=b.length+x.1+1) (λD t=>ak (i _ ⟨om,om,om⟩ om)) λG n=>aA (aW (n _ om))) λh=>ak (aA (ak (aO v λp=>av (λj=>j.2.length<=d.2.length+1) (λE f=>?_) λC k=>aB (λh=>aP om λF u=>aW (ak (k _ om))) λh=>k _ om)));refine wp_loop (λy=>0<=y.1/\y.1<=(gi c.2.2.2 (cK.1+1)).length/\(y.2.length:Int)=x.2.length+y.1) (λy=>((gi c.2.2.2 (cK.1+1)).length-y.1).toNat) ⟨om,om,om⟩ om λK y ⟨z,A,B⟩ i=>?_;unfold apC;exact aB (λh=>av (λj=>(j.length:Int)=x.2.length+y.1+1) (λq o=>ak (i _ ⟨om,om,om⟩ om)) λs g=>aA (aW (g _ om))) λh=>aW (w _ _ om f)
theorem aDO(hp:p.length<=4611686018427387904){b:Int×Int}(Z:0<=b.1/\b.1<2){a:List Str×Int×List Section×List (List Int)}(e:0<=a.2.1/\a.2.1<=p.length)(Y:a.2.2.1.length<=6)(J:(a.2.2.2.length:Int)=2+b.1)(I:All a.2.2.2 (jO a.2.2.1.length)){k:Int×List Section×List Link×List Str×List (List Int)->Option (Layout×Plan)}(M:∀pos (S:List Section) (L:List Link) (P:List Str) (B:List (List Int)),0<=pos/\pos<=(p.length:Int)->a.2.2.1.length<=S.length->S.length<=20->(B.length:Int)=1+b.1->All B (jO S.length)->WP (k (pos,S,L,P,B)) Q):WP (iter (adz p b a k) FUEL (0,a.2.1,a.2.2.1,[],[],[])) Q:=by
 refine wp_loop (λx=>0<=x.1/\x.1+1<=2+b.1/\(0<=x.2.1/\x.2.1<=p.length)/\a.2.2.1.length<=x.2.2.1.length/\(x.2.2.1.length:Int)<=6+2*x.1/\(x.2.2.2.1.length:Int)<=10*x.1/\(x.2.2.2.2.1.length:Int)<=2*x.1/\(x.2.2.2.2.2.length:Int)=x.1/\All x.2.2.2.2.2 (jO x.2.2.1.length)) (λx=>(2+b.1-x.1).toNat) ⟨om,om,e,om,om,om,om,om,All.nil⟩ om λK x ⟨s,N,t,O,i4,i5,i6,i7,u⟩ o=>?_;unfold adz;have d:All a.2.2.2 λr=>1<=r.length/\r.length<=2:=I.imp λr f=>⟨f.1,f.2.1⟩;refine ak (aB (λh=>av (λy=>(0<=y.1/\y.1<=p.length)/\a.2.2.1.length<=y.2.1.length/\(y.2.1.length:Int)<=6+2*(x.1+1)/\(y.2.2.1.length:Int)<=10*(x.1+1)/\(y.2.2.2.1.length:Int)<=2*(x.1+1)/\(y.2.2.2.2.length:Int)=x.1+1/\All y.2.2.2.2 (jO y.2.1.length)) (λR g=>ak (o _ ⟨om,om,g⟩ om)) λxE j=>av (λy=>jO y.2.2.length y.1/\(0<=y.2.1/\y.2.1<=p.length)/\x.2.2.1.length<=y.2.2.length/\(y.2.2.length:Int)<=6+2*(x.1+1)) (λq ⟨F,G,W,H⟩=>av (λy=>(y.length:Int)<=10*x.1+2) (λE v=>aA (aO d λn=>av (λy=>(y.2.length:Int)<=2*x.1+1) (λlV w=>?_) λD c=>aB (λh=>aP om λT z=>aW (ak (c _ om))) λh=>c _ om)) λU l=>?_) λV m=>dJ hp λC aaK A i=>ak (aIX hp om om i om λrow pos S h1 h2 X=>m _ ⟨h1,h2,om,om⟩)) λh=>M _ _ _ _ _ t O om om u);·exact aCL ⟨s,om,om⟩ d om n.2 om om om λL P h1 h2=>j _ ⟨G,om,H,om,om,om,All.app (bB.imp u λr f=>f.mono om) F⟩
 ·refine wp_loop (λy=>0<=y.1/\y.1+1<=q.1.length/\(y.2.length:Int)=x.2.2.2.1.length+y.1) (λy=>(q.1.length-y.1).toNat) ⟨om,om,om⟩ om λK y ⟨s,N,t⟩ o=>?_;unfold apD;exact ak (aB (λh=>aA (ak (aA (aW (ak (o _ ⟨om,om,om⟩ om)))))) λh=>l _ om)
theorem LJ{a b:Int}(c:0<=a)(d:0<b):0<=a.tmod b/\a.tmod b<b:=⟨Int.tmod_nonneg b c,Int.tmod_lt_of_pos a d⟩
theorem avy{n:Int}{a:List Int}(c:All a λx=>0<=x/\x<n)(j:a.length<=2){b:List Step}(i:b.length<=100)(e:All b λs=>0<=s.1/\s.1<n){k:List Step->Option (Layout×Plan)}(g:∀S:List Step,S.length=b.length+a.length->(All S λs=>0<=s.1/\s.1<n)->WP (k S) Q):WP (iter (adx a k) FUEL ((↑a.length:Int)-1,b)) Q:=by refine wp_loop (λx=> -1<=x.1/\x.1<a.length/\(x.2.length:Int)=b.length+(a.length-1-x.1)/\All x.2 λs=>0<=s.1/\s.1<n) (λx=>(x.1+1).toNat) ⟨om,om,om,e⟩ om λK x ⟨l,m,o,d⟩ f=>?_;unfold adx;exact aB (λh=>aO c λc=>aW (ak (f _ ⟨om,om,om,All.app d c⟩ om))) λh=>g _ om d
theorem aI4{n:Int}{a:List Int}(c:All a λx=>0<=x/\x<n)(j:a.length<=2){b:List Step}(i:b.length<=100)(e:All b λs=>0<=s.1/\s.1<n){k:List Step->Option (Layout×Plan)}(g:∀S:List Step,S.length=b.length+a.length->(All S λs=>0<=s.1/\s.1<n)->WP (k S) Q):WP (iter (ady a k) FUEL (0,b)) Q:=by refine wp_loop (λx=>0<=x.1/\x.1<=a.length/\(x.2.length:Int)=b.length+x.1/\All x.2 λs=>0<=s.1/\s.1<n) (λx=>(a.length-x.1).toNat) ⟨om,om,om,e⟩ om λK x ⟨l,m,o,d⟩ f=>?_;unfold ady;exact aB (λh=>aO c λc=>aW (ak (f _ ⟨om,om,om,All.app d c⟩ om))) λh=>g _ om d
theorem aDy(hp:p.length<=4611686018427387904){j:List Str×Int×List Section×List (List Int)}{l:Int×List Section×List Link×List Str×List (List Int)}{qp u:Int×Int}{qw:Int×List Int}{n:Int}(C:All j.2.2.2 (jO n))(hB:All l.2.2.2.2 (jO n))(ao:(l.2.2.2.2.length:Int)+1=j.2.2.2.length)(an:l.2.2.2.2.length<=2)(aa:0<=u.1/\u.1<l.2.2.2.2.length)(z:qw.2.length=3/\All qw.2 λx=>0<=x/\x<2){d:List bg}(hR:d.length<=100)(Y:All d (qb n)){pos:Int}(q:0<=pos/\pos<=p.length){k:List bg×Int×List gL->Option (Layout×Plan)}(hk:∀(R:List bg) pos (r:List gL),d.length<=R.length->R.length<=d.length+2->All R (qb n)->0<=pos/\pos<=(p.length:Int)->1<=r.length/\r.length<=2->(All r λr=>0<=r.1/\r.1<R.length)->WP (k (R,pos,r)) Q):WP (iter (adw p j l qp u qw k) FUEL (0,d,pos,[])) Q:=by
 refine wp_loop (λx=>0<=x.1/\x.1<=1+u.1/\(x.2.1.length:Int)=d.length+x.1/\All x.2.1 (qb n)/\(0<=x.2.2.1/\x.2.2.1<=p.length)/\(x.2.2.2.length:Int)=x.1/\All x.2.2.2 λr=>0<=r.1/\r.1<x.2.1.length) (λx=>(1+u.1-x.1).toNat) ⟨om,om,om,Y,q,om,All.nil⟩ om λK x ⟨i0,i1,i2,i3,i4,i5,i6⟩ hK=>?_;unfold adw;have e:∀{R:List bg}{a b c:Int},0<=x.1->(R.length:Int)=d.length+x.1+1->All (x.2.2.2++[gL.mk ((R.length:Int)-1) a b c]) λr=>0<=r.1/\r.1<R.length:=λh0 h=>All.app (bB.imp i6 λr hr=>om) om;have o:∀{S:List Step},1<=S.length->S.length<=10->(All S λs=>0<=s.1/\s.1<n)->All (x.2.1++[bg.mk S (Int.ofNat 0)]) (qb n):=λh1 h2 h3=>All.app i3 ⟨h1,h2,h3⟩;have f:All ([]:List Step) λs=>0<=s.1/\s.1<n:=All.nil;refine aB (λh=>av (λy=>(y.1.length:Int)=d.length+x.1+1/\All y.1 (qb n)/\(0<=y.2.1/\y.2.1<=p.length)/\(y.2.2.length:Int)=x.1+1/\All y.2.2 λr=>0<=r.1/\r.1<y.1.length) (λzq L=>ak (hK _ ⟨om,om,om,L.2⟩ om)) λFU Qm=>av (λy=>0<=y/\y<l.2.2.2.2.length) (λA ag=>rO (aO z.2 λg1=>aO z.2 λ_=>ak (rO (aO z.2 λg2=>aO z.2 λ_=>aO hB λB=>av (λy=>y=(([],[],Int.ofNat 0):List Step×List Step×Int)) (λab N=>?_) λaf P=>aB (λh=>aO C λU=>aA (uY ?_)) λh=>P _ rfl)))) λae m=>aR (λh=>ak (ak (m _ om))) λh=>m _ om) λh=>hk _ _ _ om om i3 i4 om i6;·subst N;refine ak (aO C λU=>ak (aA (uY ?_)));have ht:=LJ g2.1 (show 0<((gi j.2.2.2 (A+1)).length:Int) by omega);refine aO U.2.2 (λV=>aW (av (λS:List Step=>1<=S.length/\S.length<=3/\All S λs=>0<=s.1/\s.1<n) (λS Z=>aO C λW=>aA (uY ?_)) λRD O=>ak (avy B.2.2 B.2.1 sm (All.app f V) λS h1 h2=>O _ ⟨om,om,h2⟩))) ht;have g:=LJ g1.1 (show 0<((gi j.2.2.2 A).length:Int) by omega);exact aO W.2.2 (λX=>aW (aW (ak (dJ hp λI t G D=>av (λy=>0<=y.1/\y.1<=p.length) (λCg F=>aW (Qm _ ⟨om,o om om (All.app Z.2.2 X),F,om,e i0 om⟩)) λo7 w=>ak (aB (λh=>dJ hp λJ QL H M=>ak (dJ hp λv wT i E=>ak (w _ E))) λh=>w _ D))))) g
 ·have ht:=LJ g1.1 (show 0<((gi j.2.2.2 A).length:Int) by omega);refine aO U.2.2 (λV=>aW (av (λS:List Step=>1<=S.length/\S.length<=3/\All S λs=>0<=s.1/\s.1<n) (λS Z=>ak (aO C λW=>ak (aA (uY ?_)))) λRF T=>aI4 B.2.2 B.2.1 sm (All.app f V) λS h1 h2=>T _ ⟨om,om,h2⟩)) ht;have g:=LJ g2.1 (show 0<((gi j.2.2.2 (A+1)).length:Int) by omega);exact aO W.2.2 (λX=>aW (aW (ak (dJ hp λI t G D=>av (λy=>0<=y.1/\y.1<=p.length) (λCg F=>aW (Qm _ ⟨om,o om om (All.app Z.2.2 X),F,om,e i0 om⟩)) λo7 w=>ak (aB (λh=>dJ hp λJ QL H M=>ak (dJ hp λv wT i E=>ak (w _ E))) λh=>w _ D))))) g
end
theorem Gi{g b:Bool}(h:g=true->b=true):(!g||b)=true:=by cases g with|false=>rfl|true=>exact h rfl
theorem asP{P:Int->Prop}{a b c:Int}(d:P a)(e:P b)(f:P c):All ((([Int.ofNat 0,Int.ofNat 0,Int.ofNat 0].set 0 a).set 1 b).set 2 c) P:=by show All ([]++[a]++[b]++[c]) P;exact All.app (All.app (All.app All.nil d) e) f
section
variable {p:List Int}{Q:Layout×Plan->Prop}
theorem aCM(hp:p.length<=4611686018427387904){u:List Str×Int×List Section×List (List Int)}{d:Int×List Section×List Link×List Str×List (List Int)}{n:Int}(hT:All u.2.2.2 (jO n))(hB:All d.2.2.2.2 (jO n))(s:(d.2.2.2.2.length:Int)+1=u.2.2.2.length)(q:d.2.2.2.2.length<=2/\1<=d.2.2.2.2.length){c pos:Int}(hc:1<=c/\c<=3)(b:0<=pos/\pos<=p.length){k:Int×List bg×List Line->Option (Layout×Plan)}(hk:∀pos (R:List bg) (L:List Line),0<=pos/\pos<=(p.length:Int)->1<=L.length/\L.length<=3->All R (qb n)->All L (Ee R.length)->WP (k (pos,R,L)) Q):WP (iter (adv p u d k) FUEL (c,pos,[],[])) Q:=by refine wp_loop (λx=>0<=x.1/\x.1<=c/\(0<=x.2.1/\x.2.1<=p.length)/\(x.2.2.2.length:Int)=c-x.1/\x.2.2.1.length<=2*x.2.2.2.length/\All x.2.2.1 (qb n)/\All x.2.2.2 (Ee x.2.2.1.length)) (λx=>x.1.toNat) ⟨om,om,b,om,om,All.nil,All.nil⟩ om λK x ⟨i0,i1,i2,i3,i4,A,B⟩ hK=>?_;unfold adv;refine aB (λh=>dJ hp λS N J D=>dJ hp λT O e E=>ak (aP om λpU Y=>dJ hp λU P M F=>av (λy=>(0<=y.1/\y.1<=p.length)/\y.2.length=3/\All y.2 λx=>0<=x/\x<2) (λqw a=>av (λy=>(0<=y.2.1/\y.2.1<=p.length)/\x.2.2.1.length<=y.1.length/\y.1.length<=x.2.2.1.length+2/\All y.1 (qb n)/\1<=y.2.2.length/\y.2.2.length<=2/\All y.2.2 λr=>0<=r.1/\r.1<y.1.length) (λJ7 ⟨Z,g2,g3,g4,g5,g6,g7⟩=>aW (ak (hK _ ⟨om,om,Z,om,om,g4,All.app (bB.imp B λl t=>⟨t.1,t.2.1,t.2.2.imp λr w=>⟨w.1,by have:=w.2;dsimp only at this |-;omega⟩⟩) ⟨g5,g6,g7⟩⟩ om))) λRz m=>aDy hp hT hB s q.1 e a.2 om A a.1 λR pos r h1 h2 h3 h4 v h6=>m _ ⟨h4,h1,h2,h3,v.1,v.2,h6⟩) λX o=>dJ hp λV z f G=>rO (aA (aA (ak (dJ hp λW I g H=>rO (aA (aA (ak (dJ hp λC aaA i j=>rO (aA (aA (ak (o _ ⟨j,rfl,asP f g i⟩)))))))))))))) λh=>hk _ _ _ i2 om A B
theorem aIZ(hp:p.length<=4611686018427387904){W X Y Z:Int×Int}{v8:Int}{g:Int×List bg×List Line}{s12:Int×Int×List Turn×List Bool×List Bool}{n:Int}(P:All g.2.1 (qb n))(o:All g.2.2 (Ee g.2.1.length))(hl:g.2.2.length<=3)(h1:0<=s12.1/\s12.1<g.2.2.length)(j:0<=s12.2.1/\s12.2.1<=p.length)(hT:s12.2.2.1.length<=100)(L:s12.2.2.2.1.length=4)(M:s12.2.2.2.2.length=4){k:Int×List Turn×List Bool×List Bool->Option (Layout×Plan)}(R:∀pos (T:List Turn) (F G:List Bool),0<=pos/\pos<=(p.length:Int)->T.length<=s12.2.2.1.length+3->F.length=4->G.length=4->WP (k (pos,T,F,G)) Q):WP (iter (ads p W X Y Z v8 g s12 k) FUEL (0,s12.2.1,s12.2.2.1,s12.2.2.2.1,s12.2.2.2.2)) Q:=by
 refine wp_loop (λx=>0<=x.1/\x.1<=g.2.2.length/\(0<=x.2.1/\x.2.1<=p.length)/\(x.2.2.1.length:Int)<=s12.2.2.1.length+x.1/\x.2.2.2.1.length=4/\x.2.2.2.2.length=4) (λx=>(g.2.2.length-x.1).toNat) ⟨om,om,j,om,L,M⟩ om λK x ⟨w,i1,S,i3,z,A⟩ N=>?_;unfold ads;have s:∀{a b c d e f},∃n,Eh n (Plan.mk a b g.2.1 g.2.2 c d e f):=⟨n,P,o⟩;have O:=o _ h1.1 h1.2;refine aB (λh=>av (λy=>(0<=y.1/\y.1<=p.length)/\(y.2.1.length:Int)<=s12.2.2.1.length+x.1+1/\y.2.2.1.length=4/\y.2.2.2.length=4) (λmI r=>ak (N _ ⟨om,om,r.1,om,r.2.2⟩ om)) λaa q=>dJ hp λaq i20 D l=>fB (Gi λ_=>by simp;omega) (fC (λ_=>om) λab I=>fC (λ_=>om) λae C=>fB (Gi λ_=>by simp;omega) (fC (λ_=>om) λaf J=>fC (λ_=>om) λag t=>fC (λ_=>h1) λan i=>fB (Gi λh=>by rw[i h];simp[aj];omega) (Mc (λh=>?_) λao H=>Mc (λh=>?_) λap u=>aR (λh=>rO (aA (aA (rO (aA (aA (dJ hp λaw U v B=>ak (dJ hp λax V E m=>ak (aW (q _ ⟨m,om,om,om⟩)))))))))) λh=>q _ ⟨l,om,z,A⟩)))) λh=>R _ _ _ _ S om z A;·rw[i h];exact⟨h1.1,h1.2,om,om,s⟩
 ·have:=o _ w om;exact⟨w,om,om,om,s⟩
theorem avc(hp:p.length<=4611686018427387904){v:Int×List Section×List Link×List Str×List (List Int)}{U V W X:Int×Int}{w:Int}{g:Int×List bg×List Line}{s12:Int×Int×List Turn×List Bool×List Bool}(M:All g.2.1 (qb v.2.1.length))(t:All g.2.2 (Ee g.2.1.length))(hl:g.2.2.length<=3)(hv:1<=w/\w<=1000){c pos:Int}(hc:0<=c/\c<=2)(n:0<=pos/\pos<=p.length){k:Int×List Change->Option (Layout×Plan)}(N:∀pos (C:List Change),0<=pos/\pos<=(p.length:Int)->WP (k (pos,C)) Q):WP (iter (adu p v U V W X w g s12 k) FUEL (c,pos,[])) Q:=by refine wp_loop (λx=>0<=x.1/\x.1<=c/\(0<=x.2.1/\x.2.1<=p.length)/\(x.2.2.length:Int)+x.1<=c) (λx=>x.1.toNat) ⟨om,om,n,om⟩ om λK x ⟨i0,i1,O,i3⟩ L=>?_;unfold adu;have q:∀{a b c d e f},Eh v.2.1.length (Plan.mk a b g.2.1 g.2.2 c d e f):=⟨M,t⟩;refine aR (λh=>?_) λh=>N _ _ O;simp only[Bool.and_eq_true,decide_eq_true_eq] at h;refine av (λy=>(0<=y.1/\y.1<=p.length)/\(y.2.length:Int)+x.1-1<=c) (λFR s=>ak (L _ ⟨om,om,s.1,om⟩ om)) λzL A=>dJ hp λz P i B=>dJ hp λY R H D=>ak (uY ?_);have u:=LJ (a:=z+1) (b:=g.2.2.length) om om;refine aO t (λg1=>aO t (λg2=>dJ hp λZ i86 l E=>dJ hp λaa S m F=>dJ hp λab T I G=>dJ hp λae i89 J j=>ak (aP ⟨i.1,i.2,l.1,l.2,_,q⟩ λGX o=>aA (aP ⟨u.1,u.2,m.1,m.2,_,q⟩ λnV r=>aA (aB (λh=>aW (A _ ⟨j,om⟩)) λh=>A _ ⟨j,om⟩) (r _ q)) (o _ q))) u) i
theorem avx(hp:p.length<=4611686018427387904){d:List Str×Int×List Section×List (List Int)}(r:2<=d.1.length/\d.1.length<=3){c pos:Int}(s:0<=c/\c<=2)(a:0<=pos/\pos<=p.length){k:Int×List dG->Option (Layout×Plan)}(m:∀x,WP (k x) Q):WP (iter (adt p d k) FUEL (c,pos,[])) Q:=by refine wp_loop (λx=>0<=x.1/\x.1<=c/\(0<=x.2.1/\x.2.1<=p.length)/\(x.2.2.length:Int)+x.1<=c) (λx=>x.1.toNat) ⟨om,om,a,om⟩ om λK x ⟨t,u,v,w⟩ l=>?_;unfold adt;exact aB (λh=>dJ hp λn i51 g e=>ak (ak (dJ hp λo i52 i f=>ak (uY (dJ hp λq i53 j b=>ak (aW (ak (l _ ⟨om,om,b,om⟩ om)))))))) λh=>m _
instance dQ{p}:Spec (TH p) (p.length<=4611686018427387904) λy=>1<=y.2.4.length:=⟨λhp=>by
 unfold TH
 refine dJ hp λu z d t=>ak ?_
 refine av (λj=>(j.1.length:Int)=2+u/\(0<=j.2.1/\j.2.1<=p.length)/\j.2.2.1.length<=6/\(j.2.2.2.length:Int)=2+u/\All j.2.2.2 (jO j.2.2.1.length)) (λj1 ⟨g1,g2,g3,g4,w⟩=>?_) λRN m=>aIr hp d t λN pos S T h1 h2 a b s=>m _ ⟨h1,h2,a,b,s⟩
 refine av (λj=>(0<=j.1/\j.1<=p.length)/\j1.2.2.1.length<=j.2.1.length/\j.2.1.length<=20/\(j.2.2.2.2.length:Int)=1+u/\All j.2.2.2.2 (jO j.2.1.length)) (λj2 ⟨m1,m2,m3,m4,m5⟩=>?_) λRI l=>aDO hp d g2 g3 g4 w λpos S L P B h1 h2 a b s=>l _ ⟨h1,h2,a,b,s⟩
 refine dJ hp λx3 i3 ao ab=>rO (dJ hp λx4 A ap ae=>ak (dJ hp λx5 D aq af=>ak (ak (dJ hp λx6 i6 aw ag=>ak (ak (dJ hp λx7 i7 ax an=>ak (ak ?_)))))))
 refine aO (P:=λx=>1<=x/\x<=1000) ?_ (λwQ=>av (λj=>(0<=j.1/\j.1<=p.length)/\(1<=j.2.2.length/\j.2.2.length<=3)/\All j.2.1 (qb j2.2.1.length)/\All j.2.2 (Ee j.2.1.length)) (λE ⟨n1,n2,H,I⟩=>?_) λxD n=>dJ hp λZ X Y c=>ak (aCM hp (bB.imp w λr hr=>hr.mono om) m5 om om om c λpos R L h1 h2 a b=>n _ ⟨h1,h2,a,b⟩))
 ·show All (([]:List Int)++[150]++[120]++[180]++[240]++[300]++[90]) _
  exact All.app (All.app (All.app (All.app (All.app (All.app All.nil om) om) om) om) om) om
 ·refine wp_loop (λx=>0<=x.1/\x.1<=E.2.2.length/\(0<=x.2.1/\x.2.1<=p.length)/\(x.2.2.1.length:Int)<=3*x.1/\x.2.2.2.1.length=4/\x.2.2.2.2.length=4) (λx=>(E.2.2.length-x.1).toNat) ⟨om,om,n1,om,rfl,rfl⟩ om λK x ⟨z,i1,i2,i3,A,D⟩ hK=>?_
  unfold apB
  exact aB (λh=>av (λy=>(0<=y.1/\y.1<=p.length)/\(y.2.1.length:Int)<=3*(x.1+1)/\y.2.2.1.length=4/\y.2.2.2.length=4) (λa1 k=>ak (hK _ ⟨om,om,k⟩ om)) λa2 J=>aIZ hp H I n2.2 ⟨z,h⟩ i2 om A D λpos T F G h1 h2 a b=>J _ ⟨h1,om,a,b⟩) λh=>av (λy=>0<=y.1/\y.1<=p.length) (λzw M=>av (λy=>0<=y.1/\y.1<=p.length) (λsG O=>av (λ_=>True) (λCo aa=>aD n2.1) λqF o=>dJ hp λa3 az Q e=>avx hp om om e λx=>o x trivial) λjT v=>dJ hp λa4 aE U f=>aR (λh=>dJ hp λa5 i68 V g=>aW (v _ g)) λh=>v _ f) λR4 q=>dJ hp λa6 i76 W i=>avc hp H I n2.2 wQ om i λpos C h1=>q _ h1⟩
end
instance xU{i}:Spec (pO i) (-9223372036854775808<=i/\i<=9223372036854775807) λy=>y.l.length<=21:=⟨λh=>by
 unfold pO
 rw[if_pos h]
 exact aD (Lib.itoa_length_le i h.1 h.2)⟩
instance kH{a b}:Spec (Gp (a,b)) ((-9223372036854775808<=a/\a<=9223372036854775807)/\ -9223372036854775808<=b/\b<=9223372036854775807) λy=>y.l.length<=44:=⟨λ⟨h1,h2⟩=>by
 unfold Gp
 exact aP h1 λe c=>U5 (by simp;omega) (aP h2 λf d=>U5 (by simp;omega) (aD (by simp;omega)))⟩
def yc:List Any->Prop|[]=>True| .s s::r=>s.l.length<=100/\yc r| .i i::r=>(-9223372036854775808<=i/\i<=9223372036854775807)/\yc r
theorem yc.mem:∀{l:List Any},yc l->∀a∈l,(∀s,a= .s s->s.l.length<=100)/\∀i,a= .i i-> -9223372036854775808<=i/\i<=9223372036854775807
 | .s s::r,h,a,b=>by
  rcases List.mem_cons.1 b with rfl|b
  ·exact⟨λ_ e=>(by cases e;exact h.1),λ_ e=>(by cases e)⟩
  ·exact yc.mem h.2 a b
 | .i i::r,h,a,b=>by
  rcases List.mem_cons.1 b with rfl|b
  ·exact⟨λ_ e=>(by cases e),λ_ e=>(by cases e;exact h.1)⟩
  ·exact yc.mem h.2 a b
instance aOs{p:List Any}:Spec (qN p) (1<=p.length/\p.length<=100/\yc p) λy=>y.length=p.length/\(∀s∈y,s.l.length<=100)/\∀s,gi p 0= .s s->gi y 0=s:=⟨λ⟨o,t,n⟩=>by
 unfold qN
 refine av (λy=>y.length=p.length/\(∀s∈y,s.l.length<=100)/\∀s,gi p 0= .s s->gi y 0=s) (λy q=>aD q) λA c=>?_
 refine wp_loop (λx=>0<=x.2/\x.2<=p.length/\(x.1.length:Int)=x.2/\(∀s∈x.1,s.l.length<=100)/\(0<x.2->∀s,gi p 0= .s s->gi x.1 0=s)) (λx=>(p.length-x.2).toNat) ⟨om,om,om,sm,λh=>absurd h sm⟩ om λK x ⟨d,u,v,g,j⟩ m=>?_
 unfold apx
 have a:∀{s:Str},s.l.length<=100->(∀s',gi p x.2= .s s'->s=s')->0<=x.2->((x.1++[s]).length:Int)=x.2+1/\(∀s'∈x.1++[s],s'.l.length<=100)/\(0<x.2+1->∀s',gi p 0= .s s'->gi (x.1++[s]) 0=s'):=λ{s} h1 h2 _=>⟨om,λs' h=>by
   rcases List.mem_append.1 h with h|h
   ·exact g s' h
   ·rw[List.mem_singleton] at h;subst h;exact h1,λ_ s' h=>by
   rw[fP om]
   split
   ·exact j om s' h
   ·have e:x.2=0:=by omega
    rw[e] at h2
    rw[show (0:Int)-x.1.length=0 by omega]
    exact h2 s' h⟩
 refine aB (λh=>av (λy=>(y.length:Int)=x.2+1/\(∀s∈y,s.l.length<=100)/\(0<x.2+1->∀s,gi p 0= .s s->gi y 0=s)) (λw r=>ak (m _ ⟨om,om,r⟩ om)) λB k=>aA ?_) λh=>c _ ⟨om,g,λs hs=>?_⟩
 ·have f:=n.mem _ (dF ⟨d,h⟩)
  cases b:gi p x.2 with
  |s z=>exact aR (λ_=>aW (k _ (a (f.1 z b) (λs' e=>by cases b.symm.trans e;rfl) d))) λh=>absurd h (by simp[Bb])
  |i z=>exact aR (λh=>absurd h (by simp[Bb])) λ_=>aR (λ_=>aP (f.2 z b) λC D=>aW (k _ (a om (λs' e=>by cases b.symm.trans e) d))) λh=>absurd h (by simp[Bb])
 ·exact j om s hs⟩
instance aOT{b}:Spec (rz b) True λ_=>True:=⟨λ_=>by
 unfold rz
 exact av (λ_=>True) (λd c=>aD trivial) λe a=>aB (λh=>aB (λh=>aD trivial) λh=>aB (λh=>aD trivial) λh=>aB (λh=>aD trivial) λh=>aR (λh=>aD trivial) λh=>a _ trivial) λh=>aB (λh=>aD trivial) λh=>aB (λh=>aD trivial) λh=>aB (λh=>aD trivial) λh=>aR (λh=>aD trivial) λh=>a _ trivial⟩
instance Dv{s}:Spec (U3 s) (s.l.length<=1000000) λ_=>True:=⟨λf=>by
 unfold U3
 refine av (λ_=>True) (λj c=>aD trivial) λk a=>?_
 refine wp_loop (λi=>0<=i/\i<=s.l.length) (λi=>(s.l.length-i).toNat) ⟨om,om⟩ om λK i ⟨e,g⟩ b=>?_
 unfold ara
 exact aB (λh=>U4 ⟨e,h⟩ λm _ _ _=>aP trivial λn d=>aR (λh=>aD trivial) λh=>ak (b _ ⟨om,om⟩ om)) λh=>a _ trivial⟩
def LI(t:List Int):Prop:=∃a r,t=a++108::105::110::101::32::r/\(a=[]\/∃b,a=b++[10])
theorem LI.app{t s:List Int}(h:LI t):LI (t++s):=by obtain⟨a,r,rfl,h⟩:=h;exact⟨a,r++s,sm,h⟩
abbrev tV(a:List Str):Prop:=2<=a.length/\gi a 0=⟨[108,105,110,101]⟩
theorem ata{s:Str}:(bI s).all u8b=true:=by rw[List.all_eq_true];intro x a;obtain⟨b,_,rfl⟩:=List.mem_map.1 a;have:=b.toNat_lt;simp[u8b];omega
theorem as8{s:Str}:(bI s).length=s.l.length:=by simp[bI]
theorem as9{xs:List Int}(h:xs.all u8b=true):bI (sB xs)=xs:=by
 unfold bI sB;rw[List.map_map];conv=>rhs;rw[<-List.map_id xs]
 refine List.map_congr_left λx a=>?_;exact aqI (List.all_eq_true.1 h x a)
instance s61{ls:List (List Str)}:Spec (L8 ls) (1<=ls.length/\ls.length<=1000/\∀d∈ls,∀s∈d,s.l.length<=100) λt=>t=⟨[]⟩\/((∃d∈ls,tV d)->LI (bI t)):=⟨λ⟨h1,h2,P⟩=>by
 unfold L8
 refine av (λb:List Int=>b≠[]/\b.all u8b=true/\((∃d∈ls,tV d)->LI b)) (λb ⟨A,B,L⟩=>?_) λk1 n=>?_
 ·refine fB ?_ (fB ?_ (aD (.inr λh=>?_)))
  ·cases b with
   |nil=>exact absurd rfl A
   |cons=>rfl
  ·unfold Um
   cases b with
   |nil=>exact absurd rfl A
   |cons a l=>rw[B];simp
  ·rw[as9 B];exact L h
 ·refine wp_loop (λx=>0<=x.1/\x.1<=ls.length/\(x.2.length:Int)<=7000*x.1/\(1<=x.1->x.2≠[])/\(x.2=[]\/∃a,x.2=a++[10])/\x.2.all u8b=true/\∀j:Int,0<=j->j<x.1->tV (gi ls j)->LI x.2) (λx=>(ls.length-x.1).toNat) ⟨om,om,om,λe=>by dsimp only at e;omega,.inl rfl,rfl,λj a b=>by dsimp only at b;omega⟩ om λK x ⟨Q,i1,i2,R,S,C,D⟩ m=>?_
  unfold aq6
  refine aB (λh=>av (λy=>(y.length:Int)<=7000*(x.1+1)/\(∃a,y=a++[10])/\y.all u8b=true/\∀j:Int,0<=j->j<x.1+1->tV (gi ls j)->LI y) (λy ⟨F,i,q,X⟩=>ak (m _ ⟨om,om,F,λ_=>?_,.inr i,q,X⟩ om)) λk6 V=>aA (aR (λh=>aD (.inl rfl)) λhw=>?_)) λh=>n _ ⟨R om,C,λ⟨d,o,c⟩=>?_⟩
  ·obtain⟨a,rfl⟩:=i;simp
  ·have k:=P _ (dF ⟨Q,h⟩)
   simp only[Bool.or_eq_false_iff,decide_eq_false_iff_not] at hw
   refine av (λy=>(y.length:Int)<=7000*x.1+6900/\y.all u8b=true/\∀j:Int,0<=j->j<x.1+1->tV (gi ls j)->LI y) (λj8 ⟨F,i,q⟩=>aW (V _ ⟨om,⟨_,rfl⟩,by simp[i];decide,λj g p f=>(q j g p f).app⟩)) λk9 I=>?_
   refine wp_loop (λy=>0<=y.1/\y.1<=(gi ls x.1).length/\(y.2.length:Int)<=7000*x.1+101*y.1/\y.2.all u8b=true/\(∃r,y.2=x.2++r)/\(y.1=0->y.2=x.2)/\(tV (gi ls x.1)->(y.1=1->y.2=x.2++[108,105,110,101])/\(2<=y.1->LI y.2))) (λy=>((gi ls x.1).length-y.1).toNat) ⟨om,om,om,C,⟨[],sm⟩,λ_=>rfl,λ_=>⟨λe=>by simp at e,λe=>by simp at e⟩⟩ om λK y ⟨M,c1,c2,c3,c4,c5,c6⟩ m=>?_
   unfold aq7
   refine aB (λh=>av (λz=>(z.length:Int)<=7000*x.1+101*(y.1+1)/\z.all u8b=true/\(∃r,z=x.2++r)/\(tV (gi ls x.1)->(y.1+1=1->z=x.2++[108,105,110,101])/\(2<=y.1+1->LI z))) (λz ⟨G,u,v,w⟩=>ak (m _ ⟨om,om,G,u,v,λe=>by dsimp only at e;omega,w⟩ om)) λT J=>aA ?_) λh=>I _ ⟨om,c3,λj g p f=>?_⟩
   ·have hs:=k _ (dF ⟨M,h⟩)
    have Z:=as8 (s:=gi (gi ls x.1) y.1)
    refine aP om λW Y=>aR (λh=>aD (.inl rfl)) λh=>av (λz=>(z.length:Int)<=7000*x.1+101*y.1+1/\z.all u8b=true/\(∃r,z=x.2++r)/\(y.1=0->z=x.2)/\(tV (gi ls x.1)->(y.1=1->z=x.2++[108,105,110,101,32])/\(2<=y.1->LI z))) (λz ⟨G,u,⟨r,v⟩,w,H⟩=>aW (J _ ⟨om,by simp only[List.all_append,Bool.and_eq_true];exact⟨u,ata⟩,⟨r++bI (gi (gi ls x.1) y.1),by rw[v,List.append_assoc]⟩,λc=>⟨λe=>?_,λe=>?_⟩⟩)) λU E=>aB (λh=>aW (E _ ⟨om,by simp only[List.all_append,Bool.and_eq_true];exact⟨c3,dc⟩,?_,λe=>om,λc=>⟨λe=>?_,λe=>((c6 c).2 e).app⟩⟩)) λh=>E _ ⟨om,c3,c4,c5,λc=>⟨λe=>om,λe=>om⟩⟩
    ·have e:y.1=0:=by omega
     rw[e,w e,c.2];rfl
    ·by_cases O:y.1=1
     ·rw[(H c).1 O]
      exact⟨x.2,bI (gi (gi ls x.1) y.1),sm,S⟩
     ·exact ((H c).2 om).app
    ·obtain⟨r,e⟩:=c4
     exact⟨r++[32],by rw[e,List.append_assoc]⟩
    ·rw[(c6 c).1 e];simp
   ·by_cases e:j=x.1
    ·subst e
     exact (c6 f).2 (by have:=f.1;omega)
    ·obtain⟨r,N⟩:=c4
     rw[N]
     exact (D j g om f).app
  ·obtain⟨j,g,p,rfl⟩:=iH o
   exact D j g om c⟩
end Go.Z
