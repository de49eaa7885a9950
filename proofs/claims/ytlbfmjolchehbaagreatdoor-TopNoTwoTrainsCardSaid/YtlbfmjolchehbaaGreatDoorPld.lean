/- Several parts of the engine, one behind the other. -/
import Derived.Test.YtlbfmjolchehbaaGreatDoorPlc
import Derived.Test.YtlbfmjolchehbaaGreatDoorMof
set_option linter.all false
namespace Go.Z
open Go Go.Proofs Go.Dc Go.R
theorem aqw:∀{l m:List Int},l.Nodup->(∀x∈l,x∈m)->m.length<=l.length->∀x∈m,x∈l
 |[],m,_,_,h,x,c=>by have:=List.length_pos_of_mem c;simp at h;subst h;simp at c
 |a::l,m,b,hs,h,x,c=>by
  have b:=List.nodup_cons.1 b
  have f:=hs a sm
  by_cases e:x=a
  ·simp[e]
  ·have:=aqw (l:=l) (m:=m.erase a) b.2 (λy d=>(List.mem_erase_of_ne (λe:y=a=>b.1 (by rw[<-e];exact d))).2 (hs y (by simp[d]))) (by rw[List.length_erase_of_mem f];simp at h;omega) x ((List.mem_erase_of_ne e).2 c)
   simp[this]
theorem KN:∀{l m:List Int},l.Nodup->(∀x∈l,x∈m)->l.length<=m.length
 |[],_,_,_=>by simp
 |a::l,m,b,hs=>by
  have b:=List.nodup_cons.1 b
  have c:=hs a sm
  have:=KN (l:=l) (m:=m.erase a) b.2 (λy d=>(List.mem_erase_of_ne (λe:y=a=>b.1 (by rw[<-e];exact d))).2 (hs y (by simp[d])))
  rw[List.length_erase_of_mem c] at this
  have:=List.length_pos_of_mem c
  simp;omega
def rng(n:Nat):List Int:=(List.range n).map Int.ofNat
theorem zR{n:Nat}{x:Int}:x∈rng n↔0<=x/\x<n:=by
 unfold rng;rw[List.mem_map];constructor;·rintro⟨k,a,rfl⟩;rw[List.mem_range] at a;exact⟨sm,by simp;omega⟩
 ·intro h;exact⟨x.toNat,by rw[List.mem_range];omega,by simp;omega⟩
def Tn(p:Plan)(a b:Int):Prop:=∃j:Int,0<=j/\j<p.6.length/\(gi p.6 j).1=a/\(gi p.6 j).2=b
section
variable {p:Plan}
theorem Tn.l(d:Uniq p p.6.length){a b c:Int}(h:Tn p a b)(e:Tn p a c):b=c:=by
 obtain⟨j,f,g,rfl,rfl⟩:=h;obtain⟨k,i,m,h1,rfl⟩:=e;rcases Int.lt_trichotomy j k with h|rfl|h;·exact absurd h1.symm (d j k f h m).1
 ·rfl
 ·exact absurd h1 (d k j i h g).1
theorem Tn.r(d:Uniq p p.6.length){a c b:Int}(h:Tn p a b)(e:Tn p c b):a=c:=by
 obtain⟨j,f,g,rfl,rfl⟩:=h;obtain⟨k,i,l,rfl,h1⟩:=e;rcases Int.lt_trichotomy j k with h|rfl|h;·exact absurd h1.symm (d j k f h l).2
 ·rfl
 ·exact absurd h1 (d k j i h g).2
theorem Tn.bd(c:All p.6 (rJ p)){a b:Int}(h:Tn p a b):0<=a/\a<p.4.length/\0<=b/\b<p.4.length:=by obtain⟨j,d,e,rfl,rfl⟩:=h;have:=c j d e;exact⟨this.1,this.2.1,this.2.2.1,this.2.2.2.1⟩
theorem aIN(q:Uniq p p.6.length){U:List Int}(o:U.Nodup)(h:∀x∈U,∃w∈U,Tn p w x):∀z∈U,∃y∈U,Tn p z y:=by
 have j:∀x:Int,∃w:Int,x∈U->w∈U/\Tn p w x:=λx=>by
  by_cases d:x∈U;·obtain⟨w,h1,h2⟩:=h x d;exact⟨w,λ_=>⟨h1,h2⟩⟩
  ·exact⟨0,λe=>absurd e d⟩
 obtain⟨f,c⟩:=Classical.axiomOfChoice j;have n:(U.map f).Nodup:=by rw[List.Nodup,List.pairwise_map];exact List.Pairwise.imp_of_mem (λ{a b} k m i e=>i (Tn.l q (c a k).2 (e▸(c b m).2))) o
 intro z r;have:=aqw n (λx d=>by obtain⟨y,g,rfl⟩:=List.mem_map.1 d;exact (c y g).1) sm z r;obtain⟨y,g,rfl⟩:=List.mem_map.1 this;exact⟨y,g,(c y g).2⟩
def A9(p:Plan)(v:List Int):Prop:=v.length=p.4.length/\∀a:Int,0<=a->a<p.4.length->(gi v a= -1/\∀b,¬Tn p a b)\/(0<=gi v a/\gi v a<p.6.length/\(gi p.6 (gi v a)).1=a)
instance mU:Spec (KS p) (p.4.length<=16/\p.6.length<=32/\All p.6 (rJ p)) λv=>A9 p v:=⟨λ⟨h1,h2,r⟩=>by
 unfold KS
 refine iJ om ?_
 refine av (λv:List Int=>v.length=p.4.length/\∀a:Int,0<=a->a<p.4.length->gi v a= -1) (λv ⟨t,u⟩=>?_) λy q=>?_
 ·refine av (λv=>A9 p v) (λv h=>aD h) λw l=>?_
  refine wp_loop (λx=>0<=x.1/\x.1<=p.6.length/\x.2.length=p.4.length/\∀a:Int,0<=a->a<p.4.length->(gi x.2 a= -1/\∀j:Int,0<=j->j<x.1->(gi p.6 j).1≠a)\/(0<=gi x.2 a/\gi x.2 a<p.6.length/\(gi p.6 (gi x.2 a)).1=a)) (λx=>(p.6.length-x.1).toNat) ⟨sm,sm,t,λa a0 d=> .inl ⟨u a a0 d,λj i n=>by dsimp only at n;omega⟩⟩ (by simp;omega) λc x ⟨g,s,m,f⟩ k=>?_
  unfold apa
  refine aB (λh=>?_) λh=>l _ ⟨m,λa a0 d=>(f a a0 d).imp (λh=>⟨h.1,λb ⟨j,i,n,e,_⟩=>h.2 j i om e⟩) id⟩
  have:=r x.1 g h
  refine aA (aA (aA (ak (k _ ⟨om,om,by simp;omega,λa a0 d=>?_⟩ om))))
  dsimp only
  rw[dU this.1 a0 om]
  split
  ·rename_i e;exact .inr ⟨g,h,e.symm⟩
  ·rename_i e
   refine (f a a0 d).imp (λh=>⟨h.1,λj i n=>?_⟩) id
   by_cases o:j=x.1
   ·subst o;exact λh=>e h.symm
   ·exact h.2 j i om
 ·refine wp_loop (λx=>0<=x.1/\x.1<=p.4.length/\x.2.length=p.4.length/\∀a:Int,0<=a->a<x.1->gi x.2 a= -1) (λx=>(p.4.length-x.1).toNat) ⟨sm,sm,sm,λa a0 d=>by dsimp only at d;omega⟩ (by simp;omega) λc x ⟨g,s,m,f⟩ k=>?_
  unfold ao9
  simp only[List.length_replicate,Int.toNat_natCast]
  refine aB (λh=>aA (aA (ak (k _ ⟨om,om,by simp;omega,λa a0 d=>?_⟩ om)))) λh=>q _ ⟨m,λa a0 d=>f a a0 om⟩
  dsimp only at d |-
  rw[dU g a0 om]
  split
  ·rfl
  ·exact f a a0 om⟩
def G9(p:Plan)(ls:List Int):Prop:=∀j:Int,0<=j->j+1<ls.length->Tn p (gi ls j) (gi ls (j+1))
theorem aq2(aa:p.4.length<=16)(ht:All p.6 (rJ p)){v:List Int}(hv:A9 p v){d:List Bool}(hS:d.length=p.4.length){a0:Int}(h0:0<=a0)(h1:a0<p.4.length)(I:gi d a0=false){β:Type}{Q:β->Prop}{k:List Int×List Bool->Option β}(hk:∀ls S,ls.Nodup->1<=ls.length->gi ls 0=a0->G9 p ls->S.length=p.4.length->(∀x:Int,0<=x->x<p.4.length->(gi S x=true↔gi d x=true\/x∈ls))->(∀x∈ls,0<=x/\x<p.4.length/\gi d x=false)->((∀b,¬Tn p (gi ls (ls.length-1)) b)\/∃b,Tn p (gi ls (ls.length-1)) b/\gi S b=true)->WP (k (ls,S)) Q):WP (iter (λ(K:Int×List Int×List Bool->Option β) (s:Int×List Int×List Bool)=>(idx s.2.2 s.1).bind λae=>(idx s.2.2 s.1).bind λO=>if !O then (idx s.2.2 s.1).bind λaf=>(idx s.2.2 s.1).bind λag=>ah (aS 8 (s.2.1++[s.1]).length)<|(idx v s.1).bind λP=>if decide (0<=P) then (idx v s.1).bind λR=>(idx p.6 R).bind λT=>K (T.2,s.2.1++[s.1],List.set s.2.2 (Int.toNat s.1) true) else K (s.1,s.2.1++[s.1],List.set s.2.2 (Int.toNat s.1) true) else k (s.2.1,s.2.2)) FUEL (a0,[],d)) Q:=by
 obtain⟨v1,v2⟩:=hv;have o:∀ls:List Int,ls.Nodup->(∀x∈ls,0<=x/\x<p.4.length/\gi d x=false)->ls.length<=p.4.length:=λls hn V=>by have:=KN (m:=rng p.4.length) hn λx B=>zR.2 ⟨(V x B).1,(V x B).2.1⟩;simpa [rng] using this
 refine wp_loop (λx=>0<=x.1/\x.1<p.4.length/\x.2.1.Nodup/\(x.2.1=[]->x.1=a0)/\(1<=x.2.1.length->gi x.2.1 0=a0/\(((∀b,¬Tn p (gi x.2.1 (x.2.1.length-1)) b)/\x.1=gi x.2.1 (x.2.1.length-1))\/Tn p (gi x.2.1 (x.2.1.length-1)) x.1))/\G9 p x.2.1/\x.2.2.length=p.4.length/\(∀y:Int,0<=y->y<p.4.length->(gi x.2.2 y=true↔gi d y=true\/y∈x.2.1))/\∀y∈x.2.1,0<=y/\y<p.4.length/\gi d y=false) (λx=>p.4.length-x.2.1.length) ⟨h0,h1,sm,λ_=>rfl,λh=>by simp at h,λj a b=>by simp at b;omega,hS,λy a b=>sm,λy l=>by simp at l⟩ om λc x ⟨n,q,C,J,A,L,D,r,E⟩ G=>?_;obtain⟨a,ls,S⟩:=x;dsimp only at n q C J A L D r E G |-;have ab:=o ls C E;refine aA (aA (aR (λh=>?_) λh=>?_))
 ·have g:gi S a=false:=by simpa using h
  have w:a∉ls:=λhm=>by have:=(r a n q).2 (.inr hm);rw[g] at this;cases this
  have F:gi d a=false:=by cases e:gi d a with|false=>rfl|true=>have:=(r a n q).2 (.inl e);rw[g] at this;cases this
  have M:(ls++[a]).Nodup:=by rw[List.nodup_append];exact⟨C,sm,λx B y l=>by rw[List.mem_singleton] at l;subst l;exact λe=>w (e▸B)⟩
  have N:∀y∈ls++[a],0<=y/\y<p.4.length/\gi d y=false:=λy l=>by
   rcases List.mem_append.1 l with l|l;·exact E y l
   ·rw[List.mem_singleton] at l;subst l;exact⟨n,q,F⟩
  have t:=o _ M N;have u:gi (ls++[a]) ((ls++[a]).length-1)=a:=by rw[show (((ls++[a]).length:Nat):Int)-1=ls.length by simp,fP om,if_neg om,Int.sub_self];rfl
  have X:gi (ls++[a]) 0=a0:=by
   by_cases e:ls=[];·subst e;exact J rfl
   ·have:=List.length_pos_iff.2 e;rw[fP om,if_pos om];exact (A om).1
  have Y:G9 p (ls++[a]):=λj W j1=>by
   simp at j1;rw[fP W,fP om,if_pos om];split;·exact L j W om
   ·rw[show j+1-ls.length=0 by omega];rw[show j=ls.length-1 by omega];rcases (A om).2 with ⟨_,e⟩|e;·exact absurd (e▸dF (xs:=ls) (i:=ls.length-1) ⟨om,om⟩) w
    ·exact e
  have Z:∀y:Int,0<=y->y<p.4.length->(gi (S.set a.toNat true) y=true↔gi d y=true\/y∈ls++[a]):=λy y0 y1=>by
   rw[dU n y0 om];split;·rename_i e;subst e;simp
   ·rename_i e;rw[r y y0 y1];simp[e]
  refine aA (aA (aW (aA (aB (λh2=>?_) λh2=>?_))))
  ·rcases v2 a n q with f|f;·omega
   ·have z:=ht (gi v a) h2 f.2.1;refine aA (aA (G _ ⟨z.2.2.1,z.2.2.2.1,M,λe=>by simp at e,λ_=>⟨X,.inr ?_⟩,Y,by simp[D],Z,N⟩ (by simp at t |-;omega)));rw[u];exact⟨_,h2,f.2.1,f.2.2,rfl⟩
  ·rcases v2 a n q with f|f;·refine G _ ⟨n,q,M,λe=>by simp at e,λ_=>⟨X,.inl ?_⟩,Y,by simp[D],Z,N⟩ (by simp at t |-;omega);rw[u];exact⟨f.2,rfl⟩
   ·omega
 ·have g:gi S a=true:=by simpa using h
  have H:ls≠[]:=λe=>by have:=(r a n q).1 g;rw[e,J e,I] at this;simp at this
  have U:=List.length_pos_iff.2 H;refine hk ls S C om (A om).1 L D r E ?_;rcases (A om).2 with f|f;·exact .inl f.1
  ·exact .inr ⟨a,f,g⟩
end
structure Ig(p:Plan)(r:dO):Prop where
 n:1<=r.1.length
 nd:r.1.Nodup
 bd:∀x∈r.1,0<=x/\x<p.4.length
 ch:G9 p r.1
 cl:∀a∈r.1,∀b,Tn p a b->b∈r.1
def Dj(r a:dO):Prop:=∀x,x∈r.1->x∉a.1
structure RInv(p:Plan)(W:List dO)(S:List Bool):Prop where
 l:S.length=p.4.length
 s:∀x:Int,0<=x->x<p.4.length->(gi S x=true↔∃r∈W,x∈r.1)
 g:∀r∈W,Ig p r
 d:W.Pairwise Dj
 pr:∀a b,Tn p a b->gi S b=true->gi S a=true
section
variable {p:Plan}
theorem awC{ls:List Int}(h:ls.Nodup){i j:Int}(b:0<=i)(c:i<ls.length)(d:0<=j)(f:j<ls.length)(e:gi ls i=gi ls j):i=j:=by
 rcases Int.lt_trichotomy i j with a|a|a;·exact absurd e (Y9 h b a f)
 ·exact a
 ·exact absurd e.symm (Y9 h d a c)
theorem RInv.add(z:Uniq p p.6.length)(I:All p.6 (rJ p)){W q S}(h:RInv p W q){ls:List Int}{c:Bool}(h1:ls.Nodup)(h2:1<=ls.length)(t:G9 p ls)(E:S.length=p.4.length)(u:∀x:Int,0<=x->x<p.4.length->(gi S x=true↔gi q x=true\/x∈ls))(v:∀x∈ls,0<=x/\x<p.4.length/\gi q x=false)(F:∀b,Tn p (gi ls (ls.length-1)) b->b∈ls)(G:∀a,Tn p a (gi ls 0)->a∈ls):RInv p (W++[⟨ls,c⟩]) S:=by
 refine⟨E,λx C D=>?_,λr i=>?_,?_,λa b f n=>?_⟩
 ·rw[u x C D,h.s x C D];constructor
  ·rintro (⟨r,i,k⟩|k);·exact⟨r,by simp[i],k⟩
   ·exact⟨⟨ls,c⟩,sm,k⟩
  ·rintro⟨r,i,k⟩;rcases List.mem_append.1 i with i|i;·exact .inl ⟨r,i,k⟩
   ·rw[List.mem_singleton] at i;subst i;exact .inr k
 ·rcases List.mem_append.1 i with i|i;·exact h.g r i
  ·rw[List.mem_singleton] at i;subst i;refine⟨h2,h1,λx k=>⟨(v x k).1,(v x k).2.1⟩,t,λa H b f=>?_⟩;obtain⟨j,A,B,rfl⟩:=iH H;dsimp only at B f;by_cases e:j+1<ls.length;·rw[Tn.l z f (t j A e)];exact dF ⟨om,e⟩
   ·rw[show j=ls.length-1 by omega] at f;exact F b f
 ·rw[List.pairwise_append];refine⟨h.d,sm,λr i J o x k=>?_⟩;rw[List.mem_singleton] at o;subst o;intro w;have:=v x w;have y:=(h.s x this.1 this.2.1).2 ⟨r,i,k⟩;rw[this.2.2] at y;cases y
 ·have m:=Tn.bd I f;rw[u b m.2.2.1 m.2.2.2] at n;rw[u a m.1 m.2.1];rcases n with n|n;·exact .inl (h.pr a b f n)
  ·obtain⟨j,A,B,rfl⟩:=iH n;by_cases e:j=0;·subst e;exact .inr (G a f)
   ·have:=t (j-1) om om;rw[Int.sub_add_cancel] at this;rw[Tn.r z f this];exact .inr (dF ⟨om,om⟩)
theorem RInv.len{W S}(h:RInv p W S):W.length<=p.4.length:=by
 have e:=KN (l:=W.map λr=>gi r.1 0) (m:=rng p.4.length) ?_ ?_;·simpa [rng] using e
 ·rw[List.Nodup,List.pairwise_map];refine h.d.imp_of_mem λ{a b} j k c e=>?_;have:=(h.g a j).n;have:=(h.g b k).n;exact c _ (dF (xs:=a.1) (i:=0) ⟨om,om⟩) (e▸dF (xs:=b.1) (i:=0) ⟨om,om⟩)
 ·intro y o;obtain⟨r,f,rfl⟩:=List.mem_map.1 o;have:=(h.g r f).n;exact zR.2 ((h.g r f).bd _ (dF ⟨om,om⟩))
structure vJ(p:Plan)(W:List dO):Prop where
 g:∀r∈W,Ig p r
 d:W.Pairwise Dj
 n:1<=p.4.length->W≠[]
 l:W.length<=16
instance s43:Spec (Td p) (p.4.length<=16/\p.6.length<=32/\All p.6 (rJ p)/\Uniq p p.6.length) λW=>vJ p W:=⟨λ⟨M,ab,E,L⟩=>by
 unfold Td
 refine aP ⟨M,ab,E⟩ λv hv=>iJ om ?_
 refine av (λF:List Bool=>F.length=p.4.length/\∀x:Int,0<=x->x<p.4.length->(gi F x=true↔∃w,Tn p w x)) (λF ⟨f1,f2⟩=>iJ om ?_) λqE Zh=>?_
 ·refine av (λx=>RInv p x.1 x.2/\x.1.length<=16/\∀y:Int,0<=y->y<p.4.length->gi x.2 y=false->∃w,Tn p w y) (λx ⟨D,x2,x3⟩=>?_) λaw BM=>?_
  ·obtain⟨W0,S0⟩:=x
   dsimp only at D x2 x3
   refine av (λx=>RInv p x.1 x.2/\∀y:Int,0<=y->y<p.4.length->gi x.2 y=true) (λx ⟨D,x3⟩=>?_) λk4 h4=>?_
   ·have ap:=D.len
    have U:x.1.all E8=true:=by
     rw[List.all_eq_true]
     intro r A
     have:=(D.g r A).n
     unfold E8
     cases e:r.1 with
     |nil=>rw[e] at this;simp at this
     |cons=>rfl
    refine fB U (aD ?_)
    have hp:=aeg zM x.1
    refine⟨λr A=>D.g r (hp.mem_iff.1 A),?_,λh e=>?_,by rw[DT];omega⟩
    ·exact (hp.pairwise_iff (λ{a b} h x B ao=>h x ao B)).2 D.d
    ·obtain⟨r,A,_⟩:=(D.s 0 om om).1 (x3 0 om om)
     have:=hp.mem_iff.2 A
     rw[e] at this;cases this
   ·refine wp_loop (λx=>0<=x.1/\x.1<=p.4.length/\RInv p x.2.1 x.2.2/\(∀y:Int,0<=y->y<p.4.length->gi x.2.2 y=false->∃w,Tn p w y)/\∀y:Int,0<=y->y<x.1->gi x.2.2 y=true) (λx=>(p.4.length-x.1).toNat) ⟨sm,sm,D,x3,λy a b=>by dsimp only at b;omega⟩ (by simp;omega) λc x ⟨C,i1,k,q,H⟩ O=>?_
    obtain⟨i,W,S⟩:=x
    dsimp only at C i1 k q H O
    unfold ao8
    dsimp only
    refine aB (λh=>?_) λh=>h4 _ ⟨k,λy a b=>H y a om⟩
    have Zt:=k.l
    have Zv:=k.len
    refine av (λy=>RInv p y.1 y.2/\(∀z:Int,0<=z->z<p.4.length->gi y.2 z=false->∃w,Tn p w z)/\∀z:Int,0<=z->z<i+1->gi y.2 z=true) (λy G=>ak (O _ ⟨om,om,G⟩ om)) λk9 K=>aA (aA (aR (λJ=>?_) λJ=>K _ ⟨k,q,λz a b=>?_⟩))
    case refine_2=>
     by_cases e:z=i
     ·subst e;simpa using J
     ·exact H z a om
    have P:gi S i=false:=by simpa using J
    refine av (λy=>RInv p (W++[⟨y.1,true⟩]) y.2/\∀z:Int,0<=z->z<p.4.length->(gi y.2 z=true↔gi S z=true\/z∈y.1)/\(z=i->z∈y.1)) (λy ⟨u,I⟩=>aW (K _ ⟨u,λz a b e=>q z a b ?_,λz a b=>?_⟩)) λaq mF=>aq2 M E hv Zt C h P λls S' q1 q2 Y Z q5 Q q7 q8=>mF _ ⟨RInv.add L E k q1 q2 Z q5 Q q7 ?_ ?_,λz a b=>⟨Q z a b,λe=>e▸(Y▸dF (xs:=ls) (i:=0) ⟨om,om⟩:i∈ls)⟩⟩
    ·cases e2:gi S z with
     |false=>rfl
     |true=>have:=((I z a b).1).2 (.inl e2);rw[this] at e;cases e
    ·refine ((I z a om).1).2 ?_
     by_cases e:z=i
     ·exact .inr ((I z a om).2 e)
     ·exact .inl (H z a om)
    all_goals
     have f:=q7 _ (dF (xs:=ls) (i:=ls.length-1) ⟨om,om⟩)
     have hU:∀x∈(rng p.4.length).filter (λx=> !gi S x),∃w∈(rng p.4.length).filter (λx=> !gi S x),Tn p w x:=λx B=>by
      rw[List.mem_filter,zR] at B
      obtain⟨w,hw⟩:=q x B.1.1 B.1.2 (by simpa using B.2)
      have o:=Tn.bd E hw
      refine⟨w,?_,hw⟩
      rw[List.mem_filter,zR]
      refine⟨⟨o.1,o.2.1⟩,?_⟩
      cases e:gi S w with
      |false=>rfl
      |true=>
       obtain⟨r,A,an⟩:=(k.s w o.1 o.2.1).1 e
       have:=(k.s x B.1.1 B.1.2).2 ⟨r,A,(k.g r A).cl w an x hw⟩
       rw[this] at B;simp at B
     have ag:((rng p.4.length).filter (λx=> !gi S x)).Nodup:=by
      refine List.Pairwise.filter _ ?_
      unfold rng
      rw[List.pairwise_map]
      exact List.nodup_range.imp λh e=>h (Int.ofNat.inj e)
     obtain⟨y,G,t⟩:=aIN L ag hU _ (List.mem_filter.2 ⟨zR.2 ⟨f.1,f.2.1⟩,by rw[f.2.2];rfl⟩)
     rw[List.mem_filter,zR] at G
     have R:y∈ls:=by
      rcases q8 with m|⟨b,o,N⟩
      ·exact absurd t (m y)
      ·obtain rfl:=Tn.l L o t
       rcases (Q b G.1.1 G.1.2).1 N with m|m
       ·rw[m] at G;simp at G
       ·exact m
     obtain⟨j,j0,j1,ej⟩:=iH R
     have aa:j=0:=by
      by_cases e:j=0
      ·exact e
      ·have K:=Z (j-1) om om
       rw[Int.sub_add_cancel,ej] at K
       have:=awC q1 (i:=j-1) (j:=ls.length-1) om om om om (Tn.r L K t)
       omega
     subst aa
    ·intro b o
     rw[Tn.l L o t];exact R
    ·intro a T
     rw[ej] at T
     rw[Tn.r L T t]
     exact dF (xs:=ls) (i:=ls.length-1) ⟨om,om⟩
  ·refine wp_loop (λx=>0<=x.1/\x.1<=p.4.length/\RInv p x.2.1 x.2.2/\(∀y:Int,0<=y->y<p.4.length->gi x.2.2 y=true->(∃w,Tn p w y)\/y<x.1)/\∀y:Int,0<=y->y<x.1->(∃w,Tn p w y)\/gi x.2.2 y=true) (λx=>(p.4.length-x.1).toNat)
    ⟨sm,sm,⟨sm,λx x0 D=>by dsimp only;rw[qm x0 (by simpa using D)];simp,λr A=>by simp at A,sm,λa b ae h=>(by have o:=Tn.bd E ae;dsimp only at h;rw[qm o.2.2.1 (by simpa using o.2.2.2)] at h;cases h)⟩,λy y0 u h=>(by dsimp only at h;rw[qm y0 (by simpa using u)] at h;cases h),λy a b=>by dsimp only at b;omega⟩ (by simp;omega) λc x ⟨C,i1,k,q,H⟩ O=>?_
   obtain⟨i,W,S⟩:=x
   dsimp only at C i1 k q H O
   unfold ao6
   dsimp only
   have Zt:=k.l
   have Zv:=k.len
   refine aB (λh=>?_) λh=>BM _ ⟨k,om,λy a b e=>(H y a om).resolve_right (by rw[e];decide)⟩
   refine av (λy=>RInv p y.1 y.2/\(∀z:Int,0<=z->z<p.4.length->gi y.2 z=true->(∃w,Tn p w z)\/z<i+1)/\∀z:Int,0<=z->z<i+1->(∃w,Tn p w z)\/gi y.2 z=true) (λy G=>ak (O _ ⟨om,om,G⟩ om)) λCB PU=>aA (aA (aR (λJ=>?_) λJ=>PU _ ⟨k,λz a b e=>(q z a b e).imp id (λh=>om),λz a b=>?_⟩))
   case refine_2=>
    by_cases e:z=i
    ·subst e;exact .inl ((f2 z a h).1 (by simpa using J))
    ·exact H z a om
   have X:¬∃w,Tn p w i:=λhw=>by have:=(f2 i C h).2 hw;rw[this] at J;cases J
   have P:gi S i=false:=by
    cases e:gi S i with
    |false=>rfl
    |true=>rcases q i C h e with m|m;exact absurd m X;omega
   refine av (λy=>RInv p (W++[⟨y.1,false⟩]) y.2/\∀z:Int,0<=z->z<p.4.length->(gi y.2 z=true↔gi S z=true\/z∈y.1)/\(z=i->z∈y.1)/\(z∈y.1->z=i\/∃w,Tn p w z)) (λy ⟨u,I⟩=>aW (PU _ ⟨u,λz a b e=>?_,λz a b=>?_⟩)) λRQ Ze=>aq2 M E hv Zt C h P λls S' q1 q2 Y Z q5 Q q7 q8=>Ze _ ⟨RInv.add L E k q1 q2 Z q5 Q q7 ?_ ?_,λz a b=>⟨Q z a b,λe=>e▸(Y▸dF (xs:=ls) (i:=0) ⟨om,om⟩:i∈ls),λhz=>?_⟩⟩
   ·rcases ((I z a b).1).1 e with m|m
    ·exact (q z a b m).imp id λh=>by omega
    ·rcases (I z a b).2.2 m with K|K
     ·exact .inr om
     ·exact .inl K
   ·by_cases e:z=i
    ·exact .inr (((I z a om).1).2 (.inr ((I z a om).2.1 e)))
    ·exact (H z a om).imp id λh=>((I z a om).1).2 (.inl h)
   ·intro b o
    have f:=q7 _ (dF (xs:=ls) (i:=ls.length-1) ⟨om,om⟩)
    rcases q8 with m|⟨b',af,N⟩
    ·exact absurd o (m b)
    ·obtain rfl:=Tn.l L af o
     have V:=Tn.bd E o
     rcases (Q b' V.2.2.1 V.2.2.2).1 N with m|m
     ·have:=k.pr _ _ o m;rw[f.2.2] at this;cases this
     ·exact m
   ·intro a T
    rw[Y] at T
    exact absurd ⟨a,T⟩ X
   ·obtain⟨j,j0,j1,rfl⟩:=iH hz
    dsimp only at j1 |-
    by_cases e:j=0
    ·subst e;exact .inl Y
    ·have:=Z (j-1) om om
     rw[Int.sub_add_cancel] at this
     exact .inr ⟨_,this⟩
 ·refine wp_loop (λx=>0<=x.1/\x.1<=p.6.length/\x.2.length=p.4.length/\∀y:Int,0<=y->y<p.4.length->(gi x.2 y=true↔∃j:Int,0<=j/\j<x.1/\(gi p.6 j).2=y)) (λx=>(p.6.length-x.1).toNat) ⟨sm,sm,sm,λy y0 u=>by dsimp only;rw[qm y0 (by simpa using u)];constructor;intro h;cases h;rintro⟨j,a,b,_⟩;omega⟩ (by simp;omega) λc x ⟨C,i1,k,q⟩ O=>?_
  unfold ao7
  refine aB (λh=>?_) λh=>Zh _ ⟨k,λy y0 u=>?_⟩
  ·have:=E x.1 C h
   refine aA (aA (aA (ak (O _ ⟨om,om,by simp;omega,λy y0 u=>?_⟩ om))))
   dsimp only
   rw[dU this.2.2.1 y0 om]
   split
   ·rename_i e;subst e
    exact⟨λ_=>⟨x.1,C,om,rfl⟩,λ_=>rfl⟩
   ·rename_i e
    rw[q y y0 u]
    constructor
    ·rintro⟨j,a,b,d⟩;exact⟨j,a,om,d⟩
    ·rintro⟨j,a,b,d⟩
     refine⟨j,a,?_,d⟩
     by_cases ej:j=x.1
     ·subst ej;exact absurd d.symm e
     ·omega
  ·rw[q y y0 u]
   constructor
   ·rintro⟨j,a,b,d⟩;exact⟨_,j,a,om,rfl,d⟩
   ·rintro⟨w,j,a,b,_,d⟩;exact⟨j,a,om,d⟩⟩
end
structure TT(l:Layout)(p:Plan)(n:Network)(aU:List (List aV))(run:List Int)(t:List Int):Prop where
 nb:NB l p n aU run
 ok:gK n
 tm:kK n t
 fe:rD n t
def Dp(p:Plan)(t:List Int)(d q:Int):Prop:=∃m,d=gi t (2*q)+p.1*m
def gD(p:Plan)(aU:List (List aV))(t:List Int)(W:List dO)(u:Use):Prop:=0<=u.2/\u.2<W.length/\∃i k d,bZ p i k/\i∈(gi W u.2).1/\Dp p t d (fst p i+k)/\∃o∈gi aU (fst p i+k),o.1=u.1/\d+o.2<=u.3/\u.3+u.4<=d+o.3
section
variable {l:Layout}{p:Plan}{n:Network}{aU:List (List aV)}{run t:List Int}
theorem avA(h:TT l p n aU run t){m:Int}(d:0<=m)(e:m<n.3.length){a:bE}(f:gi n.3 m=a): -65536<=a.4/\a.5<=65536/\0<=a.2/\a.2<t.length/\0<=a.3/\a.3<t.length/\∃x,(gi t a.3-gi t a.2-a.4) % n.1=x/\0<=x/\a.4+x<=a.5/\∃k,a.4+x=gi t a.3-gi t a.2+p.1*k:=by have h1:=h.ok.2.2.2.2 m d e;have h2:=h.fe m d e;have g:=h.nb.n1;have j:=h.tm.1;dsimp only at h2;rw[f] at h1 h2;have c:=aed h.ok (t:=t) (a:=a);obtain⟨_,_,k,i⟩:=yR (gi t a.3-gi t a.2-a.4) (b:=n.1) (by have:=h.ok.1;omega);unfold mW at h2 c;refine⟨om,om,om,om,om,om,_,rfl,c.1,om,-k,?_⟩;rw[Int.mul_neg,<-g];omega
theorem KY(h:TT l p n aU run t):2<=p.1/\p.1<=7200/\n.1=p.1:=by have:=h.ok;have:=h.nb.n1;exact⟨om,om,this⟩
theorem Dp.add{d q q' x k:Int}(h:Dp p t d q)(e:x=gi t (2*q')-gi t (2*q)+p.1*k):Dp p t (d+x) q':=by obtain⟨m,rfl⟩:=h;exact⟨m+k,by rw[Int.mul_add];omega⟩
theorem aep(h:TT l p n aU run t){m:Int}(h0:0<=m)(h1:m<t.length):0<=gi t m/\gi t m<7200:=by have h2:=h.tm.2 m h0 h1;have:=h.ok;dsimp only at h2;omega
theorem gD.app{W:List dO}{us more:List Use}(h:∀u∈us,gD p aU t W u)(a:∀u∈more,gD p aU t W u):∀u∈us++more,gD p aU t W u:=λu b=>(List.mem_append.1 b).elim (h u) (a u)
theorem aIs{r:bg}{s:bO}{T}(d:Bg (l,r,s)=some T)(h0:T.2.2.2=0):vV (l,r,s)=some (kF l r T 0 0,T.2.2.1,0):=by obtain⟨y,f,g,c,_,e⟩:=(s33 (l:=l) (r:=r) (s:=s) (b:=0) (a:=0)).h om;rw[d] at c;cases c;rw[if_pos h0] at e;unfold vV;dsimp only;rw[f,e];rfl
theorem aDF(h:TT l p n aU run t){i k:Int}(a:bZ p i k):∃T x,MC p i x/\vV (l,gi p.3 (gi (gi p.4 i).4 k).1,gi p.2 (gi p.4 i).2)=some (kF l (gi p.3 (gi (gi p.4 i).4 k).1) T 0 0,T.2.2.1,0)/\A8 l (gi p.3 (gi (gi p.4 i).4 k).1) T/\gi aU (fst p i+k)=kF l (gi p.3 (gi (gi p.4 i).4 k).1) T (if k=0 then 60 else 0) (aM p i k x)/\gi run (fst p i+k)=T.2.2.1/\0<=aM p i k x/\aM p i k x<=20000:=by obtain⟨f,b⟩:=h.nb.bc;have j:=b.ride a;obtain⟨x,q,T,g,h0,c,d,e⟩:=b.rg.2 i k a (by rw[b.ol];exact j.2);have m:=b.pv.2.2.2.1 i a.1 a.2.1;have o:=m.2.2.2.2.2.2.2 k a.2.2.1 a.2.2.2;have:=b.pv.1;refine⟨T,x,q,aIs g h0,c,d,e,?_⟩;unfold aM;split<;>omega
end
section
variable {l:Layout}{p:Plan}{n:Network}{aU:List (List aV)}{run t:List Int}{Q:List Use×Int->Prop}{W:List dO}
theorem aIq{O:List aV}(r:O.length<=144)(l:∀o∈O,-2000000000<=o.2/\o.2<o.3/\o.3<=2000000000){q:Network×Int}{b:Int×List Use}{j:Int}{bM:Int×Int×List Use}{v:Int×Int}(s:0<=bM.1/\bM.1<=1000000000000000){us:List Use}(a:us.length<=1000000){k:List Use->Option (List Use×Int)}(n:∀more:List Use,more.length<=144->(O≠[]->more≠[])->(∀u∈more,∃o∈O,u.1=o.1/\u.2=b.1/\u.3=bM.1+o.2/\u.4=o.3-o.2)->WP (k (us++more)) Q):WP (iter (KR q b j bM (O,v) k) FUEL (0,us)) Q:=by
 refine wp_loop (λx=>0<=x.1/\x.1<=O.length/\∃more:List Use,x.2=us++more/\(more.length:Int)=x.1/\∀u∈more,∃o∈O,u.1=o.1/\u.2=b.1/\u.3=bM.1+o.2/\u.4=o.3-o.2) (λx=>(O.length-x.1).toNat) ⟨sm,sm,[],sm,sm,sm⟩ om λc x ⟨d,t,more,e,f,g⟩ m=>?_;unfold KR;dsimp only;refine aB (λh=>?_) λh=>e▸n more om (λp i=>by have:=List.length_pos_iff.2 p;rw[i] at f;simp at f;omega) g;have ho:=l _ (dF ⟨d,h⟩);refine aA (ak (ak (aB (λh2=>xY (by rw[e];simp;omega) (ak (m _ ⟨om,om,more++[_],by dsimp only;rw[e,List.append_assoc],by simp;omega,λu a=>?_⟩ om))) λh2=>by omega)));rcases List.mem_append.1 a with a|a;·exact g u a
 ·rw[List.mem_singleton] at a;subst a;exact⟨_,dF ⟨d,h⟩,rfl,rfl,rfl,rfl⟩
theorem aC5{r:bg}{T}(h:A8 l r T):(kF l r T 0 0).length<=144/\(∀o∈kF l r T 0 0,-2000000000<=o.2/\o.2<o.3/\o.3<=2000000000)/\kF l r T 0 0≠[]:=by
 obtain⟨o,ho,_⟩:=aqo (b:=0) (a:=0) h om;have x:=h;obtain⟨G,v,y,z,j,K,w,A,B,d⟩:=h;refine⟨?_,λo ho=>?_,λe=>by rw[e] at ho;cases ho⟩;·unfold kF;refine Nat.le_trans (List.length_filter_le _ _) ?_;rw[pQ];omega
 ·have u:∀i:Int,0<=i->i<r.1.length-> -1000000<=eu T 0 i/\dS T 0 i<=1000001000:=λi C J=>by
   have I:=d (T.1.length-1) om om;unfold eu dS;constructor
   ·split;·omega
    ·split;·have:=d (i-1) om om;omega
     ·omega
   ·split;·have:=j i C om;omega
    ·split<;>omega
  obtain⟨h0,h1,h2,p⟩:=ao1 v ho
  have:∀m:Nat,m<=r.1.length->∀q:Int,0<=q-> -1000000<=(gi (tab l r T 0 0 m) q).2/\(gi (tab l r T 0 0 m) q).3<=1000001000:=by
   intro m
   induction m with
   |zero=>intro _ q _;rw[aem];decide
   |succ m D=>
    intro H q c;have k:=D om;have hs:=v.2.2.2.2 m om om;have hp:=KV (l:=l) (s:=gi r.1 (m-1)) (t:=gi r.1 m);have l1:=pQ (l:=l) (r:=r) (T:=T) (b:=0) (a:=0) m;have g:=u m om om
    have st:∀{f:List aV}{q' a b:Int},(∀q:Int,0<=q-> -1000000<=(gi f q).2/\(gi f q).3<=1000001000)->0<=q'->q'<f.length-> -1000000<=a->b<=1000001000->∀q:Int,0<=q-> -1000000<=(gi (jP f q' a b) q).2/\(gi (jP f q' a b) q).3<=1000001000:=λh1 h2 p E F q c=>by
     rw[Ew h2 p c];split;·have:=h1 _ h2;dsimp only;split<;>omega
     ·exact h1 q c
    unfold tab qX;dsimp only;have n:=st (q':=(gi r.1 m).1) k om om g.1 g.2;split;·exact n q c
    ·split;·exact n q c
     ·refine st n om (by rw[ug];omega) g.1 ?_ q c;split;·exact (u (m-1) om om).2
      ·exact g.2
  have:=this r.1.length (Nat.le_refl _) o.1 h0;rw[<-h2] at this;omega
end
section
variable {l:Layout}{p:Plan}{n:Network}{aU:List (List aV)}{run t:List Int}{Q:List Use×Int->Prop}{W:List dO}
theorem yN{β:Type}{Q:β->Prop}(h:TT l p n aU run t){m:Int}{a:bE}(f:0<=m/\m<n.3.length)(g:gi n.3 m=a){K:bE->Int->Option β}(r:∀x,-65536<=a.4->a.5<=65536->0<=x->a.4+x<=a.5->(∃k,a.4+x=gi t a.3-gi t a.2+p.1*k)->WP (K a x) Q):WP ((idx n.3 m).bind λb=>(idx t b.3).bind λc=>(idx t b.2).bind λd=>ah (aj (c-d))<|ah (aj (c-d-b.4))<|(jo (c-d-b.4,n.1)).bind λe=>ah (aj (b.4+e))<|K b e) Q:=by obtain⟨h1,h2,i,j,o,q,x,s,u,v,w⟩:=avA h f.1 f.2 g;obtain⟨y,z,A⟩:=KY h;have B:=aep h i j;have C:=aep h o q;refine bW f ?_;rw[g];refine aA (aA (ak (ak ?_)));rw[Gf om om,s];exact ak (r x h1 h2 u v w)
theorem aDG(h:TT l p n aU run t){f:List Int}(S:BC l p f aU run){v:List Int}(hv:A9 p v){M i j d0 N B gP:Int}{a3 us:List Use}(ae:0<=M/\M<W.length)(hi:0<=i/\i<p.4.length)(hm:i∈(gi W M).1)(hj:0<=j)(hd:Dp p t d0 (fst p i))(ap:0<=d0/\d0<=B)(bb:B<=100000000000000)(hN:(us.length:Int)<=N)(P5:N<=900000)(E:∀u∈us,gD p aU t W u){k:Int×List Use->Option (List Use×Int)}(hk:∀d F,(∀u∈F,gD p aU t W u)->(F.length:Int)<=N+2400->F≠[]->0<=d->d<=B+120000000000->(∀b,Tn p i b->Dp p t d (fst p b))->WP (k (d,F)) Q):WP (iter (KQ (l,p,t,true) (n,0) v (nR p,f) (M,a3) (gi W M) gP (d0,j,us) k i (gi p.2 (gi p.4 i).2) (gi p.4 i)) FUEL (d0,0,us)) Q:=by
 have g:=S.pv;have Z:=g.2.2.2.1 i hi.1 hi.2;have bn:=h.nb.ln;have hf:=S.f2 i hi.1 hi.2;have bi:=S.f1;have X:=IE g.2.2.2.1 hi.1 om;have P6:ai p p.4.length=2*nR p-p.4.length:=rfl;have QE:=S.Gq;obtain⟨p1,p2,p3⟩:=KY h;have bk:=Js g.1.2.2.2.2.2.2.2.2.2.2 hi.1 (show i<=p.4.length by omega);have a9:=g.1.2.2.2.1;have h5:p.5.length<=32:=g.1.2.2.2.2.1;have h6:p.6.length<=32:=g.1.2.2.2.2.2.1;refine wp_loop (λx=>0<=x.2.1/\x.2.1<=(gi p.4 i).4.length/\(x.2.1<(gi p.4 i).4.length->Dp p t x.1 (fst p i+x.2.1))/\(x.2.1=(gi p.4 i).4.length->∀b,Tn p i b->Dp p t x.1 (fst p b))/\0<=x.1/\x.1<=B+10000000000*x.2.1/\(x.2.2.length:Int)<=N+200*x.2.1/\(∀u∈x.2.2,gD p aU t W u)/\(1<=x.2.1->x.2.2≠[])) (λx=>((gi p.4 i).4.length-x.2.1).toNat) ⟨sm,sm,λ_=>by dsimp only;rwa [Int.add_zero],λe=>by dsimp only at e;omega,ap.1,om,om,E,λe=>by dsimp only at e;omega⟩ om λc x ⟨i0,i1,i2,i3,i4,i5,i6,i7,i8⟩ hc=>?_;obtain⟨d,q,us⟩:=x;dsimp only at i0 i1 i2 i3 i4 i5 i6 i7 i8 hc;unfold KQ;dsimp only;refine aB (λhq=>?_) λhq=>hk _ _ i7 om (i8 om) i4 om (i3 om);have U:bZ p i q:=⟨hi.1,hi.2,i0,hq⟩;have bo:=S.ride U;have hD:=i2 hq;have ab:=Z.2.2.2.2.2.2.2 q i0 hq;have iO:=g.2.2.1 _ ab.1 ab.2.1;obtain⟨T,x,hx,az,C,QD,H,Y,bj⟩:=aDF h U;have je:=aC5 C;have bh:0<=T.2.2.1/\T.2.2.1<=1000000001:=by obtain⟨_,_,_,_,_,te,s,r,z,_⟩:=C;omega
 have aa:=h.nb.pl i q U (.inl hi.2);have J:=NC g.2.2.2.1 U hi.2 (Int.le_refl _);have mk:∀{o:aV}{u:Use},o∈gi aU (fst p i+q)->o.1=u.1->u.2=M->d+o.2<=u.3->u.3+u.4<=d+o.3->gD p aU t W u:=λ{o u} ho s r z P=>⟨by rw[r];exact ae.1,by rw[r];exact ae.2,i,q,d,U,by rw[r];exact hm,hD,o,ho,s,z,P⟩;have a5:=Z.2.2.2.2.2.2.1;refine av (λy=>0<=y.1/\y.1<=B+10000000000*(q+1)/\(q+1<(gi p.4 i).4.length->Dp p t y.1 (fst p i+(q+1)))/\(q+1=(gi p.4 i).4.length->∀b,Tn p i b->Dp p t y.1 (fst p b))/\(y.2.length:Int)<=N+200*(q+1)/\(∀u∈y.2,gD p aU t W u)/\y.2≠[]) (λy ⟨y1,y2,y3,y4,y5,y6,y7⟩=>ak (hc _ ⟨om,om,y3,y4,y1,y2,y5,y6,λ_=>y7⟩ om)) λlq R=>aA (aA ?_);refine av (λy=>(y.length:Int)<=N+200*q+1/\∀u∈y,gD p aU t W u) (λbt ⟨u1,u2⟩=>?_) λCr O=>?_;case refine_2=>refine aR (λw=>?_) λ_=>O _ ⟨om,i7⟩;simp only[Bool.and_eq_true,decide_eq_true_eq] at w;obtain⟨o,ho,s,r,z⟩:=aqo (b:=60) (a:=aM p i q x) C om;rw[if_pos w.2] at QD;refine aA (ak (aW (O _ ⟨by simp;omega,gD.app i7 λu E=>?_⟩)));rw[List.mem_singleton] at E;subst E;exact mk (QD▸ho) s rfl om om
 rw[az,Option.bind_some];refine av (λy=>(y.length:Int)<=N+200*q+145/\(∀u∈y,gD p aU t W u)/\y≠[]) (λbu ⟨u3,u4,u5⟩=>?_) λqD af=>aR (λ_=>aIq je.1 je.2.1 om om λmore m1 m2 m3=>af _ ⟨by simp;omega,gD.app u2 λu E=>?_,λe=>m2 je.2.2 (List.append_eq_nil_iff.1 e).2⟩) λh=>by cases h
 case refine_2=>obtain⟨o,ho,s,r,z,P⟩:=m3 u E;obtain⟨o',aw,e5,e6,e7⟩:=aIt (b:=if q=0 then 60 else 0) (a:=aM p i q x) iO (by split<;>omega) Y ho;dsimp only at r z;exact mk (QD▸aw) (by rw[e5,s]) r om om
 refine aA ?_;rw[hf];refine ak (ak (ak (ak ?_)));refine yN (a:=tX p run i q) h (by have:2*fst p i-i+2*q+1<=ai p p.4.length:=J.1;have:0<=2*fst p i-i:=X;omega) aa.1 λx1 _ _ x0 a1 ⟨k1,aq⟩=>?_;have K:∀e:Int,e-d-T.2.2.1<=aM p i q x->gD p aU t W ⟨(gi (gi p.3 (gi (gi p.4 i).4 q).1).1 ((gi p.3 (gi (gi p.4 i).4 q).1).1.length-(gi p.3 (gi (gi p.4 i).4 q).1).2-1)).1,M,d+T.2.2.1,e-d-T.2.2.1,IntKind.i64.wrap (gP.tdiv n.1)⟩:=λe he=>by obtain⟨o,ho,s,r,z⟩:=aIK (b:=if q=0 then 60 else 0) (a:=aM p i q x) C Y;exact mk (QD▸ho) s rfl om om
 have XY:(tX p run i q).4=T.2.2.1:=H;have ao:(tX p run i q).5=T.2.2.1+(gi (gi p.4 i).4 q).2:=by show gi run (fst p i+q)+_=_;rw[H]
 have ag:(tX p run i q).2=2*(fst p i+q):=rfl;have an:(tX p run i q).3=2*(fst p i+q)+1:=rfl;rw[XY,ao] at a1;rw[XY,ag,an] at aq;rw[XY];have br:T.2.2.1<=T.2.2.1+x1:=by omega
 generalize T.2.2.1+x1=y1 at*;have a6:0<=2*fst p i-i:=X;have a8:2*fst p i-i+2*q+1<=ai p p.4.length:=J.1;have be:0<=y1/\y1<=1000010000:=by omega
 refine ak (av (λe=>0<=e/\e<=B+10000000000*(q+1)/\(q+1<(gi p.4 i).4.length->Dp p t e (fst p i+(q+1)))/\(q+1=(gi p.4 i).4.length->∀b,Tn p i b->Dp p t e (fst p b))/\e-d-T.2.2.1<=aM p i q x) (λe ⟨s,r,z,P,e5⟩=>?_) λR6 Zm=>aA (ak (aB (λax=>?_) λax=>bW (by have:=hv.1;omega) (aB (λaE=>?_) λaE=>?_))));·dsimp only;refine ak (ak (aA (ak (ak (ak (aB (λ_=>aW (R _ ⟨s,r,z,P,by simp;omega,gD.app u4 λu E=>?_,sm⟩)) λ_=>R _ ⟨s,r,z,P,om,u4,u5⟩))))));rw[List.mem_singleton] at E;subst E;exact K e e5
 ·have V:bZ p i (q+1):=⟨hi.1,hi.2,om,om⟩;have a7:2*fst p i-i+2*q+1<ai p p.4.length:=J.2 V;refine aA ?_;rw[hf];refine ak (ak (ak (ak (ak ?_))));refine yN (a:=yg p i q) h om (aa.2 V) λx2 _ _ a4 L ⟨k2,A⟩=>?_;have I:(yg p i q).4=(gi (gi p.4 i).4 q).3:=rfl;have X3:(yg p i q).5=(gi (gi p.4 i).4 q).4:=rfl;have XZ:(yg p i q).2=2*(fst p i+q)+1:=rfl;have X0:(yg p i q).3=2*(fst p i+q+1):=rfl;rw[I,X3] at L;rw[I,XZ,X0] at A;rw[I];have a2:(gi (gi p.4 i).4 q).3<=(gi (gi p.4 i).4 q).3+x2:=by omega
  generalize (gi (gi p.4 i).4 q).3+x2=y2 at*;have G:aM p i q x=(gi (gi p.4 i).4 q).2+(gi (gi p.4 i).4 q).4:=by unfold aM;rw[if_neg om]
  refine ak (Zm _ ⟨om,om,λ_=>?_,λh=>om,om⟩);rw[Int.add_assoc d];refine hD.add (k:=k1+k2) ?_;rw[Int.mul_add p.1,show fst p i+(q+1)=fst p i+q+1 by omega];omega
 ·rcases hv.2 i hi.1 hi.2 with m|m;·omega
  ·have bp:=g.2.2.2.2.2.1 _ m.1 m.2.1;refine ak (ak (ak (bW (by have:=hv.1;omega) (ak ?_))));refine yN (a:=yJ p (gi v i)) h om (by rw[<-P6];exact h.nb.tu _ m.1 m.2.1) λx2 _ _ a4 L ⟨k2,A⟩=>?_;have I:(yJ p (gi v i)).4=(gi p.6 (gi v i)).3:=rfl;have X3:(yJ p (gi v i)).5=(gi p.6 (gi v i)).4:=rfl;have XZ:(yJ p (gi v i)).2=2*(fst p i+((gi p.4 i).4.length-1))+1:=by unfold yJ;rw[m.2.2]
   have X0:(yJ p (gi v i)).3=2*fst p (gi p.6 (gi v i)).2:=rfl;rw[I,X3] at L;rw[I,XZ,X0] at A;rw[I];have a2:(gi p.6 (gi v i)).3<=(gi p.6 (gi v i)).3+x2:=by omega
   generalize (gi p.6 (gi v i)).3+x2=y2 at*;have D:q=(gi p.4 i).4.length-1:=by omega
   have G:aM p i q x=(gi (gi p.4 i).4 q).2+x:=by unfold aM;rw[if_pos D]
   have bm:=hx.2.2 _ m.1 m.2.1 m.2.2;refine ak (Zm _ ⟨om,om,λh=>om,λ_ b hb=>?_,om⟩);rw[Tn.l g.2.2.2.2.2.2.1 hb ⟨_,m.1,m.2.1,m.2.2,rfl⟩,Int.add_assoc d];refine hD.add (k:=k1+k2) ?_;rw[Int.mul_add p.1];rw[<-D] at A;omega
 ·rcases hv.2 i hi.1 hi.2 with m|m
  ·have D:q=(gi p.4 i).4.length-1:=by omega
   have G:aM p i q x=(gi (gi p.4 i).4 q).2+x:=by unfold aM;rw[if_pos D]
   exact ak (Zm _ ⟨om,om,λh=>om,λ_ b hb=>absurd hb (m.2 b),by have:=hx.1;omega⟩)
  ·omega
end
theorem asX{c b bM a k}:KR c b 0 bM a k=acZ b bM a k:=by
 funext K s;have hw:IntKind.i64.wrap 0=0:=by decide
 simp only[KR,acZ,Int.zero_tdiv,hw]
theorem as5{p i j f g a e h b c d}:KQ p i j f g a 0 e h b c d=acY p i j f g a e h b c d:=by
 funext K s;have hw:IntKind.i64.wrap 0=0:=by decide
 simp only[KQ,acY,Int.zero_tdiv,hw,asX]
theorem as4{p e f c b d a}:KP p e f c b d a 0=acX p e f c b d a:=by funext K s;simp only[KP,acX,as5]
section
variable {l:Layout}{p:Plan}{n:Network}{aU:List (List aV)}{run t:List Int}{Q:List Use×Int->Prop}{W:List dO}
theorem Ig.len{r:dO}(h:Ig p r)(a:p.4.length<=16):r.1.length<=16:=by have:=KN h.nd (m:=rng 16) (λx b=>zR.2 (by have:=h.bd x b;omega));simpa [rng] using this
theorem aod(h:TT l p n aU run t){f:List Int}(s:BC l p f aU run){v:List Int}(Y:A9 p v)(F:vJ p W){a d0 N R:Int}{E us:List Use}(i:0<=a/\a<W.length)(S:Dp p t d0 (fst p (gi (gi W a).1 0)))(z:0<=d0/\d0<=7200)(hN:(us.length:Int)<=N)(P5:N<=800000)(X:∀u∈us,gD p aU t W u){k:Int×List Use->Option (List Use×Int)}(T:∀b,(∀u∈b,gD p aU t W u)->(b.length:Int)<=N+40000->b≠[]->WP (k (a+1,b)) Q):WP (iter (KP (l,p,t,true) (n,0) v (nR p,f) k (a,E) (gi W a) R) FUEL (d0,0,us)) Q:=by have m:=F.g _ (dF i);have q:p.4.length<=16:=s.pv.1.2.2.2.1;have hl:=m.len q;have U:=m.n;have Zv:=F.l;refine wp_loop (λx=>0<=x.2.1/\x.2.1<=(gi W a).1.length/\(x.2.1<(gi W a).1.length->Dp p t x.1 (fst p (gi (gi W a).1 x.2.1)))/\0<=x.1/\x.1<=7200+120000000000*x.2.1/\(x.2.2.length:Int)<=N+2400*x.2.1/\(∀u∈x.2.2,gD p aU t W u)/\(1<=x.2.1->x.2.2≠[])) (λx=>((gi W a).1.length-x.2.1).toNat) ⟨sm,sm,λ_=>S,z.1,om,om,X,λe=>by dsimp only at e;omega⟩ om λc x ⟨o,Z,I,J,K,L,D,M⟩ G=>?_;obtain⟨d,j,us⟩:=x;dsimp only at o Z I J K L D M G;unfold KP;dsimp only;refine aB (λA=>?_) λA=>ak (T _ D om (M om));have H:=dF ⟨o,A⟩;have w:=m.bd _ H;have V:=s.pv.2.2.2.1 _ w.1 w.2;refine av (λy=>0<=y.1/\y.1<=7200+120000000000*(j+1)/\(j+1<(gi W a).1.length->Dp p t y.1 (fst p (gi (gi W a).1 (j+1))))/\(y.2.length:Int)<=N+2400*(j+1)/\(∀u∈y.2,gD p aU t W u)/\y.2≠[]) (λy ⟨y1,y2,y3,y4,y5,y6⟩=>ak (G _ ⟨om,om,y3,y1,y2,y4,y5,λ_=>y6⟩ om)) λsN r=>aA (aA (aA (aA ?_)));refine aDG h s Y i w H o (I A) (B:=7200+120000000000*j) (N:=N+2400*j) ⟨J,K⟩ om L om D λd' b u1 u2 u3 O d2 P=>r _ ⟨O,om,λC=>P _ (m.ch j o C),om,u1,u3⟩
theorem aCC(h:TT l p n aU run t){f:List Int}(j:BC l p f aU run){v:List Int}(D:A9 p v){i d0 B:Int}(hi:0<=i/\i<p.4.length)(hd: -B<=d0/\d0<=B)(N:B<=1000000000){k:Int->Option (List Use×Int)}(S:∀d,-(B+2400000)<=d->d<=B+2400000->WP (k d) Q):WP (iter (acW (l,p,t,true) (n,0) v (nR p,f) k i (gi p.4 i)) FUEL (d0,0)) Q:=by
 have b:=j.pv;have A:=b.2.2.2.1 i hi.1 hi.2;have o:=j.f2 i hi.1 hi.2;have P:=j.f1;have r:=IE b.2.2.2.1 hi.1 (show i<=p.4.length by omega);have O:0<=2*fst p i-i:=r;have J:ai p p.4.length=2*nR p-p.4.length:=rfl;have Y:=j.Gq;have R:=Js b.1.2.2.2.2.2.2.2.2.2.2 hi.1 (show i<=p.4.length by omega);have M:=b.1.2.2.2.1;have Z:p.5.length<=32:=b.1.2.2.2.2.1;have h6:p.6.length<=32:=b.1.2.2.2.2.2.1;have T:=h.nb.ln;have G:=A.2.2.2.2.2.2.1;refine wp_loop (λx=>0<=x.2/\x.2<=(gi p.4 i).4.length/\ -(B+200000*x.2)<=x.1/\x.1<=B+200000*x.2) (λx=>((gi p.4 i).4.length-x.2).toNat) ⟨sm,sm,om,om⟩ om λc x ⟨H,U,V,W⟩ m=>?_;obtain⟨d,q⟩:=x;dsimp only at H U V W m;unfold acW;dsimp only;refine aB (λF=>?_) λF=>S _ om om;have z:bZ p i q:=⟨hi.1,hi.2,H,F⟩;have e:=h.nb.pl i q z (.inl hi.2);have u:=(NC b.2.2.2.1 z hi.2 (Int.le_refl _)).1;have L:2*fst p i-i+2*q+1<=ai p p.4.length:=u;have s:=(NC b.2.2.2.1 z hi.2 (Int.le_refl _)).2;refine aA (ak (aB (λC=>?_) λC=>bW (by have:=D.1;omega) (aB (λE=>?_) λE=>?_)));·have g:bZ p i (q+1):=⟨hi.1,hi.2,om,om⟩;have w:=s g;have K:2*fst p i-i+2*q+1<ai p p.4.length:=w;refine aA ?_;rw[o];refine ak (ak (ak (ak (ak ?_))));refine yN (a:=yg p i q) h om (e.2 g) λX _ _ _ _ _=>?_;refine aA ?_;rw[o];refine ak (ak (ak (ak ?_)));refine yN (a:=tX p run i q) h om e.1 λI _ _ _ _ _=>?_;exact ak (ak (ak (m _ ⟨om,om,om,om⟩ om)))
 ·rcases D.2 i hi.1 hi.2 with y|y;·omega
  ·refine ak (ak (ak (bW (by have:=D.1;omega) (ak ?_))));refine yN (a:=yJ p (gi v i)) h om (by rw[<-J];exact h.nb.tu _ y.1 y.2.1) λX _ _ _ _ _=>?_;refine aA ?_;rw[o];refine ak (ak (ak (ak ?_)));refine yN (a:=tX p run i q) h om e.1 λI _ _ _ _ _=>?_;exact ak (ak (ak (m _ ⟨om,om,om,om⟩ om)))
 ·refine aA ?_;rw[o];refine ak (ak (ak (ak ?_)));refine yN (a:=tX p run i q) h om e.1 λI _ _ _ _ _=>?_;exact ak (ak (ak (m _ ⟨om,om,om,om⟩ om)))
theorem aCD(h:TT l p n aU run t){f:List Int}(b:BC l p f aU run){v:List Int}(w:A9 p v){r:dO}(i:Ig p r){k:Int->Option (List Use×Int)}(u:∀d,WP (k d) Q):WP (iter (acV (l,p,t,true) (n,0) v (nR p,f) r k) FUEL (0,0)) Q:=by have D:=i.len b.pv.1.2.2.2.1;refine wp_loop (λx=>0<=x.2/\x.2<=r.1.length/\ -(2400000*x.2)<=x.1/\x.1<=2400000*x.2) (λx=>(r.1.length-x.2).toNat) ⟨sm,sm,om,om⟩ om λc x ⟨m,z,o,q⟩ e=>?_;obtain⟨d,j⟩:=x;dsimp only at m z o q e;unfold acV;dsimp only;refine aB (λg=>?_) λg=>u _;have s:=i.bd _ (dF ⟨m,g⟩);refine av (λy=> -(2400000*(j+1))<=y/\y<=2400000*(j+1)) (λy ⟨F,G⟩=>ak (e _ ⟨om,om,om,om⟩ om)) λE a=>aA (aA ?_);exact aCC h b w s (B:=2400000*j) ⟨o,q⟩ om λd A C=>a _ ⟨om,om⟩
end
theorem awG{n:Network}{t:List Int}(h:kQ n=some true)(a:kK n t):sU (n,t)=some true:=by
 have m:=acL h;suffices WP (sU (n,t)) λb=>b=true by obtain⟨b,f,rfl⟩:=this;exact f
 unfold sU;dsimp only;rw[h,Option.bind_some];refine aR (λh=>?_) λ_=>av (λ_=>True) (λ_ _=>aD rfl) λk j=>?_
 ·simp only[Bool.or_eq_true,Bool.not_eq_true',decide_eq_false_iff_not] at h;have:=a.1;rcases h with h|h;·cases h
  ·omega
 ·refine wp_loop (λi=>0<=i/\i<=t.length) (λi=>(t.length-i).toNat) ⟨om,om⟩ (by have:=a.1;omega) λc i ⟨l,o⟩ g=>?_;unfold acP;dsimp only;refine aB (λd=>aA (aR (λe=>?_) λ_=>mZ (by have:=a.1;omega) (g _ ⟨om,om⟩ om))) λd=>j _ trivial;have:=a.2 i l d;simp only[Bool.or_eq_true,decide_eq_true_eq] at e;omega
theorem ava{n:Network}{b:Int}{y}(h:Gx (n,b)=some y)(h0:y.2.2.2=0):kQ n=some true:=by obtain⟨v,a,_⟩:=(s73 (n:=n)).h trivial;unfold Gx Gy at h;dsimp only at h;rw[a,Option.bind_some] at h;cases v with|true=>exact a|false=>simp at h;subst h;exact absurd h0 dc
section
variable {l:Layout}{p:Plan}{n:Network}{t:List Int}
theorem aI6(Z:sS (l,p)=some (n,0))(hc:kQ n=some true)(Y:kK n t)(U:rD n t)(V:1<=p.4.length):WP (Ta (l,p,t)) λy=>y.2=0/\y.1≠[]/\y.1.length<=640000/\∃aU run W,TT l p n aU run t/\vJ p W/\∀u∈y.1,gD p aU t W u:=by
 obtain⟨_,N,hs⟩:=(mR (l:=l) (p:=p)).h trivial;rw[Z] at N;cases N;obtain⟨aU,run,Q,z⟩:=hs rfl;have z:NB l p n aU run:=z;have h:TT l p n aU run t:=⟨z,acL hc,Y,U⟩;obtain⟨f0,C⟩:=z.bc;have o:=C.pv;have K:p.4.length<=16:=o.1.2.2.2.1;have L:p.6.length<=32:=o.1.2.2.2.2.2.1;have J:=o.1.2.2.2.2.2.2.2.2.2.2;unfold Ta acU;dsimp only;suffices WP ((sS (l,p)).bind _) λy:List Use×Int=>y.2=0/\y.1≠[]/\y.1.length<=640000/\∃aU run W,TT l p n aU run t/\vJ p W/\∀u∈y.1,gD p aU t W u from wp_bind _ this λy hy=>aD hy;rw[Z,Option.bind_some];refine aR (λh=>absurd h sm) λ_=>?_;rw[awG hc Y,Option.bind_some];refine aR (λh=>absurd h sm) λ_=>?_;refine aP ⟨K,L,o.2.2.2.2.2.1⟩ λv X=>av (λj:Int×List Int=>j.1=nR p/\BC l p j.2 aU run) (λj ⟨j1,D⟩=>?_) λo7 T=>?_
 ·obtain⟨aw,f⟩:=j;dsimp only at j1 D;subst j1;refine av (λus:List Use=>us≠[]/\us.length<=640000/\∃W,vJ p W/\∀u∈us,gD p aU t W u) (λus ⟨u1,u2,W,u3,u4⟩=>aD ⟨rfl,u1,u2,aU,run,W,h,u3,u4⟩) λk5 h5=>?_;refine aP ⟨K,L,o.2.2.2.2.2.1,o.2.2.2.2.2.2.1⟩ λW F=>?_;have Zv:=F.l;have ab:=List.length_pos_iff.2 (F.n V);refine wp_loop (λx=>0<=x.1/\x.1<=W.length/\(x.2.length:Int)<=40000*x.1/\(∀u∈x.2,gD p aU t W u)/\(1<=x.1->x.2≠[])) (λx=>(W.length-x.1).toNat) ⟨sm,sm,sm,sm,λe=>by dsimp only at e;omega⟩ om λc x ⟨B,R,G,H,I⟩ r=>?_;obtain⟨E,us⟩:=x;dsimp only at B R G H I r;unfold ao5;dsimp only;refine aB (λO=>bW ⟨B,O⟩ ?_) λO=>h5 _ ⟨I om,om,W,F,H⟩;have Q:=F.g _ (dF ⟨B,O⟩);have ap:=Q.n;have q:=Q.bd _ (dF (xs:=(gi W E).1) (i:=0) om);have ag:=o.2.2.2.1 _ q.1 q.2;have hf:=D.f2 _ q.1 q.2;have ae:=D.f1;have dz:=D.ride (i:=gi (gi W E).1 0) (k:=0) ⟨q.1,q.2,om,om⟩;have QE:=D.Gq;have an:=z.n2;have aq:=Y.1;have P:=aep h (m:=2*fst p (gi (gi W E).1 0)) om om;have M:Dp p t (gi t (2*fst p (gi (gi W E).1 0))) (fst p (gi (gi W E).1 0)):=⟨0,om⟩;have aa:=(h.ok).1;have w:∀A,(∀u∈A,gD p aU t W u)->(A.length:Int)<=40000*E+40000->A≠[]->WP (c (E+1,A)) _:=λA a b d=>r _ ⟨om,om,om,a,λ_=>d⟩ om;refine aR (λ_=>aA (aA ?_)) λ_=>av (λ_=>True) (λgP _=>fB (by simp;omega) (aA (aA ?_))) λRx S=>aCD h D X Q λd=>S d trivial;·rw[hf,<-as4];exact ak (aA (aod h D X F ⟨B,O⟩ M ⟨P.1,om⟩ G om H w))
  ·rw[hf];exact ak (aA (aod h D X F ⟨B,O⟩ M ⟨P.1,om⟩ G om H w))
 ·refine wp_loop (λx=>0<=x.2.1/\x.2.1<=p.4.length/\x.1=fst p x.2.1/\(x.2.2.length:Int)=x.2.1/\∀j:Int,0<=j->j<x.2.1->gi x.2.2 j=fst p j) (λx=>(p.4.length-x.2.1).toNat) ⟨sm,sm,rfl,sm,λj a b=>by dsimp only at b;omega⟩ om λc x ⟨B,R,G,H,I⟩ r=>?_;obtain⟨s,i,f⟩:=x;dsimp only at B R G H I r;subst G;unfold ao4;dsimp only;have af:=Js J B R;refine aB (λhi=>?_) λhi=>T _ ⟨by rw[show i=p.4.length by omega],o,om,λj a b=>I j a om,C.Gq,C.ol,C.rg⟩;have hs:=BG (p:=p) B;have ao:=J i B hi;refine aA (aW (ak (ak (r _ ⟨om,om,om,by simp;omega,λj a b=>?_⟩ om))));dsimp only;rw[fP a];split;·exact I j a om
  ·dsimp only at b;rw[show j-f.length=0 by omega,show j=i by omega];rfl
end
end Go.Z
