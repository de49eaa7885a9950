/- Several parts of the engine, one behind the other. -/
import Derived.Test.YtlbfmjolchehbaaGreatDoorK1
import Derived.Test.YtlbfmjolchehbaaGreatDoorMoc
set_option linter.all false
namespace Go.Z
open Go Go.Proofs Go.Dc Go.R
abbrev AJ(l:Layout)(s:Section):Prop:=s.1.l.length<=12/\1<=s.2/\s.2<=400/\1000<=s.3/\s.3<=100000/\ -40<=s.4/\s.4<=40/\ -1<=s.5/\s.5<l.1.length
abbrev Ay(l:Layout)(k:Link):Prop:=0<=k.1/\k.1<l.3.length/\0<=k.3/\k.3<l.3.length/\0<=k.2/\k.2<=1/\0<=k.4/\k.4<=1/\ -1<=k.5/\k.5<l.2.length/\0<=k.6/\k.6<=1
abbrev LV(l:Layout):Prop:=(l.1.length<=24/\l.2.length<=48/\1<=l.3.length/\l.3.length<=96/\l.4.length<=192)/\(All l.1 λs=>s.l.length<=12)/\(All l.2 λs=>s.l.length<=12)/\All l.3 (AJ l)/\All l.4 (Ay l)
instance aOJ{p}:Spec (U2 p) True λ_=>True:=⟨λ_=>⟨_,rfl,trivial⟩⟩
instance aOK{p}:Spec (U1 p) True λb=>b=(decide (48<=p)&&decide (p<=57)):=⟨λ_=>⟨_,rfl,rfl⟩⟩
instance aN7{p}:nu (λk=>iter (aeR p k) FUEL 0) (p.l.length<=12) (λ_=>True) (λ_=>True):=⟨λhp Q k a d=>
 wp_loop (λi=>0<=i/\i<=p.l.length) (λi=>(p.l.length-i).toNat) om om λc i h b=>by
  unfold aeR;exact go⟩
instance qR{p}:Spec (Ai p) True λb=>b=true->p.l.length<=12:=⟨λ_=>by
 unfold Ai;exact go⟩
instance qV{l s}:Spec (acC (l,s)) (s.1.l.length<=12) λb=>b=true->AJ l s:=⟨λa=>aD λh=>by
 simp only[Bool.and_eq_true,decide_eq_true_eq] at h
 unfold AJ;omega⟩
instance aOh{l k}:Spec (acB (l,k)) True λb=>b=true->Ay l k:=⟨λ_=>aD λh=>by
 simp only[Bool.and_eq_true,Bool.or_eq_true,decide_eq_true_eq] at h
 unfold Ay;omega⟩
instance aOi{p}:Spec (Ky p) True λr=>r.1.1=p.1/\r.1.2=p.2/\r.2.1=p.3/\r.2.2=p.4:=⟨λ_=>aD ⟨rfl,rfl,rfl,rfl⟩⟩
instance aOj{p}:Spec (Kw p) (-1000000<=p.1/\p.1<=1000000/\ -1000000<=p.2/\p.2<=1000000) λr=>r=2*p.1+p.2:=⟨λh=>by
 unfold Kw;exact go⟩
instance aN8{p}:nu (λk=>iter (acA p k) FUEL 0) (p.1.length<=1000000) (λ_=>True) (λ_=>True):=⟨λhp Q k a d=>
 wp_loop (λi=>0<=i/\i<=p.1.length) (λi=>(p.1.length-i).toNat) om om λc i h b=>by
  unfold acA;exact go⟩
instance aOk{l a b}:Spec (Sr (l,a,b)) (l.length<=1000000) λ_=>True:=⟨λc=>by
 unfold Sr;exact go⟩
instance Dt{p}:Spec (KA p) True λ_=>True:=⟨λa=>by
 unfold KA;exact go⟩
instance l47{p:Layout}:nu (λk=>iter (acz p k) FUEL ((0:Int),List.replicate ((2:Int)*(↑p.3.length:Int)).toNat [])) (p.3.length<=96/\p.4.length<=192) (λr=>r≠0) (λ_=>All p.4 (Ay p)):=⟨λhp Q k v z=>
 wp_loop (λs=>0<=s.1/\s.1<=p.4.length/\s.2.length=2*p.3.length/\All s.2 (λl=>l.length<=2*s.1)/\bB p.4 s.1 (Ay p)) (λs=>(p.4.length-s.1).toNat)
  ⟨sm,sm,by simp;omega,All.rep sm,bB.zero sm⟩ (by simp;omega) λc s ⟨h0,h1,h2,a,d⟩ w=>by
  unfold acz
  refine aB (λh=>?_) (λh=>z _ (d.mono om))
  refine av (λe=>e.length=2*p.3.length/\All e (λl=>l.length<=2*s.1+2)/\Ay p (gi p.4 s.1)) (λe ⟨m,n,o⟩=>?_) (λD t=>?_)
  ·exact ak (w _ ⟨om,om,m,n.imp λx g=>om,d.succ o⟩ om)
  refine aA (rA trivial (aD (v _ dc)) λb=>?_)
  refine aP trivial λe B=>?_
  refine aP om λi C=>aA (aP om λj y=>aA ?_)
  have E:=a i om om
  refine av (λ_=>True) (λ_ _=>?_) (λA q=>?_)
  ·have f:All (s.2.set i.toNat (gi s.2 i++[gi p.4 s.1])) λl=>l.length<=2*s.1+1:=All.set (bB.imp a λx g=>om) (by simp;omega) om om
   have u:=f j om (by simp;omega)
   exact aA (aA (aW (xZ rfl (aA (bW (by simp;omega) (bW (by simp;omega) (aW (xZ rfl (bW (by simp;omega) (t _ ⟨by simp;omega,All.set (bB.imp f λx g=>om) (by simp;omega) om (by simp;omega),b⟩))))))))))
  ·have F:=a j om om
   exact go⟩
instance lJ{p}:Spec (Sn p) (p.3.length<=96/\p.4.length<=192) λr=>r=0->All p.4 (Ay p):=⟨λh=>by
 unfold Sn
 exact ak (iJ om (Aj h (λy b e=>absurd e b) λx a=>aD λ_=>a))⟩
instance aOa{p:Layout}:nu (λk=>iter (acs p k) FUEL (0,[])) (p.1.length<=24) (λr=>r≠0) (λ_=>All p.1 λs=>s.l.length<=12):=⟨λhp Q k a d=>
 wp_loop (λs=>0<=s.1/\s.1<=p.1.length/\bB p.1 s.1 λs=>s.l.length<=12) (λs=>(p.1.length-s.1).toNat) ⟨sm,sm,bB.zero sm⟩ (by simp;omega) λc s ⟨h0,h1,h2⟩ b=>by
  unfold acs;exact go⟩
instance aOb{p:Layout}:nu (λk=>iter (acr p k) FUEL (0,[])) (p.2.length<=48) (λr=>r≠0) (λ_=>All p.2 λs=>s.l.length<=12):=⟨λhp Q k a d=>
 wp_loop (λs=>0<=s.1/\s.1<=p.2.length/\bB p.2 s.1 λs=>s.l.length<=12) (λs=>(p.2.length-s.1).toNat) ⟨sm,sm,bB.zero sm⟩ (by simp;omega) λc s ⟨h0,h1,h2⟩ b=>by
  unfold acr;exact go⟩
instance aOc{p:Layout}:nu (λk=>iter (acu p k) FUEL (0,[])) (p.3.length<=96) (λr=>r≠0) (λ_=>All p.3 (AJ p)):=⟨λhp Q k a d=>
 wp_loop (λs=>0<=s.1/\s.1<=p.3.length/\bB p.3 s.1 (AJ p)) (λs=>(p.3.length-s.1).toNat) ⟨sm,sm,bB.zero sm⟩ (by simp;omega) λc s ⟨h0,h1,h2⟩ b=>by
  unfold acu;exact go⟩
instance bF{p}:Spec (uW p) True λr=>r=0->LV p:=⟨λ_=>by
 unfold uW
 refine av (λ_=>p.1.length<=24/\p.2.length<=48/\1<=p.3.length/\p.3.length<=96/\p.4.length<=192) (λ_ b=>?_) (λk c=>?_)
 ·refine av (λ_=>(All p.1 λs=>s.l.length<=12)/\All p.2 λs=>s.l.length<=12) (λ_ h=>Aj b.2.2.2.1 (λy a e=>absurd e a) λ_ d=>aP om λv f=>aD λe=>⟨b,h.1,h.2,d,f e⟩) (λk c=>?_)
  exact Aj b.1 (λy a e=>absurd e a) λ_ h1=>ak (Aj b.2.1 (λy a e=>absurd e a) λ_ h2=>ak (c _ ⟨h1,h2⟩))
 ·exact go⟩
abbrev tZ(l:Layout)(s:Step):Prop:=0<=s.1/\s.1<l.3.length/\0<=s.2/\s.2<=1
abbrev RV(l:Layout)(r:bg):Prop:=r.1.length<=24/\0<=r.2/\r.2<=2/\r.2+2<=r.1.length/\All r.1 (tZ l)
abbrev rG(s:bO):Prop:=1<=s.2/\s.2<=40/\1000<=s.3/\s.3<=100000/\100<=s.4/\s.4<=2000/\100<=s.5/\s.5<=2000
instance aOL{p}:Spec (yP p) True λb=>b=true->rG p:=⟨λ_=>aD λh=>by
 simp only[Bool.and_eq_true,decide_eq_true_eq] at h
 unfold rG;omega⟩
instance aPd{l s}:Spec (adL (l,s)) True λb=>b=true->tZ l s:=⟨λ_=>aD λh=>by
 simp only[Bool.and_eq_true,Bool.or_eq_true,decide_eq_true_eq] at h
 unfold tZ;omega⟩
instance jw{p}:Spec (Ll p) True λ_=>True:=⟨λ_=>by unfold Ll;exact go⟩
instance aPi{p}:Spec (Sm p) True λ_=>True:=⟨λ_=>by unfold Sm;exact go⟩
instance aOf{p:Layout×Step×Step}{a b}:nu (λk=>iter (adP p a b k) FUEL 0) (p.1.4.length<=192) (λ_=>True) (λ_=>True):=⟨λhp Q k d f=>
 wp_loop (λi=>0<=i/\i<=p.1.4.length) (λi=>(p.1.4.length-i).toNat) om om λc i h e=>by
  unfold adP;exact go⟩
instance aPe{l s t}:Spec (Ua (l,s,t)) (l.4.length<=192) λ_=>True:=⟨λh=>by unfold Ua;dsimp only;exact go⟩
instance aOd{p:Layout×bg}:nu (λk=>iter (adN p k) FUEL 0) (p.2.1.length<=24) (λr=>r.2≠0) (λ_=>All p.2.1 (tZ p.1)):=⟨λhp Q k a d=>
 wp_loop (λi=>0<=i/\i<=p.2.1.length/\bB p.2.1 i (tZ p.1)) (λi=>(p.2.1.length-i).toNat) ⟨om,om,bB.zero om⟩ om λc i ⟨h0,h1,h2⟩ b=>by
  unfold adN;exact go⟩
instance aOe{p:Layout×bg}:nu (λk=>iter (adM p k) FUEL ((0:Int),List.replicate (↑p.1.3.length:Int).toNat false)) (p.2.1.length<=24/\All p.2.1 (tZ p.1)) (λr=>r.2≠0) (λ_=>True):=⟨λ⟨hp,e⟩ Q k a d=>
 wp_loop (λs=>0<=s.1/\s.1<=p.2.1.length/\s.2.length=p.1.3.length) (λs=>(p.2.1.length-s.1).toNat) sm (by simp;omega) λc i ⟨h0,h1,h2⟩ b=>by
  unfold adM;exact go⟩
instance aCx{p:Layout×bg}{v:List Step}:nu (λk=>iter (adO p k v) FUEL ([],0)) (p.2.1.length<=24/\v.length+1=p.2.1.length/\p.1.4.length<=192) (λr=>r.2≠0) (λ_=>True):=⟨λ⟨hp,e,f⟩ Q k a d=>
 wp_loop (λs=>0<=s.2/\s.2<=v.length/\s.1.length<=s.2) (λs=>(v.length-s.2).toNat) sm (by simp;omega) λc i ⟨h0,h1,h2⟩ b=>by
  unfold adO;exact go⟩
instance aO8{l r}:Spec (T9 (l,r)) True λx=>x.2=0->LV l/\RV l r:=⟨λ_=>by
 unfold T9
 dsimp only
 refine av (λ_=>LV l/\r.1.length<=24/\0<=r.2/\r.2<=2/\r.2+2<=r.1.length) (λ_ ⟨d,a⟩=>?_) (λk g=>?_)
 ·refine Aj a.1 (λy b e=>absurd e b) λ_ h1=>iJ om (Aj ⟨a.1,h1⟩ (λy b e=>absurd e b) λ_ _=>av (λ_=>True) (λ_ _=>aD λ_=>⟨d,a.1,a.2.1,a.2.2.1,a.2.2.2,h1⟩) λf c=>vE om λv i _=>(aCx (p:=(l,r)) (v:=v)).h ⟨a.1,om,om⟩ _ f (λy b e=>absurd e b) c)
 ·exact go⟩
instance aOM{l r}:Spec (Lj (l,r)) True λx=>x=0->LV l/\RV l r:=⟨λ_=>by unfold Lj;exact go⟩
abbrev vF(c:Cell):Prop:=1000<=c.1/\c.1<=100000/\ -40<=c.2/\c.2<=40
def d9(l:Layout)(v:List Step)(i:Int):Int:=(gi l.3 (gi v i).1).2
instance aOG{r}:Spec (IW r) (r.1.length<=1000/\0<=r.2/\r.2<=r.1.length) λv=>(v.length:Int)=r.1.length-r.2/\∀k:Int,0<=k->k<v.length->gi v k=gi r.1 k:=⟨λh=>by
 unfold IW
 exact ak (vE om λv h1 h2=>aD ⟨om,λk h0 a=>by rw[h2 k h0 a,Int.zero_add]⟩)⟩
theorem aqc{l:Layout}{v:List Step}(a:All l.3 (AJ l)){i:Int}(h:tZ l (gi v i)):1<=d9 l v i/\d9 l v i<=400:=by have:=a _ h.1 h.2.1;unfold d9;omega
instance aCw{l:Layout}{r:bg}{v:List Step}:nu (λk=>iter (adK (l,r) k v) FUEL ([],0)) (All l.3 (AJ l)/\v.length<=24/\All v (tZ l)) (λ_=>False) (λcs=>(cs.length:Int)=sumTo (d9 l v) v.length/\cs.length<=9600/\All cs vF):=⟨λ⟨g,q,n⟩ Q k u m=>
 wp_loop (λs=>0<=s.2/\s.2<=v.length/\(s.1.length:Int)=sumTo (d9 l v) s.2.toNat/\s.1.length<=400*s.2/\All s.1 vF) (λs=>(v.length-s.2).toNat) ⟨sm,sm,rfl,sm,All.nil⟩ (by simp;omega) λc s ⟨h0,h1,h2,t,f⟩ i=>by
  unfold adK
  refine aB (λh=>?_) λh=>m _ ⟨by rw[h2];congr 1;omega,om,f⟩
  have hs:=n s.2 h0 h
  have w:=aqc g hs
  have x:=g _ hs.1 hs.2.1
  refine av (λj=>(j.length:Int)=sumTo (d9 l v) (s.2+1).toNat/\j.length<=400*(s.2+1)/\All j vF) (λj b=>ak (i _ ⟨om,om,b⟩ om)) λo a=>?_
  refine aA (bW om (av (λj=> -40<=j/\j<=40) (λj b=>?_) λp d=>?_))
  ·have e:(gi (l,r).1.3 (gi v s.2).1).2=d9 l v s.2:=rfl
   rw[e]
   refine xZ om (aW (a _ ⟨?_,by simp;omega,All.apps f (All.rep ⟨om,om,b⟩)⟩))
   rw[UA h0,List.length_append,List.length_replicate,<-h2];omega
  ·dsimp only
   refine aB (λ_=>ak (d _ om)) λ_=>d _ om⟩
abbrev aeV(l:Layout)(r:bg)(cs:List Cell)(a:Int):Prop:=LV l/\RV l r/\(cs.length:Int)=sumTo (d9 l r.1) (r.1.length-r.2).toNat/\cs.length<=4000/\All cs vF/\a=d9 l r.1 0
theorem sumTo_congr{f g:Int->Int}:∀{n:Nat},(∀i:Int,0<=i->i<n->f i=g i)->sumTo f n=sumTo g n
 |0,_=>rfl
 |n+1,h=>by
  rw[sumTo,sumTo,sumTo_congr (λi h0 h1=>h i h0 om),h n om om]
instance aO4{l r}:Spec (TY (l,r)) True λx=>x.2.2=0->aeV l r x.1 x.2.1:=⟨λ_=>by
 unfold TY
 dsimp only
 refine kW trivial (λv c=>aD λe=>absurd e c) λ⟨d,b⟩=>?_
 refine av (λcs=>(cs.length:Int)=sumTo (d9 l r.1) (r.1.length-r.2).toNat/\All cs vF) (λcs h=>?_) λk f=>ak (vE om λv h1 h2=>?_)
 ·have h0:=b.2.2.2.2 0 om om
  exact aB (λ_=>aD λe=>absurd e dc) λg=>aA (aA (aD λ_=>⟨d,b,h.1,by show cs.length<=4000;omega,h.2,rfl⟩))
 ·have c:All v (tZ l):=λi h0 a=>by rw[h2 i h0 a,Int.zero_add];exact b.2.2.2.2 i h0 om
  refine (aCw (r:=r) (v:=v)).h ⟨d.2.2.2.1,om,c⟩ _ k (λ_ h=>h.elim) λcs h=>f _ ⟨?_,h.2.2⟩
  rw[h.1]
  have:v.length=((r.1.length:Int)-r.2).toNat:=by omega
  rw[<-this]
  exact sumTo_congr λi h0 a=>by unfold d9;rw[h2 i h0 a,Int.zero_add]⟩
abbrev arv(l:Layout)(r:bg)(s:bO)(m:vI):Prop:=aeV l r m.1 m.2/\rG s/\∀i:Int,0<=i->i<r.1.length-r.2->2<=d9 l r.1 i/\s.2<=d9 l r.1 i
instance aCv{l:Layout}{r:bg}{s:bO}{v:List Step}{a b}:nu (λk=>iter (WT (l,r,s) k v) FUEL (0,a,b)) (v.length<=24/\All v (tZ l)) (λx=>x.2≠0) (λ_=>∀i:Int,0<=i->i<v.length->2<=d9 l v i/\s.2<=d9 l v i):=⟨λ⟨n,m⟩ Q k f j=>
 wp_loop (λx=>0<=x.1/\x.1<=v.length/\∀i:Int,0<=i->i<x.1->2<=d9 l v i/\s.2<=d9 l v i) (λx=>(v.length-x.1).toNat) ⟨sm,sm,λi h0 h1=>by dsimp only at h1;omega⟩ (by simp;omega) λc x ⟨h0,h1,h2⟩ g=>by
  unfold WT
  refine aB (λh=>?_) λh=>j _ λi h0 h1=>h2 i h0 om
  have hs:=m x.1 h0 h
  refine aA (bW om (aB (λ_=>aD (f _ (by dsimp only;decide))) λd=>ak (g _ ⟨om,om,λi h0 h1=>?_⟩ om)))
  dsimp only at h1 d
  by_cases e:i=x.1
  ·subst e;unfold d9;omega
  ·exact h2 i h0 om⟩
instance aOE{l r s}:Spec (IU (l,r,s)) True λx=>x.2=0->arv l r s x.1:=⟨λ_=>by
 unfold IU
 dsimp only
 refine aP trivial λx a=>aR (λh=>aD λe=>absurd e (by simpa using h)) λh=>?_
 have a:=a (by simpa using h)
 refine rA trivial (aD λe=>absurd e (by dsimp only;decide)) λhs=>?_
 refine av (λ_=>∀i:Int,0<=i->i<r.1.length-r.2->2<=d9 l r.1 i/\s.2<=d9 l r.1 i) (λ_ h=>aD λ_=>⟨a,hs,h⟩) λk c=>aP (by have:=a.2.1;omega) λv ⟨h1,h2⟩=>?_
 have d:=a.2.1
 refine (aCv (l:=l) (r:=r) (s:=s) (v:=v)).h ⟨om,λi h0 b=>by rw[h2 i h0 b];exact d.2.2.2.2 i h0 om⟩ _ k (λy f h=>absurd h f) λ_ h=>c _ λi h0 b=>?_
 have:=h i h0 om
 unfold d9 at this |-
 rw[h2 i h0 om] at this
 exact this⟩
instance aOZ{l r s}:Spec (IQ (l,r,s)) True λ_=>True:=⟨λ_=>by unfold IQ;exact aP trivial λ_ _=>aD trivial⟩
abbrev D8(p:Plan)(lo hi:Int):Prop:=0<=lo/\lo<=hi/\hi<=7200/\hi<lo+p.1
abbrev El(p:Plan)(r:gL):Prop:=0<=r.1/\r.1<p.3.length/\0<=r.2/\r.2<p.1/\D8 p r.3 r.4
abbrev lM(p:Plan)(n:Line):Prop:=n.1.l.length<=12/\0<=n.2/\n.2<p.2.length/\0<=n.3/\n.3<=1048576/\1<=n.4.length/\n.4.length<=12/\All n.4 (El p)
abbrev bZ(p:Plan)(i k:Int):Prop:=0<=i/\i<p.4.length/\0<=k/\k<(gi p.4 i).4.length
abbrev Mf(p:Plan)(c:Change):Prop:=bZ p c.1 c.2/\bZ p c.3 c.4/\D8 p c.5 c.6/\0<=c.7/\c.7<=1048576
abbrev rJ(p:Plan)(t:Turn):Prop:=0<=t.1/\t.1<p.4.length/\0<=t.2/\t.2<p.4.length/\D8 p t.3 t.4
abbrev ME(p:Plan)(s:Sync):Prop:=bZ p s.1 s.2/\bZ p s.3 s.4/\0<=s.5/\s.5<p.1
abbrev Ht(l:Layout)(d:dG):Prop:=0<=d.1/\d.1<l.1.length/\0<=d.2/\d.2<l.1.length/\1<=d.3/\d.3<=1048576
abbrev AL(l:Layout)(p:Plan):Prop:=LV l/\p.2.length<=8/\p.3.length<=48/\p.4.length<=16/\p.5.length<=32/\p.6.length<=32/\p.7.length<=32/\p.8.length<=32/\2<=p.1/\p.1<=7200/\All p.4 λn=>n.4.length<=12
abbrev Uniq(p:Plan)(n:Int):Prop:=∀i j:Int,0<=i->i<j->j<n->(gi p.6 i).1≠(gi p.6 j).1/\(gi p.6 i).2≠(gi p.6 j).2
abbrev PV(l:Layout)(p:Plan):Prop:=AL l p/\(All p.2 λs=>s.1.l.length<=12/\rG s)/\All p.3 (RV l)/\All p.4 (lM p)/\All p.5 (Mf p)/\All p.6 (rJ p)/\Uniq p p.6.length/\All p.7 (ME p)/\All p.8 (Ht l)
instance aN9{l:Layout}{p:Plan}:nu (λk=>iter (adr (l,p) k) FUEL 0) (p.4.length<=16) (λr=>r≠0) (λ_=>All p.4 λn=>n.4.length<=12):=⟨λhp Q k a d=>
 wp_loop (λi=>0<=i/\i<=p.4.length/\bB p.4 i λn=>n.4.length<=12) (λi=>(p.4.length-i).toNat) ⟨om,om,bB.zero om⟩ om λc i ⟨h0,h1,h2⟩ b=>by
  unfold adr;dsimp only;exact go⟩
instance aOm{l p}:Spec (TA (l,p)) True λr=>r=0->AL l p:=⟨λ_=>by
 unfold TA
 dsimp only
 refine av (λ_=>LV l/\p.2.length<=8/\p.3.length<=48/\p.4.length<=16/\p.5.length<=32/\p.6.length<=32/\p.7.length<=32/\p.8.length<=32) (λ_ a=>?_) (λk c=>?_)
 ·refine Aj a.2.2.2.1 (λy b e=>absurd e b) λ_ h1=>aR (λh=>aD λe=>absurd e dc) λh=>aD λ_=>?_
  simp only[Bool.or_eq_false_iff,decide_eq_false_iff_not] at h
  exact⟨a.1,a.2.1,a.2.2.1,a.2.2.2.1,a.2.2.2.2.1,a.2.2.2.2.2.1,a.2.2.2.2.2.2.1,a.2.2.2.2.2.2.2,om,om,h1⟩
 ·exact go⟩
instance aOn{l p}:Spec (TB (l,p)) (p.2.length<=8) λr=>r=0->All p.2 λs=>s.1.l.length<=12/\rG s:=⟨λhp=>by
 unfold TB
 refine av (λ_=>All p.2 λs=>s.1.l.length<=12/\rG s) (λ_ h=>aD λ_=>h) λk f=>?_
 refine wp_loop (λi=>0<=i/\i<=p.2.length/\bB p.2 i λs=>s.1.l.length<=12/\rG s) (λi=>(p.2.length-i).toNat) ⟨om,om,bB.zero om⟩ om λc i ⟨h0,h1,h2⟩ d=>?_
 unfold aps
 dsimp only
 refine aB (λh=>?_) λh=>f _ (h2.mono om)
 refine aA (rA trivial (aD λe=>absurd e dc) λg=>vE om λv o _=>?_)
 refine av (λ_=>True) (λ_ _=>rA trivial (aD λe=>absurd e dc) λhs=>ak (d _ ⟨om,om,h2.succ ⟨g,hs⟩⟩ om)) λt b=>?_
 refine wp_loop (λj=>0<=j/\j<=v.length) (λj=>(v.length-j).toNat) ⟨om,om⟩ om λc2 j ⟨m,q⟩ a=>?_
 unfold apt
 refine aB (λn=>aA (aB (λ_=>aB (λ_=>aD λe=>absurd e dc) λh=>absurd m h) λ_=>ak (a _ ⟨om,om⟩ om))) λ_=>b _ trivial⟩
instance aOo{l p}:Spec (Tz (l,p)) (p.3.length<=48) λr=>r=0->All p.3 (RV l):=⟨λhp=>by
 unfold Tz
 refine av (λ_=>All p.3 (RV l)) (λ_ h=>aD λ_=>h) λk b=>?_
 refine wp_loop (λi=>0<=i/\i<=p.3.length/\bB p.3 i (RV l)) (λi=>(p.3.length-i).toNat) ⟨om,om,bB.zero om⟩ om λc i ⟨h0,h1,h2⟩ a=>?_
 unfold apr
 dsimp only
 refine aB (λh=>?_) λh=>b _ (h2.mono om)
 exact aA (kW trivial (λv f=>aD λe=>absurd e f) λd=>ak (a _ ⟨om,om,h2.succ d.2⟩ om))⟩
instance aON{p}:Spec (Da p) True λb=>b=true->0<=p/\p<=1048576:=⟨λ_=>aD λh=>by simpa using h⟩
instance aOP{p a b}:Spec (Gm (p,a,b)) (2<=p.1/\p.1<=7200) λx=>x=true->D8 p a b:=⟨λh=>by
 unfold Gm
 refine fB ?_ (aD λh=>?_)
 ·simp only[Bool.or_eq_true,Bool.not_eq_true',aj,decide_eq_true_eq,Bool.and_eq_false_iff,decide_eq_false_iff_not];omega
 ·simp only[Bool.and_eq_true,decide_eq_true_eq] at h
  unfold D8;omega⟩
instance aOR{p r}:Spec (zT (p,r)) (0<=r.1/\r.1<p.3.length/\1<=(gi p.3 r.1).1.length) λx=>x=(gi (gi p.3 r.1).1 0).1:=⟨λh=>by
 unfold zT
 exact bW om (bW om (aD rfl))⟩
instance aOQ{p r}:Spec (zU (p,r)) (0<=r.1/\r.1<p.3.length/\(gi p.3 r.1).1.length<=24/\0<=(gi p.3 r.1).2/\(gi p.3 r.1).2+1<=(gi p.3 r.1).1.length) λx=>x=(gi (gi p.3 r.1).1 ((gi p.3 r.1).1.length-(gi p.3 r.1).2-1)).1:=⟨λh=>by
 unfold zU
 exact bW om (bW om (ak (ak (bW om (aD rfl)))))⟩
instance aOO{l p n k}:Spec (Tw (l,p,n,k)) (LV l/\2<=p.1/\p.1<=7200/\All p.3 (RV l)/\0<=n.2/\n.2<p.2.length/\n.4.length<=12/\0<=k/\k<n.4.length/\bB n.4 k (El p)) λr=>r=0->El p (gi n.4 k):=⟨λ⟨x,b,c,d,s,t,y,j,m,i⟩=>by
 unfold Tw
 dsimp only
 refine aA (av (λ_=>El p (gi n.4 k)) (λ_ h=>?_) λz g=>?_)
 ·have q:=d _ h.1 h.2.1
  refine aA (aA (aP trivial λv _=>aR (λh=>aD λe=>absurd e (by simpa using h)) λ_=>?_))
  by_cases e:0<k
  ·have a:=i (k-1) om om
   have o:=d _ a.1 a.2.1
   simp only[e,decide_true]
   refine fB (by simp[aj];omega) (D6 (λ_=>aA (D6 (λ_=>aP ⟨h.1,h.2.1,om⟩ λ_ _=>D6 (λ_=>aP ⟨a.1,a.2.1,om⟩ λ_ _=>aR (λ_=>aD λe=>absurd e dc) λ_=>aD λ_=>h) λh=>by cases h) λh=>by cases h)) λh=>by cases h)
  ·simp only[e,decide_false]
   exact fB rfl (D6 (λh=>by cases h) λ_=>D6 (λh=>by cases h) λ_=>D6 (λh=>by cases h) λ_=>aR (λh=>by cases h) λ_=>aD λ_=>h)
 ·refine aB (λh=>aB (λ_=>aD λe=>absurd e dc) λh2=>absurd h h2) λh1=>aB (λh=>aB (λ_=>aD λe=>absurd e dc) λh2=>absurd h h2) λh2=>aB (λh=>aB (λ_=>aD λe=>absurd e dc) λh2=>absurd h h2) λu=>aB (λh=>aB (λ_=>aD λe=>absurd e dc) λh2=>absurd h h2) λw=>rA ⟨b,c⟩ (aR (λ_=>aD λe=>absurd e dc) λh=>by cases h) λf=>ak (aR (λ_=>aD λe=>absurd e dc) λh=>g _ ⟨om,om,om,om,f⟩)⟩
instance aOp{l p}:Spec (Tv (l,p)) (AL l p/\All p.3 (RV l)) λr=>r=0->All p.4 (lM p):=⟨λ⟨hp,C⟩=>by
 unfold Tv
 refine av (λ_=>All p.4 (lM p)) (λ_ h=>aD λ_=>h) λK o=>?_
 refine wp_loop (λi=>0<=i/\i<=p.4.length/\bB p.4 i (lM p)) (λi=>(p.4.length-i).toNat) ⟨om,om,bB.zero om⟩ om λc i ⟨h0,h1,h2⟩ z=>?_
 unfold apn
 dsimp only
 refine aB (λh=>?_) λh=>o _ (h2.mono om)
 have d:=hp.2.2.2.2.2.2.2.2.2.2 i h0 h
 refine av (λ_=>lM p (gi p.4 i)) (λ_ h=>ak (z _ ⟨om,om,h2.succ h⟩ om)) λL H=>aA ?_
 generalize gi p.4 i=n at*
 have t:∀(a:Unit->Option Int) {Q:Int->Prop},(∀y,y≠0->Q y)->(0<=n.2/\n.2<p.2.length/\0<=n.3/\n.3<=1048576/\1<=n.4.length->WP (a ()) Q)->
   WP (if decide (n.2<0) then if decide (n.2<0) then some 4 else if decide ((↑n.4.length:Int)=0) then some 1 else a PUnit.unit else if decide ((↑p.2.length:Int)<=n.2) then if decide ((↑p.2.length:Int)<=n.2) then some 4 else if decide ((↑n.4.length:Int)=0) then some 1 else a PUnit.unit else (Da n.3).bind λu=>if !u then some 4 else if decide ((↑n.4.length:Int)=0) then some 1 else a PUnit.unit) Q:=λa Q f A=>by
  refine aB (λh=>aB (λ_=>aD (f _ dc)) λh2=>absurd h h2) λh1=>aB (λh=>aB (λ_=>aD (f _ dc)) λh2=>absurd h h2) λh2=>rA trivial (aD (f _ dc)) λI=>aB (λ_=>aD (f _ dc)) λJ=>A om
 refine av (λ_=>n.1.l.length<=12/\0<=n.2/\n.2<p.2.length/\0<=n.3/\n.3<=1048576/\1<=n.4.length) (λ_ h=>?_) λa g=>?_
 ·refine wp_loop (λk=>0<=k/\k<=n.4.length/\bB n.4 k (El p)) (λk=>(n.4.length-k).toNat) ⟨om,om,bB.zero om⟩ om λc2 k ⟨q,E,s⟩ b=>?_
  unfold apq
  dsimp only
  refine aB (λm=>kW ⟨hp.1,om,om,C,om,om,d,q,m,s⟩ (λv w=>aD λe=>absurd e w) λx=>ak (b _ ⟨om,om,s.succ x⟩ om)) λm=>H _ ⟨h.1,h.2.1,h.2.2.1,h.2.2.2.1,h.2.2.2.2.1,h.2.2.2.2.2,d,s.mono om⟩
 ·refine rA trivial (aD λe=>absurd e dc) λB=>vE om λv w _=>av (λ_=>True) (λ_ _=>t a (λy D e=>absurd e D) λh=>g _ ⟨B,h⟩) λF G=>?_
  refine wp_loop (λj=>0<=j/\j<=v.length) (λj=>(v.length-j).toNat) ⟨om,om⟩ om λc2 j ⟨q,E⟩ b=>?_
  unfold apo
  refine aB (λm=>aA (aB (λ_=>aB (λ_=>aD λe=>absurd e dc) λh=>absurd q h) λ_=>ak (b _ ⟨om,om⟩ om))) λ_=>G _ trivial⟩
instance aOS{p i}:Spec (Gn (p,i)) True λb=>b=decide (0<=i/\i<p.4.length):=⟨λ_=>aD sm⟩
theorem ai6{p i k}:C9 (p,i,k)=some (decide (bZ p i k)):=by
 unfold C9 Gn bZ;dsimp only[Option.bind_some];by_cases h:0<=i/\i<p.4.length/\0<=k;·simp only[h.1,h.2.1,h.2.2,decide_true,Bool.and_self,bC,JZ ⟨h.1,h.2.1⟩,Option.bind_some,true_and,Bool.true_and]
 ·have e:(decide (0<=i)&&decide (i<p.4.length)&&decide (0<=k))=false:=by simp only[Bool.and_eq_false_iff,decide_eq_false_iff_not];omega
  simp only[e,bC,Option.bind_some,Bool.false_and];congr 1;symm;apply decide_eq_false;omega
theorem apM{l:Layout}{p:Plan}{i k:Int}(a:All p.4 (lM p))(b:All p.3 (RV l))(h:bZ p i k):let r:=gi (gi p.4 i).4 k;El p r/\RV l (gi p.3 r.1):=by have h1:=a i h.1 h.2.1;have h2:=h1.2.2.2.2.2.2.2 k h.2.2.1 h.2.2.2;exact⟨h2,b _ h2.1 h2.2.1⟩
theorem aqn{l:Layout}{p:Plan}{i k:Int}(c:All p.4 (lM p))(d:All p.3 (RV l))(h:bZ p i k){β:Type}{K:Int->Option β}{Q:β->Prop}(b:∀x:Int,0<=x->x<l.3.length->WP (K x) Q):WP ((zT (p,gi (gi p.4 i).4 k)).bind K) Q:=by obtain⟨h1,h2⟩:=apM c d h;have a:=h2.2.2.2.2 0 om om;refine aP ⟨h1.1,h1.2.1,om⟩ λx e=>?_;subst e;exact b _ a.1 a.2.1
theorem aqt{l:Layout}{p:Plan}{i k:Int}(c:All p.4 (lM p))(d:All p.3 (RV l))(h:bZ p i k){β:Type}{K:Int->Option β}{Q:β->Prop}(b:∀x:Int,0<=x->x<l.3.length->WP (K x) Q):WP ((zU (p,gi (gi p.4 i).4 k)).bind K) Q:=by obtain⟨h1,h2⟩:=apM c d h;have a:=h2.2.2.2.2 ((gi p.3 (gi (gi p.4 i).4 k).1).1.length-(gi p.3 (gi (gi p.4 i).4 k).1).2-1) om om;refine aP ⟨h1.1,h1.2.1,om,om,om⟩ λx e=>?_;subst e;exact b _ a.1 a.2.1
theorem F9{p:Plan}{i:Int}(a:All p.4 (lM p))(h0:0<=i)(h1:i<p.4.length):bZ p i ((gi p.4 i).4.length-1)/\bZ p i 0:=by have:=a i h0 h1;unfold bZ;omega
instance Du{l p}:Spec (Tq (l,p)) (AL l p/\All p.3 (RV l)/\All p.4 (lM p)) λr=>r=0->All p.5 (Mf p):=⟨λ⟨hp,o,n⟩=>by
 unfold Tq
 refine av (λ_=>All p.5 (Mf p)) (λ_ h=>aD λ_=>h) λw k=>?_
 refine wp_loop (λi=>0<=i/\i<=p.5.length/\bB p.5 i (Mf p)) (λi=>(p.5.length-i).toNat) ⟨om,om,bB.zero om⟩ om λc i ⟨h0,h1,h2⟩ t=>?_
 unfold apl
 dsimp only
 refine aB (λh=>?_) λh=>k _ (h2.mono om)
 refine aA ?_
 simp only[ai6,Option.bind_some]
 by_cases d:bZ p (gi p.5 i).1 (gi p.5 i).2
 case neg=>have a:=decide_eq_false d;simp only[a,Bool.not_false,Bool.not_true,bC,Option.bind_some,Bool.true_or,if_true];exact aD λe=>absurd e dc
 by_cases g:bZ p (gi p.5 i).3 (gi p.5 i).4
 case neg=>have a:=decide_eq_true d;have j:=decide_eq_false g;simp only[a,j,Bool.not_false,Bool.not_true,bC,Option.bind_some,Bool.true_or,Bool.or_true,if_true];exact aD λe=>absurd e dc
 have a:=decide_eq_true d
 have j:=decide_eq_true g
 simp only[a,j,Bool.not_true,Bool.not_false,bC,Option.bind_some,Bool.false_or]
 by_cases m:(gi p.5 i).1=(gi p.5 i).3
 case pos=>simp only[m,decide_true,Bool.not_true,Bool.true_or,if_true,Option.bind_some];exact aD λe=>absurd e dc
 simp only[m,decide_false,Bool.not_false,Bool.false_or]
 refine aP om λb s=>?_
 cases b with
 |false=>exact aD λe=>absurd e dc
 |true=>
 show WP ((Da _).bind _) _
 refine aP trivial λq f=>?_
 cases q with
 |false=>exact aD λe=>absurd e dc
 |true=>
 refine aR (λh=>by cases h) λ_=>aA (aA (aqt n o d λx u v=>aA (aA (aA (aqn n o g λx u v=>aA (aR (λ_=>aD λe=>absurd e dc) λ_=>ak (t _ ⟨om,om,h2.succ ?_⟩ om)))))))
 exact⟨d,g,s rfl,(f rfl).1,(f rfl).2⟩⟩
theorem aI1{p:Plan}{i:Int}(h:Uniq p i)(h2:∀j:Int,0<=j->j<i->(gi p.6 j).1≠(gi p.6 i).1/\(gi p.6 j).2≠(gi p.6 i).2):Uniq p (i+1):=λa b a0 c d=>by
 by_cases e:b=i
 ·subst e;exact h2 a a0 c
 ·exact h a b a0 c om
instance aOq{l p}:Spec (TF (l,p)) (AL l p/\All p.3 (RV l)/\All p.4 (lM p)) λr=>r=0->All p.6 (rJ p)/\Uniq p p.6.length:=⟨λ⟨hp,w,m⟩=>by
 unfold TF
 refine av (λ_=>All p.6 (rJ p)/\Uniq p p.6.length) (λ_ h=>aD λ_=>h) λz q=>?_
 refine wp_loop (λi=>0<=i/\i<=p.6.length/\bB p.6 i (rJ p)/\Uniq p i) (λi=>(p.6.length-i).toNat) ⟨om,om,bB.zero om,λi j a b c=>om⟩ om λc i ⟨h0,h1,h2,C⟩ F=>?_
 unfold apv
 dsimp only
 refine aB (λh=>?_) λh=>q _ ⟨h2.mono om,by rwa [show (p.6.length:Int)=i by omega]⟩
 refine aA (aP trivial λL d=>ni (λb=>b=decide (0<=(gi p.6 i).2/\(gi p.6 i).2<p.4.length)) (λ_=>Spec.h trivial) λM f=>ni (λx=>x=true->D8 p (gi p.6 i).3 (gi p.6 i).4) (λ_=>Spec.h om) λN B=>aR (λ_=>aD λe=>absurd e dc) λg=>?_)
 simp only[Bool.or_eq_false_iff,Bool.not_eq_false'] at g
 obtain⟨⟨rfl,rfl⟩,rfl⟩:=g
 have d:=of_decide_eq_true d.symm
 have f:=of_decide_eq_true (f rfl).symm
 have s:rJ p (gi p.6 i):=⟨d.1,d.2,f.1,f.2,B rfl rfl⟩
 obtain⟨D,_⟩:=F9 m d.1 d.2
 obtain⟨_,E⟩:=F9 m f.1 f.2
 refine vE om λv J t=>av (λ_=>∀j:Int,0<=j->j<i->(gi p.6 j).1≠(gi p.6 i).1/\(gi p.6 j).2≠(gi p.6 i).2) (λ_ G=>?_) λI A=>?_
 ·have:=m _ d.1 d.2
  exact aA (aA (ak (aA (aA (aqt m w D λ_ _ _=>aqn m w E λ_ _ _=>aR (λ_=>aD λe=>absurd e dc) λ_=>ak (F _ ⟨om,om,h2.succ s,aI1 C G⟩ om))))))
 ·refine wp_loop (λj=>0<=j/\j<=v.length/\∀k:Int,0<=k->k<j->(gi p.6 k).1≠(gi p.6 i).1/\(gi p.6 k).2≠(gi p.6 i).2) (λj=>(v.length-j).toNat) ⟨om,om,λk a b=>om⟩ om λc2 j ⟨H,K,y⟩ o=>?_
  unfold apw
  refine aB (λu=>aA (aR (λ_=>aB (λ_=>aD λe=>absurd e dc) λh=>absurd H h) λg=>ak (o _ ⟨om,om,λk n z=>?_⟩ om))) λu=>A _ λk n z=>y k n om
  simp only[Bool.or_eq_false_iff,decide_eq_false_iff_not] at g
  by_cases e:k=j
  ·subst e;rw[t k n u,Int.zero_add] at g;exact g
  ·exact y k n om⟩
instance xP{l p}:Spec (TD (l,p)) (AL l p/\All p.4 (lM p)) λr=>r=0->All p.7 (ME p):=⟨λ⟨hp,j⟩=>by
 unfold TD
 refine av (λ_=>All p.7 (ME p)) (λ_ h=>aD λ_=>h) λk f=>?_
 refine wp_loop (λi=>0<=i/\i<=p.7.length/\bB p.7 i (ME p)) (λi=>(p.7.length-i).toNat) ⟨om,om,bB.zero om⟩ om λc i ⟨h0,h1,h2⟩ g=>?_
 unfold apu
 dsimp only
 refine aB (λh=>?_) λh=>f _ (h2.mono om)
 refine aA ?_
 simp only[ai6,Option.bind_some]
 refine ni (λb=>b=decide (bZ p (gi p.7 i).3 (gi p.7 i).4)) (λ_=>⟨_,rfl,rfl⟩) λm a=>aR (λ_=>aD λe=>absurd e dc) λd=>?_
 simp only[Bool.or_eq_false_iff,Bool.not_eq_false',decide_eq_true_eq,decide_eq_false_iff_not] at d
 have a:=a (by simp[d.1.1.1.1])
 rw[d.1.1.1.2] at a
 exact ak (g _ ⟨om,om,h2.succ ⟨d.1.1.1.1,of_decide_eq_true a.symm,om,om⟩⟩ om)⟩
instance aOr{l p}:Spec (Tt (l,p)) (AL l p) λr=>r=0->All p.8 (Ht l):=⟨λhp=>by
 unfold Tt
 refine av (λ_=>All p.8 (Ht l)) (λ_ h=>aD λ_=>h) λf a=>?_
 refine wp_loop (λi=>0<=i/\i<=p.8.length/\bB p.8 i (Ht l)) (λi=>(p.8.length-i).toNat) ⟨om,om,bB.zero om⟩ om λc i ⟨h0,h1,h2⟩ b=>?_
 unfold apm
 dsimp only
 refine aB (λh=>aA (aR (λ_=>aD λe=>absurd e dc) λd=>?_)) λh=>a _ (h2.mono om)
 simp only[Bool.or_eq_false_iff,decide_eq_false_iff_not] at d
 exact ak (b _ ⟨om,om,h2.succ (by unfold Ht;omega)⟩ om)⟩
instance s57{l p}:Spec (C8 (l,p)) True λr=>r=0->PV l p:=⟨λ_=>by
 unfold C8
 dsimp only
 refine av (λ_=>PV l p) (λ_ h=>aD λ_=>h) λk n=>?_
 have o: -9223372036854775808<=(0:Int)+1/\(0:Int)+1<=9223372036854775807:=by decide
 refine kW trivial (λv a=>aD λe=>absurd e a) λb=>mZ dc (kW b.2.1 (λv a=>aD λe=>absurd e a) λg=>mZ dc (kW b.2.2.1 (λv a=>aD λe=>absurd e a) λc=>mZ dc (kW ⟨b,c⟩ (λv a=>aD λe=>absurd e a) λd=>mZ dc (kW ⟨b,c,d⟩ (λv a=>aD λe=>absurd e a) λi=>mZ dc (kW ⟨b,c,d⟩ (λv a=>aD λe=>absurd e a) λf=>mZ dc (kW ⟨b,d⟩ (λv a=>aD λe=>absurd e a) λj=>mZ dc (kW b (λv a=>aD λe=>absurd e a) λm=>mZ dc (n _ ⟨b,g,c,d,i,f.1,f.2,j,m⟩))))))))⟩
abbrev VJ(cs:List Cell)(a:Int)(s:bO):Prop:=rG s/\All cs vF/\cs.length<=4000/\0<=a/\a+2<=cs.length
instance xS{cs a s}:Spec (OZ (cs,a,s)) (VJ cs a s) λr=>r=0:=⟨λ⟨hs,d,l,h0,h1⟩=>by
 unfold OZ
 dsimp only
 have e:yP s=some true:=by unfold yP;congr 1;simp only[Bool.and_eq_true,decide_eq_true_eq];omega
 rw[e]
 refine aB (λh=>om) λh=>av (λ_=>True) (λ_ _=>fB (by simp[aj];omega) (aR (λh=>?_) λ_=>aD rfl)) λk f=>?_
 ·simp only[Bool.or_eq_true,decide_eq_true_eq] at h;omega
 ·refine wp_loop (λi=>0<=i/\i<=cs.length) (λi=>(cs.length-i).toNat) om om λc i ⟨j,m⟩ b=>?_
  unfold aic
  dsimp only
  refine aB (λh=>aA (aR (λg=>?_) λ_=>ak (b _ om om))) λ_=>f _ trivial
  have:=d i j h
  simp only[Bool.or_eq_true,decide_eq_true_eq] at g;omega⟩
instance aPf{cs k s}:Spec (Jg (cs,k,s)) (rG s/\All cs vF/\cs.length<=4000/\0<=k/\k<cs.length) λr=>1000<=r/\r<=100000:=⟨λ⟨hs,e,g,h0,h1⟩=>by
 unfold Jg
 dsimp only
 refine av (λj=>1000<=j/\j<=100000) (λj h=>aD h) λo b=>ak (ak (vE om λv i d=>?_))
 refine wp_loop (λx=>0<=x.2/\x.2<=v.length/\1000<=x.1/\x.1<=100000) (λx=>(v.length-x.2).toNat) om om λc x ⟨f,l,m,n⟩ a=>?_
 unfold aie
 refine aB (λh=>aA (ak (a _ ?_ om))) λh=>b _ om
 have:=e (max 0 (k-s.2)+x.2) om om
 rw[d _ f h]
 dsimp only
 omega⟩
instance aPg{c s}:Spec (O4 (c,s)) (rG s/\vF c) λr=>0<=r/\r<=40000000:=⟨λ⟨hs,b⟩=>by
 unfold O4
 dsimp only
 refine av (λj=>0<=j/\j<=2000) (λj h=>ak (aD om)) λk a=>aB (λ_=>ak (ak (a _ om))) λ_=>a _ om⟩
instance aPh{c s}:Spec (O5 (c,s)) (rG s/\vF c) λr=>0<=r/\r<=40000000:=⟨λ⟨hs,b⟩=>by
 unfold O5
 dsimp only
 refine av (λj=>0<=j/\j<=2000) (λj h=>ak (aD om)) λk a=>aB (λ_=>ak (ak (a _ om))) λ_=>a _ om⟩
instance aPc{p}:Spec (NM p) True λr=>0<=r/\r<=4294967296:=⟨λ_=>by
 unfold NM
 refine av (λj=>0<=j/\j<=4294967296) (λj h=>aD h) λk a=>?_
 refine wp_loop (λx=>0<=x.1/\0<=x.2/\x.1+2*x.2<=4294967296) (λx=>x.2.toNat) sm sm λc x ⟨f,g,i⟩ d=>?_
 unfold afK
 have e:Int.fdiv x.2 2=x.2 / 2:=Int.fdiv_eq_ediv_of_nonneg _ dc
 refine aB (λh=>av (λj=>0<=j/\j<=x.1+x.2) (λj h2=>d _ (by dsimp only;rw[e];omega) (by dsimp only;rw[e];omega)) λl b=>ak (fB (by simp;omega) (aB (λ_=>b _ om) λ_=>b _ om))) λh=>a _ om⟩
theorem G5{x:Int}(h1: -9223372036854775808<=x)(h2:x<=9223372036854775807):IntKind.i64.wrap x=x:=JX h1 h2
abbrev Sq(w:List Int)(n:Int)(b:Int):Prop:=(w.length:Int)=n/\All w λx=>0<=x/\x<=b
instance aO5{cs a s}:Spec (OW (cs,a,s)) (VJ cs a s) λr=>r.2=0/\Sq r.1 (cs.length-a+1) 4294967296:=⟨λg=>by
 unfold OW
 dsimp only
 obtain⟨hs,f,k,n,E⟩:=g
 refine aP ⟨hs,f,k,n,E⟩ λv e=>?_
 subst e
 refine aR (λh=>by cases h) λ_=>ak (ak (iJ om (aP ⟨hs,f,k,n,om⟩ λv p=>?_)))
 refine av (λw=>Sq w (cs.length-a+1) 10000000000) (λw hw=>?_) λH I=>ak ?_
 ·refine av (λw=>Sq w (cs.length-a+1) 10000000000) (λw hw=>?_) λG A=>ak ?_
  ·refine av (λw=>Sq w (cs.length-a+1) 4294967296) (λw hw=>aD ⟨rfl,hw⟩) λN C=>?_
   refine wp_loop (λx=>0<=x.1/\x.1<=w.length/\x.2.length=w.length/\bB x.2 x.1 λy=>0<=y/\y<=4294967296) (λx=>(w.length-x.1).toNat) ⟨sm,sm,rfl,bB.zero sm⟩ (by simp;omega) λc x ⟨m,q,i,d⟩ b=>?_
   unfold aia
   refine aB (λh=>aA (aA (aP trivial λz l=>aA (aA (ak (b _ ⟨om,om,by simp;omega,λj t F=>?_⟩ om)))))) λh=>C _ ⟨om,d.mono om⟩
   dsimp only at F |-
   rw[dU m t om]
   split
   ·exact l
   ·exact d j t om
  ·refine wp_loop (λx=>a<=x.1/\x.1<cs.length/\Sq x.2 (cs.length-a+1) 10000000000) (λx=>(x.1-a).toNat) ⟨om,om,hw⟩ om λc x ⟨m,q,i,d⟩ b=>?_
   unfold ah8
   dsimp only
   refine aB (λh=>?_) λh=>A _ ⟨i,d⟩
   have B:=d (x.1-a) om om
   have J:=d (x.1+1-a) om om
   refine ak (ak (aA (aA (ak (ak (aA (aA (aA (aP ⟨hs,f _ om om⟩ λz l=>ak (aA (aA (ak (b _ ⟨om,om,by simp;omega,All.set d om om om⟩ om)))))))))))))
 ·refine wp_loop (λx=>a+1<=x.2.1/\x.2.1<=cs.length/\1000<=x.1/\x.1<=100000/\Sq x.2.2 (cs.length-a+1) 10000000000) (λx=>(cs.length-x.2.1).toNat) ⟨om,om,p.1,p.2,by simp;omega,All.rep sm⟩ om λc x ⟨m,q,L,M,i,d⟩ b=>?_
  unfold ah9
  dsimp only
  refine aB (λh=>?_) λh=>I _ ⟨i,d⟩
  have B:=d (x.2.1-1-a) om om
  refine aP ⟨hs,f,k,om,h⟩ λu K=>?_
  have o:1000<=min x.1 u/\min x.1 u<=100000:=by omega
  have D:0<=min x.1 u*min x.1 u/\min x.1 u*min x.1 u<=10000000000:=⟨Int.mul_nonneg om om,by
   have:=Int.mul_le_mul o.2 o.2 om om;omega⟩
  refine ak (ak (ak (ak (aA (aA (ak (aA (aP ⟨hs,f _ om om⟩ λz l=>ak (aA (aA (ak (b _ ⟨om,om,om,om,by simp;omega,All.set d om om om⟩ om))))))))))))⟩
theorem UD{a b:Int}(h:0<=a)(h2:a<=1000000000000000)(e:1<=b):IntKind.i64.wrap (a.tdiv b)=a / b/\0<=a / b/\a / b<=a:=by have c:=Int.ediv_le_self b h;have d:0<=a / b:=Int.ediv_nonneg h om;rw[Int.tdiv_eq_ediv_of_nonneg h];exact⟨G5 om om,d,c⟩
instance aOH{a b}:Spec (vU (a,b)) (0<=a/\a<=1000000000000000) λr=>0<=r.1/\r.1<=a+1:=⟨λ⟨h0,h1⟩=>by
 unfold vU
 dsimp only
 refine aB (λ_=>aD om) λg=>?_
 obtain⟨e,d,f⟩:=UD h0 h1 (b:=b) om
 rw[e]
 refine fB (by simp;omega) (av (λj=>0<=j/\j<=a+1) (λj h=>aD h) λk c=>fB (by simp;omega) (aB (λ_=>ak (c _ om)) λ_=>c _ om))⟩
theorem aqL{x:Int}(h0:0<=x)(h1:x<=1000000000000000):Bn x=some ((x+999) / 1000):=by
 unfold Bn vU;obtain⟨e,d,f⟩:=UD h0 h1 (b:=1000) om;have a:x.tmod 1000=x % 1000:=Int.tmod_eq_emod_of_nonneg h0;simp only[e,a,au,ah,Int.reduceLT,decide_false,Bool.false_eq_true,if_false,Int.reduceEq,Bool.not_false];by_cases h:0<x % 1000
 ·have c:aj (x / 1000+1)=true:=by simp[aj];omega
  simp only[h,decide_true,if_true,c,Option.bind_some];congr 1;omega
 ·simp only[h,decide_false,Bool.false_eq_true,if_false,Option.bind_some];congr 1;omega
theorem avz{x:Int}(h0:0<=x)(h1:x<=1000000000000000):Bj x=some (x / 1000):=by
 unfold Bj Bc;obtain⟨e,c,d⟩:=UD h0 h1 (b:=1000) om;have a:x.tmod 1000=x % 1000:=Int.tmod_eq_emod_of_nonneg h0;have h:¬x % 1000<0:=by omega
 simp only[e,a,h,au,ah,Int.reduceLT,decide_false,Bool.false_eq_true,if_false,Int.reduceEq,Bool.not_false,Option.bind_some]
abbrev Tm(w:List Int)(n:Int):Prop:=(w.length:Int)=n/\(∀i:Int,0<=i->i<n->0<=gi w i/\gi w i<=20000001*i)/\∀i j:Int,0<=i->i<=j->j<n->gi w i<=gi w j
instance aOF{cs a s}:Spec (OY (cs,a,s)) (VJ cs a s) λr=>Tm r.1 (cs.length-a+1):=⟨λd=>by
 unfold OY
 dsimp only
 refine aP d λv ⟨e,D,p⟩=>aR (λh=>by rw[e] at h;cases h) λh=>?_
 obtain⟨_,_,C,h0,h1⟩:=d
 refine iJ om (av (λw=>Tm w (cs.length-a+1)) (λw hw=>aD hw) λk u=>?_)
 refine wp_loop (λx=>1<=x.1/\x.1<=v.1.length/\x.2.length=v.1.length/\(∀i:Int,0<=i->i<x.1->0<=gi x.2 i/\gi x.2 i<=20000001*i)/\∀i j:Int,0<=i->i<=j->j<x.1->gi x.2 i<=gi x.2 j) (λx=>(v.1.length-x.1).toNat)
  ⟨sm,om,sm,λi g m=>by dsimp only at m |-;rw[qm g om];omega,λi j g m q=>by dsimp only at q |-;rw[qm g om,qm om om];omega⟩ om λc x ⟨g,m,q,n,o⟩ l=>?_
 unfold aib
 refine aB (λh=>?_) λh=>u _ ⟨om,λi b f=>n i b om,λi j b f t=>o i j b f om⟩
 have y:=p (x.1-1) om om
 have A:=p x.1 om om
 have B:=n (x.1-1) om om
 refine ak (aA (aA (ak (aP om λz E=>ak (aA (aA (ak (aA (aA (ak (l _ ⟨om,om,by simp;omega,λi b f=>?_,λi j b f t=>?_⟩ om)))))))))))
 ·dsimp only at f |-
  rw[dU om b om]
  split
  ·omega
  ·exact n i b om
 ·dsimp only at t |-
  rw[dU om b om,dU om om om]
  split
  ·rw[if_pos om];omega
  ·split
   ·have:=o i (x.1-1) b om om;omega
   ·exact o i j b f om⟩
theorem ael{f:Int->Int}{m:Nat}:∀{n:Nat},m<=n->(∀i:Int,0<=i->i<n->0<=f i)->sumTo f m<=sumTo f n
 |0,h,_=>by rw[show m=0 by omega];omega
 |n+1,h,a=>by
  by_cases e:m=n+1
  ·rw[e];omega
  ·have:=ael (m:=m) (n:=n) om λi h0 h1=>a i h0 om
   have h2:=a n om om
   simp only[sumTo];omega
abbrev A8(l:Layout)(r:bg)(y:List Int×List Int×Int×Int):Prop:=LV l/\RV l r/\(y.1.length:Int)=r.1.length-r.2/\(y.2.1.length:Int)=r.1.length-r.2/\(All y.2.1 λx=>0<=x/\x<=1000000000000)/\∃a,y.2.2.1=(a+999) / 1000/\0<=a/\a<=1000000000000/\All y.1 λx=>0<=x/\x<=a
instance dZ{l r s}:Spec (Bg (l,r,s)) True λy=>y.2.2.2=0->A8 l r y:=⟨λ_=>by
 unfold Bg
 dsimp only
 refine aP trivial λm hm=>aR (λh=>aD λe=>absurd e (by simpa using h)) λh=>?_
 obtain⟨⟨N,D,w,V,hc,C⟩,hs,g⟩:=hm (by simpa using h)
 have p:∀i:Int,0<=i->i<r.1.length-r.2->1<=d9 l r.1 i/\d9 l r.1 i<=400:=λi o O=>aqc N.2.2.2.1 (D.2.2.2.2 i o om)
 have a:∀i j:Int,0<=i->i<=j->j<=r.1.length-r.2->sumTo (d9 l r.1) i.toNat<=sumTo (d9 l r.1) j.toNat:=λi j o O i2=>ael om λk k0 k1=>by have:=p k k0 om;omega
 have E:sumTo (d9 l r.1) (1:Int).toNat=m.1.2:=by rw[C];simp[sumTo]
 have T:=p 0 om om
 have L:m.1.2+2<=m.1.1.length:=by
  have h2:=a 2 (r.1.length-r.2) om om om
  have h3:=g 1 om om
  have h5:sumTo (d9 l r.1) (2:Int).toNat=sumTo (d9 l r.1) (1:Int).toNat+d9 l r.1 1:=rfl
  omega
 refine aP ⟨hs,hc,V,om,L⟩ λt u=>aP om λv ⟨ap,z⟩=>?_
 rw[w] at u L
 generalize hn:(r.1.length:Int)-r.2=n at*
 have ag:2<=n/\n<=24:=by omega
 have W:sumTo (d9 l r.1) n.toNat<=4000:=by omega
 refine av (λj=>(j.1.length:Int)=n/\(j.2.1.length:Int)=n-1/\(All j.2.1 λx=>0<=x/\x<=1000000000000)/\j.2.2=sumTo (d9 l r.1) n.toNat-m.1.2/\All j.1 λx=>0<=x/\x<=gi t.1 j.2.2) (λj ⟨j1,j2,I,S,J⟩=>?_) λk7 X=>?_
 ·have b:=u.2.1 j.2.2 om om
  refine aA (aW (aA ?_))
  rw[aqL om om]
  exact aD λ_=>⟨N,D,om,by simp;omega,All.app I om,_,rfl,om,om,J⟩
 ·refine wp_loop (λx=>0<=x.2.2.2/\x.2.2.2<=n/\(x.1.length:Int)=x.2.2.2/\(x.2.1.length:Int)=min x.2.2.2 (n-1)/\(All x.2.1 λx=>0<=x/\x<=1000000000000)/\(x.2.2.2=0->x.2.2.1=0)/\(1<=x.2.2.2->x.2.2.1=sumTo (d9 l r.1) x.2.2.2.toNat-m.1.2)/\0<=x.2.2.1/\x.2.2.1<=sumTo (d9 l r.1) n.toNat-m.1.2/\All x.1 λy=>0<=y/\y<=gi t.1 x.2.2.1) (λx=>(n-x.2.2.2).toNat)
   ⟨sm,om,sm,by simp;omega,All.nil,λ_=>rfl,λh=>by dsimp only at h;omega,sm,om,All.nil⟩ om λc x ⟨o,O,i2,i3,G,P,H,Q,i8,R⟩ A=>?_
  unfold afN
  dsimp only
  refine aB (λh=>?_) λh=>X _ ⟨om,om,G,by dsimp only;rw[H om];congr 3;omega,R⟩
  have hx:=p x.2.2.2 o om
  have ao:=D.2.2.2.2 x.2.2.2 o om
  have an:=UA (f:=d9 l r.1) o
  have ae:=a (x.2.2.2+1) n om om om
  have B:gi l.3 (gi v x.2.2.2).1=gi l.3 (gi r.1 x.2.2.2).1:=by rw[z _ o om]
  have Y:=u.2.1 x.2.2.1 Q om
  refine av (λj=>(j.1.length:Int)=x.2.2.2+1/\(j.2.1.length:Int)=min (x.2.2.2+1) (n-1)/\(All j.2.1 λx=>0<=x/\x<=1000000000000)/\j.2.2=sumTo (d9 l r.1) (x.2.2.2+1).toNat-m.1.2/\All j.1 λy=>0<=y/\y<=gi t.1 j.2.2) (λj ⟨j1,j2,I,S,J⟩=>?_) λaq q=>aA (aA (xY (by simp;omega) ?_))
  ·refine ak (A _ ⟨om,om,om,om,I,λh=>by dsimp only at h;omega,λ_=>S,?_,om,J⟩ om)
   have:=a 1 (x.2.2.2+1) om om om
   dsimp only;omega
  refine av (λe=>e=sumTo (d9 l r.1) (x.2.2.2+1).toNat-m.1.2) (λe M=>?_) λaw K=>aB (λh0=>?_) λh0=>K _ ?_
  ·have F:x.2.2.1<=e:=by
    by_cases h0:x.2.2.2=0
    ·have:=a 1 (x.2.2.2+1) om om om
     rw[P h0];omega
    ·rw[H om];omega
   have ab:=u.2.2 x.2.2.1 e Q F om
   have d:All (x.1++[gi t.1 x.2.2.1]) λy=>0<=y/\y<=gi t.1 e:=All.app (bB.imp R λy hy=>om) om
   refine ak (aB (λh2=>?_) λh2=>q _ ⟨by simp;omega,om,G,M,d⟩)
   have af:=a (x.2.2.2+1+1) n om om om
   have U:=UA (f:=d9 l r.1) (i:=x.2.2.2+1) om
   have aa:=g (x.2.2.2+1) om om
   have Z:=u.2.1 (e+s.2) om om
   exact ak (aA (aW (q _ ⟨by simp;omega,by simp;omega,All.app G om,M,d⟩)))
  ·refine bW (by rw[z _ o om];omega) ?_
   rw[B]
   have e:(gi l.3 (gi r.1 x.2.2.2).1).2=d9 l r.1 x.2.2.2:=rfl
   rw[e]
   exact ak (K _ (by rw[H om];omega))
  ·have h0:x.2.2.2=0:=by omega
   rw[P h0,h0,Int.zero_add,E];omega⟩
end Go.Z
