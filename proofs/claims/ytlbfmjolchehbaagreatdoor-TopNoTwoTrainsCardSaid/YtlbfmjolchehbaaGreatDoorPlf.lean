/- Several parts of the engine, one behind the other. -/
import Derived.Test.YtlbfmjolchehbaaGreatDoorPle
import Derived.Test.YtlbfmjolchehbaaGreatDoorMol
import Derived.Lib.IndexBytes
import Derived.Lib.IndexLaws
set_option linter.all false
namespace Go.Z
open Go Go.Proofs Go.Dc Go.R
def Rw(n:Int)(g:Prop)(rows:List (List Str)):Prop:=(rows.length:Int)<=n/\(∀a∈rows,∀s∈a,s.l.length<=100)/\(g->∃a∈rows,tV a)/\1<=rows.length
theorem Rw.add{n m:Int}{g rows ws}(h:Rw n g rows)(hw:∀s∈ws,s.l.length≤100)(hm:n+1≤m:=by omega):Rw m g (rows++[ws]):=⟨by have:=h.1;simp;omega,fun w h'=>by
 rcases List.mem_append.1 h' with h'|h'
 ·exact h.2.1 w h'
 ·rw[List.mem_singleton] at h';subst h';exact hw,fun hg=>let ⟨w,a,b⟩:=h.2.2.1 hg;⟨w,List.mem_append_left _ a,b⟩,by simp⟩
theorem Rw.ln{n m:Int}{g g' rows ws}(h:Rw n g rows)(hw:∀s∈ws,s.l.length≤100)(hl:tV ws)(hm:n+1≤m:=by omega):Rw m g' (rows++[ws]):=⟨by have:=h.1;simp;omega,fun w h'=>by
 rcases List.mem_append.1 h' with h'|h'
 ·exact h.2.1 w h'
 ·rw[List.mem_singleton] at h';subst h';exact hw,fun _=>⟨ws,by simp,hl⟩,by simp⟩
theorem Rw.mono{n m:Int}{g rows}(h:Rw n g rows)(a:n<=m):Rw m g rows:=⟨by have:=h.1;omega,h.2⟩
section
variable {l:Layout}{p:Plan}{Q:Str×Int->Prop}{g:Prop}{rows:List (List Str)}
theorem yc.i64{a b:Int}(h:0<=a/\a<=1000000000)(h2:0<=b/\b<=1000000000):(-9223372036854775808<=a/\a<=9223372036854775807)/\ -9223372036854775808<=b/\b<=9223372036854775807:=by omega
theorem Ga(hp:PV l p){i:Int}(h0:0<=i)(h1:i<p.4.length):(gi p.4 i).1.l.length<=12:=(hp.2.2.2.1 i h0 h1).1
theorem f82(hp:PV l p)(h:Rw 1 g rows){k:List (List Str)->Option (Str×Int)}(c:∀r,Rw 10 g r->WP (k r) Q):WP (iter (adg (l,p) k) FUEL (0,rows)) Q:=by have e:p.2.length<=8:=hp.1.2.1;refine wp_loop (λx=>0<=x.1/\x.1<=p.2.length/\Rw (1+x.1) g x.2) (λx=>(p.2.length-x.1).toNat) ⟨om,om,h⟩ om λK x ⟨i,j,a⟩ b=>?_;unfold adg;dsimp only;have f:=a.1;exact aB (λh=>aO hp.2.1 λhs=>aP ⟨sm,sm,sm,om,om,om,om,om,trivial⟩ λv d=>aW (ak (b _ ⟨om,om,a.add d.2.1⟩ om))) λh=>c _ (a.mono om)
theorem f63(hp:PV l p)(h:Rw 10 g rows){k:List (List Str)->Option (Str×Int)}(t:∀r,Rw 60 g r->WP (k r) Q):WP (iter (adf (l,p) k) FUEL (0,rows)) Q:=by
 have E:p.3.length<=48:=hp.1.2.2.1;refine wp_loop (λx=>0<=x.1/\x.1<=p.3.length/\Rw (10+x.1) g x.2) (λx=>(p.3.length-x.1).toNat) ⟨om,om,h⟩ om λK x ⟨G,H,i⟩ e=>?_;unfold adf;dsimp only;have F:=i.1;refine aB (λh=>aO hp.2.2.1 λu=>av (λy=>(y.length:Int)<=60/\∀s∈y,s.l.length<=100) (λI ⟨c1,c2⟩=>av (λy=>(y.length:Int)<=70/\∀s∈y,s.l.length<=100) (λM n=>aW (ak (e _ ⟨om,om,i.add n.2⟩ om))) λJ j=>aR (λh=>aP om λA o=>aW (j _ ⟨om,λs hs=>?_⟩)) λh=>j _ ⟨om,c2⟩) λL m=>?_) λh=>t _ (i.mono om)
 ·simp only[List.mem_append,List.mem_cons,List.not_mem_nil,or_false] at hs;rcases hs with hs|rfl|rfl;·exact c2 s hs
  ·simp
  ·omega
 ·have q:=hp.1.1;refine wp_loop (λy=>0<=y.2/\y.2<=(gi p.3 x.1).1.length/\(y.1.length:Int)=1+2*y.2/\∀s∈y.1,s.l.length<=100) (λy=>((gi p.3 x.1).1.length-y.2).toNat) ⟨om,om,om,sm⟩ om λK y ⟨D,c1,c2,c3⟩ e=>?_;unfold aph;dsimp only;refine aB (λh=>av (λz=>(z.length:Int)=3+2*y.2/\∀s∈z,s.l.length<=100) (λC b=>ak (e _ ⟨om,om,om,b.2⟩ om)) λB d=>aO u.2.2.2.2 λhs=>av (λz=>z.l.length<=100) (λv c=>aO q.2.2.2.1 (λf=>aW (d _ ⟨om,λs hs=>?_⟩)) ⟨hs.1,hs.2.1⟩) λw a=>aB (λh=>a _ sm) λh=>a _ sm) λh=>m _ ⟨om,c3⟩;simp only[List.mem_append,List.mem_cons,List.not_mem_nil,or_false] at hs;rcases hs with hs|rfl|rfl;·exact c3 s hs
  ·exact Nat.le_trans f.1 om
  ·exact c
theorem f45(hp:PV l p)(h:Rw 60 False rows){k:List (List Str)->Option (Str×Int)}(s:∀r,Rw 400 (1<=p.4.length) r->WP (k r) Q):WP (iter (ade (l,p) k) FUEL (0,rows)) Q:=by have D:p.4.length<=16:=hp.1.2.2.2.1;refine wp_loop (λx=>0<=x.1/\x.1<=p.4.length/\Rw (60+13*x.1) (1<=x.1) x.2) (λx=>(p.4.length-x.1).toNat) ⟨om,om,⟨h.1,h.2.1,λe=>by (dsimp only at e;omega),h.2.2.2⟩⟩ om λK x ⟨E,F,a⟩ i=>?_;unfold ade;dsimp only;have n:=a.1;refine aB (λh=>av (λy=>Rw (60+13*(x.1+1)) True y) (λB b=>ak (i _ ⟨om,om,b.1,b.2.1,λ_=>b.2.2.1 trivial,b.2.2.2⟩ om)) λH o=>aO hp.2.2.2.1 λj=>aO hp.2.1 (λhs=>aP ⟨sm,sm,sm,om,om,om,trivial⟩ λu c=>aW ?_) ⟨j.2.1,j.2.2.1⟩) λh=>s _ ⟨om,a.2.1,λe=>a.2.2.1 om,a.2.2.2⟩;refine wp_loop (λy=>0<=y.1/\y.1<=(gi p.4 x.1).4.length/\Rw (61+13*x.1+y.1) True y.2) (λy=>((gi p.4 x.1).4.length-y.1).toNat) ⟨om,om,a.ln c.2.1 ⟨by rw[c.1];simp,c.2.2 _ rfl⟩ om⟩ om λK y ⟨C,c1,c2⟩ i=>?_;unfold apg;have n:=c2.1;refine aB (λh=>av (λz=>Rw (61+13*x.1+(y.1+1)) True z) (λt g=>ak (i _ ⟨om,om,g⟩ om)) λG m=>aO j.2.2.2.2.2.2.2 λn=>aR (λh=>aP om λv q=>aP ⟨sm,sm,sm,om,om,om,trivial⟩ λw f=>aW (m _ (c2.add f.2.1))) λh=>aP ⟨sm,sm,sm,om,om,trivial⟩ λA d=>aW (m _ (c2.add d.2.1))) λh=>o _ (c2.mono om)
theorem f36(hp:PV l p)(h:Rw 400 g rows){k:List (List Str)->Option (Str×Int)}(f:∀r,Rw 440 g r->WP (k r) Q):WP (iter (adb (l,p) k) FUEL (0,rows)) Q:=by have q:p.5.length<=32:=hp.1.2.2.2.2.1;refine wp_loop (λx=>0<=x.1/\x.1<=p.5.length/\Rw (400+x.1) g x.2) (λx=>(p.5.length-x.1).toNat) ⟨om,om,h⟩ om λK x ⟨t,u,c⟩ e=>?_;unfold adb;dsimp only;have s:=c.1;refine aB (λh=>aO hp.2.2.2.2.1 λa=>?_) λh=>f _ (c.mono om);have h1:=Ga hp a.1.1 a.1.2.1;have h2:=Ga hp a.2.1.1 a.2.1.2.1;have b:=hp.1.2.2.2.2.2.2.2.2.2.2;have n:=b _ a.1.1 a.1.2.1;have o:=b _ a.2.1.1 a.2.1.2.1;exact aA (aA (aP om λi d=>aP ⟨sm,sm,sm,om,om,om,om,om,om,trivial⟩ λj m=>aW (ak (e _ ⟨om,om,c.add m.2.1⟩ om))))
theorem f27(hp:PV l p)(h:Rw 440 g rows){k:List (List Str)->Option (Str×Int)}(e:∀r,Rw 480 g r->WP (k r) Q):WP (iter (ada (l,p) k) FUEL (0,rows)) Q:=by have m:p.6.length<=32:=hp.1.2.2.2.2.2.1;refine wp_loop (λx=>0<=x.1/\x.1<=p.6.length/\Rw (440+x.1) g x.2) (λx=>(p.6.length-x.1).toNat) ⟨om,om,h⟩ om λK x ⟨o,q,b⟩ d=>?_;unfold ada;dsimp only;have n:=b.1;refine aB (λh=>aO hp.2.2.2.2.2.1 λa=>?_) λh=>e _ (b.mono om);have h1:=Ga hp a.1 a.2.1;have h2:=Ga hp a.2.2.1 a.2.2.2.1;exact aA (aA (aP om λf c=>aP ⟨sm,sm,sm,om,om,om,trivial⟩ λi j=>aW (ak (d _ ⟨om,om,b.add j.2.1⟩ om))))
theorem f19(hp:PV l p)(h:Rw 480 g rows){k:List (List Str)->Option (Str×Int)}(e:∀r,Rw 520 g r->WP (k r) Q):WP (iter (ac9 (l,p) k) FUEL (0,rows)) Q:=by have o:p.7.length<=32:=hp.1.2.2.2.2.2.2.1;refine wp_loop (λx=>0<=x.1/\x.1<=p.7.length/\Rw (480+x.1) g x.2) (λx=>(p.7.length-x.1).toNat) ⟨om,om,h⟩ om λK x ⟨s,t,c⟩ d=>?_;unfold ac9;dsimp only;have q:=c.1;refine aB (λh=>aO hp.2.2.2.2.2.2.2.1 λa=>?_) λh=>e _ (c.mono om);have h1:=Ga hp a.1.1 a.1.2.1;have h2:=Ga hp a.2.1.1 a.2.1.2.1;have b:=hp.1.2.2.2.2.2.2.2.2.2.2;have j:=b _ a.1.1 a.1.2.1;have m:=b _ a.2.1.1 a.2.1.2.1;have n:=hp.1.2.2.2.2.2.2.2.2.2.1;exact aA (aA (aP ⟨sm,sm,sm,om,om,om,om,om,trivial⟩ λf i=>aW (ak (d _ ⟨om,om,c.add i.2.1⟩ om))))
theorem f11(hp:PV l p)(h:Rw 520 g rows){k:List (List Str)->Option (Str×Int)}(d:∀r,Rw 560 g r->WP (k r) Q):WP (iter (ac8 (l,p) k) FUEL (0,rows)) Q:=by have i:p.8.length<=32:=hp.1.2.2.2.2.2.2.2.1;refine wp_loop (λx=>0<=x.1/\x.1<=p.8.length/\Rw (520+x.1) g x.2) (λx=>(p.8.length-x.1).toNat) ⟨om,om,h⟩ om λK x ⟨m,n,b⟩ c=>?_;unfold ac8;dsimp only;have j:=b.1;refine aB (λh=>aO hp.2.2.2.2.2.2.2.2 λa=>aO hp.1.1.2.1 (λh1=>aO hp.1.1.2.1 (λh2=>aP ⟨sm,sm,sm,om,om,om,trivial⟩ λe f=>aW (ak (c _ ⟨om,om,b.add f.2.1⟩ om))) ⟨a.2.2.1,a.2.2.2.1⟩) ⟨a.1,a.2.1⟩) λh=>d _ (b.mono om)
end
instance kG{l p}:Spec (Tj (l,p)) True λy=>y.1=⟨[]⟩\/(1<=p.4.length->LI (bI y.1)):=⟨λ_=>by
 unfold Tj
 dsimp only
 refine kW trivial (λv D=>aD (.inl rfl)) λhp=>?_
 have C:=hp.1.2.2.2.2.2.2.2.2.2.1
 have r:=hp.1.2.2.2.2.2.2.2.2.1
 refine aP ⟨sm,sm,sm,om,trivial⟩ λM j=>aW (av (Rw 10 False) (λE g=>av (Rw 60 False) (λF i=>av (Rw 400 (1<=p.4.length)) (λG x=>av (Rw 440 (1<=p.4.length)) (λH z=>av (Rw 480 (1<=p.4.length)) (λI o=>av (Rw 520 (1<=p.4.length)) (λJ m=>av (Rw 560 (1<=p.4.length)) (λK b=>aP ⟨b.2.2.2,by have:=b.1;omega,b.2.1⟩ λN n=>aD (n.imp id λh e=>h (b.2.2.1 e))) λs a=>f11 hp m a) λt w=>f19 hp o w) λu k=>f27 hp z k) λB d=>f36 hp x d) λL c=>f45 hp i c) λA f=>f63 hp g f) λO q=>f82 hp ⟨sm,by simpa using j.2.1,λh=>h.elim,sm⟩ q)⟩
section
variable {l:Layout}{Q:Str->Prop}{rows:List (List Str)}
def Rl(n:Int)(rows:List (List Str)):Prop:=(rows.length:Int)=n/\∀a∈rows,∀s∈a,s.l.length<=100
theorem Rl.add{n m:Int}{rows ws}(h:Rl n rows)(hw:∀s∈ws,s.l.length≤100)(hm:n+1=m:=by omega):Rl m (rows++[ws]):=⟨by have:=h.1;simp;omega,fun w h'=>by
 rcases List.mem_append.1 h' with h'|h'
 ·exact h.2 w h'
 ·rw[List.mem_singleton] at h';subst h';exact hw⟩
end
instance s24{l}:Spec (Sd l) True λ_=>True:=⟨λ_=>by
 unfold Sd
 refine kW trivial (λv hv=>aD trivial) λhp=>?_
 obtain⟨⟨n1,n2,n3,n4,n5⟩,h1,h2,m,A⟩:=hp
 have g:∀{a b:Str},a.l.length<=100->b.l.length<=100->∀s∈[a,b],s.l.length<=100:=λh1 h2 s hs=>by
  simp only[List.mem_cons,List.not_mem_nil,or_false] at hs
  rcases hs with rfl|rfl
  ·exact h1
  ·exact h2
 have i:∀{a b c d e:Str},a.l.length<=100->b.l.length<=100->c.l.length<=100->d.l.length<=100->e.l.length<=100->∀s∈[a,b,c,d,e],s.l.length<=100:=λh1 h2 m A j s hs=>by
  simp only[List.mem_cons,List.not_mem_nil,or_false] at hs
  rcases hs with rfl|rfl|rfl|rfl|rfl
  ·exact h1
  ·exact h2
  ·exact m
  ·exact A
  ·exact j
 have app:∀{a b:List Str},(∀s∈a,s.l.length<=100)->(∀s∈b,s.l.length<=100)->∀s∈a++b,s.l.length<=100:=λh1 h2 s hs=>(List.mem_append.1 hs).elim (h1 s) (h2 s)
 have n:All [Str.mk [65],Str.mk [66]] λs=>s.l.length<=100:=by
  show All ([]++[Str.mk [65]]++[Str.mk [66]]) _
  exact All.app (All.app All.nil sm) sm
 refine av (Rl l.1.length) (λj1 B=>av (Rl (l.1.length+l.2.length)) (λj2 C=>av (Rl (l.1.length+l.2.length+l.3.length)) (λj3 D=>av (Rl (l.1.length+l.2.length+l.3.length+l.4.length)) (λj4 L=>aP ⟨by have:=L.1;omega,by have:=L.1;omega,L.2⟩ λv5 U=>aD trivial) λk6 Z=>?_) λX O=>?_) λsJ w=>?_) λzK u=>?_
 ·refine wp_loop (λx=>0<=x.2/\x.2<=l.4.length/\Rl (l.1.length+l.2.length+l.3.length+x.2) x.1) (λx=>(l.4.length-x.2).toNat) ⟨om,om,by simpa using D⟩ om λK x ⟨F,G,f⟩ k=>?_
  unfold an8
  have E:=f.1
  refine aB (λh=>av (Rl (l.1.length+l.2.length+l.3.length+(x.2+1))) (λH J=>ak (k _ ⟨om,om,J⟩ om)) λW N=>aO A λhk=>aO m (λQ=>rO (aO n (λR=>aO m (λS=>rO (aO n (λT=>?_) ⟨om,by simp;omega⟩)) ⟨om,om⟩) ⟨om,by simp;omega⟩)) ⟨om,om⟩) λh=>Z _ (by rwa [show x.2=l.4.length by omega] at f)
  have j:=i (a:=Str.mk [108,105,110,107]) sm (Nat.le_trans Q.1 om) R (Nat.le_trans S.1 om) T
  refine av (λy=>∀s∈y,s.l.length<=100) (λV r=>aW (N _ (f.add r))) λI q=>aR (λh=>?_) λh=>q _ j
  simp only[Bool.not_eq_true',decide_eq_false_iff_not] at h
  exact aO h2 (λz=>aP om λaa P=>aW (q _ (app j (g (Nat.le_trans z om) om)))) om
 ·refine wp_loop (λx=>0<=x.2/\x.2<=l.3.length/\Rl (l.1.length+l.2.length+x.2) x.1) (λx=>(l.3.length-x.2).toNat) ⟨om,om,by simpa using C⟩ om λK x ⟨F,G,f⟩ k=>?_
  unfold an5
  have E:=f.1
  refine aB (λh=>av (Rl (l.1.length+l.2.length+(x.2+1))) (λH J=>ak (k _ ⟨om,om,J⟩ om)) λY M=>aO m λhs=>aP om λab o=>aP om λae p=>aP om λaf t=>?_) λh=>O _ (by rwa [show x.2=l.3.length by omega] at f)
  have j:=i (a:=Str.mk [115,101,99,116,105,111,110]) sm (Nat.le_trans hs.1 om) (Nat.le_trans o om) (Nat.le_trans p om) (Nat.le_trans t om)
  refine av (λy=>∀s∈y,s.l.length<=100) (λV r=>aW (M _ (f.add r))) λI q=>aR (λh=>?_) λh=>q _ j
  simp only[Bool.not_eq_true',decide_eq_false_iff_not] at h
  exact aO h1 (λz=>aW (q _ (app j (g sm (Nat.le_trans z om))))) om
 ·refine wp_loop (λx=>0<=x.2/\x.2<=l.2.length/\Rl (l.1.length+x.2) x.1) (λx=>(l.2.length-x.2).toNat) ⟨om,om,by simpa using B⟩ om λK x ⟨F,G,f⟩ k=>?_
  unfold an6
  have E:=f.1
  exact aB (λh=>aO h2 λhs=>aW (ak (k _ ⟨om,om,f.add (g sm om)⟩ om))) λh=>w _ (by rwa [show x.2=l.2.length by omega] at f)
 ·refine wp_loop (λx=>0<=x.2/\x.2<=l.1.length/\Rl x.2 x.1) (λx=>(l.1.length-x.2).toNat) ⟨om,om,rfl,sm⟩ om λK x ⟨F,G,f⟩ k=>?_
  unfold an7
  have E:=f.1
  exact aB (λh=>aO h1 λhs=>aW (ak (k _ ⟨om,om,f.add (g sm om)⟩ om))) λh=>u _ (by rwa [show x.2=l.1.length by omega] at f)⟩
instance s10{p}:Spec (TK p) (p.length<=4611686018427387904) λy=>y.2=⟨[]⟩\/LI (bI y.2):=⟨λhp=>by
 unfold TK
 exact aP hp λc a=>aP trivial λd b=>aP trivial λe _=>aD (b.imp id λh=>h a)⟩
abbrev LN:List UInt8:=[108,105,110,101]
def LB(t:List UInt8):Prop:=∃a r,t=a++108::105::110::101::32::r/\(a=[]\/∃b,a=b++[10])
theorem acI:∀{a b:List UInt8},(a.map λb=>(b.toNat:Int))=b.map (λb=>(b.toNat:Int))->a=b
 |[],[],_=>rfl
 |[],b::r,h=>by simp at h
 |a::l,[],h=>by simp at h
 |a::l,b::r,h=>by
  simp only[List.map_cons,List.cons.injEq] at h
  have h1:a=b:=UInt8.toNat_inj.1 om
  rw[h1,acI h.2]
theorem arU{s:Str}(h:LI (bI s)):LB s.l:=by
 obtain⟨a,r,h1,h2⟩:=h;unfold bI at h1;obtain⟨a0,m,g,rfl,i⟩:=List.map_eq_append_iff.1 h1;have c:m.map (λb=>(b.toNat:Int))=[108,105,110,101,32].map (λb:UInt8=>(b.toNat:Int))++r:=i;obtain⟨o,n,rfl,j,q⟩:=List.map_eq_append_iff.1 c;obtain rfl:=acI j;refine⟨a0,n,g,?_⟩;rcases h2 with h2|⟨e,h2⟩;·exact .inl (List.map_eq_nil_iff.1 h2)
 ·have d:a0.map (λb=>(b.toNat:Int))=e++[10].map (λb:UInt8=>(b.toNat:Int)):=h2;obtain⟨f,p,rfl,_,k⟩:=List.map_eq_append_iff.1 d;obtain rfl:=acI k;exact .inr ⟨f,rfl⟩
instance aO9{s}:Spec (Uy (s,⟨[10]⟩)) True λv=>(v= -1/\∀k:Nat,s.l[k]?≠some 10)\/∃o:Nat,v=o/\s.l[o]?=some 10/\∀k:Nat,k<o->s.l[k]?≠some 10:=⟨λ_=>by
 unfold Uy J4
 dsimp only
 suffices WP (J4 (s,⟨[10]⟩)) λv=>(v= -1/\∀k:Nat,s.l[k]?≠some 10)\/∃o:Nat,v=o/\s.l[o]?=some 10/\∀k:Nat,k<o->s.l[k]?≠some 10 from wp_bind _ this λy c=>aD c
 unfold J4
 dsimp only
 refine aR (λh=>?_) λ_=>aR (λ_=>?_) λh=>by simp at h
 ·simp only[Bool.or_eq_true,decide_eq_true_eq] at h
  rcases h with h|rfl
  ·simp at h
  ·exact aD (.inr ⟨0,rfl,rfl,λk d=>om⟩)
 ·have e:fq ⟨[10]⟩ 0=some 10:=rfl
  rw[e,Option.bind_some]
  show WP (some _) _
  refine aD ?_
  have a:(10:Int).toNat.toUInt8=10:=rfl
  dsimp only
  rw[a]
  have b:=Lib.indexByte_ge s.l 10
  by_cases h:Lib.indexByte s.l 10= -1
  ·exact .inl ⟨h,Lib.indexByte_none h⟩
  ·obtain⟨o,ho⟩:∃o:Nat,Lib.indexByte s.l 10=o:=⟨(Lib.indexByte s.l 10).toNat,om⟩
   have:=Lib.indexByte_some ho
   exact .inr ⟨o,ho,this.1,this.2⟩⟩
instance aOU{s t}:Spec (DV (s,t)) (s.l.length<=1000000) λy=>y.1.l.length<=s.l.length/\y.2.1.l.length<=s.l.length/\(∀c,t.l=[c]->∃n,y.1.l=s.l.take n/\(n<s.l.length->s.l[n]?=some c)):=⟨λh=>by
 unfold DV
 rw[if_pos om]
 refine aD ?_
 unfold Lib.cut
 split
 ·rename_i h0
  dsimp only at h0 |-
  refine⟨by simp;omega,sm,λc a=>⟨(Lib.index s.l t.l).toNat,rfl,λb=>?_⟩⟩
  have h1:0<=Lib.indexByte s.l c:=by rw[<-Lib.index_one,<-a];exact h0
  rw[a,Lib.index_one]
  obtain⟨o,ho⟩:∃o:Nat,Lib.indexByte s.l c=o:=⟨(Lib.indexByte s.l c).toNat,om⟩
  rw[ho]
  exact (Lib.indexByte_some ho).1
 ·exact⟨Nat.le_refl _,sm,λc a=>⟨s.l.length,sm,λh=>absurd h (Nat.lt_irrefl _)⟩⟩⟩
theorem cls:rz 108=some 4/\rz 105=some 4/\rz 110=some 4/\rz 101=some 4/\rz 32=some 1:=by refine⟨rfl,rfl,rfl,rfl,rfl⟩
theorem aCK{b:Str}{r:List UInt8}(d:b.l=108::105::110::101::32::r){i z y:Int}(g:fq b i=some z)(f:rz z=some y)(h0:0<=i):(i<=3->y=4)/\(i=4->y=1):=by
 have a:∀{j c w:Int},i=j->fq b j=some c->rz c=some w->y=w:=λe h1 h2=>by subst e;rw[g] at h1;cases h1;rw[f] at h2;cases h2;rfl
 constructor
 ·intro h;have:i=0\/i=1\/i=2\/i=3:=by omega
  rcases this with e|e|e|e;·exact a e (by simp[fq,d]) cls.1
  ·exact a e (by simp[fq,d]) cls.2.1
  ·exact a e (by simp[fq,d]) cls.2.2.1
  ·exact a e (by simp[fq,d]) cls.2.2.2.1
 ·intro e;exact a e (by simp[fq,d]) cls.2.2.2.2
def VO(b:Str)(j:List Word×Int)(i:Int):Prop:=(-1<=j.2/\j.2<=i)/\((j.1.length:Int)<=i/\(0<=j.2->(j.1.length:Int)+1<=i))/\(∀w∈j.1,w.1.l.length<=65536)/\∀r,b.l=108::105::110::101::32::r->(i=0->j=([],-1))/\(1<=i->i<=4->j=([],0))/\(5<=i->1<=j.1.length/\(gi j.1 0).1=⟨LN⟩)
theorem Y8{α:Type}[Inhabited α]{l m:List α}(h:1<=l.length):gi (l++m) 0=gi l 0:=by rw[fP om,if_pos om]
instance aOt{s n}:Spec (L9 (s,n)) (s.l.length<=65536) λy=>y.2=true->y.1.length<=s.l.length/\(∀w∈y.1,w.1.l.length<=65536)/\∀r,s.l=108::105::110::101::32::r->1<=y.1.length/\(gi y.1 0).1=⟨LN⟩:=⟨λhs=>by
 unfold L9
 dsimp only
 refine aP om λT ⟨L,M,H⟩=>?_
 obtain⟨b,U⟩:=T
 dsimp only at L M H |-
 have A:∀r,s.l=108::105::110::101::32::r->∃B,b.l=108::105::110::101::32::B:=λr a=>by
  obtain⟨m,S,t⟩:=H 35 rfl
  rw[S,a]
  rw[a] at t
  match m with
  |0=>exact absurd (t sm) sm
  |1=>exact absurd (t sm) sm
  |2=>exact absurd (t sm) sm
  |3=>exact absurd (t sm) sm
  |4=>exact absurd (t sm) sm
  |m+5=>exact⟨r.take m,sm⟩
 have g:∀{G:List Word}{w:Word},(∀w∈G,w.1.l.length<=65536)->w.1.l.length<=65536->∀v∈G++[w],v.1.l.length<=65536:=λh1 h2 v q=>by
  rcases List.mem_append.1 q with q|q
  ·exact h1 v q
  ·rw[List.mem_singleton] at q;subst q;exact h2
 refine av (λj=>VO b j b.l.length) (λj ⟨h1,h2,d,f⟩=>aB (λh=>aD λ_=>⟨om,d,λr a=>?_⟩) λh=>Ak om (ak (aW (aD λ_=>⟨by simp;omega,g d (by simp;omega),λr a=>?_⟩)))) λW E=>?_
 ·obtain⟨B,c⟩:=A r a
  exact (f B c).2.2 (by rw[c];simp;omega)
 ·obtain⟨B,c⟩:=A r a
  have:=(f B c).2.2 (by rw[c];simp;omega)
  exact⟨sm,by dsimp only;rw[Y8 this.1];exact this.2⟩
 refine wp_loop (λx=>0<=x.2.2/\x.2.2<=b.l.length/\VO b (x.1,x.2.1) x.2.2) (λx=>(b.l.length-x.2.2).toNat) ⟨om,om,om,om,sm,λr a=>⟨λ_=>rfl,λh=>by simp at h,λh=>by simp at h⟩⟩ om λK x ⟨F,R,⟨h1,h2,d,f⟩⟩ I=>?_
 obtain⟨G,st,i⟩:=x
 dsimp only at F R h1 h2 d f I
 unfold arb
 dsimp only
 refine aB (λh=>av (λj=>VO b j (i+1)) (λV J=>ak (I _ ⟨om,om,J⟩ om)) λX D=>U4 ⟨F,h⟩ λz Y Z Q=>D5 trivial λy P _=>?_) λh=>E _ (by rw[show (b.l.length:Int)=i by omega];exact⟨h1,h2,d,f⟩)
 have C:=λr a=>aCK (r:=r) a Q P F
 refine aB (λO=>aB (λp=>D _ ⟨om,om,d,λr a=>?_⟩) λp=>D _ ⟨om,om,d,λr a=>?_⟩) λO=>aB (λN=>aB (λp=>D _ ⟨om,om,d,λr a=>?_⟩) λp=>Ak om (ak (aW (D _ ⟨om,om,g d (by simp;omega),λr a=>?_⟩)))) λN=>aD λh=>absurd h sm
 ·obtain⟨u,k,o⟩:=f r a
  obtain⟨c1,c2⟩:=C r a
  refine⟨λh=>om,λ_ h=>?_,λh=>?_⟩
  ·by_cases e:i=0
   ·subst e;have:=u rfl;simp only[Prod.mk.injEq] at this;rw[this.1]
   ·have:=k om om;simp only[Prod.mk.injEq] at this;omega
  ·by_cases e:i=4
   ·have:=c2 e;omega
   ·exact o om
 ·obtain⟨u,k,o⟩:=f r a
  obtain⟨c1,c2⟩:=C r a
  refine⟨λh=>om,λ_ h=>?_,λh=>?_⟩
  ·by_cases e:i=0
   ·subst e;have:=u rfl;simp only[Prod.mk.injEq] at this;omega
   ·exact k om om
  ·by_cases e:i=4
   ·have:=c2 e;omega
   ·exact o om
 ·obtain⟨u,k,o⟩:=f r a
  obtain⟨c1,c2⟩:=C r a
  refine⟨λh=>om,λ_ h=>?_,λh=>?_⟩
  ·have:=c1 om;omega
  ·by_cases e:i=4
   ·have:=k om om;simp only[Prod.mk.injEq] at this;omega
   ·exact o om
 ·obtain⟨u,k,o⟩:=f r a
  obtain⟨c1,c2⟩:=C r a
  refine⟨λh=>om,λ_ h=>?_,λh=>?_⟩
  ·have:=c1 om;omega
  ·by_cases e:i=4
   ·have:=k om om;simp only[Prod.mk.injEq] at this
    subst e
    obtain⟨rfl,rfl⟩:=this
    refine⟨sm,?_⟩
    simp[gi,a]
   ·have:=o om
    exact⟨sm,by rw[Y8 this.1];exact this.2⟩⟩
abbrev Em(rows:List (List Word)):Prop:=∀a∈rows,1<=a.length/\a.length<=64/\∀w∈a,w.1.l.length<=65536
abbrev Ve(rows:List (List Word)):Prop:=∃a∈rows,(gi a 0).1=⟨LN⟩
theorem Em.add{rows b}(h:Em rows)(hw:1<=b.length/\b.length<=64/\∀w∈b,w.1.l.length<=65536):Em (rows++[b]):=λw a=>by
 rcases List.mem_append.1 a with a|a
 ·exact h w a
 ·rw[List.mem_singleton] at a;subst a;exact hw
theorem afc{t:List UInt8}(h:LB t){o:Nat}(ho:t[o]?=some 10)(e:∀k:Nat,k<o->t[k]?≠some 10):(∃r,t.take o=108::105::110::101::32::r)\/LB (t.drop (o+1)):=by
 obtain⟨a,r,rfl,c⟩:=h;rcases c with rfl|⟨b,rfl⟩;·left;match o with|0=>simp at ho|1=>simp at ho|2=>simp at ho|3=>simp at ho|4=>simp at ho|o+5=>exact⟨r.take o,sm⟩
 ·right
  have d:o<=b.length:=by
   rcases Nat.lt_or_ge b.length o with h|h;·exact absurd sm (e b.length h)
   ·exact h
  refine⟨(b++[10]).drop (o+1),r,?_,?_⟩;·rw[List.drop_append_of_le_length (by simp;omega)]
  ·rcases Nat.lt_or_ge o b.length with h|h;·exact .inr ⟨b.drop (o+1),by rw[List.drop_append_of_le_length om]⟩
   ·exact .inl (List.drop_eq_nil_iff.2 (by simp;omega))
theorem afb{t:List UInt8}(h:LB t)(d:∀k:Nat,t[k]?≠some 10):∃r,t=108::105::110::101::32::r:=by
 obtain⟨a,r,rfl,c⟩:=h;rcases c with rfl|⟨b,rfl⟩;·exact⟨r,rfl⟩
 ·exact absurd sm (d b.length)
instance s63{t}:Spec (GY t) True λy=>y.2.2=0->y.1.length<=65537/\Em y.1/\(LB t.l->Ve y.1)/\(t=⟨[]⟩->y.1=[]):=⟨λ_=>by
 unfold GY
 have m:∀{a:List (List Word)}{b e:Int},e≠0->(λy:List (List Word)×Int×Int=>y.2.2=0->y.1.length<=65537/\Em y.1/\(LB t.l->Ve y.1)/\(t=⟨[]⟩->y.1=[])) (a,b,e):=λh e=>absurd e h
 refine aB (λh=>aD (m dc)) λR=>?_
 refine wp_loop (λx=>0<=x.2.1/\x.2.1+x.2.2.l.length<=65536/\(x.1.length:Int)<=x.2.1/\Em x.1/\(LB t.l->Ve x.1\/LB x.2.2.l)/\(t=⟨[]⟩->x.1=[]/\x.2.2.l=[])) (λx=>x.2.2.l.length) ⟨om,om,om,(by intro B h;cases h),λh=> .inr h,λh=>⟨rfl,by rw[h]⟩⟩ om λK x ⟨M,N,O,u,v,z⟩ D=>?_
 obtain⟨rows,n,s⟩:=x
 dsimp only at M N O u v z D
 unfold aq8
 dsimp only
 refine aP trivial λS g=>aB (λh=>ak (aP om λP q=>aR (λh=>aD (m dc)) λw=>aB (λh=>aD (m dc)) λC=>aB (λh0=>aW (aD λ_=>?_)) λh0=>aD λ_=>?_)) λh=>?_
 ·simp only[Bool.not_eq_false'] at w
  obtain⟨J,A,i⟩:=q w
  rcases g with ⟨_,k⟩|⟨o,e,_⟩
  ·refine⟨by simp;omega,u.add ⟨om,om,A⟩,λc=>?_,λd=>?_⟩
   ·rcases v c with ⟨B,F,G⟩|c
    ·exact⟨B,List.mem_append_left _ F,G⟩
    ·obtain⟨r,f⟩:=afb c k
     exact⟨P.1,sm,(i r f).2⟩
   ·have e:=(z d).2
    have:s.l.length=0:=by rw[e];rfl
    omega
  ·omega
 ·simp only[Bool.not_eq_false'] at w
  obtain⟨J,A,i⟩:=q w
  rcases g with ⟨_,k⟩|⟨o,e,_⟩
  ·refine⟨om,u,λc=>?_,λd=>(z d).1⟩
   rcases v c with c|c
   ·exact c
   ·obtain⟨r,f⟩:=afb c k
    have:=(i r f).1;omega
  ·omega
 ·rcases g with ⟨e,_⟩|⟨o,rfl,ho,k⟩
  ·omega
  have p:o<s.l.length:=by
   rcases Nat.lt_or_ge o s.l.length with h|h
   ·exact h
   ·rw[List.getElem?_eq_none h] at ho;cases ho
  refine ak (Ak om (ak (aP (by simp;omega) λQ E=>aR (λh=>aD (m dc)) λH=>aB (λh=>aD (m dc)) λC=>?_)))
  simp only[Bool.not_eq_false'] at H
  obtain⟨J,A,i⟩:=E H
  have L:((s.l.take ((o:Int)+0).toNat).drop (0:Int).toNat)=s.l.take o:=by simp
  have j:((s.l.take (s.l.length:Int).toNat).drop ((o:Int)+1).toNat)=s.l.drop (o+1):=by
   rw[show (s.l.length:Int).toNat=s.l.length by omega,List.take_length,show ((o:Int)+1).toNat=o+1 by omega]
  rw[L] at i
  have I:¬t=⟨[]⟩:=λd=>by have:=(z d).2;rw[this] at p;simp at p
  refine aB (λh0=>aW (ak (Ak om (D _ ⟨om,?_,om,u.add ⟨om,om,A⟩,λc=>?_,λd=>absurd d I⟩ ?_)))) λh0=>ak (Ak om (D _ ⟨om,?_,om,u,λc=>?_,λd=>absurd d I⟩ ?_))
  ·dsimp only;rw[j];simp;omega
  ·dsimp only;rw[j]
   rcases v c with ⟨B,F,G⟩|c
   ·exact .inl ⟨B,List.mem_append_left _ F,G⟩
   ·rcases afc c ho k with ⟨r,f⟩|c
    ·exact .inl ⟨Q.1,sm,(i r f).2⟩
    ·exact .inr c
  ·dsimp only;rw[j];simp;omega
  ·dsimp only;rw[j];simp;omega
  ·dsimp only;rw[j]
   rcases v c with c|c
   ·exact .inl c
   ·rcases afc c ho k with ⟨r,f⟩|c
    ·have:=(i r f).1;omega
    ·exact .inr c
  ·dsimp only;rw[j];simp;omega⟩
instance aPj{s t}:Spec (Q0 (s,t)) True λb=>b=true->t.l.length<=s.l.length:=⟨λ_=>by
 unfold Q0
 dsimp only
 refine ni (λ_=>True) (λh=>?_) λy _=>aD λh=>?_
 ·simp only[decide_eq_true_eq] at h
  unfold mX
  rw[if_pos om]
  exact aD trivial
 ·simp only[Bool.and_eq_true,decide_eq_true_eq] at h;omega⟩
instance aPa{s t}:Spec (Ux (s,t)) True λy=>y.1.l.length<=s.l.length:=⟨λ_=>by
 unfold Ux aaW
 dsimp only
 refine wp_bind (λy=>y.1.l.length<=s.l.length) ?_ λy b=>aD b
 refine aP trivial λv a=>aR (λh=>aD (Nat.le_refl _)) λh=>?_
 simp only[Bool.not_eq_false'] at h
 have:=a h
 exact Ak om (aD sm)⟩
theorem dig{v:Int}(h0:48<=v)(h1:v<=57):IntKind.i64.wrap (IntKind.u8.wrap (v-48))=v-48:=by
 have e:IntKind.u8.wrap (v-48)=v-48:=by show (v-48) % 256=v-48;omega
 rw[e];exact G5 om om
instance aOV{s}:Spec (iI s) (s.l.length<=65536) λy=> -1099511627776<=y.1/\y.1<=1099511627776:=⟨λhs=>by
 unfold iI
 refine aP trivial λc m=>ni (λ_=>True) (λh=>?_) λB _=>aR (λh=>aD sm) λh=>av (λj=>0<=j/\j<=1099511627776) (λv k=>av (λj=> -1099511627776<=j/\j<=1099511627776) (λw d=>aD d) λz a=>aR (λh=>ak (a _ om)) λh=>a _ om) λA e=>?_
 ·simp only[Bool.not_eq_true',decide_eq_false_iff_not,Uw] at h
  have f:(0:Int).toNat<c.1.l.length:=by simp;omega
  refine⟨((c.1.l[(0:Int).toNat]'f).toNat:Int),?_,trivial⟩
  unfold fq
  rw[if_pos (Int.le_refl 0),List.getElem?_eq_getElem f];rfl
 ·refine wp_loop (λx=>0<=x.1/\x.1<=1099511627776/\0<=x.2/\x.2<=c.1.l.length) (λx=>(c.1.l.length-x.2).toNat) ⟨om,om,om,om⟩ om λK x ⟨n,o,p,u⟩ g=>?_
  unfold aq9
  refine aB (λh=>U4 ⟨p,h⟩ λC a0 t i=>aP trivial λq r=>aR (λh=>aD sm) λb=>ak ?_) λh=>e _ ⟨n,o⟩
  rw[i,Option.bind_some]
  rw[r] at b
  simp only[Bool.not_eq_false',Bool.and_eq_true,decide_eq_true_eq] at b
  rw[dig b.1 b.2]
  exact ak (aB (λh=>aD sm) λh=>ak (g _ ⟨om,om,om,om⟩ om))⟩
instance aOY{s}:Spec (GZ s) (s.l.length<=65536) λy=>(-1099511627776<=y.1/\y.1<=1099511627776)/\ -1099511627776<=y.2.1/\y.2.1<=1099511627776:=⟨λhs=>by
 unfold GZ
 exact aP om λd c=>aP om λe a=>aP om λf b=>aR (λh=>aD sm) λh=>aD ⟨a,b⟩⟩
instance aOW{l s}:Spec (xV (l,s)) (l.length<=1000000) λy=> -1<=y/\y<l.length:=⟨λd=>by
 unfold xV
 refine av (λ_=>True) (λg c=>aD om) λi a=>?_
 refine wp_loop (λx=>0<=x/\x<=l.length) (λx=>(l.length-x).toNat) ⟨om,om⟩ om λK x ⟨e,f⟩ b=>?_
 unfold aqe
 exact aB (λh=>aA (aB (λ_=>aD ⟨om,h⟩) λh=>ak (b _ ⟨om,om⟩ om))) λh=>a _ trivial⟩
instance aOX{s}:Spec (KC s) True λy=> -1<=y/\y<=1:=⟨λ_=>by
 unfold KC
 exact av (λ_=>True) (λc b=>aD dc) λd a=>aB (λh=>aD dc) λh=>ak (aB (λh=>aD dc) λh=>ak (a _ trivial))⟩
class Rf (c:Bool) (p:outParam Prop):Prop where
 h:c=true↔p
instance (priority:=low) rfV{c:Bool}:Rf c (c=true):=⟨.rfl⟩
instance rfD{p:Prop}[Decidable p]:Rf (decide p) p:=⟨decide_eq_true_iff⟩
instance rfA{a b:Bool}{p q:Prop}[x:Rf a p][y:Rf b q]:Rf (a&&b) (p/\q):=⟨by rw[Bool.and_eq_true,x.h,y.h]⟩
instance rfO{a b:Bool}{p q:Prop}[x:Rf a p][y:Rf b q]:Rf (a||b) (p\/q):=⟨by rw[Bool.or_eq_true,x.h,y.h]⟩
instance rfN{a:Bool}{p:Prop}[x:Rf a p]:Rf (!a) (¬p):=⟨by rw[Bool.not_eq_true',<-Bool.not_eq_true,x.h]⟩
theorem dW{β:Type}{Q:β->Prop}{c:Bool}{p:Prop}[t:Rf c p]{a b:Option β}(h1:p->WP a Q)(h2:¬p->WP b Q):WP (if c then a else b) Q:=aR (λh=>h1 (t.h.1 h)) λh=>h2 λhp=>by rw[t.h.2 hp] at h;cases h
abbrev Aw:=Int×List Str×List Str×List Section×List Link×List Str×List Str×List Section×List Link
def PL(n:Int)(s:Aw):Prop:=0<=s.1/\s.1<=n/\(s.2.1.length:Int)<=s.1/\(s.2.2.1.length:Int)<=s.1/\(s.2.2.2.1.length:Int)<=s.1/\(s.2.2.2.2.1.length:Int)<=s.1
section
variable {Q:Layout×Int×Int->Prop}{n:Int}
theorem l25a{h:Aw->Option (Layout×Int×Int)}{a:Aw}{o:List Word}{b:List Str}{e f:Int}{g:Str}{m:Unit->Option (Layout×Int×Int)}(k:∀x,Q x)(j:All b λs=>s.l.length<=65536)(E:b.length=5\/b.length=7)(y:1<=o.length)(F:n<=65537)(w:PL n a)(i:a.1<n)(p:∀x,True->WP (m x) Q)(z:∀s,PL n s->(n-s.1).toNat<(n-a.1).toNat->WP (h s) Q):WP (iter (acv h a o b e f g m) FUEL 0) Q:=by obtain⟨K,L,M,N,O,P⟩:=w;refine wp_loop (λx=>0<=x/\x<=a.2.2.2.1.length) (λx=>(a.2.2.2.1.length-x).toNat) ⟨om,om⟩ om λB x ⟨G,H⟩ c=>?_;unfold acv;exact aB (λh1=>aA (aB (λh2=>dW (λt=>aA (aD (k _))) λt=>av (λ_=>True) (λI D=>aW (ak (z _ ⟨om,om,om,om,om,om⟩ om))) λJ d=>aB (λu=>aO j λr=>aP om λA q=>aB (λv=>aA (aD (k _))) λv=>aO j λC=>aB (λi=>d _ trivial) λi=>d _ trivial) λu=>d _ trivial) λh2=>ak (c _ ⟨om,om⟩ om))) λh1=>p _ trivial
theorem aCy{h:Aw->Option (Layout×Int×Int)}{a:Aw}{o:List Word}{b:List Str}{e f gY:Int}{g:Str}{m:Unit->Option (Layout×Int×Int)}(k:∀x,Q x)(j:All b λs=>s.l.length<=65536)(E:b.length=5\/b.length=7)(A:1<=o.length)(F:n<=65537)(z:PL n a)(i:a.1<n)(p:∀x,True->WP (m x) Q)(B:∀s,PL n s->(n-s.1).toNat<(n-a.1).toNat->WP (h s) Q):WP (iter (acy h a o b e f g gY m) FUEL 0) Q:=by obtain⟨I,J,K,L,M,N⟩:=z;refine wp_loop (λx=>0<=x/\x<=a.2.2.2.1.length) (λx=>(a.2.2.2.1.length-x).toNat) ⟨om,om⟩ om λD x ⟨G,H⟩ d=>?_;unfold acy;exact aB (λh1=>aA (aB (λh2=>dW (λv=>aA (aD (k _))) λv=>av (λ_=>True) (λP u=>aW (ak (B _ ⟨om,om,om,om,om,om⟩ om))) λO c=>aB (λw=>aO j λq=>aP om λC r=>aB (λy=>aA (aD (k _))) λy=>aO j λt=>aB (λi=>c _ trivial) λi=>c _ trivial) λw=>c _ trivial) λh2=>ak (d _ ⟨om,om⟩ om))) λh1=>p _ trivial
theorem l25b{q:Aw->Option (Layout×Int×Int)}{a:Aw}{v:List Word}{b:List Str}{k m:Int}{o p:Str}{u:Unit->Option (Layout×Int×Int)}(h:∀x,Q x)(g:All b λs=>s.l.length<=65536)(G:b.length=5\/b.length=7)(j:1<=v.length)(H:n<=65537)(r:PL n a)(f:a.1<n)(d:∀x,True->WP (u x) Q)(t:∀s,PL n s->(n-s.1).toNat<(n-a.1).toNat->WP (q s) Q):WP (iter (acw q a v b k m o p u) FUEL 0) Q:=by have i:=r;obtain⟨R,S,T,U,V,W⟩:=r;refine wp_loop (λx=>0<=x/\x<=a.2.2.2.1.length) (λx=>(a.2.2.2.1.length-x).toNat) ⟨om,om⟩ om λL x ⟨N,O⟩ e=>?_;unfold acw;exact aB (λh1=>aA (aB (λh2=>av (λ_=>True) (λI z=>dW (λD=>aA (aD (h _))) λD=>av (λ_=>True) (λM A=>aW (ak (t _ ⟨om,om,om,om,om,om⟩ om))) λK c=>aB (λE=>aO g λy=>aP om λJ B=>aB (λF=>aA (aD (h _))) λF=>aO g λC=>aB (λf=>c _ trivial) λf=>c _ trivial) λE=>c _ trivial) λP w=>aCy h g G j H i f w t) λh2=>ak (e _ ⟨om,om⟩ om))) λh1=>d _ trivial
end
instance aX{t}:Spec (Sk t) True λ_=>True:=⟨λ_=>by
 unfold Sk
 refine aP trivial λg p=>aR (λ_=>aD trivial) λh0=>av (λ_=>True) (λj1 Z=>aP trivial λv2 aa=>aR (λ_=>aD trivial) λh=>aD trivial) λk3 o=>?_
 obtain⟨r1,r2,_⟩:=p (by simpa using h0)
 refine wp_loop (PL g.1.length) (λx=>(g.1.length-x.1).toNat) ⟨om,om,om,om,om,om⟩ om λK5 s6 r f=>?_
 have d:=r
 obtain⟨F,p2,p3,p4,p5,p6⟩:=r
 unfold aoa
 refine aB (λc=>bW ⟨F,c⟩ ?_) λc=>o _ trivial
 have b:=r2 _ (dF ⟨F,c⟩)
 generalize gi g.1 s6.1=v7 at b |-
 have e:=b.1
 have u:(g.1.length:Int)<=65537:=by omega
 refine av (λy:List Str=>y.length=v7.length/\All y (λs=>s.l.length<=65536)) (λj8 ⟨w1,a⟩=>?_) λR5 n=>?_
 ·exact aO a λQJ=>dW (λh1=>aO a λzi=>aW (ak (f _ ⟨om,om,om,om,om,om⟩ om))) λh1=>aO a λQG=>dW (λh2=>aO a λQH=>aW (ak (f _ ⟨om,om,om,om,om,om⟩ om))) λh2=>aO a λR=>fC (λh=>by (simp only[Bool.and_eq_true,Bool.or_eq_true,Bool.not_eq_true',decide_eq_true_eq] at h;omega)) λae BS=>dW (λU=>aO a λS=>aO a λH=>aP H λaf P=>aO a λm=>aP m λag L=>aO a λj=>aP j λan T=>dW (λV=>aA (aD trivial)) λV=>av (λ_=>True) (λw9 J=>aW (ak (f _ ⟨om,om,om,om,om,om⟩ om))) λab q=>aB (λW=>aO a λv=>aP om λao O=>aB (λc=>aA (aD trivial)) λc=>q _ trivial) λW=>q _ trivial) λU=>aO a λw=>dW (λX=>aO a λz=>aO a λQ=>aP trivial λap A=>aP trivial λaq B=>fC (λh=>by (simp only[Bool.and_eq_true,Bool.or_eq_true,Bool.not_eq_true',decide_eq_true_eq] at h;omega)) λaw K=>fC (λh=>by (simp only[Bool.and_eq_true,Bool.or_eq_true,Bool.not_eq_true',decide_eq_true_eq] at h;omega)) λax C=>dW (λY=>aA (aD trivial)) λY=>aO a λM=>aO a λN=>av (λ_=>True) (λkZ ZK=>av (λ_=>True) (λCm ZL=>aA (aD trivial)) λlX G=>l25a (λ_=>trivial) a om e u d c G f) λqG i=>l25b (λ_=>trivial) a om e u d c i f) λX=>aA (aD trivial)
 ·refine wp_loop (λx=>0<=x.2/\x.2<=v7.length/\(x.1.length:Int)=x.2/\All x.1 (λs=>s.l.length<=65536)) (λx=>(v7.length-x.2).toNat) ⟨om,om,om,All.nil⟩ om λI x ⟨D,i1,i2,E⟩ k=>?_
  unfold aob
  exact aB (λh=>bW ⟨D,h⟩ (aW (ak (k _ ⟨om,om,om,All.app E (b.2.2 _ (dF ⟨D,h⟩))⟩ om)))) λh=>n _ ⟨om,E⟩⟩
end Go.Z
