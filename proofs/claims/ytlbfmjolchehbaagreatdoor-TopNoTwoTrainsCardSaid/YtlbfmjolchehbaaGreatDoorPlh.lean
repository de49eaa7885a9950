/- Several parts of the engine, one behind the other. -/
import Derived.Test.YtlbfmjolchehbaaGreatDoorPlg
set_option linter.all false
namespace Go.Z
open Go Go.Proofs Go.Dc Go.R
theorem aKb{a b:Int}(f:0<=a/\a<=1048576)(g: -65536<=b/\b<=65536): -68719476736<=a*b/\a*b<=68719476736:=by have c:=Int.mul_le_mul (show a<=1048576 by omega) (show b+65536<=131072 by omega) om om;have d:=Int.mul_nonneg (show 0<=a by omega) (show 0<=b+65536 by omega);have e:=Int.mul_nonneg (show 0<=a by omega) (show 0<=65536-b by omega);rw[Int.mul_add] at c d;rw[Int.mul_sub] at e;omega
instance s87{n}:Spec (IX n) True λy=>y.2=0->gK n/\ -50000000000000<=y.1/\y.1<=50000000000000:=⟨λ_=>by
 unfold IX
 refine aP trivial λt j=>aR (λh=>aD λe=>absurd e dc) λh=>?_
 have d:=j (by simpa using h)
 refine av (λy=> -50000000000000<=y/\y<=50000000000000) (λr f=>aD λ_=>⟨d,f⟩) λs i=>?_
 have l:=d.2.2.2.1
 refine wp_loop (λx=>0<=x.2/\x.2<=n.3.length/\ -68719476736*x.2<=x.1/\x.1<=68719476736*x.2) (λx=>(n.3.length-x.2).toNat) ⟨om,om,om,om⟩ om λk x ⟨m,o,p,q⟩ c=>?_
 unfold afS
 refine aB (λh=>aO d.2.2.2.2 λg=>?_) λh=>i _ om
 have:=aKb (a:=(gi n.3 x.2).6) (b:=(gi n.3 x.2).4) om om
 generalize (gi n.3 x.2).6*(gi n.3 x.2).4=z at*
 exact ak (ak (ak (c _ ⟨om,om,om,om⟩ om)))⟩
instance s32{n:Network}{cs:List Cycle}:Spec (NU (n,cs)) (cs.length≤1000∧All cs fun c=>c.1.length≤1000∧c.2.length≤1000) fun _=>True:=⟨fun⟨hl,hcs⟩=>by
 unfold NU
 dsimp only
 refine aP trivial fun v0 hv0=>aR (fun h=>aD trivial) fun h=>?_
 obtain⟨hN,hb⟩:=hv0 (by simpa using h)
 have QC:=hN.2.2.2.1
 refine iJ (by omega) (av (fun y:List Int=>y.length=n.3.length∧All y fun x=>0≤x∧x≤1048576) (fun j1 ⟨r1,r2⟩=>av (fun _=>True) (fun j2 hj2=>aD trivial) fun k3 hk3=>?_) fun CG ayS=>?_)
 ·refine wp_loop (fun x=>0≤x.2.2.1∧x.2.2.1≤cs.length∧(-50000000000000≤x.1∧x.1≤50000000000000+600000000000000*x.2.2.1)∧(x.2.1.length:Int)≤x.2.2.1∧x.2.2.2.length=n.3.length∧All x.2.2.2 fun y=> -1048576000*x.2.2.1≤y∧y≤1048576) (fun x=>(cs.length-x.2.2.1).toNat) ⟨om,om,⟨om,om⟩,om,r1,bB.imp r2 fun x hx=>by (dsimp only;omega)⟩ om fun K5 x ⟨i0,i1,i2,i3,i4,i5⟩ lS=>?_
  unfold afV
  dsimp only
  have hnx:All x.2.2.2 fun y=> -1048576000*(x.2.2.1+1)≤y∧y≤1048576:=bB.imp i5 fun y hy=>by omega
  refine aB (fun h=>av (fun y=>(-50000000000000≤y.1∧y.1≤50000000000000+600000000000000*(x.2.2.1+1))∧(y.2.1.length:Int)≤x.2.2.1+1∧y.2.2.length=n.3.length∧All y.2.2 fun y=> -1048576000*(x.2.2.1+1)≤y∧y≤1048576) (fun j7 ⟨a1,a2,a3,a4⟩=>ak (lS _ ⟨om,om,a1,a2,a3,a4⟩ om)) fun k8 uI=>aO hcs fun hc=>aP hc.1 fun v10 zi=>aR (fun h=>aD trivial) fun hz=>?_) fun h=>hk3 _ trivial
  obtain⟨_,c1,c2,c3,c4⟩:=zi.2 (by simpa using hz)
  generalize gi cs x.2.2.1=c at*
  have hres:∀{y:Int},0≤y∧y<n.3.length→0≤y∧y<x.2.2.2.length:=fun h=>by omega
  refine aO c3 fun g1=>aO i5 (fun g2=>aO i5 (fun _=>av (fun y=> -1048576000*x.2.2.1≤y∧y≤1048576) (fun gN aKJ=>aR (fun h=>uI _ ⟨om,om,i4,hnx⟩) fun hj=>?_) fun k25 Qq=>?_) (hres g1)) (hres g1)
  ·simp only[Bool.or_eq_false_iff,decide_eq_false_iff_not] at hj
   have hm:0≤gN*v10.1∧gN*v10.1≤600000000000000:=by
    have m1:=Int.mul_le_mul (show gN≤1048576 by omega) (show v10.1≤500000000 by omega) (by omega) (by omega)
    have m2:=Int.mul_nonneg (show 0≤gN by omega) (show 0≤v10.1 by omega)
    omega
   generalize gN*v10.1=z at*
   refine av (fun y:List Int=>y.length=n.3.length∧All y fun y=> -1048576000*(x.2.2.1+1)≤y∧y≤1048576) (fun iP ⟨b1,b2⟩=>ak (ak (aW (aW (aW (uI _ ⟨om,om,b1,b2⟩)) (by omega)) (by omega)))) fun k16 ZV=>?_
   refine wp_loop (fun y=>0≤y.1∧y.1≤c.1.length∧y.2.length=n.3.length∧All y.2 fun z=> -1048576000*x.2.2.1-1048576*y.1≤z∧z≤1048576) (fun y=>(c.1.length-y.1).toNat) ⟨om,om,i4,bB.imp i5 fun y hy=>by (dsimp only;omega)⟩ om fun K18 y ⟨d0,d1,d2,d3⟩ aw2=>?_
   unfold afW
   have hr2:∀{z:Int},0≤z∧z<n.3.length→0≤z∧z<y.2.length:=fun h=>by omega
   exact aB (fun h=>aO c3 fun g3=>aO d3 (fun g4=>aO d3 (fun _=>ak (aO d3 (fun _=>aO d3 (fun _=>ak (aw2 _ ⟨om,om,by simpa using d2,All.set (bB.imp d3 fun z hz=>by (dsimp only;omega)) om g3.1 (hr2 g3).2⟩ om)) (hr2 g3)) (hr2 g3))) (hr2 g3)) (hr2 g3)) fun h=>ZV _ ⟨d2,bB.imp d3 fun z hz=>by omega⟩
  ·refine wp_loop (fun y=>0≤y.2∧y.2≤c.1.length∧ -1048576000*x.2.2.1≤y.1∧y.1≤1048576) (fun y=>(c.1.length-y.2).toNat) ⟨om,om,g2⟩ om fun Ea y ⟨d0,d1,d2⟩ Zo=>?_
   unfold afX
   exact aB (fun h=>aO c3 fun g3=>aO i5 (fun g4=>aO i5 (fun _=>ak (Zo _ ⟨om,om,om⟩ om)) (hres g3)) (hres g3)) fun h=>Qq _ d2
 ·refine wp_loop (fun x=>0≤x.1∧x.1≤n.3.length∧x.2.length=n.3.length∧All x.2 fun y=>0≤y∧y≤1048576) (fun x=>(n.3.length-x.1).toNat) ⟨om,om,by simp,All.rep (by decide)⟩ om fun K34 x ⟨i0,i1,i2,i3⟩ aw8=>?_
  unfold afU
  dsimp only
  exact aB (fun h=>aO hN.2.2.2.2 fun g=>aA (aA (ak (aw8 _ ⟨om,om,by simpa using i2,All.set i3 (by omega) (by omega) (by omega)⟩ om)))) fun h=>ayS _ ⟨i2,i3⟩⟩
instance aOz{l}:Spec (Ut l) (l≠[]/\l.length<=1000) λy=>y=l:=⟨λ⟨h1,h2⟩=>by
 unfold Ut
 refine fB ?_ (aW (aD rfl))
 cases l with
 |nil=>exact absurd rfl h1
 |cons=>rfl⟩
instance bM{n:Network}{l:List Int}:Spec (Jd (n,l)) (n.2≠[]/\n.2.length<=1000/\l.length<=1000/\All l λx=>0<=x/\x<n.3.length) λ_=>True:=⟨λ⟨h1,h2,e,c⟩=>by
 unfold Jd
 dsimp only
 refine aP ⟨h1,h2⟩ λo _=>av (λ_=>True) (λk _=>aD trivial) λm b=>?_
 refine wp_loop (λx=>0<=x.1/\x.1<=l.length/\(x.2.length:Int)=x.1) (λx=>(l.length-x.1).toNat) ⟨om,om,om⟩ om λd x ⟨f,i,j⟩ a=>?_
 unfold ahE
 dsimp only
 exact aB (λh=>aO c λg=>aA (aW (ak (a _ ⟨om,om,om⟩ om)))) λh=>b _ trivial⟩
instance bP{n:Network}{b:Int}:Spec (OA (n,b)) (n.2≠[]) λ_=>True:=⟨λm=>by
 unfold OA
 dsimp only
 refine aP trivial λv0 o=>aR (λh=>aD trivial) λh=>?_
 have t:=o (by simpa using h)
 have V:=t.2.2.2.1
 have N:=t.2.2.1
 refine aR (λh=>aD trivial) λM=>?_
 simp only[Bool.or_eq_false_iff,decide_eq_false_iff_not] at M
 refine aB (λh=>aD trivial) λh0=>aP trivial λv1 ⟨_,P,Q⟩=>aB (λq=>aR (λh=>aD trivial) λh=>absurd h (by simp;omega)) λq=>ak (ak (aB (λh=>aD trivial) λh=>iJ om ?_))
 refine av (λy:List Bool=>y.length=n.3.length) (λB f=>av (λy=>y.2.2.2.2.2.length=n.3.length) (λA L=>av (λ_=>True) (λX _=>aD trivial) λU i=>?_) λuU j=>?_) λqI k=>?_
 ·refine wp_loop (λx=>0<=x.2/\x.2<=A.2.2.2.2.2.length/\(x.1.length:Int)<=x.2) (λx=>(A.2.2.2.2.2.length-x.2).toNat) ⟨om,om,om⟩ om λC x ⟨u,v,a⟩ c=>?_
  unfold ahA
  exact aB (λh=>av (λy=>(y.length:Int)<=x.2+1) (λiG W=>ak (c _ ⟨om,om,om⟩ om)) λlg w=>aA (aA (aR (λh=>aW (w _ om)) λh=>w _ om))) λh=>i _ trivial
 ·refine wp_loop (λx=>0<=x.1/\x.1<=B.length/\(0<=x.2.1/\x.2.1<=1048576)/\(0<=x.2.2.1/\x.2.2.1<=1048576*(x.1+1))/\(x.2.2.2.2.2.1.length:Int)<=x.1/\x.2.2.2.2.2.2.length=n.3.length) (λx=>(B.length-x.1).toNat) ⟨om,om,⟨om,om⟩,⟨om,om⟩,om,f⟩ om λD x ⟨u,v,a,i3,i4,p⟩ d=>?_
  unfold ahB
  dsimp only
  refine aB (λh=>av (λy=>(0<=y.1/\y.1<=1048576)/\(0<=y.2.1/\y.2.1<=1048576*(x.1+2))/\(y.2.2.2.2.1.length:Int)<=x.1+1/\y.2.2.2.2.2.length=n.3.length) (λuQ ⟨I,Y,J,K⟩=>ak (d _ ⟨om,om,I,⟨om,om⟩,J,K⟩ om)) λqH s=>aA (aA (av (λy:List Int=>y.length<=n.3.length/\All y λx=>0<=x/\x<n.3.length) (λO g=>aP ⟨m,om,om,g.2⟩ λR _=>aB (λh=>aD trivial) λh=>aP trivial λS ⟨_,P,Q⟩=>aB (λq=>aR (λh=>aD trivial) λh=>absurd h (by simp;omega)) λq=>ak (ak (aB (λh=>aA (aA (aW (s _ ⟨om,om,om,by simpa using p⟩)))) λh=>s _ ⟨om,om,om,by simpa using p⟩))) λsM F=>?_))) λh=>j _ p
  refine wp_loop (λy=>0<=y.2/\y.2<=n.3.length/\(y.1.length:Int)<=y.2/\All y.1 λx=>0<=x/\x<n.3.length) (λy=>(n.3.length-y.2).toNat) ⟨om,om,om,All.nil⟩ om λE y ⟨d0,Z,d2,l⟩ e=>?_
  unfold ahC
  exact aB (λh=>av (λz=>(z.length:Int)<=y.2+1/\All z λx=>0<=x/\x<n.3.length) (λxA G=>ak (e _ ⟨om,by (simp at h;dsimp only;omega),om,G.2⟩ (by simp at h;dsimp only;omega))) λmJ r=>aA (aA (aR (λ_=>aW (r _ ⟨om,All.app l (by simp at h;omega)⟩)) λh=>r _ ⟨om,l⟩))) λh=>F _ ⟨om,l⟩
 ·refine wp_loop (λx=>0<=x.1/\x.1<=n.3.length/\x.2.length=n.3.length) (λx=>(n.3.length-x.1).toNat) ⟨om,om,sm⟩ om λT x ⟨u,v,a⟩ H=>?_
  unfold ahD
  dsimp only
  exact aB (λh=>aA (aA (ak (H _ ⟨om,by (simp at h;dsimp only;omega),by simpa using a⟩ (by simp at h;dsimp only;omega))) (by simp at h;omega)) (by simp at h;omega)) λh=>k _ a⟩
theorem Fh{x:Int}(h:0<=x/\x<=1000000000):IntKind.i64.wrap ((IntKind.u64.wrap x).fdiv 2)=x / 2:=by
 have e:IntKind.u64.wrap x=x:=by show x % 18446744073709551616=x;omega
 have a:x.fdiv 2=x / 2:=Int.fdiv_eq_ediv_of_nonneg x dc;rw[e,a];exact G5 om om
abbrev bV(N m:Int)(d:List Int):Prop:=(d.length:Int)=N/\All d λx=>0<=x/\x<m
abbrev x9(ac:List bE):Prop:=All ac λa=> -65536<=a.4/\a.4<=a.5/\a.5<=65536
theorem bV.sw{N m:Int}{d:List Int}(h:bV N m d){i j x y:Int}(hi:0≤i∧i<N)(hj:0≤j∧j<N)(hx:0≤x∧x<m)(hy:0≤y∧y<m):bV N m ((d.set i.toNat x).set j.toNat y):=
 ⟨by have:=h.1;simp;exact this,All.set (All.set h.2 hx hi.1 (by have:=h.1;omega)) hy hj.1 (by have:=h.1;simp;omega)⟩
section
variable {β:Type}{Q:β->Prop}{N M:Int}{ac:List bE}
theorem swp{s:List Int}(h:bV N M s)(g:N<=1000000){x y:Int}(c:0<=x/\x<N)(e:0<=y/\y<N)(K:List Int->Option β)(f:∀d,bV N M d->WP (K d) Q):WP (ah (aj x)<|ah (aj y)<|(idx s y).bind λ_=>(idx s y).bind λa=>ah (aj x)<|(idx s x).bind λ_=>(idx s x).bind λb=>(idx s x).bind λ_=>ah (aj y)<|(idx s x).bind λ_=>(idx (List.set s x.toNat a) y).bind λ_=>(idx (List.set s x.toNat a) y).bind λ_=>K ((List.set s x.toNat a).set y.toNat b)) Q:=by have i:=h.1;have h1:=h.2 y e.1 om;have h2:=h.2 x c.1 om;exact ak (ak (aA (aA (ak (aA (aA (aA (ak (aA (aA (aA (f _ (h.sw c e h1 h2)))))))))))))
theorem Jc(a:x9 ac){x y:Int}(g:0<=x/\x<ac.length)(h:0<=y/\y<ac.length)(K:Int->Option β)(i:∀d,WP (K d) Q):WP ((idx ac x).bind λb=>(idx ac x).bind λc=>ah (aj (b.5-c.4))<|(idx ac y).bind λe=>(idx ac y).bind λf=>ah (aj (e.5-f.4))<|ah (aj (b.5-c.4-(e.5-f.4)))<|K (b.5-c.4-(e.5-f.4))) Q:=aO a (λj=>aO a (λ_=>ak (aO a (λk=>aO a (λ_=>ak (ak (i _))) h) h)) g) g
end
section
variable {R:mh->Option mq}{Q:Unit×List Int->Prop}{N:Int}{d:List Int}{a m b T:Int}{ev:List Event}{ac:List bE}
theorem asY(f:bV N ac.length d)(i:N<=1000000){c:Int×List Int}(j:bV N ac.length c.2)(h0:0<=c.1)(h1:0<=m-c.1)(h2:m+c.1<=N){k:List Int->Option (Unit×List Int)}(l:∀d,bV N ac.length d->WP (k d) Q):WP (iter (ad7 R (d,a,m,b,T,ev,ac) k c) FUEL (0,c.2)) Q:=by refine wp_loop (λx=>0<=x.1/\x.1<=c.1/\bV N ac.length x.2) (λx=>(c.1-x.1).toNat) ⟨om,om,j⟩ om λn x ⟨o,p,g⟩ e=>?_;unfold ad7;dsimp only;exact aB (λh=>swp g i om om (λd=>ah (aj (x.1+1))<|n (x.1+1,d)) λd f=>ak (e _ ⟨om,om,f⟩ om)) λh=>l _ g
theorem as0(e:bV N ac.length d)(o:N<=1000000){i j:Int}{n:List Int}(g:bV N ac.length n)(hi:1<=i)(v:1<=j)(h1:0<=m-i)(h2:m+j<=N){k:Int×List Int->Option (Unit×List Int)}(u:∀x:Int×List Int,0<=x.1->0<=m-x.1->m+x.1<=N->bV N ac.length x.2->WP (k x) Q):WP (iter (ad8 R (d,a,m,b,T,ev,ac) k) FUEL (i,j,n)) Q:=by
 refine wp_loop (λx=>1<=x.1/\1<=x.2.1/\0<=m-x.1/\m+x.2.1<=N/\bV N ac.length x.2.2) (λx=>(x.1+x.2.1).toNat) ⟨om,om,om,om,g⟩ om λC x ⟨w,z,A,B,l⟩ c=>?_;unfold ad8;dsimp only;refine aR (λh=>?_) λh=>?_
 ·simp only[Bool.not_eq_true',decide_eq_false_iff_not] at h;refine aB (λt=>ak ?_) λt=>ak (ak (ak ?_));·refine wp_loop (λy=>0<=y.1/\y.1<=x.2.1/\bV N ac.length y.2) (λy=>(x.2.1-y.1).toNat) ⟨om,om,l⟩ om λp y ⟨s,c1,c2⟩ r=>?_;unfold aqf;dsimp only;exact aB (λh=>swp c2 o om om (λd=>ah (aj (y.1+1))<|p (y.1+1,d)) λd e=>ak (r _ ⟨om,om,e⟩ om)) λh=>ak (c _ ⟨om,om,om,om,c2⟩ om)
  ·refine wp_loop (λy=>0<=y.1/\y.1<=x.1/\bV N ac.length y.2) (λy=>(x.1-y.1).toNat) ⟨om,om,l⟩ om λq y ⟨s,c1,c2⟩ f=>?_;unfold aqg;dsimp only;exact aB (λh=>swp c2 o om om (λd=>ah (aj (y.1+1))<|q (y.1+1,d)) λd e=>ak (f _ ⟨om,om,e⟩ om)) λh=>ak (c _ ⟨om,om,om,om,c2⟩ om)
 ·simp only[Bool.not_eq_false',decide_eq_true_eq] at h;exact u _ om om om l
theorem asW(l:x9 ac)(c:bV N ac.length d)(p:N<=1000000)(h:0<=a/\a<m/\m<b/\b<=N){k:Int->Option (Unit×List Int)}(n:∀x,m<=x->x<=b->WP (k x) Q):WP (iter (ad6 R (d,a,m,b,T,ev,ac) k) FUEL (m,b)) Q:=by refine wp_loop (λx=>m<=x.1/\x.1<=x.2/\x.2<=b) (λx=>(x.2-x.1).toNat) ⟨om,om,om⟩ om λf x ⟨o,r,s⟩ e=>?_;unfold ad6;dsimp only;have q:=c.1;refine aB (λh2=>ak ?_) λh2=>n _ o om;rw[Fh om];exact aO c.2 λ_=>aO c.2 λg=>aO c.2 λ_=>aO c.2 λi=>Jc l g i (λv=>if decide (v<0) then ah (aj ((x.1+x.2) / 2+1))<|f ((x.1+x.2) / 2+1,x.2) else f (x.1,(x.1+x.2) / 2)) λv=>aB (λj=>ak (e _ ⟨om,om,om⟩ om)) λj=>e _ ⟨om,om,om⟩ om
theorem as6(n:x9 ac)(r:bV N ac.length d)(q:N<=1000000){f:List Int}(c:bV N ac.length f)(h:0<=a/\a<m/\m<b/\b<=N){k:Int->Option (Unit×List Int)}(o:∀x,a<=x->x<=m->WP (k x) Q):WP (iter (aeb R (d,a,m,b,T,ev,ac) f k) FUEL (a,m)) Q:=by refine wp_loop (λx=>a<=x.1/\x.1<=x.2/\x.2<=m) (λx=>(x.2-x.1).toNat) ⟨om,om,om⟩ om λg x ⟨p,t,u⟩ e=>?_;unfold aeb;dsimp only;have s:=c.1;refine aB (λh2=>ak ?_) λh2=>o _ p om;rw[Fh om];exact aO c.2 λ_=>aO c.2 λi=>aO c.2 λ_=>aO c.2 λj=>Jc n i j (λv=>if !decide (v<0) then ah (aj ((x.1+x.2) / 2+1))<|g ((x.1+x.2) / 2+1,x.2) else g (x.1,(x.1+x.2) / 2)) λv=>aR (λl=>ak (e _ ⟨om,om,om⟩ om)) λl=>e _ ⟨om,om,om⟩ om
theorem as2(n:x9 ac)(q:N<=1000000){f:List Int}(c:bV N ac.length f)(h:0<=a/\a<m/\m<b/\b<=N){s r:Int}(hs:0<=s/\s<=r)(h1:r<=(a+b) / 2+m/\r<=N)(h2:(a+b) / 2+m-s<=N){k:Int->Option (Unit×List Int)}(o:∀x,s<=x->x<=r->WP (k x) Q):WP (iter (ad9 R (d,a,m,b,T,ev,ac) f k) FUEL (s,r)) Q:=by refine wp_loop (λx=>s<=x.1/\x.1<=x.2/\x.2<=r) (λx=>(x.2-x.1).toNat) ⟨om,om,om⟩ om λg x ⟨p,u,w⟩ e=>?_;unfold ad9;dsimp only;have t:=c.1;refine aB (λh2=>ak ?_) λh2=>o _ p om;rw[Fh (x:=x.1+x.2) om,Fh (x:=a+b) om];exact ak (aO c.2 λ_=>aO c.2 λi=>aO c.2 λ_=>aO c.2 λj=>Jc n i j (λv=>if !decide (v<0) then ah (aj ((x.1+x.2) / 2+1))<|g ((x.1+x.2) / 2+1,x.2) else g (x.1,(x.1+x.2) / 2)) λv=>aR (λl=>ak (e _ ⟨om,om,om⟩ om)) λl=>e _ ⟨om,om,om⟩ om)
theorem as3(k:N<=1000000){b s:Int}(h0:0<=b)(hs:s<N){d:List Int}(i:bV N ac.length d)(g:∀d,bV N ac.length d->Q (PUnit.unit,d)):WP (iter (aea R b) FUEL (s,d)) Q:=by refine wp_loop (λx=>x.1<N/\bV N ac.length x.2) (λx=>(x.1-b).toNat) ⟨hs,i⟩ om λj x ⟨m,a⟩ f=>?_;unfold aea;have l:=a.1;exact aB (λh=>ak (aO a.2 λ_=>aO a.2 λc=>aO a.2 λ_=>aO a.2 λe=>aA (ak (aA (aA (aA (ak (f _ ⟨om,a.sw om om c e⟩ om)))))))) λh=>aD (g _ a)
theorem as7(k:N<=1000000){b s:Int}(h0:0<=s)(hs:b<=N)(l: -1000000<=b){d:List Int}(i:bV N ac.length d)(g:∀d,bV N ac.length d->Q (PUnit.unit,d)):WP (iter (aec R b) FUEL (s,d)) Q:=by refine wp_loop (λx=>0<=x.1/\bV N ac.length x.2) (λx=>(b-x.1).toNat) ⟨h0,i⟩ om λj x ⟨n,a⟩ f=>?_;unfold aec;have m:=a.1;exact ak (aB (λh=>ak (aO a.2 λ_=>aO a.2 λc=>aO a.2 λ_=>aO a.2 λe=>aA (ak (aA (aA (aA (ak (f _ ⟨om,a.sw om om c e⟩ om)))))))) λh=>aD (g _ a))
theorem aIO(q:x9 ac)(e:N<=1000000)(w:∀(d:List Int) (i s k:Int),bV N ac.length d->0<=i/\i<s/\s<k/\k<=N->k-i<b-a->WP (R (d,i,s,k,T,ev,ac)) λy=>bV N ac.length y.2)(c:bV N ac.length d)(h:0<=a/\a<m/\m<b/\b<=N):WP (ad5 R (d,a,m,b,T,ev,ac)) λy=>bV N ac.length y.2:=by
 unfold ad5;dsimp only;rw[Fh (x:=a+b) om];refine av (λj:List Int=>bV N ac.length j) (λU f=>av (λj:List Int=>bV N ac.length j) (λV g=>ak (ak (av (λj:Int×Int=>(0<=j.1/\j.1<=j.2)/\(j.2<=(a+b) / 2/\j.2<=m/\a<=j.1)/\(a+b) / 2+m-j.1<=b) (λW H=>ak (av (λj:Int=>(a<=j/\j<=(a+b) / 2/\j<=m)/\(a+b) / 2+m-j<=b) (λX I=>ak (av (λj:List Int=>bV N ac.length j) (λY z=>av (λj:List Int=>bV N ac.length j) (λZ A=>aR (λh=>?_) λh=>aD A) λk7 t=>aR (λh=>?_) λh=>t _ z) λk9 u=>aR (λh=>?_) λh=>u _ g)) λlg M=>as2 q e g h om om om λx h1 h2=>M _ om)) λxG v=>aB (λh=>ak (v _ om)) λh=>v _ om))) λP B=>ak (aB (λh=>av (λj:Int=>a<=j/\j<=m) (λzx D=>as3 e om om f λd c=>c) λQ n=>as6 q c e f om λx h1 h2=>n _ ⟨h1,h2⟩) λh=>B _ f)) λL o=>ak (aB (λh=>av (λj:Int=>m<=j/\j<=b) (λjQ E=>as7 e om om om c λd c=>c) λS p=>asW q c e om λx h1 h2=>p _ ⟨h1,h2⟩) λh=>o _ c);all_goals simp only[Bool.and_eq_true,decide_eq_true_eq] at h
 ·exact wp_bind _ (w _ _ _ _ A om om) λv6 r=>aD r
 ·exact wp_bind _ (w _ _ _ _ z om om) λv8 O=>t _ O
 ·exact ak (ak (av (λj:Int×List Int=>0<=j.1/\0<=m-j.1/\m+j.1<=N/\bV N ac.length j.2) (λJ l=>ak (asY c e l.2.2.2 l.1 l.2.1 l.2.2.1 u)) λK C=>as0 c e g om om om om λx h1 h2 F G=>C _ ⟨h1,h2,F,G⟩))
end
theorem aqB{N T:Int}{ev:List Event}{ac:List bE}(c:x9 ac)(e:N<=1000000):∀(n:Nat) (d:List Int) (a m b:Int),bV N ac.length d->0<=a/\a<m/\m<b/\b<=N->b-a<n->WP (Lc n (d,a,m,b,T,ev,ac)) λy=>bV N ac.length y.2|0,d,a,m,b,_,h,h2=>by omega|n+1,d,a,m,b,k,h,h2=>aIO c e (λd f l g i j o=>aqB c e n d f l g i j om) k h
theorem aqA{N T:Int}{ev:List Event}{ac:List bE}(c:x9 ac)(e:N<=1000000){d:List Int}{a m b:Int}(f:bV N ac.length d)(h:0<=a/\a<m/\m<b/\b<=N):WP (Uu (d,a,m,b,T,ev,ac)) λy=>bV N ac.length y.2:=aqB c e FUEL d a m b f h (by have:(FUEL:Int)=18446744073709551616:=rfl;omega)
theorem gK.ac{n:Network}(h:gK n):x9 n.3:=h.2.2.2.2.imp λa b=>by omega
section
variable {n:Network}{Q:List Int->Prop}
theorem aIU(o:gK n){d:List Int}{c:Int×List Int}{s N:Int}(B:N<=1000000)(h0:0<=c.1)(hs:s<N)(p:bV N n.3.length d){k:List Int->Option (List Int)}(g:∀d,bV N n.3.length d->WP (k d) Q):WP (iter (XT n c k) FUEL (s,d)) Q:=by
 refine wp_loop (λx=>x.1<N/\bV N n.3.length x.2) (λx=>(x.1-c.1).toNat) ⟨hs,p⟩ om λw x ⟨C,b⟩ m=>?_;unfold XT;have A:=b.1;have z:∀{y:Int},(decide (c.1<x.1)=true->0<=y/\y<N)->decide (c.1<x.1)=true->0<=y/\y<(x.2.length:Int):=λh1 h2=>by have:=h1 h2;omega
 have l:=o.ac;refine fC (λa=>by simp at a;omega) λq _=>fC (λa=>by simp at a;omega) λr j=>fB (Gi λa=>by simp at a;simp[aj];omega) (fC (λa=>by simp at a;omega) λt _=>fC (λa=>by simp at a;omega) λu i=>aB (λh=>?_) λh=>aR (λh2=>absurd h2 sm) λ_=>g _ b);have e:=b.2 x.1 om om;have f:=b.2 (x.1-1) om om;rw[j (by simpa using h),i (by simpa using h)];exact Jc l e f (λv=>if decide (c.1<x.1)&&decide (v<0) then _ else k x.2) λv=>aR (λh=>ak (aA (aA (aA (aA (aA (ak (aA (aA (aA (ak (m _ ⟨om,b.sw om om f e⟩ om)))))))))))) λh=>g _ b
theorem aIT(m:gK n){d:List Int}{s72:Int×Int×List Int}{s N:Int}(y:N<=1000000)(h0:0<=s72.1)(hs:s<N)(o:bV N n.3.length d){k:List Int->Option (List Int)}(f:∀d,bV N n.3.length d->WP (k d) Q):WP (iter (XU n s72 k) FUEL (s,d)) Q:=by refine wp_loop (λx=>x.1<N/\bV N n.3.length x.2) (λx=>(x.1-s72.1).toNat) ⟨hs,o⟩ om λu x ⟨z,b⟩ l=>?_;unfold XU;have w:=b.1;have j:=m.ac;refine fC (λa=>by simp at a;omega) λp _=>fC (λa=>by simp at a;omega) λq i=>fB (Gi λa=>by simp at a;simp[aj];omega) (fC (λa=>by simp at a;omega) λr _=>fC (λa=>by simp at a;omega) λt g=>aB (λh=>?_) λh=>aR (λh2=>absurd h2 sm) λ_=>f _ b);have c:=b.2 x.1 om om;have e:=b.2 (x.1-1) om om;rw[i (by simpa using h),g (by simpa using h)];exact Jc j c e (λv=>if decide (s72.1<x.1)&&decide (v<0) then _ else k x.2) λv=>aR (λh=>ak (aA (aA (aA (aA (aA (ak (aA (aA (aA (ak (l _ ⟨om,b.sw om om e c⟩ om)))))))))))) λh=>f _ b
theorem aDt{p:List Int}(h:Po p){i:Int}(h0:0<=i)(h1:i<p.length):Po (p.set i.toNat i):=λj a b=>by
 rw[dU h0 a om]
 split
 ·omega
 ·exact h j a (by simpa using b)
theorem aDs{k:Nat}:Po (List.replicate k 0):=λj a b=>by
 rw[qm a (by simpa using b)];omega
end
instance s31{n}:Spec (OO n) True λy=>y.length<=512:=⟨λ_=>by
 unfold OO
 refine aP trivial λv0 I=>aR (λh=>aD sm) λh=>?_
 have d:=I (by simpa using h)
 have QC:=d.2.2.2.1
 have af:=d.2.2.1
 refine iJ om (av (λy:List Int=>bV n.3.length n.3.length y) (λj1 e=>av (λy:Int×List Int=>(0<=y.1/\y.1<=n.3.length)/\bV n.3.length n.3.length y.2) (λj2 l=>ak ?_) λmJ P=>?_) λRv A=>?_)
 ·refine wp_loop (λx=>0<=x.1/\x.1<=n.3.length+1/\bV n.3.length n.3.length x.2) (λx=>(n.3.length+1-x.1).toNat) ⟨om,om,l.2⟩ om λK4 x ⟨g,j,f⟩ G=>?_
  unfold ahX
  have H:=e.1
  refine aB (λh=>av (λy:List Int=>bV n.3.length n.3.length y) (λj6 W=>ak (G _ ⟨om,om,W⟩ om)) λk7 T=>aIU d om l.1.1 om f T) λh=>?_
  refine wp_loop (λy=>20<=y.1/\y.1<=2000/\bV n.3.length n.3.length y.2) (λy=>(2000-y.1).toNat) ⟨om,om,f⟩ om λEb y ⟨c0,c1,c2⟩ r=>?_
  unfold ahY
  dsimp only
  refine aB (λh=>ak (av (λz:Int×List Int=>(0<=z.1/\z.1<=n.3.length)/\bV n.3.length n.3.length z.2) (λkZ M=>av (λz:List Int=>bV n.3.length n.3.length z) (λCm X=>ak (r _ ⟨om,om,X⟩ om)) λnP L=>ak (aB (λh=>wp_bind _ (aqA d.ac om M.2 om) λan B=>L _ B) λh=>L _ M.2)) λRU C=>?_)) λh=>iJ om (av (λz:List Int=>z.length=n.2.length/\Po z) (λiG V=>av (λz:List Int×List Int=>z.1.length<=512) (λQ R=>aD (by rw[(GA Q.1).length_eq];exact R)) λo9 S=>?_) λCV D=>?_)
  ·refine wp_loop (λz=>0<=z.1/\z.1<=n.3.length/\z.2.1=z.1+2*y.1/\bV n.3.length n.3.length z.2.2) (λz=>(n.3.length-z.1).toNat) ⟨om,om,om,c2⟩ om λMl z ⟨d0,E,m,c⟩ s=>?_
   unfold ahZ
   exact aB (λh=>ak (wp_bind _ (aqA d.ac om c om) λao p=>ak (ak (s _ ⟨om,om,om,p⟩ om)))) λh=>C _ ⟨⟨d0,E⟩,c⟩
  ·have ag:=c2.1
   refine wp_loop (λz=>0<=z.2.1/\z.2.1<=y.2.length/\(z.1.length:Int)<=z.2.1/\z.2.2.length=n.2.length/\Po z.2.2) (λz=>(y.2.length-z.2.1).toNat) ⟨om,om,om,V⟩ om λMq z ⟨d0,E,m,c,F⟩ t=>?_
   unfold ah0
   refine aB (λh=>av (λw:List Int×List Int=>(w.1.length:Int)<=z.2.1+1/\w.2.length=n.2.length/\Po w.2) (λnN Y=>ak (t _ ⟨om,om,Y⟩ om)) λuV k=>aO c2.2 λ_=>aO c2.2 λN=>aO d.2.2.2.2 (λg2=>aO d.2.2.2.2 (λ_=>aP ⟨F,om,om,om⟩ λJ aa=>aP ⟨F,om,om,om⟩ λK ae=>?_) N) N) λh=>S _ om
   have hp:=F.set (a:=J) (b:=K) om om om om
   exact aA (aA (aR (λh=>aW (k _ ⟨om,by simpa using c,hp⟩)) λh=>k _ ⟨om,by simpa using c,hp⟩))
  ·refine wp_loop (λz=>0<=z.1/\z.1<=n.2.length/\z.2.length=n.2.length/\Po z.2) (λz=>(n.2.length-z.1).toNat) ⟨om,om,sm,aDs⟩ om λMr z ⟨d0,E,m,c⟩ u=>?_
   unfold ah1
   exact aB (λh=>aA (aA (ak (u _ ⟨om,by (simp at h;dsimp only;omega),by simpa using m,aDt c d0 (by simp at h;omega)⟩ (by simp at h;dsimp only;omega))) (by simp at h;omega)) (by simp at h;omega)) λh=>D _ ⟨m,c⟩
 ·have H:=e.1
  refine wp_loop (λx=>0<=x.1/\x.1<=n.3.length/\x.2.1=x.1+20/\bV n.3.length n.3.length x.2.2) (λx=>(n.3.length-x.1).toNat) ⟨om,om,om,e⟩ om λMt x ⟨g,j,f,O⟩ v=>?_
  unfold ah2
  refine aB (λh=>ak ?_) λh=>P _ ⟨⟨g,j⟩,O⟩
  refine wp_loop (λy=>x.1<y.1/\y.1<=x.2.1/\bV n.3.length n.3.length y.2) (λy=>(x.2.1-y.1).toNat) ⟨om,om,O⟩ om λAv y ⟨c0,c1,c2⟩ Z=>?_
  unfold ah3
  exact aB (λh=>av (λz:List Int=>bV n.3.length n.3.length z) (λoZ o=>ak (Z _ ⟨om,om,o⟩ om)) λlq U=>aIT d om g om c2 U) λh=>ak (v _ ⟨om,om,om,c2⟩ om)
 ·refine wp_loop (λx=>0<=x.1/\x.1<=n.3.length/\bV n.3.length n.3.length x.2) (λx=>(n.3.length-x.1).toNat) ⟨om,om,sm,λi g j=>by rw[qm g (by simpa using j)];simp at j;omega⟩ om λab x ⟨g,j,f⟩ q=>?_
  unfold ahW
  have H:=f.1
  exact aB (λh=>aA (aA (ak (q _ ⟨om,by (simp at h;dsimp only;omega),by simpa using H,All.set f.2 (by simp at h;omega) om (by simp at h;omega)⟩ (by simp at h;dsimp only;omega))) (by simp at h;omega)) (by simp at h;omega)) λh=>A _ f⟩
def Cn(n:Network)(t:List Int)(m x y:Int):Prop:=∀S:Int->Prop,(∀k:Int,0<=k->k<m->(S (gi n.3 (gi t k)).2↔S (gi n.3 (gi t k)).3))->(S x↔S y)
section
variable {n:Network}{t:List Int}{m x y z:Int}
theorem Cn.refl:Cn n t m x x:=λ_ _=> .rfl
theorem Cn.symm(h:Cn n t m x y):Cn n t m y x:=λS a=>(h S a).symm
theorem Cn.trans(h:Cn n t m x y)(b:Cn n t m y z):Cn n t m x z:=λS a=>(h S a).trans (b S a)
theorem Cn.mono{m':Int}(h:Cn n t m x y)(c:m<=m'):Cn n t m' x y:=λS a=>h S λk b d=>a k b om
theorem Cn.edge{k:Int}(b:0<=k)(c:k<m):Cn n t m (gi n.3 (gi t k)).2 (gi n.3 (gi t k)).3:=λ_ a=>a k b c
def PC(n:Network)(t:List Int)(m:Int)(p:List Int):Prop:=∀i:Int,0<=i->i<p.length->Cn n t m i (gi p i)
theorem Pq{p:List Int}{i:Int}(hp:Po p)(f:PC n t m p)(h0:0<=i)(h1:i<p.length)(h2:p.length<=1000000):WP (nG (p,i)) λr=>0<=r/\r<=i/\Cn n t m i r:=by unfold nG;dsimp only;refine av (λr=>0<=r/\r<=i/\Cn n t m i r) (λr h=>aD h) λk g=>?_;refine wp_loop (λr=>0<=r/\r<=i/\Cn n t m i r) (λr=>r.toNat) ⟨h0,Int.le_refl _,.refl⟩ om λc r ⟨b,j,d⟩ a=>?_;unfold XV;dsimp only;have l:=hp r b om;have e:=f r b om;refine aA (aR (λh=>aA (a _ ⟨om,om,d.trans e⟩ ?_)) λh=>g _ ⟨b,j,d⟩);simp at h;omega
theorem PC.join{p:List Int}{a b:Int}(h:PC n t m p)(c:Cn n t m a b)(h0:0<=a)(h1:0<=b)(h2:a<p.length)(k:b<p.length):PC n t m (p.set (max a b).toNat (min a b)):=λi g j=>by
 simp at j
 rw[dU om g om]
 split
 ·rename_i e
  have:(i=a/\min a b=b)\/(i=b/\min a b=a):=by omega
  rcases this with ⟨d,f⟩|⟨d,f⟩
  ·rw[d,f];exact c
  ·rw[d,f];exact c.symm
 ·exact h i g j
theorem PC.mono{p:List Int}{m':Int}(h:PC n t m p)(a:m<=m'):PC n t m' p:=λi b c=>(h i b c).mono a
end
instance kT{n:Network}{t:List Int}:Spec (OL (n,t)) (t.length<=1000) λb=>b=true->gK n/\(All t λx=>0<=x/\x<n.3.length)/\All n.3 λa=>Cn n t t.length a.2 a.3:=⟨λhl=>by
 unfold OL
 dsimp only
 refine aP trivial λv0 v=>aR (λh=>aD λe=>absurd e dc) λh=>?_
 have m:=v (by simpa using h)
 have N:=m.2.2.1
 have X:=m.2.2.2.1
 refine iJ om (av (λy:List Int=>y.length=n.2.length/\∀i:Int,0<=i->i<y.length->gi y i=i) (λw ⟨K,A⟩=>av (λy:List Int=>(y.length=n.2.length/\Po y/\PC n t t.length y)/\All t λx=>0<=x/\x<n.3.length) (λj2 ⟨⟨Y,B,C⟩,L⟩=>av (λ_=>All n.3 λa=>Cn n t t.length a.2 a.3) (λ_ s=>aD λ_=>⟨m,L,s⟩) λk4 u=>?_) λO J=>?_) λP I=>?_)
 ·refine wp_loop (λx=>0<=x/\x<=n.3.length/\bB n.3 x λa=>Cn n t t.length a.2 a.3) (λx=>(n.3.length-x).toNat) ⟨om,om,bB.zero (Int.le_refl _)⟩ om λW x ⟨f,c,k⟩ l=>?_
  unfold ahT
  dsimp only
  refine aB (λh=>aO m.2.2.2.2 λg=>wp_bind _ (Pq B C om om om) λU H=>wp_bind _ (Pq B C om om om) λz V=>aR (λh=>aD λe=>absurd e dc) λh2=>ak (l _ ⟨om,om,k.succ ?_⟩ om)) λh=>u _ (k.mono om)
  have e:U=z:=by simpa using h2
  exact (e▸H.2.2).trans V.2.2.symm
 ·refine wp_loop (λx=> -1<=x.1/\0<=x.2.1/\x.2.1<=t.length/\x.2.2.length=n.2.length/\Po x.2.2/\PC n t x.2.1 x.2.2/\bB t x.2.1 λx=>0<=x/\x<n.3.length) (λx=>(t.length-x.2.1).toNat) ⟨om,om,om,K,λi f c=>by (have:=A i f c;dsimp only;omega),λi f c=>by (rw[A i f c];exact .refl),bB.zero (Int.le_refl _)⟩ om λrF x ⟨f,c,k,o,p,E,F⟩ l=>?_
  unfold ahR
  dsimp only
  refine aB (λh=>aA (fC (λd=>by (simp only[Bool.not_eq_true',Bool.or_eq_false_iff,decide_eq_false_iff_not] at d;omega)) λQ G=>fC (λd=>by (simp only[Bool.not_eq_true',Bool.or_eq_false_iff,decide_eq_false_iff_not] at d;omega)) λR r=>aR (λd=>?_) λd=>aR (λh=>aD λe=>absurd e dc) λh=>absurd h sm)) λh=>J _ ⟨⟨o,p,E.mono om⟩,F.mono om⟩
  rw[G d,r d]
  simp only[Bool.not_eq_true',Bool.or_eq_false_iff,decide_eq_false_iff_not] at d
  have ha:=m.2.2.2.2 (gi t x.2.1) om om
  have j:=E.mono (m':=x.2.1+1) om
  refine wp_bind _ (Pq p j om om om) λS ⟨c1,c2,c3⟩=>wp_bind _ (Pq p j om om om) λT ⟨D,Z,M⟩=>aA (aA (aR (λh=>aD λe=>absurd e dc) λh=>ak (l _ ⟨om,om,om,by simpa using o,p.set c1 D om om,j.join (c3.symm.trans ((Cn.edge c om).trans M)) c1 D om om,F.succ ⟨om,om⟩⟩ om)))
 ·refine wp_loop (λx=>0<=x.1/\x.1<=n.2.length/\x.2.length=n.2.length/\∀i:Int,0<=i->i<x.1->gi x.2 i=i) (λx=>(n.2.length-x.1).toNat) ⟨om,om,sm,λi f c=>by (dsimp only at c;omega)⟩ om λp9 x ⟨f,c,k,o⟩ l=>?_
  unfold ahS
  dsimp only
  refine aB (λh=>?_) λh=>I _ ⟨k,λi q w=>o i q (by simp at h;omega)⟩
  have h':x.1<n.2.length:=by simpa using h
  refine aA (aA (ak (l _ ⟨om,om,by simpa using k,λi q w=>?_⟩ om)))
  dsimp only at w |-
  rw[dU f q om]
  split
  ·omega
  ·exact o i q om⟩
structure Lv(n:Network)(t:List Int)(m:Int)(v:List (List dD)):Prop where
 l:v.length=n.2.length
 b:All v λl=>(l.length:Int)<=2*m
 s:∀e:Int,0<=e->e<v.length->All (gi v e) λc=>(0<=c.1/\c.1<n.3.length)/\(c.2=1\/c.2= -1)
 f:∀k:Int,0<=k->k<m->dD.mk (gi t k) 1∈gi v (gi n.3 (gi t k)).2/\dD.mk (gi t k) (-1)∈gi v (gi n.3 (gi t k)).3
theorem KH{v:List (List dD)}{e f:Int}{c x:dD}(a:0<=e/\e<v.length)(d:0<=f)(h:x∈gi v f):x∈gi (v.set e.toNat (gi v e++[c])) f:=by
 rw[dU a.1 d a.2];split;·rename_i b;subst b;exact List.mem_append_left _ h
 ·exact h
theorem aon{n:Network}{v:List (List dD)}{e:Int}{c:dD}{m:Int}(a:0<=e/\e<v.length)(d:All v λl=>(l.length:Int)<=m)(hs:∀e:Int,0<=e->e<v.length->All (gi v e) λc=>(0<=c.1/\c.1<n.3.length)/\(c.2=1\/c.2= -1))(g:(0<=c.1/\c.1<n.3.length)/\(c.2=1\/c.2= -1)):(All (v.set e.toNat (gi v e++[c])) λl=>(l.length:Int)<=m+1)/\∀f:Int,0<=f->f<(v.set e.toNat (gi v e++[c])).length->All (gi (v.set e.toNat (gi v e++[c])) f) λc=>(0<=c.1/\c.1<n.3.length)/\(c.2=1\/c.2= -1):=by
 have:=d e a.1 a.2;refine⟨All.set (bB.imp d λl h=>om) (by simp;omega) a.1 a.2,λf b f1=>?_⟩;rw[dU a.1 b a.2];split;·exact All.app (hs e a.1 a.2) g
 ·exact hs f b (by simpa using f1)
instance s78{n:Network}{t:List Int}:Spec (OP (n,t)) (gK n/\t.length<=1000/\All t λx=>0<=x/\x<n.3.length) λv=>Lv n t t.length v:=⟨λ⟨j,y,p⟩=>by
 unfold OP
 dsimp only
 have z:=j.2.2.1
 refine iJ om (av (λv=>Lv n t t.length v) (λM m=>aD m) λi o=>?_)
 refine wp_loop (λx=>0<=x.1/\x.1<=t.length/\Lv n t x.1 x.2) (λx=>(t.length-x.1).toNat) ⟨om,om,sm,All.rep sm,λe G H=>by (rw[aiQ];exact All.nil),λk f i=>by (dsimp only at i;omega)⟩ om λF x ⟨K,L,r⟩ u=>?_
 unfold ah4
 dsimp only
 refine aB (λh=>aO p λg=>aO j.2.2.2.2 (λI=>?_) g) λh=>o _ (by rwa [show x.1=t.length by omega] at r)
 obtain⟨l1,l2,A,B⟩:=r
 have b:0<=(gi n.3 (gi t x.1)).2/\(gi n.3 (gi t x.1)).2<x.2.length:=by omega
 have J:=l2 _ b.1 b.2
 obtain⟨s,C⟩:=aon (c:=dD.mk (gi t x.1) 1) b l2 A ⟨g,.inl rfl⟩
 have a:0<=(gi n.3 (gi t x.1)).3/\(gi n.3 (gi t x.1)).3<(x.2.set (gi n.3 (gi t x.1)).2.toNat (gi x.2 (gi n.3 (gi t x.1)).2++[dD.mk (gi t x.1) 1])).length:=by simp;omega
 have w:=s _ a.1 a.2
 obtain⟨D,E⟩:=aon (c:=dD.mk (gi t x.1) (-1)) a s C ⟨g,.inr rfl⟩
 refine bW b (bW b (bW b (aW (bW b (xZ rfl (bW b ?_))))))
 refine bW a (bW a (bW a (xY ?_ (bW a (xZ rfl (bW a (ak (u _ ⟨om,om,by simpa using l1,bB.imp D λl y=>by (dsimp only;omega),E,λk f i=>?_⟩ om))))))))
 ·rw[List.length_append];simp only[List.length_singleton];omega
 ·dsimp only at i |-
  by_cases e:k=x.1
  ·subst e
   exact⟨KH a b.1 (by rw[dU b.1 b.1 b.2,if_pos rfl];simp),by rw[dU a.1 a.1 a.2,if_pos rfl];simp⟩
  ·have q:=B k f om
   have d:=j.2.2.2.2 _ (p k f om).1 (p k f om).2
   exact⟨KH a d.1 (KH b d.1 q.1),KH a d.2.2.1 (KH b d.2.2.1 q.2)⟩⟩
instance fV{l:List Int}{x:Int}:Spec (Us (l,x)) (l.length<=1000000) λ_=>True:=⟨λi=>by
 unfold Us
 dsimp only
 refine av (λy:Int=>0<=y/\y<=l.length) (λn d=>fC (λa=>by (simp at a;omega)) λe _=>fC (λa=>by (simp only[Bool.and_eq_true,decide_eq_true_eq] at a;omega)) λq _=>ni (λ_=>True) (λ_=>⟨_,rfl,trivial⟩) λr _=>ni (λ_=>True) (λ_=>⟨_,rfl,trivial⟩) λs _=>aD trivial) λo b=>?_
 refine wp_loop (λy=>0<=y.1/\y.1<=y.2/\y.2<=l.length) (λy=>(y.2-y.1).toNat) ⟨om,om,om⟩ om λg y ⟨j,k,m⟩ c=>?_
 unfold aqd
 dsimp only
 refine aB (λh=>ak ?_) λh=>b _ om
 rw[Fh om]
 refine aA (wp_bind (λ_=>True) ?_ λf _=>aR (λh=>ak (c _ ⟨om,om,om⟩ om)) λh=>c _ ⟨om,om,om⟩ om)
 unfold XJ EH
 exact wp_bind (λ_=>True) ⟨_,rfl,trivial⟩ λp _=>ni (λ_=>True) (λ_=>⟨_,rfl,trivial⟩) λe _=>aD trivial⟩
structure Bf(n:Network)(a0:Int)(E:List Int)(rch:List Bool)(bJ:List dD)(fr:List Int):Prop where
 nd:E.Nodup
 rg:All E λx=>0<=x/\x<n.2.length
 h0:1<=E.length/\gi E 0=a0
 rl:rch.length=n.2.length
 bl:bJ.length=n.2.length
 fl:fr.length=n.2.length
 rc:∀x:Int,0<=x->x<n.2.length->(gi rch x=true↔x∈E)
 bs:All bJ λx=> -1<=x.2/\x.2<=1
 pr:∀j:Int,1<=j->j<E.length->∃j':Int,0<=j'/\j'<j/\gi E j'=gi fr (gi E j)
section
variable {n:Network}{a0:Int}{E:List Int}{rch:List Bool}{bJ:List dD}{fr:List Int}
theorem BJ{α:Type}[Inhabited α]{l m:List α}{i:Int}(h0:0<=i)(h1:i<l.length):gi (l++m) i=gi l i:=by rw[fP h0,if_pos h1]
theorem awz{α:Type}[Inhabited α]{l:List α}{x:α}:gi (l++[x]) l.length=x:=by rw[fP om,if_neg om,Int.sub_self];rfl
theorem Bf.len(h:Bf n a0 E rch bJ fr):E.length<=n.2.length:=by
 have:=KN h.nd (m:=rng n.2.length) λx a=>by obtain⟨i,b,c,rfl⟩:=iH a;have:=h.rg i b c;exact zR.2 om
 simpa [rng] using this
theorem Bf.add(h:Bf n a0 E rch bJ fr){x i:Int}(d:0<=x/\x<n.2.length)(v:gi rch x=false)(hi:0<=i/\i<E.length){c:dD}(s: -1<=c.2/\c.2<=1):Bf n a0 (E++[x]) (rch.set x.toNat true) (bJ.set x.toNat c) (fr.set x.toNat (gi E i)):=by
 have f:x∉E:=λu=>by have:=(h.rc x d.1 d.2).2 u;rw[v] at this;cases this
 have m:=h.rl;have g:=h.bl;have l:=h.fl;refine⟨?_,All.app h.rg d,⟨sm,by rw[BJ om (by have:=h.h0.1;omega)];exact h.h0.2⟩,by simpa using m,by simpa using g,by simpa using l,λy y0 A=>?_,All.set h.bs s d.1 om,λj w z=>?_⟩;·rw[List.nodup_append];exact⟨h.nd,sm,λa r b o=>by rw[List.mem_singleton] at o;subst o;exact λe=>f (e▸r)⟩
 ·rw[dU d.1 y0 om];split;·rename_i e;subst e;simp
  ·rename_i e;rw[h.rc y y0 A];simp[e]
 ·have ex:∀{k:Int},0<=k->k<E.length->gi (fr.set x.toNat (gi E i)) (gi E k)=gi fr (gi E k):=λp q=>by have t:=h.rg _ p q;rw[dU d.1 t.1 om,if_neg];exact λe=>f (e▸dF ⟨p,q⟩)
  by_cases e:j<E.length;·obtain⟨j',a,b,c⟩:=h.pr j w e;refine⟨j',a,b,?_⟩;rw[BJ a om,BJ om e,ex om e];exact c
  ·have e:j=E.length:=by simp at z;omega
   subst e;refine⟨i,hi.1,hi.2,?_⟩;rw[awz,BJ hi.1 hi.2,dU d.1 d.1 om,if_pos rfl]
end
abbrev to_(n:Network)(c:dD):Int:=if c.2<0 then (gi n.3 c.1).2 else (gi n.3 c.1).3
def Cl(n:Network)(v:List (List dD))(E:List Int)(rch:List Bool)(i:Int):Prop:=∀j:Int,0<=j->j<i->∀c∈gi v (gi E j),gi rch (to_ n c)=true
theorem aqa{rch:List Bool}{x y:Int}(a:0<=x/\x<rch.length)(b:0<=y)(h:gi rch y=true):gi (rch.set x.toNat true) y=true:=by
 rw[dU a.1 b a.2];split;·rfl
 ·exact h
section
variable {n:Network}{t:List Int}{v:List (List dD)}{Q:List Cycle×Int->Prop}
theorem aer(b:gK n){c:dD}(a:0<=c.1/\c.1<n.3.length):0<=to_ n c/\to_ n c<n.2.length:=by have:=b.2.2.2.2 _ a.1 a.2;unfold to_;split<;>omega
theorem asZ(C:gK n){a0:Int}{E:List Int}{i:Int}{rch:List Bool}{bJ:List dD}{fr:List Int}(U:Bf n a0 E rch bJ fr)(hi:0<=i/\i<E.length)(Y:Cl n v E rch i)(O:Lv n t t.length v)(ao:(gi v (gi E i)).length<=10000){k:List Int×List Bool×List dD×List Int->Option (List Cycle×Int)}(hk:∀A B o p,Bf n a0 A B o p->i<A.length->Cl n v A B (i+1)->WP (k (A,B,o,p)) Q):WP (iter (XQ (n,t) (E,i,rch,bJ,fr) k (gi v (gi E i))) FUEL (E,0,rch,bJ,fr)) Q:=by
 have aa:=O.l;have u:=U.rg;have W:=O.s (gi E i) (u i hi.1 hi.2).1 (by have:=(u i hi.1 hi.2).2;omega);have N:∀{j:Int}{c:dD},0<=j->j<i->c∈gi v (gi E j)->0<=to_ n c:=λ{j c} m L f=>by have hj:=u j m om;obtain⟨q,z,G,rfl⟩:=iH f;exact (aer C (O.s (gi E j) hj.1 om q z G).1).1
 refine wp_loop (λx=>0<=x.2.1/\x.2.1<=(gi v (gi E i)).length/\Bf n a0 x.1 x.2.2.1 x.2.2.2.1 x.2.2.2.2/\(∃r,x.1=E++r)/\Cl n v E x.2.2.1 i/\∀q:Int,0<=q->q<x.2.1->gi x.2.2.1 (to_ n (gi (gi v (gi E i)) q))=true) (λx=>((gi v (gi E i)).length-x.2.1).toNat) ⟨om,om,U,⟨[],sm⟩,Y,λq z G=>by (dsimp only at G;omega)⟩ om λK x ⟨R,i1,g,⟨r,w⟩,I,J⟩ V=>?_;obtain⟨A,q,B,o,p⟩:=x;dsimp only at R i1 g w I J V;unfold XQ;dsimp only;refine aB (λh=>?_) λh=>hk _ _ _ _ g (by rw[w,List.length_append];omega) λj m L c f=>?_
 ·refine av (λy=>Bf n a0 y.1 y.2.1 y.2.2.1 y.2.2.2/\(∃r,y.1=E++r)/\Cl n v E y.2.1 i/\∀q':Int,0<=q'->q'<q+1->gi y.2.1 (to_ n (gi (gi v (gi E i)) q'))=true) (λy hy=>ak (V _ ⟨om,om,hy⟩ om)) λap T=>?_;have f:=W q R h;have an:=aer C f.1;refine bW ⟨R,h⟩ (aO C.2.2.2.2 (λga=>aP trivial λS F=>?_) f.1);have M:S.2=to_ n (gi (gi v (gi E i)) q):=by rw[F];unfold to_;split<;>rfl
  rw[M];generalize X:to_ n (gi (gi v (gi E i)) q)=x at*;have ag:=g.rl;have ab:=g.bl;have ae:=g.fl;have d:0<=x/\x<B.length:=by omega
  have Z:=g.len;have af:=C.2.2.1;refine bW d (bW d (aR (λH=>?_) λH=>T _ ⟨g,⟨r,w⟩,I,λq' z G=>?_⟩))
  ·simp only[Bool.not_eq_true'] at H;have D:i<A.length:=by rw[w,List.length_append];omega
   refine bW d (bW d (aW (bW ⟨hi.1,by simp;omega⟩ (aA (aA (aA (aA (T _ ⟨?_,⟨r++[x],by (dsimp only;rw[w,List.append_assoc])⟩,λj m L c f=>?_,λq' z G=>?_⟩))))))));·dsimp only;rw[BJ hi.1 D];exact g.add ⟨d.1,om⟩ H ⟨hi.1,D⟩ om
   ·have P:=I j m L c f;dsimp only;exact aqa d (N m L f) P
   ·dsimp only;by_cases e:q'=q;·subst e;rw[X,dU d.1 d.1 d.2,if_pos rfl]
    ·exact aqa d (aer C (W q' z om).1).1 (J q' z om)
  ·dsimp only;by_cases e:q'=q;·subst e;rw[X];simpa using H
   ·exact J q' z om
 ·by_cases e:j=i;·subst e;rw[w,BJ m hi.2] at f;obtain⟨q',a,b,rfl⟩:=iH f;exact J q' a om
  ·rw[w,BJ m om] at f;exact I j m om c f
theorem as1{a:bE}{E:List Int}{i:Int}{rch:List Bool}{bJ:List dD}{fr:List Int}(r:gK n)(c:Bf n a.2 E rch bJ fr)(w:a.3∈E){q:Int}{k:List Int×List Int->Option (List Cycle×Int)}(v:∀x:List Int×List Int,x.1.length<=1000->x.2.length<=1000->WP (k x) Q):WP (iter (XR a (E,i,rch,bJ,fr) k) FUEL (a.3,[q],[1])) Q:=by
 have s:=c.bl;have t:=c.fl;have o:=c.len;have y:=r.2.2.1;refine wp_loop (λx=>(∃j:Int,0<=j/\j<E.length/\gi E j=x.1/\j+x.2.1.length<=E.length)/\x.2.1.length=x.2.2.length/\1<=x.2.1.length) (λx=>(E.length+5-x.2.1.length)) ?_ om λK x ⟨⟨j,l,f,d,D⟩,B,C⟩ p=>?_;·obtain⟨j,l,f,d⟩:=iH w;exact⟨⟨j,l,f,d,by simp;omega⟩,rfl,sm⟩
 ·unfold XR;dsimp only;refine aR (λh=>?_) λh=>v _ om om;simp only[Bool.not_eq_true',decide_eq_false_iff_not] at h;have z:=c.rg j l f;rw[d] at z
  have u:1<=j:=by
   by_cases e:j=0;·subst e;exact absurd (d.symm.trans c.h0.2) h
   ·omega
  obtain⟨j',a0,A,m⟩:=c.pr j u f;rw[d] at m;have b:0<=x.1/\x.1<bJ.length:=by omega
  exact aO c.bs (λg=>bW b (aW (bW b (bW b (ak (aW (aA (aA (p _ ⟨⟨j',a0,om,m,by simp;omega⟩,by simp;omega,sm⟩ (by simp;omega)))))))))) b
end
instance s30{n:Network}{t:List Int}:Spec (OM (n,t)) (t.length<=1000) λy=>y.1.length<=512/\All y.1 λc=>c.1.length<=1000/\c.2.length<=1000:=⟨λN=>by
 unfold OM
 dsimp only
 refine aP N λv0 G=>aR (λh=>aD ⟨sm,All.nil⟩) λh=>?_
 obtain⟨g,O,C⟩:=G (by simpa using h)
 have af:=g.2.2.1
 have QC:=g.2.2.2.1
 refine aP ⟨g,N,O⟩ λv u=>av (λy:List Cycle=>y.length<=512/\All y λc=>c.1.length<=1000/\c.2.length<=1000) (λj2 D=>aD D) λk3 F=>?_
 refine wp_loop (λx=>0<=x.2/\x.2<=n.3.length/\(x.1.length:Int)<=x.2/\All x.1 λc=>c.1.length<=1000/\c.2.length<=1000) (λx=>(n.3.length-x.2).toNat) ⟨om,om,om,All.nil⟩ om λK5 x ⟨i0,i1,i2,J⟩ lS=>?_
 unfold ahU
 dsimp only
 refine aB (λH=>av (λy:List Cycle=>(y.length:Int)<=x.2+1/\All y λc=>c.1.length<=1000/\c.2.length<=1000) (λj7 S=>ak (lS _ ⟨om,om,S⟩ om)) λk8 R=>aO g.2.2.2.2 λga=>aP om λan zi=>aR (λh=>R _ ⟨om,J⟩) λh=>iJ om (iJ om (iJ om (bW (by simp;omega) (bW (by simp;omega) ?_))))) λh=>F _ ⟨om,J⟩
 have B:=C x.2 i0 H
 generalize gi n.3 x.2=a at*
 have A:Bf n a.2 [a.2] ((List.replicate (n.2.length:Int).toNat false).set a.2.toNat true) (List.replicate (n.2.length:Int).toNat (dD.mk 0 0)) (List.replicate (n.2.length:Int).toNat 0):=by
  refine⟨sm,?_,⟨sm,rfl⟩,sm,sm,sm,λy y0 y1=>?_,All.rep dc,λj r m=>by simp at m;omega⟩
  ·show All ([]++[a.2]) _
   exact All.app All.nil om
  ·rw[dU om y0 (by simp;omega)]
   split
   ·rename_i e;subst e;simp
   ·rename_i e
    rw[qm y0 om]
    simp[e]
 refine wp_loop (λy=>0<=y.2.1/\y.2.1<=y.1.length/\Bf n a.2 y.1 y.2.2.1 y.2.2.2.1 y.2.2.2.2/\Cl n v y.1 y.2.2.1 y.2.1) (λy=>(n.2.length-y.2.1).toNat) ⟨om,om,A,λj r m=>by (dsimp only at m;omega)⟩ om λMi y ⟨K,c1,d,s⟩ o=>?_
 obtain⟨E,i,rch,bJ,fr⟩:=y
 dsimp only at K c1 d s o
 unfold ahV
 dsimp only
 have ab:=d.len
 have ae:=u.l
 refine aB (λh=>av (λz=>Bf n a.2 z.1 z.2.1 z.2.2.1 z.2.2.2/\i<z.1.length/\Cl n v z.1 z.2.1 (i+1)) (λqx ⟨W,d2,X⟩=>ak (o _ ⟨om,om,W,X⟩ om)) λag U=>aO d.rg λge=>aA ?_) λh=>?_
 ·have p:=u.b _ ge.1 om
  exact asZ g d ⟨K,h⟩ s u om λE' Gr V aa Y Z e3=>U _ ⟨Y,Z,e3⟩
 ·have hi:i=E.length:=by omega
  subst hi
  have q:a.3∈E:=by
   refine (B (λz=>z∈E) λk P Q=>?_).1 (by rw[<-d.h0.2];exact dF ⟨om,by have:=d.h0.1;omega⟩)
   have M:=O k P Q
   have L:=u.f k P Q
   have p:=g.2.2.2.2 _ M.1 M.2
   constructor
   ·intro I
    obtain⟨j,r,m,e⟩:=iH I
    have:=s j r m _ (by rw[e];exact L.1)
    exact (d.rc _ p.2.2.1 p.2.2.2.1).1 (by simpa [to_] using this)
   ·intro I
    obtain⟨j,r,m,e⟩:=iH I
    have:=s j r m _ (by rw[e];exact L.2)
    exact (d.rc _ p.1 p.2.1).1 (by simpa [to_] using this)
  exact av (λz:List Int×List Int=>z.1.length<=1000/\z.2.length<=1000) (λuO T=>aW (R _ ⟨om,All.app J T⟩)) λsK w=>as1 g d q λz z1 z2=>w _ ⟨z1,z2⟩⟩
end Go.Z
