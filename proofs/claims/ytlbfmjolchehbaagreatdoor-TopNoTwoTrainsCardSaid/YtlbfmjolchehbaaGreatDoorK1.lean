/- Plain theory, the kit: options that are there, with a value of a kind. -/
import Derived.Test.YtlbfmjolchehbaaGreatDoorRC
set_option linter.all false
namespace Go.Z
open Go Go.Dc Go.R
def WP{α:Type}(o:Option α)(Q:α->Prop):Prop:=∃y,o=some y/\Q y
def gi{α:Type}[Inhabited α](l:List α)(i:Int):α:=l.getD i.toNat default
class Spec {α:Type}(o:Option α) (P:outParam Prop) (Q:outParam (α->Prop)):Prop where
 h:P->WP o Q
class nu {σ β:Type}(f:(σ->Option β)->Option β) (P:outParam Prop) (E:outParam (β->Prop)) (R:outParam (σ->Prop)):Prop where
 h:P->∀(Q:β->Prop) (k:σ->Option β),(∀y,E y->Q y)->(∀x,R x->WP (k x) Q)->WP (f k) Q
def bB{α:Type}[Inhabited α](xs:List α)(n:Int)(P:α->Prop):Prop:=∀i:Int,0<=i->i<n->P (gi xs i)
abbrev All{α:Type}[Inhabited α](xs:List α)(P:α->Prop):Prop:=bB xs xs.length P
instance:Inhabited Str:=⟨⟨[]⟩⟩
instance:Inhabited Section:=⟨⟨default,0,0,0,0⟩⟩
instance:Inhabited Link:=⟨⟨0,0,0,0,0,0⟩⟩
instance:Inhabited bO:=⟨⟨default,0,0,0,0⟩⟩
instance:Inhabited Step:=⟨⟨0,0⟩⟩
instance:Inhabited bg:=⟨⟨[],0⟩⟩
instance:Inhabited gL:=⟨⟨0,0,0,0⟩⟩
instance:Inhabited Line:=⟨⟨default,0,0,[]⟩⟩
instance:Inhabited Change:=⟨⟨0,0,0,0,0,0,0⟩⟩
instance:Inhabited Turn:=⟨⟨0,0,0,0⟩⟩
instance:Inhabited Sync:=⟨⟨0,0,0,0,0⟩⟩
instance:Inhabited dG:=⟨⟨0,0,0⟩⟩
instance:Inhabited Cycle:=⟨⟨[],[]⟩⟩
instance:Inhabited mo:=⟨⟨[],[],0⟩⟩
instance:Inhabited Use:=⟨⟨0,0,0,0,0⟩⟩
instance:Inhabited Event:=⟨⟨0,0,0⟩⟩
instance:Inhabited bE:=⟨⟨0,0,0,0,0,0⟩⟩
instance:Inhabited dO:=⟨⟨[],false⟩⟩
instance:Inhabited Word:=⟨⟨default,0,0⟩⟩
instance:Inhabited aV:=⟨⟨0,0,0⟩⟩
instance:Inhabited Join:=⟨⟨0,0,0,0⟩⟩
instance:Inhabited dD:=⟨⟨0,0⟩⟩
instance:Inhabited Window:=⟨⟨0,0⟩⟩
instance:Inhabited Cell:=⟨⟨0,0⟩⟩
instance:Inhabited Hop:=⟨⟨0,0,0,0⟩⟩
instance:Inhabited Span:=⟨⟨0,0⟩⟩
section
variable {α β σ:Type}{o k a b:Option α}{K:α->Option β}{Q R:α->Prop}{Q':β->Prop}{c:Bool}{x:Int}
theorem aD{y:α}(h:Q y):WP (some y) Q:=⟨y,rfl,h⟩
theorem aJ4(h:WP o R)(a:∀y,R y->Q y):WP o Q:=by obtain⟨y,h1,h2⟩:=h;exact⟨y,h1,a y h2⟩
theorem wp_bind(R:α->Prop)(h:WP o R)(a:∀y,R y->WP (K y) Q'):WP (o.bind K) Q':=by obtain⟨y,rfl,h2⟩:=h;exact a y h2
theorem aP{P:Prop}[t:Spec o P R](hp:P)(a:∀y,R y->WP (K y) Q'):WP (o.bind K) Q':=wp_bind R (t.h hp) a
theorem aJ7{P:Prop}[t:Spec o P R](hp:P)(a:∀y,R y->Q y):WP o Q:=aJ4 (t.h hp) a
theorem D5{P:Prop}[t:Spec o P R](hp:P)(a:∀y,o=some y->R y->WP (K y) Q'):WP (o.bind K) Q':=by obtain⟨y,h1,h2⟩:=t.h hp;rw[h1];exact a y h1 h2
theorem fB(h:c=true)(a:WP k Q):WP (ah c k) Q:=by subst h;exact a
theorem mZ(h: -9223372036854775808<=x/\x<=9223372036854775807)(a:WP k Q):WP (ah (aj x) k) Q:=fB (decide_eq_true h) a
theorem xY{b n:Nat}(h:n*b<=140737488355328)(a:WP k Q):WP (ah (aS b n) k) Q:=fB (by simpa [aS] using h) a
theorem iJ{b:Nat}{l c:Int}(h:0<=l/\l<=c/\c*(b:Int)<=140737488355328)(a:WP k Q):WP (ah (fE b l c) k) Q:=fB (decide_eq_true h) a
theorem xZ{p:Prop}[Decidable p](h:p)(a:WP k Q):WP (ah (decide p) k) Q:=fB (decide_eq_true h) a
theorem JZ[Inhabited α]{xs:List α}{i:Int}(h:0<=i/\i<xs.length):idx xs i=some (gi xs i):=by
 have:i.toNat<xs.length:=by omega
 simp[idx,h.1,gi,this]
theorem dF[Inhabited α]{xs:List α}{i:Int}(h:0<=i/\i<xs.length):gi xs i∈xs:=by
 have:i.toNat<xs.length:=by omega
 simp[gi,this]
theorem bW[Inhabited α]{xs:List α}{i:Int}(h:0<=i/\i<xs.length)(a:WP (K (gi xs i)) Q'):WP ((idx xs i).bind K) Q':=by rw[JZ h];exact a
theorem vE[Inhabited α]{xs:List α}{i j:Int}{K:List α->Option β}(h:0<=i/\i<=j/\j<=xs.length)(b:∀ys:List α,(ys.length:Int)=j-i->(∀k:Int,0<=k->k<ys.length->gi ys k=gi xs (i+k))->WP (K ys) Q'):WP ((sub xs i j).bind K) Q':=by
 unfold sub;rw[if_pos h];refine b _ (by simp;omega) λk c a=>?_;have a:k.toNat<j.toNat-i.toNat:=by simp at a;omega
 have:(i+k).toNat=i.toNat+k.toNat:=by omega
 simp only[gi,List.getD_eq_getElem?_getD,List.getElem?_drop,this];rw[List.getElem?_take,if_pos om]
theorem dU[Inhabited α]{l:List α}{i j:Int}{x:α}(hi:0<=i)(a:0<=j)(b:i<l.length):gi (l.set i.toNat x) j=if j=i then x else gi l j:=by
 unfold gi;by_cases h:j=i
 ·subst h;have:j.toNat<l.length:=by omega
  simp[this]
 ·have:i.toNat≠j.toNat:=by omega
  simp[h,List.getElem?_set_ne this]
theorem qm[Inhabited α]{n:Nat}{x:α}{i:Int}(hi:0<=i)(h:i<n):gi (List.replicate n x) i=x:=by
 have:i.toNat<n:=by omega
 simp[gi,this]
theorem aiQ{n:Nat}{j:Int}:gi (List.replicate n ([]:List α)) j=[]:=by unfold gi;rw[List.getD_eq_getElem?_getD,List.getElem?_replicate];split<;>rfl
theorem fP[Inhabited α]{l m:List α}{i:Int}(hi:0<=i):gi (l++m) i=if i<l.length then gi l i else gi m (i-l.length):=by
 unfold gi;split
 ·have:i.toNat<l.length:=by omega
  simp[List.getElem?_append_left this]
 ·have:l.length<=i.toNat:=by omega
  have e:(i-l.length).toNat=i.toNat-l.length:=by omega
  simp[List.getElem?_append_right this,e]
theorem bB.zero[Inhabited α]{xs:List α}{n:Int}{P:α->Prop}(h:n<=0):bB xs n P:=λi _ _=>by omega
theorem bB.succ[Inhabited α]{xs:List α}{n:Int}{P:α->Prop}(h:bB xs n P)(hp:P (gi xs n)):bB xs (n+1) P:=λi h0 h1=>by
 by_cases e:i=n
 ·exact e▸hp
 ·exact h i h0 om
theorem bB.mono[Inhabited α]{xs:List α}{m n:Int}{P:α->Prop}(h:bB xs n P)(e:m<=n):bB xs m P:=λi h0 h1=>h i h0 om
theorem bB.imp[Inhabited α]{xs:List α}{n:Int}{P a:α->Prop}(h:bB xs n P)(e:∀x,P x->a x):bB xs n a:=λi h0 h1=>e _ (h i h0 h1)
theorem All.app[Inhabited α]{xs:List α}{P:α->Prop}(h:All xs P){x:α}(hp:P x):All (xs++[x]) P:=λi h0 h1=>by
 rw[fP h0]
 split
 ·exact h i h0 (by assumption)
 ·have:i-xs.length=0:=by simp at h1;omega
  rw[this];exact hp
theorem All.apps[Inhabited α]{xs ys:List α}{P:α->Prop}(h:All xs P)(a:All ys P):All (xs++ys) P:=λi h0 h1=>by
 rw[fP h0]
 split
 ·exact h i h0 (by assumption)
 ·exact a _ om (by simp at h1;omega)
def sumTo(f:Int->Int):Nat->Int|0=>0|n+1=>sumTo f n+f n
theorem UA{f:Int->Int}{i:Int}(h:0<=i):sumTo f (i+1).toNat=sumTo f i.toNat+f i:=by obtain⟨n,rfl⟩:∃n:Nat,i=n:=⟨i.toNat,om⟩;rfl
theorem All.nil[Inhabited α]{P:α->Prop}:All ([]:List α) P:=λi h0 h1=>by simp at h1;omega
theorem All.set[Inhabited α]{xs:List α}{P:α->Prop}(h:All xs P){x:α}{k:Int}(hp:P x)(a:0<=k)(b:k<xs.length):All (xs.set k.toNat x) P:=λi h0 h1=>by
 rw[dU a h0 b]
 split
 ·exact hp
 ·exact h i h0 (by simpa using h1)
theorem All.rep[Inhabited α]{n:Nat}{P:α->Prop}{x:α}(hp:P x):All (List.replicate n x) P:=λi h0 h1=>by
 rw[qm h0 (by simpa using h1)];exact hp
theorem aJ3[Inhabited α]{xs:List α}{i n:Int}{P:α->Prop}(a:bB xs n P)(h:0<=i/\i<n)(c:n<=xs.length)(b:P (gi xs i)->WP (K (gi xs i)) Q'):WP ((idx xs i).bind K) Q':=bW om (b (a i h.1 h.2))
theorem U4{s:Str}{i:Int}{K:Int->Option β}(h:0<=i/\i<s.l.length)(a:∀z:Int,0<=z->z<256->fq s i=some z->WP (K z) Q'):WP ((fq s i).bind K) Q':=by
 have b:i.toNat<s.l.length:=by omega
 have e:fq s i=some ((s.l[i.toNat]).toNat:Int):=by simp[fq,h.1,b]
 rw[e];exact a _ om (by have:=(s.l[i.toNat]).toNat_lt;omega) e
theorem Ak{s:Str}{i j:Int}{K:Str->Option β}(h:0<=i/\i<=j/\j<=s.l.length)(a:WP (K ⟨(s.l.take j.toNat).drop i.toNat⟩) Q'):WP ((mX s i j).bind K) Q':=by unfold mX;rw[if_pos h];exact a
theorem U5{s t:Str}{K:Str->Option β}(h:s.l.length+t.l.length<=140737488355328)(a:WP (K ⟨s.l++t.l⟩) Q'):WP ((DU s t).bind K) Q':=by unfold DU;rw[if_pos h];exact a
theorem aR(h1:c=true->WP a Q)(h2:c=false->WP b Q):WP (if c then a else b) Q:=by cases c with|true=>exact h1 rfl|false=>exact h2 rfl
theorem aB{p:Prop}[Decidable p](h1:p->WP a Q)(h2:¬p->WP b Q):WP (if decide p then a else b) Q:=aR (λh=>h1 (of_decide_eq_true h)) (λh=>h2 (of_decide_eq_false h))
theorem D6{g:Bool}{d:α}(h1:g=true->WP (o.bind K) Q')(h2:g=false->WP (K d) Q'):WP ((bC g d o).bind K) Q':=by cases g with|true=>exact h1 rfl|false=>exact h2 rfl
theorem rA{o:Option Bool}{A B:Bool->Option β}{P T:Prop}[t:Spec o P λb=>b=true->T](hp:P)(h1:WP (A false) Q')(h2:T->WP (B true) Q'):WP (o.bind λv=>if (!v)=true then A v else B v) Q':=
 wp_bind _ (t.h hp) λy a=>by cases y with
  |true=>exact h2 (a rfl)
  |false=>exact h1
theorem aJ6{o:Option Bool}{A B:Bool->Option β}{P T:Prop}[t:Spec o P λb=>b=true->T](hp:P)(h1:T->WP (A true) Q')(h2:WP (B false) Q'):WP (o.bind λv=>if v=true then A v else B v) Q':=
 wp_bind _ (t.h hp) λy a=>by cases y with
  |true=>exact h1 (a rfl)
  |false=>exact h2
theorem kW{o:Option Int}{A B:Int->Option β}{P T:Prop}[t:Spec o P λr=>r=0->T](hp:P)(h1:∀v,v≠0->WP (A v) Q')(h2:T->WP (B 0) Q'):WP (o.bind λv=>if (!decide (v=0))=true then A v else B v) Q':=
 wp_bind _ (t.h hp) λy a=>by
  by_cases e:y=0
  ·subst e;exact h2 (a rfl)
  ·simp only[e];exact h1 y e
theorem ni{g:Bool}{d:α}(R:α->Prop)(h1:g=true->WP o R)(a:∀y,(g=true->R y)->WP (K y) Q'):WP ((bC g d o).bind K) Q':=by cases g with|true=>exact wp_bind R (h1 rfl) λy b=>a y λ_=>b|false=>exact a d λh=>by cases h
theorem fC[Inhabited α]{g:Bool}{d:α}{xs:List α}{i:Int}(h:g=true->0<=i/\i<xs.length)(a:∀y,(g=true->y=gi xs i)->WP (K y) Q'):WP ((bC g d (idx xs i)).bind K) Q':=ni (λy=>y=gi xs i) (λe=>⟨_,JZ (h e),rfl⟩) a
theorem Mc{g:Bool}{d:α}{P:Prop}[t:Spec o P R](h:g=true->P)(a:∀y,(g=true->R y)->WP (K y) Q'):WP ((bC g d o).bind K) Q':=ni R (λe=>t.h (h e)) a
theorem av{k:σ->Option β}{f:(σ->Option β)->Option β}(R:σ->Prop)(c:∀x,R x->WP (k x) Q')(b:∀a:σ->Option β,(∀x,R x->WP (a x) Q')->WP (f a) Q'):WP (au k f) Q':=b k c
theorem Aj{P:Prop}{k:σ->Option β}{f:(σ->Option β)->Option β}{E:β->Prop}{R:σ->Prop}[t:nu f P E R](hp:P)(a:∀y,E y->Q' y)(b:∀x,R x->WP (k x) Q'):WP (au k f) Q':=t.h hp Q' k a b
theorem aJ5{B:(σ->Option β)->σ->Option β}(I:σ->Prop)(μ:σ->Nat)(h:∀c s,I s->(∀s',I s'->μ s'<μ s->WP (c s') Q')->WP (B c s) Q'):∀n s,I s->μ s<n->WP (iter B n s) Q':=by intro n;induction n with|zero=>intro s _ h;omega|succ n e=>intro s b f;exact h (iter B n) s b (λs' a d=>e s' a om)
theorem wp_loop{B:(σ->Option β)->σ->Option β}{s:σ}(I:σ->Prop)(μ:σ->Nat)(h0:I s)(a:μ s<=1000000000000000000)(h:∀c s,I s->(∀s',I s'->μ s'<μ s->WP (c s') Q')->WP (B c s) Q'):WP (iter B FUEL s) Q':=aJ5 I μ h FUEL s h0 (by have:FUEL=18446744073709551616:=rfl;omega)
end
theorem om{P:Prop}(h:P:=by first|omega|(dsimp only;omega)|(simp;done)|(simp;omega)|(simp at*;omega)):P:=h
section
variable {β:Type}{Q:β->Prop}{k:Option β}
theorem ak{x:Int}(a:WP k Q)(h: -9223372036854775808<=x/\x<=9223372036854775807:=by first|omega|(dsimp only;omega)|(simp;done)|(simp;omega)):WP (ah (aj x) k) Q:=mZ h a
theorem aW{b n:Nat}(a:WP k Q)(h:n*b<=140737488355328:=by first|omega|(simp;done)|(simp;omega)):WP (ah (aS b n) k) Q:=xY h a
theorem rO{q:Prop}[Decidable q](a:WP k Q)(h:q:=by first|omega|(dsimp only;omega)|(simp;done)|(simp;omega)):WP (ah (decide q) k) Q:=xZ h a
theorem aA{α:Type}[Inhabited α]{xs:List α}{i:Int}{K:α->Option β}(a:WP (K (gi xs i)) Q)(h:0<=i/\i<xs.length:=by first|omega|(dsimp only;omega)|(simp;done)|(simp;omega)):WP ((idx xs i).bind K) Q:=bW h a
theorem aO{α:Type}[Inhabited α]{xs:List α}{i:Int}{K:α->Option β}{P:α->Prop}(a:All xs P)(b:P (gi xs i)->WP (K (gi xs i)) Q)(h:0<=i/\i<xs.length:=by first|omega|(dsimp only;omega)|(simp;done)|(simp;omega)):WP ((idx xs i).bind K) Q:=bW h (b (a i h.1 h.2))
end
theorem Uw{s:Str}:(s=⟨[]⟩)=(s.l.length=0):=by rcases s with ⟨l⟩;cases l<;>simp
theorem aJ8{β σ:Type}{Q:β->Prop}{R:σ->Prop}{k:σ->Option β}{x:σ}(h:∀x,R x->WP (k x) Q)(a:R x):WP (k x) Q:=h x a
theorem aJ9{β σ:Type}{Q:β->Prop}{R:σ->Prop}{μ:σ->Nat}{n:Nat}{k:σ->Option β}{x:σ}(h:∀x,R x->μ x<n->WP (k x) Q)(b:R x)(a:μ x<n):WP (k x) Q:=h x b a
theorem aI5{β:Type}{Q E:β->Prop}{y:β}(h:∀y,E y->Q y)(e:E y):Q y:=h y e
theorem go{G:Prop}(h:G:=by
 repeat' (first
  |exact trivial
  |with_reducible refine aD ?_
  |with_reducible refine aJ8 (by assumption) ?_|with_reducible refine aJ9 (by assumption) ?_ ?_
  |(with_reducible refine mZ ?_ ?_;(first|omega|grind))
  |(with_reducible refine aJ3 (by assumption) ?_ ?_ (fun _=>?_);omega;omega)|(with_reducible refine bW ?_ ?_;(first|omega|grind))
  |(with_reducible refine U4 ?_ (fun _ _ _ _=>?_);(first|omega|grind))
  |(with_reducible refine xY ?_ ?_;first|omega|(simp only[List.length_append,List.length_cons,List.length_nil];omega)|grind)
  |(with_reducible refine iJ ?_ ?_;(first|omega|grind))|(with_reducible refine vE ?_ (fun _ _ _=>?_);(first|omega|grind))|(with_reducible refine Ak ?_ ?_;(first|omega|grind))|(with_reducible refine U5 ?_ ?_;(first|omega|grind))|(with_reducible refine xZ ?_ ?_;(first|omega|grind))
  |(with_reducible refine aB (fun h=>?_) (fun h=>?_)<;>try simp only[Uw] at h)
  |(with_reducible refine aR (fun h=>?_) (fun h=>?_)<;>(try simp only[Bool.and_eq_true,Bool.or_eq_true,Bool.not_eq_true',Bool.not_eq_false',Bool.and_eq_false_iff,Bool.or_eq_false_iff,decide_eq_true_eq,decide_eq_false_iff_not,Bool.not_not,Uw] at h))
  |with_reducible refine rA ?_ ?_ (fun _=>?_)|with_reducible refine aJ6 ?_ (fun _=>?_) ?_|with_reducible refine kW ?_ (fun _ _=>?_) (fun _=>?_)
  |(with_reducible refine fC ?_ (fun _ _=>?_);intros;(first|omega|grind))|(with_reducible refine Mc ?_ (fun _ _=>?_);intros;first|exact trivial|omega|grind)
  |(with_reducible refine D6 (fun h=>?_) (fun h=>?_)<;>(try simp only[Bool.and_eq_true,Bool.or_eq_true,Bool.not_eq_true',Bool.not_eq_false',Bool.and_eq_false_iff,Bool.or_eq_false_iff,decide_eq_true_eq,decide_eq_false_iff_not,Bool.not_not,Uw] at h))
  |with_reducible refine Aj ?_ (fun _ _=>?_) (fun _ _=>?_)
  |with_reducible refine aP ?_ (fun _ _=>?_)|with_reducible refine aJ7 ?_ (fun _ _=>?_)
  |with_reducible assumption
  |with_reducible refine aI5 (by assumption) ?_
  |(with_reducible refine bB.zero ?_;omega)|with_reducible refine bB.succ (by assumption) ?_|(with_reducible refine bB.mono (by assumption) ?_;omega)|with_reducible exact All.nil|with_reducible refine All.app (by assumption) ?_|(with_reducible refine All.set (by assumption) ?_ ?_ ?_;rotate_left;omega;omega)|with_reducible refine All.rep ?_
  |with_reducible refine And.intro ?_ ?_
  |intro _
  |dsimp only
  |decide
  |omega
  |grind)):G:=h
end Go.Z
