/- Several parts of the engine, one behind the other. -/
import Derived.Test.YtlbfmjolchehbaaGreatDoorErg
set_option linter.all false
namespace Go.R
open Go.RowKit Go.Dc
section
variable {β:Type}{C:Cf}{s s':Sg C.τ.S}{G p:List (Nat×Bool)}{M M' M0:Mem}{ρ ρ' ρ0 ρe:List Loc}{H H' Hb Hl H0 Hf R:Heap C.τ.S}{w w' w0:World}{a a' a0:Act}{O O' O1 O2 bN gB:List Nat}{y:β}{n nx:Nat}{κ:Ctx C.τ}{Γ Γ0 Bl T':Env C.τ.S}{Q:Exit->Act->World->Prop}{its:List aY}{A l:List Nat}
def Iz(s:Sg C.τ.S)(ρe:List Loc)(its:List aY):Prop:=∀i∈its,(∀c,i.a=c+1->∃T k,(c,SO.bx T k)∈s.Th/\i.b<k)/\(fA i.sh=true->∃l,ρe[i.m]?=some l)
theorem aBQ{q b:Nat}(h:QV s q b=true):∀a,q=a+1->∃T k,(a,SO.bx T k)∈s.Th/\b<k:=by
 intro a e;subst e;simp only[QV] at h;split at h;·rename_i T k c;exact⟨T,k,pz c,by simpa [Nat.blt_eq] using h⟩
 ·cases h
theorem aDS(p:RE C.τ M0 ρe [] (s.Th++s.Bh) w0 a0 (s.T++s.B)){i:Item}{x:aY}(h:adT s i=some x):(∀n,x.a=n+1->∃T k,(n,SO.bx T k)∈s.Th/\x.b<k)/\(fA x.sh=true->∃l,ρe[x.m]?=some l):=by
 unfold adT at h;split at h;·cases h
 ·split at h
  ·rename_i q F;split at h
   ·rename_i g;have g:=aBQ g;split at h
    ·split at h
     ·rename_i m j;cases h;refine⟨g,λ_=>?_⟩;obtain⟨t,E⟩:=q;rw[Sg.bS] at j
      cases t with
      |zero=>obtain⟨z,_,d⟩:=p.tm _ _ j;cases d with|v d=>cases d with|o e=>exact⟨_,e⟩
      |succ n=>
       obtain⟨T,k,r,d⟩:=g n rfl;obtain⟨l,z,_,_,f⟩:=p.cl _ _ _ j T k (List.mem_append_left _ r) d;rcases f with f|f;·cases f
       ·cases f with|o e=>exact⟨_,e⟩
     ·rename_i m _ j;cases h;refine⟨g,λ_=>?_⟩;obtain⟨t,E⟩:=q;rw[Sg.bS] at j
      cases t with
      |zero=>obtain⟨z,_,d⟩:=p.tm _ _ j;cases d with|v d=>cases d with|e e=>exact⟨_,e⟩
      |succ n=>
       obtain⟨T,k,r,d⟩:=g n rfl;obtain⟨l,z,_,_,f⟩:=p.cl _ _ _ j T k (List.mem_append_left _ r) d;rcases f with f|f;·cases f
       ·cases f with|e e=>exact⟨_,e⟩
     ·cases h
    ·split at h
     ·rename_i m j;cases h;refine⟨g,λ_=>?_⟩;obtain⟨t,E⟩:=q;rw[Sg.bS] at j
      cases t with
      |zero=>obtain⟨z,_,d⟩:=p.tm _ _ j;cases d with|v d=>cases d with|o e=>exact⟨_,e⟩
      |succ n=>
       obtain⟨T,k,r,d⟩:=g n rfl;obtain⟨l,z,_,_,f⟩:=p.cl _ _ _ j T k (List.mem_append_left _ r) d;rcases f with f|f;·cases f
       ·cases f with|o e=>exact⟨_,e⟩
     ·cases h
    ·split at h
     ·rename_i m j;cases h;refine⟨g,λ_=>?_⟩;obtain⟨t,E⟩:=q;rw[Sg.bS] at j
      cases t with
      |zero=>obtain⟨z,_,d⟩:=p.tm _ _ j;cases d with|v d=>cases d with|m e=>exact⟨_,e⟩
      |succ n=>
       obtain⟨T,k,r,d⟩:=g n rfl;obtain⟨l,z,_,_,f⟩:=p.cl _ _ _ j T k (List.mem_append_left _ r) d;rcases f with f|f;·cases f
       ·cases f with|m e=>exact⟨_,e⟩
     ·cases h
    ·rename_i sh D u y;cases h;refine⟨g,λA=>?_⟩;exfalso;simp only at A;cases hs:i.sh with|k c=>exact D c hs|w c jj=>exact u c jj hs|s c=>exact y c hs|_=>rw[hs] at A;cases A
   ·cases h
  ·cases h
theorem Gu(a:RE C.τ M0 ρe [] (s.Th++s.Bh) w0 a0 (s.T++s.B)):∀{f:List Item}{its:List aY},qQ s f=some its->Iz s ρe its
 |[],its,h=>by simp[qQ] at h;subst h;intro i c;cases c
 |i::r,its,h=>by
  unfold qQ at h
  split at h
  ·rename_i x d
   split at h
   ·rename_i z e
    cases h
    intro j b
    rcases List.mem_cons.1 b with rfl|b
    ·exact aDS a d
    ·exact Gu a e j b
   ·cases h
  ·split at h
   ·exact Gu a h
   ·cases h
theorem Bt{S:Nat->Type}{m:Nat}{q:Nat×SO S}:∀{H:Heap S},q∈dK m H->q∈H
 |[],h=>by cases h
 |x::r,h=>by
  unfold dK at h
  split at h
  ·exact List.mem_cons_of_mem _ h
  ·rcases List.mem_cons.1 h with rfl|h
   ·exact List.mem_cons_self
   ·exact List.mem_cons_of_mem _ (Bt h)
theorem avw{q b m:Nat}{sh:Sh}{z:sh.cd.ty C.τ.S}{H a:Heap C.τ.S}(h:qj C.τ s q b m H sh=some (z,a)):∀q∈a,q∈H:=by
 cases sh<;>simp only[qj] at h
 ·split at h
  ·split at h;·cases h;exact λ_ h=>h
   ·cases h
  ·cases h
 ·split at h
  ·split at h
   ·split at h;·cases h;exact λ_ h=>Bt h
    ·cases h
   ·cases h
  ·cases h;exact λ_ h=>h
  ·cases h
 ·split at h
  ·split at h
   ·split at h;·cases h;exact λ_ h=>Bt h
    ·cases h
   ·cases h
  ·cases h;exact λ_ h=>h
  ·cases h
 ·split at h
  ·split at h;·cases h;exact λ_ h=>Bt h
   ·cases h
  ·cases h
 ·split at h
  ·split at h;·cases h;exact λ_ h=>Bt h
   ·cases h
  ·cases h
 ·split at h
  ·split at h
   ·split at h;·cases h;exact λ_ h=>Bt h
    ·cases h
   ·cases h
  ·cases h;exact λ_ h=>h
  ·cases h
 ·split at h
  ·split at h;·cases h;exact λ_ h=>Bt h
   ·cases h
  ·cases h
theorem OT:∀{its:List aY}{H a:Heap C.τ.S}{σ:HL C.τ.S its},decs C.τ s its H=some (σ,a)->∀q∈a,q∈H
 |[],H,a,σ,h=>by simp only[decs] at h;cases h;exact λ_ h=>h
 |i::r,H,a,σ,h=>by
  unfold decs at h
  split at h
  ·rename_i x c
   split at h
   ·rename_i z d
    obtain⟨e,f⟩:=x
    obtain⟨g,j⟩:=z
    cases h
    exact λq b=>avw c q (OT d q b)
   ·cases h
  ·cases h
theorem WV{S:Nat->Type}{m T k:Nat}:∀{H:Heap S},(m,SO.bx T k)∈H->(m,SO.bx T k)∈boxes H
 |[],h=>by cases h
 |x::r,h=>by
  unfold boxes
  rcases List.mem_cons.1 h with rfl|h
  ·exact List.mem_cons_self
  ·split
   ·exact List.mem_cons_of_mem _ (WV h)
   ·exact WV h
theorem afY{S:Nat->Type}:∀(H:Heap S),∃R,H.Perm (boxes H++R)
 |[]=>⟨[],.rfl⟩
 |x::r=>by
  obtain⟨R,h⟩:=afY r
  unfold boxes
  split
  ·exact⟨R,h.cons x⟩
  ·exact⟨x::R,(h.cons x).trans List.perm_middle.symm⟩
theorem DR.back(f:Names ρe ρ'):∀{its:List aY}{σ:HL C.τ.S its}{Os:List Nat},DR C.τ M ρ' w a its σ Os->(∀i∈its,(∀t,i.a=t+1->∃l,ρe[t]?=some l)/\(fA i.sh=true->∃l,ρe[i.m]?=some l))->DR C.τ M ρe w a its σ Os
 |[],_,_,.nil,_=> .nil
 |i::r,_,_,.cons (x:=x) h1 h2 h3,hv=>by
  have p:=hv i List.mem_cons_self
  refine DR.cons (x:=x) (λz=>?_) ?_ (h3.back f λj y=>hv j (List.mem_cons_of_mem _ y))
  ·have h1:=h1 z
   obtain⟨u,A,q,h⟩:=i
   cases u with
   |zero=>exact h1
   |succ t=>
    obtain⟨l,b,e⟩:=h1
    obtain⟨l0,d⟩:=p.1 t rfl
    rw[f _ _ d] at b;cases b
    exact⟨_,d,e⟩
  ·obtain⟨u,A,q,h⟩:=i
   cases h with
   |k c=>
    obtain⟨l,b,e⟩:=h2
    obtain⟨l0,d⟩:=p.2 rfl
    have b:ρ'[q]?=some l:=b
    rw[f _ _ d] at b;cases b
    exact⟨_,d,e⟩
   |s c=>
    obtain⟨l,b,e⟩:=h2
    obtain⟨l0,d⟩:=p.2 rfl
    have b:ρ'[q]?=some l:=b
    rw[f _ _ d] at b;cases b
    exact⟨_,d,e⟩
   |w c jj=>
    obtain⟨l,lh,b,e⟩:=h2
    obtain⟨l0,d⟩:=p.2 rfl
    have b:ρ'[q]?=some l:=b
    rw[f _ _ d] at b;cases b
    exact⟨_,_,d,e⟩
   |v c=>exact h2
   |o c=>exact h2
   |n c=>exact h2
   |g c jj=>exact h2
theorem SG{K:aK C.τ.S (its.map (·.sh.cd))->Option β}(h0:SA n a0)(j:ρe.length=s.nx)(he:RE C.τ M0 ρe [] (s.Th++s.Bh) w0 a0 (s.T++s.B))(h1:RH C.τ M0 ρe w0 s.Th O1)(h2:RH C.τ M0 ρe w0 s.Bh O2)(h3:SM κ M0 w0 O1 O2)(V:Iz s ρe its)(ko:s'.Bh=bT l s.Th++s.Bh)(U:SS C n κ ρe [] s' M' w' a')(hT:∀t,iN t A=false->lk s'.B 0 t=lk (s.T++s.B) 0 t)(hC:∀m o,m<s.nx->dX (m+1) o its=false->lk s'.B (m+1) o=lk (s.T++s.B) (m+1) o)(h:meet C A its s.nx s.Th s' K=some y):∃σ,K (pR C.τ.S its σ)=some y/\∃c X r p,Names ρe c/\c.length=lQ its s.nx/\RE C.τ M' c [] (fG C.τ its σ s.nx (boxes s.Th++(bT l s.Th++s.Bh))) w' a' (dI C.τ its σ s.nx (kill s A its++(s.T++s.B)))/\RH C.τ M' c w' (fG C.τ its σ s.nx (boxes s.Th)) X/\RH C.τ M' c w' (bT l s.Th) r/\RH C.τ M' c w' s.Bh p/\SM κ M' w' (X++r) p:=by
 obtain⟨N,an,Y,gB,z,ag,v,u,g,a⟩:=U;unfold meet at h;split at h
 ·rename_i hk;split at h
  ·rename_i σ G;split at h
   ·rename_i R hR;obtain⟨σ,H2⟩:=σ;have f:=LG hR;have F:=OT G;have E:∀q∈boxes s.Th,q∈s'.Th:=λq hq=>F q (f.mem_iff.2 (List.mem_append_left _ hq));obtain⟨Os,ab,d1,d2,Z⟩:=OQ (fQ v u g a) G u λi H W e=>by obtain⟨T,k,L,M⟩:=(V i H).1 W e;exact⟨T,k,List.mem_append_left _ (E _ (WV L)),M⟩
    refine⟨σ,h,?_⟩;obtain⟨ae,d4,d5⟩:=d2.perm f;obtain⟨I,Og,d6,d7,rfl⟩:=d4.split;rw[ko] at g v;obtain⟨r,p,f1,f2,rfl⟩:=g.split;obtain⟨Oq,L,M⟩:=h1.perm (Gj l s.Th);obtain⟨Op,Oe,g3,g4,rfl⟩:=L.split;obtain⟨R0,Q⟩:=afY s.Th;obtain⟨aa,g5,_⟩:=h1.perm Q;obtain⟨af,_,g6,_,rfl⟩:=g5.split;obtain⟨i1,i2⟩:=RH.qO z g4 f1;obtain⟨i3,_⟩:=RH.qO z g6 d6;obtain⟨i5,_⟩:=RH.qO z h2 f2
    have d:=ate (A:=A) (its:=its) (Hb:=boxes s.Th++(bT l s.Th++s.Bh)) z j he (h1.app h2) v (u.app g) h0 N hk hT hC λm T k w=>by
     rcases List.mem_append.1 w with w|w;·exact⟨List.mem_append_left _ (IZ w).1,List.mem_append_left _ (E _ w)⟩
     ·rcases List.mem_append.1 w with x|x;·have:=ac4 x;cases this
      ·exact⟨List.mem_append_right _ x,List.mem_append_right _ w⟩
    have hd:=d1.back z λi H=>⟨λW e=>by obtain⟨T,k,k1,_⟩:=(V i H).1 W e;obtain⟨o,ho,_⟩:=h1.look k1;obtain⟨l,e,_⟩:=ho.ren;exact⟨l,e⟩,(V i H).2⟩;obtain⟨c,J,z2,z3,z4⟩:=uw hd Names.rfl j d;refine⟨c,Os++I,r,p,J,z2,z3,?_,i1.names J,i5.names J,?_⟩;·rw[kL];exact z4.app (i3.names J)
    ·have D:(Y++(r++p)).Perm ((Os++I++r++p)++Og):=by refine ((Z.trans (d5.append_left Os)).append_right (r++p)).trans ?_;simp only[List.append_assoc];refine List.Perm.append_left Os (List.Perm.append_left I ?_);refine List.perm_append_comm.trans ?_;simp
     have P:=(List.nodup_append.1 (D.nodup_iff.1 a.nodup)).1
     have O:∀b,b∈Os++I->b∈Y:=λb d=>(Z.trans (d5.append_left Os)).mem_iff.2 (by
      rcases List.mem_append.1 d with d|d;·exact List.mem_append_left _ d
      ·exact List.mem_append_right _ (List.mem_append_left _ d))
     refine⟨a.tab,a.frame,a.sat,a.le,a.new,P,λb d=>?_,λb d=>a.red b (List.mem_append_right _ d)⟩;rcases List.mem_append.1 d with d|d;·exact a.own b (O b d)
     ·refine⟨a.red b (List.mem_append_left _ d),?_⟩;exact (h3.own b (M.mem_iff.2 (List.mem_append_right _ (i2▸d)))).2
   ·cases h
  ·cases h
 ·cases h
theorem aiR{X:Env C.τ.S}{B:Env C.τ.S}(v:Names ρ0 ρe)(h1:RH C.τ M0 ρe w0 s.Th O1)(h2:RH C.τ M0 ρe w0 s.Bh O2)(u:SM κ M0 w0 O1 O2){Th:Heap C.τ.S}{Γ:Env C.τ.S}(i:St C.τ n κ ρe [] nx Γ Th (bT l s.Th++s.Bh) M' w' a'):St C.τ n κ ρ0 [] nx Γ (Th++bT l s.Th) s.Bh M' w' a':=by
 obtain⟨d,j,p,D,k,h,g,e,f,a⟩:=i;obtain⟨o,m,f1,f2,rfl⟩:=f.split;obtain⟨z,q,r⟩:=h1.perm (Gj l s.Th);obtain⟨y,x,A,t,rfl⟩:=q.split;obtain⟨_,w⟩:=RH.qO k t f1;refine⟨d,j,p++o,m,v.trans k,h,by rw[List.append_assoc];exact g,e.app f1,f2,⟨a.tab,a.frame,a.sat,a.le,a.new,by rw[List.append_assoc];exact a.nodup,λb c=>?_,λb c=>a.red b (List.mem_append_right _ c)⟩⟩;rcases List.mem_append.1 c with c|c;·exact a.own b c
 ·exact⟨a.red b (List.mem_append_left _ c),(u.own b (r.mem_iff.2 (List.mem_append_right _ (w▸c)))).2⟩
theorem NP(p:Names ρ0 ρe)(h0:SA n a0)(d:ρe.length=s.nx)(m:RE C.τ M0 ρe [] (s.Th++s.Bh) w0 a0 (s.T++s.B))(h1:RH C.τ M0 ρe w0 s.Th O1)(h2:RH C.τ M0 ρe w0 s.Bh O2)(a:SM κ M0 w0 O1 O2):SS C n κ ρe [] ⟨s.T++s.B,[],bT l s.Th++s.Bh,lZ l s.Th,s.nx⟩ M0 w0 a0:=by
 obtain⟨o,i,e⟩:=h1.perm (Gj l s.Th);obtain⟨h,g,j,k,rfl⟩:=i.split;refine⟨h0,ρe,h,g++O2,Names.rfl,d,m.perm λq f=>?_,j,k.app h2,?_⟩;·rw[<-List.append_assoc] at f;exact ((Gj l s.Th).append_right s.Bh).mem_iff.2 f
 ·refine⟨a.tab,a.frame,a.sat,a.le,a.new,?_,λb c=>a.own b (e.mem_iff.2 (List.mem_append_left _ c)),λb c=>?_⟩;·rw[<-List.append_assoc];exact (e.append_right O2).nodup_iff.1 a.nodup
  ·rcases List.mem_append.1 c with c|c;·exact (a.own b (e.mem_iff.2 (List.mem_append_right _ c))).1
   ·exact a.red b c
theorem acS(a:RE C.τ M0 ρe [] H0 w0 a0 Γ):jh Γ:=by intro t v b p u e;subst e;obtain⟨x,_,h⟩:=a.tm t _ b;cases h with|v h=>cases h|g h _ _=>cases p with|nil=>simp[dM] at h|cons q r=>cases r<;>simp[dM,look] at h
end
end Go.R
namespace Go.R
open Go.RowKit Go.Dc
section
variable {β:Type}{C:Cf}{T:FuncId->Option (aN C.τ.S)}{I:FuncId->Option (aL C.τ.S)}{s s':Sg C.τ.S}{G G' p:List (Nat×Bool)}{M M':Mem}{ρ ρ' ρ0:List Loc}{H R:Heap C.τ.S}{w w':World}{a:Act}{O O' O1 O2 On:List Nat}{y:β}{n nx:Nat}{κ:Ctx C.τ}{Q:Exit->Act->World->Prop}{wr xo:Bool}{ops:Array Oper}{X XO OX:List Nat}
theorem Frame.x{a:List Nat}(h:Frame a w w')(hs:∀b∈a,b∈OX):gJ OX w w':=⟨h.size,λb c e=>h.block b c λd=>e (hs b d)⟩
theorem mG{t:Nat}:∀{l:List Nat},eY t l=true↔t∈l
 |[]=>by simp[eY]
 |x::r=>by
  unfold eY
  by_cases e:x=t
  ·subst e;simp
  ·simp only[ED e,List.mem_cons]
   rw[mG]
   exact⟨.inr,λh=>h.resolve_left λh=>e h.symm⟩
theorem uJ{S:Nat->Type}(X:List Nat):∀(H:Heap S),H.Perm (jq X H++pG X H)
 |[]=> .rfl
 |q::r=>by
  unfold jq pG
  split
  ·exact (uJ X r).cons q
  ·exact ((uJ X r).cons q).trans List.perm_middle.symm
theorem QW{S:Nat->Type}{X:List Nat}{q:Nat×SO S}:∀{H:Heap S},q∈jq X H->q.1∈X/\bxB q.2=true
 |[],h=>by cases h
 |x::r,h=>by
  unfold jq at h
  split at h
  ·rename_i e
   rcases List.mem_cons.1 h with rfl|h
   ·simp only[Bool.and_eq_true] at e
    exact⟨mG.1 e.1,e.2⟩
   ·exact QW h
  ·exact QW h
theorem alX{S:Nat->Type}:∀{H:Heap S},jq [] H=[]|[]=>rfl|x::r=>by unfold jq;exact alX
def blk(ρ:List Loc)(X:List Nat):List Nat:=X.filterMap λm=>(ρ[m]?).map Loc.b
theorem afM(j:Names ρ ρ'){H:Heap C.τ.S}(h:RH C.τ M ρ' w H O)(d:∀m∈X,∃l,ρ[m]?=some l)(g:∀q∈H,q.1∈X/\bxB q.2=true):∀b∈O,b∈blk ρ X:=by
 induction h with
 |nil=>intro b a;cases a
 | @cons m x o os H h1 h2 n=>
  intro b a;rcases List.mem_append.1 a with a|a
  ·obtain⟨i,f⟩:=g _ List.mem_cons_self;obtain⟨l,d⟩:=d m i;have e:=j _ _ d;have:b=l.b:=by cases h1 with|bx c _ _ _=>rw[e] at c;cases c;simpa using a|iR _ _=>cases a|ls c _ _ _ _ _ _ _ _ _ _=>rw[e] at c;cases c;simpa using a|ig _ _=>cases a|ar c _ _ _ _ _ _ _ _ _=>rw[e] at c;cases c;simpa using a|_=>cases f
   subst this;exact List.mem_filterMap.2 ⟨m,i,by simp[d]⟩
  ·exact n (λq k=>g q (List.mem_cons_of_mem _ k)) b a
theorem Frame.fr(h:Frame [] w w'):dN w w':=⟨h.size,λb a=>h.block b a sm⟩
theorem dN.like(h:dN w w')(hs:Sat M w)(c:∀b∈O,b<w.heap.size):Like M O w w':=by
 refine⟨λb j v e=>?_,λb a=>h.2 b (c b a)⟩;have h1:=hs b j v e
 have a:b<w.heap.size:=by
  rcases Nat.lt_or_ge b w.heap.size with h|h;·exact h
  ·rw[hs.kE h] at e;cases e
 simpa [World.cell?,h.2 b a] using h1
theorem lu{d t:Nat}{v:SV C.τ.S}(h:some d≠some t):(s.put d v).lk 0 t=s.lk 0 t:=by rw[Sg.bS,Sg.bS];exact bX (λe=>h (by cases e;rfl))
theorem aB0{o:Oper}{ops:List Oper}{p:List (Nat×Bool)}(e:o.guard≠none)(h:FD C I s p o.op=true):jr C I ops o=true:=by
 unfold FD at h;split at h
 ·rename_i x xs ts b;split at h
  ·rename_i f a c;unfold jr;rw[b]
   cases x with
   |func d=>
    have c:some (SV.f d [])=some (SV.f f a):=c;cases c;simp only;split at h;·rename_i i g;rw[g];exact h
    ·cases h
   |_=>
    show (true&& !yO ops o)=true
    have:yO ops o=false:=by
     unfold yO;split;·rename_i h1 _;exact absurd h1 e
     ·rfl
    rw[this];rfl
  ·cases h
 ·cases h
theorem apb{ρr:List Loc}{o:Oper}{i:Nat}{K:List (Nat×Bool)->Sg C.τ.S->Option β}{Kc:Act->World->Prop}(hT:∀f U,T f=some U->FZ C.P C.τ f U)(hI:∀f i,I f=some i->aF C f i)(h:one C T I n wr X xo ops.toList o G s K=some y)(hN:∀ρ,Names ρ0 ρ->Names ρr ρ)(hl:∀m∈X,∃l,ρr[m]?=some l)(hi:ops[i]?=some o)(hR:eG (C:=C) ops.toList G s)(hs:SS C n κ ρ0 G s M w a)(k:∀O s' M' w' a',K O s'=some y->eG (C:=C) ops.toList O s'->s'.B=s.B->s'.Bh=s.Bh->(∀t,o.dst≠some t->s'.lk 0 t=s.lk 0 t)->SS C n κ ρ0 O s' M' w' a'->Kc a' w'):wpOp C.P ops Q i (λa' w'=>((jr C I ops.toList o=false->dN w w')/\((jr C I ops.toList o&& !xo)=false->gJ (blk ρr X) w w'))/\Kc a' w') a w:=by
 unfold wpOp;simp only[hi];unfold one at h;split at h
 ·rename_i hg;have an:Region.wanted o (yielded ops a.tmps)=true:=by simp[Region.wanted,hg]
  rw[if_pos an];refine .inl ?_;split at h
  ·split at h
   ·rename_i d hd;split at h
    ·rename_i c D;have c:d<n:=by simpa [Nat.blt_eq] using c
     obtain⟨v,h1,h2⟩:=yU (.inl ⟨rfl,rfl⟩) hR h;obtain⟨h0,ρ,O1,O2,hn,hl,R,F,J,E⟩:=hs;obtain⟨x,hx,hr⟩:=h2 M ρ _ w a _ (fQ R F J E);obtain⟨dst,op,ty,pos,aM,gd⟩:=o;simp only at hd;subst hd;unfold Oper.wp;rw[hr w (Like.refl E.sat)];exact⟨⟨λ_=>dN.refl,λ_=>gJ.refl⟩,k G _ M w _ h1 (hR.put D) rfl rfl (λ_ N=>lu N) (SS.put h0 hn hl R F J E c hx)⟩
    ·cases h
   ·cases h
  ·split at h
   ·rename_i hD;have ag:=O7 (n:=n) (κ:=κ) (ρ0:=ρ0) (G:=G) hT hI h;obtain⟨dst,op,ty,pos,aM,gd⟩:=o;refine ag _ _ M w a dst ty pos aM gd hs λv s' M' w' x ρ O1 O2 W Y F J E g4 g5 g6 g7=>⟨⟨λe=>(by rw[e] at hD;cases hD),λe=>(by rw[hD] at e;cases e)⟩,?_⟩;simp only at W;split at W;·exact k G s' M' w' _ W (hR.keep Y) Y.B Y.Bh (λt _=>Y.tm t) ⟨hs.1,ρ,O1,O2,F,J,E,g4,g5,g6⟩
    ·rename_i d;split at W;·rename_i v' c D;exact k G _ M' w' _ W ((hR.keep Y).put D) Y.B Y.Bh (λt N=>(lu N).trans (Y.tm t)) (SS.put hs.1 F J E g4 g5 g6 (by simpa [Nat.blt_eq] using c) (g7 v' rfl))
     ·cases W
   ·rename_i hD;obtain⟨M1,a1⟩:=Jq (xs:=Gh C T I s o.op) hs;have kf:=Kr (xs:=Gh C T I s o.op) (s:=s);generalize s.mE (Gh C T I s o.op)=s1 at h a1 kf;obtain⟨A,hA⟩:∃A,A=Lr (jr C I ops.toList o) X:=⟨_,rfl⟩;rw[<-hA] at h;obtain⟨h0,ρ,O1,O2,hn,a4,R,f1,f2,f3⟩:=a1;obtain⟨Oq,f4,f5⟩:=f1.perm (uJ A s1.Th);obtain⟨OF,Oz,f6,f7,rfl⟩:=f4.split;have f3:=f3.perm f5;have ag:=O7 (n:=n) (κ:=⟨w,OF,M1⟩) (ρ0:=ρ) (G:=G) hT hI h
    have hF:((jr C I ops.toList o=false->OF=[])/\∀b∈OF,b∈blk ρr X):=by
     refine⟨λe=>?_,afM (hN ρ hn) f6 hl λq hq=>?_⟩;·rw[e] at hA;have hA:A=[]:=hA;subst hA;rw[alX] at f6;cases f6;rfl
     ·have:=QW hq;rw[hA] at this;unfold Lr at this;split at this;·exact this
      ·cases this.1
    obtain⟨dst,op,ty,pos,aM,gd⟩:=o
    have a7:SS C n ⟨w,OF,M1⟩ ρ G (s1.aside A) M1 w a:=⟨h0,ρ,OF,Oz++O2,Names.rfl,a4,by
      show RE C.τ M1 ρ G (jq A s1.Th++(pG A s1.Th++s1.Bh)) w a (s1.T++s1.B);refine R.perm λq hq=>?_;rw[<-List.append_assoc] at hq
      exact ((uJ A s1.Th).append_right _).mem_iff.2 hq,f6,f7.app f2,⟨f3.tK (by first|exact λ_ h=>h|exact λ_ h=>List.mem_append_left _ h|simp),Frame.refl _ _,f3.sat,Mem.le.rfl,λ_ _ _ e=> .inl e,by rw[<-List.append_assoc];exact f3.nodup,λb Z=>⟨(f3.own b (List.mem_append_left _ Z)).1,.inl Z⟩,λb Z=>by
       rcases List.mem_append.1 Z with Z|Z;·exact (f3.own b (List.mem_append_right _ Z)).1
       ·exact f3.red b Z⟩⟩
    refine ag _ _ M1 w a dst ty pos aM gd a7 λv s' M' w' x ao On gB W Y F J E g4 g5 g6 g7=>?_;have ko:s'.Bh=pG A s1.Th++s1.Bh:=Y.Bh;rw[ko] at g5 E;obtain⟨Oa,Ob,q1,q2,rfl⟩:=g5.split;obtain⟨_,e1⟩:=RH.qO F f7 q1;obtain⟨_,e2⟩:=RH.qO F f2 q2;subst e1 e2;refine⟨⟨λe=>?_,λ_=>Frame.x g6.frame hF.2⟩,?_⟩;·have:=hF.1 e;subst this;exact Frame.fr g6.frame
    have r:RE C.τ M' ao G ((s'.Th++pG A s1.Th)++s1.Bh) w' a (s'.T++s'.B):=by rw[List.append_assoc];exact E
    have L:Keep s (s1.ret s' A):=⟨Y.B.trans kf.B,kf.Bh,λt=>(Y.tm t).trans (kf.tm t)⟩;simp only at W;split at W;·exact k G _ M' w' _ W (hR.keep L) L.B L.Bh (λt _=>L.tm t) ⟨h0,ao,On++Oz,O2,hn.trans F,J,r,g4.app q1,q2,f3.back g6⟩
    ·split at W;·rename_i c D;exact k G _ M' w' _ W ((hR.keep L).put D) L.B L.Bh (λt N=>(lu N).trans (L.tm t)) (SS.put (s:=s1.ret s' A) h0 (hn.trans F) J r (g4.app q1) q2 (f3.back g6) (by simpa [Nat.blt_eq] using c) (g7 _ rfl))
     ·cases W
    ·cases W
 ·rename_i j wt hg;split at h
  ·rename_i O p a3;obtain⟨V,hG,a5,hw⟩:=Zb hR a3;split at h
   ·rename_i e d R hd;split at h
    ·rename_i c D;have c:=(by simpa [Nat.blt_eq] using c:d<n);obtain⟨h0,ρ,O1,O2,hn,hl,r,F,J,E⟩:=hs;have r:=hG r;have QK:Region.wanted o (yielded ops a.tmps)=e:=hw e R r o hg;rw[QK];split at h;·obtain⟨v,h1,h2⟩:=yU (.inr ⟨a5,e,rfl,R⟩) V h;obtain⟨dst,op,ty,pos,aM,gd⟩:=o;simp only at hd;subst hd;cases e with|false=>exact⟨⟨λ_=>dN.refl,λ_=>gJ.refl⟩,k O _ M w _ h1 (V.put D) rfl rfl (λ_ N=>lu N) (SS.put h0 hn hl r F J E c (.g R (λh=>by cases h) λ_=>rfl))⟩|true=>obtain⟨x,hx,hr⟩:=h2 M ρ _ w a _ (Rd.of r F J E.sat λ_=>R);refine .inl ?_;unfold Oper.wp;rw[hr w (Like.refl E.sat)];exact⟨⟨λ_=>dN.refl,λ_=>gJ.refl⟩,k O _ M w _ h1 (V.put D) rfl rfl (λ_ N=>lu N) (SS.put h0 hn hl r F J E c (.g R (λ_=>hx) λh=>by cases h))⟩
     ·by_cases aa:FD C I s p o.op=true
      ·rw[aa] at h;have hD:=aB0 (C:=C) (ops:=ops.toList) (by rw[hg];simp) aa;cases xo with|true=>cases h|false=>
       have h:cnd e (yQ C I s p o.op λv s'=>K O (s'.put d (.g p v))) (K O (s.put d (.g p (Jf C o.type))))=some y:=h
       cases e with
       |false=>have h:K O (s.put d (.g p (Jf C o.type)))=some y:=h;obtain⟨dst,op,ty,pos,aM,gd⟩:=o;simp only at hd;subst hd;exact⟨⟨λ_=>dN.refl,λ_=>gJ.refl⟩,k O _ M w _ h (V.put D) rfl rfl (λ_ N=>lu N) (SS.put h0 hn hl r F J E c (.g (x:=undef) R (λh=>by cases h) λ_=>rfl))⟩
       |true=>
        have h:yQ C I s p o.op (λv s'=>K O (s'.put d (.g p v)))=some y:=h;unfold yQ at h;split at h;·rename_i x xs ts ab;obtain⟨dst,op,ty,pos,aM,gd⟩:=o;simp only at hd ab;subst hd ab;refine .inl ?_;refine aei (n:=n) (κ:=κ) (ρ0:=ρ0) hI (λ_=>R) h _ _ M w a (some d) ty pos aM gd ⟨h0,ρ,O1,O2,hn,hl,r,F,J,E⟩ λv s' M' w' x ao bN gB hk H q1 q2 q3 q4 q5 q6 q7=>?_;cases v with|none=>cases hk|some v=>exact⟨⟨λe=>(by rw[hD] at e;cases e),λe=>(by rw[hD] at e;cases e)⟩,k O _ M' w' _ hk ((V.keep H).put D) H.B H.Bh (λt N=>(lu N).trans (H.tm t)) (SS.put h0 q1 q2 q3 q4 q5 q6 c (.g R (λ_=>q7 v rfl) λh=>by cases h))⟩
        ·cases h
      have aa:FD C I s p o.op=false:=by simpa using aa
      rw[aa] at h;have h:EN C T s p e o.op (λv=>K O (s.put d (.g p v)))=some y:=by cases xo<;>exact h
      unfold EN at h;split at h
      ·rename_i x xs ts ab;split at h
       ·rename_i f ap hx;split at h
        ·rename_i U vs aq hf a8;split at h
         ·rename_i ps dd a6 a9;obtain⟨rr,hr,az⟩:=bind_some h;clear h;obtain⟨dst,op,ty,pos,aM,gd⟩:=o;simp only at hd ab;subst hd ab
          cases e with
          |false=>exact⟨⟨λ_=>dN.refl,λ_=>gJ.refl⟩,k O _ M w _ az (V.put D) rfl rfl (λ_ N=>lu N) (SS.put h0 hn hl r F J E c (.g R (λh=>by cases h) λ_=>rfl))⟩
          |true=>
           have hr:U.sP ps=some rr:=hr;have af:=Rd.of r F J E.sat λ(_:p≠[])=>R;have aw:=af.rv hx;generalize a2:a.eval x=ax at aw;cases aw with| @f _ _ nE e1 e2=>
           obtain⟨q1,q2⟩:=NK af a8;have hc:aZ C.τ M ρ (yZ s ap) nE:=Ju af (aZ.of e1 e2);refine .inl ?_;unfold Oper.wp;have aE:=Lm (P:=C.P) (xs:=xs) (ts:=ts) (dst:=some d) (ty:=ty) (pos:=pos) (aM:=aM) (gd:=gd) a2 rfl hf w;rw[show (⟨.value x,⟨xs⟩,ts⟩:Call)={callee:= .value x,args:=xs.toArray,argTypes:=ts} from rfl,aE]
           have ae:og C.τ M [] (ES C.τ U.ins ps) (xs.map a.eval++nE):=D9 (G:=O) a6 (by simp[q1,hc.len]) λi v z hv hz=>by
            rw[List.getElem?_append] at hv hz;simp only[List.length_map] at hz;rw[q1] at hv;split at hv;·rename_i hi;rw[if_pos hi] at hz;exact q2 i v z hv hz
            ·rename_i hi;rw[if_neg hi] at hz;exact .v (hc.at hv hz)
           refine (hT f U aq ps rr hr w M _ ae E.sat r.gm E.gt).mono ?_;rintro e w' ⟨z,M',rfl,i1,i2,i3,i4,i5⟩;obtain⟨h4,h5⟩:=E.call i2 i3 i4 i5;refine⟨⟨λ_=>Frame.fr i4,λ_=>(Frame.fr i4).x⟩,k O _ M' w' _ az (V.put D) rfl rfl (λ_ N=>lu N) (SS.put h0 hn hl (r.ext Names.rfl (F.app J) h5) (F.ext Names.rfl (h5.sub λb Z=>List.mem_append_left _ Z)) (J.ext Names.rfl (h5.sub λb Z=>List.mem_append_right _ Z)) h4 c (.g R (λ_=>?_) λh=>by cases h))⟩;have:RG C.τ M' ρ [] (gV (ES C.τ U.outs rr)) z:=i1.mono .rfl λm l h=>by simp at h
           exact this.weak λp u e=>apG e
         ·cases h
        ·cases h
       ·cases h
      ·cases h
    ·cases h
   ·cases h
  ·cases h
theorem ac2{o:Oper}{K:List (Nat×Bool)->Sg C.τ.S->Option β}(h:one C T I n wr X xo ops.toList o G s K=some y)(Z:nL o.op=false)(E:eG (C:=C) ops.toList G s)(h0:SA n a)(W:RE C.τ M ρ G (s.Th++s.Bh) w a (s.T++s.B))(R:RH C.τ M ρ w s.Th O1)(U:RH C.τ M ρ w s.Bh O2)(V:Sat M w):∃v m z,YieldsIf C.P ops (Like M (O1++O2) w) o v a/\K m ⟨s.B,z,s.Bh,s.Th,s.nx⟩=some y/\eG (C:=C) ops.toList m ⟨s.B,z,s.Bh,s.Th,s.nx⟩/\(∀t,o.dst≠some t->lk (z++s.B) 0 t=lk (s.T++s.B) 0 t)/\∀H,RE C.τ M ρ G H w a (s.T++s.B)->RE C.τ M ρ m H w (a.put o.dst v) (z++s.B):=by
 unfold one at h;rw[Z] at h;split at h
 ·rename_i F;have l:Region.wanted o (yielded ops a.tmps)=true:=by simp[Region.wanted,F]
  simp only at h;split at h
  ·rename_i d k;split at h
   ·rename_i b f;have b:d<n:=by simpa [Nat.blt_eq] using b
    obtain⟨v,h1,h2⟩:=yU (.inl ⟨rfl,rfl⟩) E h;obtain⟨x,O,N⟩:=h2 M ρ _ w a _ (Rd.of W R U V λh=>absurd rfl h);refine⟨x,G,(0,d,v)::s.T,.inl ⟨l,λw' A=>?_⟩,h1,E.put f,λt u=>bX (λe=>u (by cases e;exact k)),λH q=>?_⟩;·obtain⟨dst,op,ty,pos,aM,Y⟩:=o;exact N w' A _ _ _ _ _
    ·rw[k];exact q.put h0 b O
   ·cases h
  ·cases h
 ·rename_i j wt F;split at h
  ·rename_i m p J;obtain⟨i,D,L,hw⟩:=Zb E J;split at h
   ·rename_i e d c k;split at h
    ·rename_i b f;have b:=(by simpa [Nat.blt_eq] using b:d<n);have r:=D W;have Q:Region.wanted o (yielded ops a.tmps)=e:=hw e c r o F;obtain⟨v,h1,h2⟩:=yU (.inr ⟨L,e,rfl,c⟩) i h
     cases e with
     |false=>exact⟨undef,m,(0,d,.g p v)::s.T,.inr ⟨Q,rfl⟩,h1,i.put f,λt u=>bX (λe=>u (by cases e;exact k)),λH q=>by rw[k];exact (D q).put h0 b (.g c (λh=>by cases h) λ_=>rfl)⟩
     |true=>
      obtain⟨x,O,N⟩:=h2 M ρ _ w a _ (Rd.of r R U V λ_=>c);refine⟨x,m,(0,d,.g p v)::s.T,.inl ⟨Q,λw' A=>?_⟩,h1,i.put f,λt u=>bX (λe=>u (by cases e;exact k)),λH q=>?_⟩;·obtain⟨dst,op,ty,pos,aM,Y⟩:=o;exact N w' A _ _ _ _ _
      ·rw[k];exact (D q).put h0 b (.g c (λ_=>O) λh=>by cases h)
    ·cases h
   ·cases h
  ·cases h
def Dp(C:Cf)(I:FuncId->Option (aL C.τ.S))(ops:Array Oper)(X a:List Nat)(ρr:List Loc)(i:Nat)(w w':World):Prop:=∀o,ops[i]?=some o->(jr C I ops.toList o=false->dN w w')/\((jr C I ops.toList o&& !eY i a)=false->gJ (blk ρr X) w w')
theorem Tg{listed:Array Bool}:∀{l:List Nat}{i:Nat},Gl C I ops XO listed l=some i->i∈l/\GH C I ops XO listed i=true
 |[],i,h=>by cases h
 |j::r,i,h=>by
  unfold Gl at h
  split at h
  ·rename_i e;cases h;exact⟨List.mem_cons_self,e⟩
  ·obtain⟨h1,h2⟩:=Tg h;exact⟨List.mem_cons_of_mem _ h1,h2⟩
theorem UC{listed:Array Bool}{i:Nat}{o:Oper}(hi:ops[i]?=some o)(h:GH C I ops XO listed i=true):nL o.op=false/\Region.free .any ops listed i=true/\∀j,j≠i->j<ops.size->listed.getD j true=false->∃d,ops[j]?=some d/\(jr C I ops.toList d=false\/eY j XO=true\/∃f,lK ops i f j=true):=by
 unfold GH at h;rw[hi] at h;simp only at h;split at h
 ·rename_i e;simp only[Bool.and_eq_true] at h;refine⟨e,h.1,λj c b g=>?_⟩;have a:=h.2;unfold NH at a;have:=List.all_eq_true.1 a j (by simpa using b);rw[Array.getElem?_eq_getElem b] at this |-;refine⟨_,rfl,?_⟩;simp only[g,Bool.or_false,Bool.or_eq_true,Bool.not_eq_true'] at this;rcases this with ((h|h)|h)|h;·exact .inl h
  ·exact .inr (.inl h)
  ·exact absurd (Nat.eq_of_beq_eq_true h) c
  ·exact .inr (.inr ⟨14,h⟩)
 ·cases h
theorem QX{S:Nat->Type}{m:Nat}{x:SO S}(b:m∈X)(a:bxB x=true):∀{H:Heap S},(m,x)∈H->(m,x)∈jq X H
 |[],h=>by cases h
 |q::r,h=>by
  unfold jq
  rcases List.mem_cons.1 h with e|h
  ·subst e
   rw[mG.2 b,a]
   exact List.mem_cons_self
  ·split
   ·exact List.mem_cons_of_mem _ (QX b a h)
   ·exact QX b a h
theorem WK{S:Nat->Type}{H:Heap S}:∀{X:List Nat},Ez H X=true->∀m∈X,∃T k,(m,SO.bx T k)∈H
 |[],_,m,a=>by cases a
 |q::r,h,m,a=>by
  unfold Ez at h
  split at h
  ·rename_i T k e
   rcases List.mem_cons.1 a with rfl|a
   ·exact⟨T,k,pz e⟩
   ·exact WK h m a
  ·cases h
theorem awd{K:Sg C.τ.S->Option β}{Kc:Act->World->Prop}(h:fin C G s K=some y)(d:jh s.B)(b:∀s',K s'=some y->s'.B=s.B->s'.Bh=s.Bh->KU C.τ n κ ρ0 Kc s'.nx (s'.T++s'.B) s'.Th s'.Bh)(hs:SS C n κ ρ0 G s M w a):Kc a w:=by
 unfold fin at h;split at h;·exact b s h rfl rfl M w a hs
 ·obtain⟨h0,ρ,O1,O2,g,f,e,h1,h2,c⟩:=hs;exact b _ h rfl rfl M w a ⟨h0,ρ,O1,O2,g,f,e.nT d,h1,h2,c⟩
end
end Go.R
namespace Go.R
open Go.RowKit Go.Dc
section
variable {β:Type}{C:Cf}{T:FuncId->Option (aN C.τ.S)}{I:FuncId->Option (aL C.τ.S)}{s s':Sg C.τ.S}{G G' p:List (Nat×Bool)}{M M':Mem}{ρ ρ' ρ0:List Loc}{H R:Heap C.τ.S}{w w':World}{a a':Act}{O O' O1 O2 On:List Nat}{y:β}{n nx N0 nz:Nat}{κ:Ctx C.τ}{Q:Exit->Act->World->Prop}{wr xo fr:Bool}{ops:Array Oper}{X XO OX ZO AO XB lim Bs:List Nat}{CL:List (Nat×Nat×Nat)}{kx:Int}{Ms:Mem}{W:List (Nat×Nat)}
def iK(N0:Nat)(w w':World):Prop:=w.heap.size<=w'.heap.size/\∀b,b<w.heap.size->b<N0->w'.heap[b]?=w.heap[b]?
theorem iK.refl{w:World}:iK N0 w w:=⟨Nat.le_refl _,λ_ _ _=>rfl⟩
theorem iK.trans{w e f:World}(h:iK N0 w e)(a:iK N0 e f):iK N0 w f:=⟨Nat.le_trans h.1 a.1,λb c d=>(a.2 b (Nat.lt_of_lt_of_le c h.1) d).trans (h.2 b c d)⟩
def fJ(Bs:List Nat)(Ms:Mem)(w w':World):Prop:=w.heap.size<=w'.heap.size/\(∀b∈Bs,b<w.heap.size->w'.heap[b]?=w.heap[b]?)/\∀b j v,Ms b j=some v->w.cell? ⟨b,j,none⟩=some v->w'.cell? ⟨b,j,none⟩=some v
theorem fJ.refl{w:World}:fJ Bs Ms w w:=⟨Nat.le_refl _,λ_ _ _=>rfl,λ_ _ _ _ h=>h⟩
theorem fJ.trans{w f g:World}(h:fJ Bs Ms w f)(a:fJ Bs Ms f g):fJ Bs Ms w g:=⟨Nat.le_trans h.1 a.1,λb c d=>(a.2.1 b c (Nat.lt_of_lt_of_le d h.1)).trans (h.2.1 b c d),λb j v e i=>a.2.2 b j v e (h.2.2 b j v e i)⟩
theorem fJ.sub{a:List Nat}(h:fJ Bs Ms w w')(hs:∀b∈a,b∈Bs):fJ a Ms w w':=⟨h.1,λb c=>h.2.1 b (hs b c),h.2.2⟩
theorem Bp{b j:Nat}{v:Value}(h:w.cell? ⟨b,j,none⟩=some v):b<w.heap.size:=by
 rcases Nat.lt_or_ge b w.heap.size with h1|h1;·exact h1
 ·simp[World.cell?,Array.getElem?_eq_none h1] at h
theorem dN.toA(h:dN w w'):fJ Bs Ms w w':=⟨h.1,λb _ a=>h.2 b a,λb j v _ e=>by
 have:=h.2 b (Bp e)
 simpa [World.cell?,this] using e⟩
theorem iK.toA(h:iK N0 w w')(h1:∀b∈Bs,b<N0)(h2:∀b j v,Ms b j=some v->b<N0):fJ Bs Ms w w':=⟨h.1,λb c d=>h.2 b d (h1 b c),λb j v e a=>by
 have:=h.2 b (Bp a) (h2 b j v e)
 simpa [World.cell?,this] using a⟩
theorem fJ.like(h:fJ Bs Ms w w')(hs:Sat M w)(c:M.le Ms)(d:∀b∈O,b∈Bs)(f:∀b∈O,b<w.heap.size):Like M O w w':=⟨λb j v e=>h.2.2 b j v (c _ _ _ e) (hs b j v e),λb a=>h.2.1 b (d b a) (f b a)⟩
theorem dN.toN(h:dN w w'):iK N0 w w':=⟨h.1,λb a _=>h.2 b a⟩
theorem fT{d:Option Nat}{t:Nat}{x:Value}(h:d≠some t):(a.put d x).tmps[t]?=a.tmps[t]?:=by cases d with|none=>rfl|some d=>exact Array.getElem?_setIfInBounds_ne (λe=>h (by rw[e]))
theorem aeT{i:Nat}{o:Oper}{K:Act->World->Prop}(hi:ops[i]?=some o)(h:wpOp C.P ops Q i K a w):wpOp C.P ops Q i (λj w'=>(∀t,o.dst≠some t->j.tmps[t]?=a.tmps[t]?)/\K j w') a w:=by
 unfold wpOp at*;simp only[hi] at*;split
 ·rename_i hw;simp only[hw,if_true] at h;refine h.imp (λh=>?_) id;unfold Oper.wp at*;generalize (execOp a.eval o).run C.P w=r at*
  cases r with
  |ok q w'=>
   cases q<;>simp only[Oper.upon] at h |-;case value v=>exact⟨λt b=>fT b,h⟩
   case skip=>exact⟨λt b=>fT b,h⟩
   case defer=>exact⟨λt b=>fT (a:={a with defers:=_::a.defers}) b,h⟩
   case enter f c=>exact Calls.mono h (λe g d=>by cases e<;>first|exact⟨λt b=>fT b,d⟩|exact d)
   case row k c=>exact Rows.mono h (λv g d=>⟨λt b=>fT b,d⟩)
  |halt x w'=>cases x<;>simp only[Oper.upon] at h |- <;>exact h
 ·rename_i hw;simp only[hw] at h;exact⟨λt b=>fT b,h⟩
def cv:Operand->Value| .const v=>v|_=> .bool false
def G7(P:Program)(o:Op)(T:TypeId)(l:List Value)(b:Nat)(v:Value):Prop:=match o with| .alloc t=>T=t/\rC P t=some l/\v= .pointer (some ⟨b,0,none⟩)| .buildSlice t n ⟨ps⟩=>∃xs sz bJ,wh 0 ps=some xs/\(∀x∈xs,Cc x=true)/\n=xs.length/\qP P t=some (T,sz,bJ)/\l=xs.map cv/\v= .slice (some ⟨b,0,none⟩) n n|_=>False
theorem ahL{x:Operand}(h:Cc x=true):a.eval x=cv x/\(cv x).cells= #[cv x]:=by
 unfold Cc at h;split at h;·exact⟨rfl,rfl⟩
 ·cases h
theorem XP:∀{xs:List Operand},(∀x∈xs,Cc x=true)->xs.map a.eval=xs.map cv/\((xs.map a.eval).flatMap λv=>v.cells.toList)=xs.map cv
 |[],_=>⟨rfl,rfl⟩
 |x::r,h=>by
  obtain⟨d,e⟩:=ahL (a:=a) (h x List.mem_cons_self)
  obtain⟨b,c⟩:=XP (xs:=r) λx f=>h x (List.mem_cons_of_mem _ f)
  rw[b] at c
  simp[d,e,b,c]
theorem asO{P:Program}{dst:Option Nat}{o:Op}{ty:TypeId}{pos:String}{aM:Array Edge}{gd:Option (Nat×Bool)}(d:G6 P o=true):∃T l v,G7 P o T l w.heap.size v/\(execOp a.eval ⟨dst,o,ty,pos,aM,gd⟩).run P w= .ok (.value v) (w.alloc (.cells l.toArray T)):=by
 unfold G6 at d;split at d
 ·rename_i t;split at d
  ·rename_i l c;have q:rC P t=some l:=c;unfold rC at c
   cases j:P.info? t with
   |none=>rw[j] at c;cases c
   |some i=>
    cases b:i.zero with
    |none=>rw[j] at c;simp[b] at c
    |some k=>
     rw[j] at c;simp[b] at c;have J:(zeroValue t).run P w= .ok k w:=by unfold zeroValue;rw[run_bind_ok (Lp j w)];simp only[b];rfl
     refine⟨t,l,_,⟨rfl,q,rfl⟩,?_⟩;show (Instr.alloc t true (.tuple #[]) >>= λv=>pure (Next.value v)).run P w=_;refine bQ ?_;unfold Instr.alloc;rw[run_bind_ok J];have:k.cells=l.toArray:=by rw[<-c]
     show (do pure (Value.pointer (some (<-newVar t k))):Sem Value).run P w=_;unfold newVar;rw[this];rfl
  ·cases d
 ·rename_i t n ps;split at d
  ·rename_i e sz bJ xs z g;simp only[Bool.and_eq_true] at d;obtain⟨s,u,y,h⟩:=d;have s:=Nat.eq_of_beq_eq_true s;have u:=Nat.eq_of_beq_eq_true u;have y:=Nat.le_of_ble_eq_true y;have h:∀x∈xs,Cc x=true:=List.all_eq_true.1 h;subst s u;obtain⟨m,F⟩:=u6 z;obtain⟨r,i,k,p,f,K,b,I,A⟩:=u7 m;obtain⟨c1,c2⟩:=XP (a:=a) h;refine⟨e,xs.map cv,_,⟨xs,_,_,g,h,rfl,z,rfl,rfl⟩,?_⟩;show (Instr.buildSlice t xs.length (ps.toArray.map λ(i,x)=>(i,a.eval x)) >>= λv=>pure (Next.value v)).run P w=_;have B:(ps.toArray.map λ(i,x)=>(i,a.eval x))=(nH 0 (xs.map a.eval)).toArray:=by rw[<-Yk,XW g];simp
   have C:xs.length=(xs.map a.eval).length:=by simp
   rw[B];have:=run_buildSlice (xs:=xs.map a.eval) r p b (λv G=>by obtain⟨x,H,rfl⟩:=List.mem_map.1 G;obtain⟨D,E⟩:=ahL (a:=a) (h x H);rw[D,E,f];rfl) (by rw[f];simpa using y) w;rw[<-C,c2] at this;exact bQ this
  ·cases d
 ·cases d
def AlE(C:Cf)(I:FuncId->Option (aL C.τ.S))(ops:Array Oper)(kx:Int)(i:Nat)(o:Oper)(T:TypeId)(l:List Value)(b:Nat)(v:Value):Prop:=G7 C.P o.op T l b v\/∃t,iQ C I ops=some t/\l=t.xs.map (Value.int .i64)/\((i=t.jx/\v= .pointer (some ⟨b,kx.toNat,none⟩))\/(i=t.jl/\∃c,t.xs[kx.toNat]?=some c/\v= .int .i64 c))
structure G8(C:Cf)(I:FuncId->Option (aL C.τ.S))(ops:Array Oper)(kx:Int)(κ:Ctx C.τ)(M:Mem)(w:World)(a:Act)(Os:List Nat)(N0 i b:Nat):Prop where
 ex:∃o d t l v,ops[i]?=some o/\o.dst=some d/\a.tmps[d]?=some v/\AlE C I ops kx i o t l b v/\w.heap[b]?=some (.cells l.toArray t (0,0))
 mem:∀j,M b j=none
 out:b∉Os
 new:N0<=b
 lt:b<w.heap.size
 own:b∈κ.F\/κ.w0.heap.size<=b
def wG(C:Cf)(I:FuncId->Option (aL C.τ.S))(ops:Array Oper)(i:Nat):Prop:=y8 C I ops i=true\/gT C I ops i=true
def Dst(C:Cf)(I:FuncId->Option (aL C.τ.S))(ops:Array Oper)(W:List (Nat×Nat)):Prop:=W.Pairwise λx y=>x.2≠y.2\/(wG C I ops x.1/\wG C I ops y.1)
def jk(C:Cf)(I:FuncId->Option (aL C.τ.S))(kx:Int)(n:Nat)(κ:Ctx C.τ)(ρ0:List Loc)(N0 c:Nat)(Ms:Mem)(ops:Array Oper)(G:List (Nat×Bool))(s:Sg C.τ.S)(fr:Bool)(W:List (Nat×Nat))(M:Mem)(w:World)(a:Act):Prop:=SA n a/\∃ρ O1 O2,Names ρ0 ρ/\ρ.length=s.nx/\RE C.τ M ρ G (s.Th++s.Bh) w a (s.T++s.B)/\RH C.τ M ρ w s.Th O1/\RH C.τ M ρ w s.Bh O2/\SM κ M w O1 O2/\(∀e∈W,G8 C I ops kx κ M w a (O1++O2) N0 e.1 e.2)/\Dst C I ops W/\N0<=w.heap.size/\(∀m l,c<=m->ρ[m]?=some l->N0<=l.b)/\Ms.le M/\(fr=true->(∀b∈O1++O2,b<N0)/\(∀b j v,M b j=some v->b<N0)/\M.le Ms)
theorem jk.ss(h:jk C I kx n κ ρ0 N0 nz Ms ops G s fr W M w a):SS C n κ ρ0 G s M w a:=let ⟨h0,ρ,O1,O2,h1,h2,b,c,d,e,_⟩:=h;⟨h0,ρ,O1,O2,h1,h2,b,c,d,e⟩
def UK(I:FuncId->Option (aL C.τ.S))(ops:Array Oper)(s:Sg C.τ.S)(lim:List Nat):Prop:=∀i∈lim,∃o d,ops[i]?=some o/\(uK o=true/\G6 C.P o.op=true\/gT C I ops i=true)/\o.dst=some d/\d<n/\∀v,s.lk 0 d=some v->v= .u
def YK(I:FuncId->Option (aL C.τ.S))(ops:Array Oper)(kx:Int)(s:Sg C.τ.S)(lim:List Nat):Prop:=∀t,iQ C I ops=some t->(t.jx∈lim->t.jb∈lim/\s.lk 0 t.y=some (.i .i64 kx)/\0<=kx/\kx<t.xs.length)/\(t.jl∈lim->t.jx∈lim)
theorem al1{o:Oper}(h:uK o=true):∃d,o.guard=none/\o.dst=some d/\∀e∈o.after,Region.binds .any e=false:=by
 unfold uK at h;split at h;·rename_i d h1 h2 a;refine⟨d,h2,a,λe b=>?_⟩;have:=h;simp only[Bool.not_eq_true',List.any_eq_false] at this;simpa using this e (by simpa using b)
 ·cases h
theorem atd{z d:Nat}{o:Oper}{K:Act->World->Prop}(U:ops[z]?=some o)(B:o.guard=none)(R:o.dst=some d)(h:d<n)(S:G6 C.P o.op=true)(hu:∀v,s.lk 0 d=some v->v= .u)(hW:∀e∈W,∀k,ops[e.1]?=some k->k.dst≠some d)(hs:jk C I kx n κ ρ0 N0 nz Ms ops G s fr W M w a)(hk:∀b w' F,dN w w'->jk C I kx n κ ρ0 N0 nz Ms ops G s fr ((z,b)::W) M w' F->K F w'):wpOp C.P ops Q z K a w:=by
 unfold wpOp;simp only[U];rw[if_pos (by simp[Region.wanted,B])];refine .inl ?_;obtain⟨h0,ρ,O1,O2,h1,h2,h3,L,N,m,O,h8,y,h9,r⟩:=hs;obtain⟨dst,op,ty,pos,aM,gd⟩:=o;simp only at B R S;subst B R;obtain⟨t,l,V,hA,i⟩:=asO (a:=a) (w:=w) (dst:=some d) (ty:=ty) (pos:=pos) (aM:=aM) (gd:=none) S;unfold Oper.wp;rw[i];obtain⟨g,E⟩:=m.alloc (.cells l.toArray t);have aa:=Qf w (.cells l.toArray t);have hold:∀b,b<w.heap.size->(w.alloc (.cells l.toArray t)).heap[b]?=w.heap[b]?:=λb c=>Below.heap_alloc w _ b c;have D:SM κ M (w.alloc (.cells l.toArray t)) O1 O2:=⟨g.tab,g.frame,g.sat,g.le,g.new,(List.nodup_cons.1 g.nodup).2,λb c=>g.own b (List.mem_cons_of_mem _ c),g.red⟩;have A:=h3.ext Names.rfl (L.app N) E;refine hk w.heap.size _ _ ⟨om,hold⟩ ⟨h0.put,ρ,O1,O2,h1,h2,⟨A.gm,λq v T=>?_,A.cl⟩,L.ext Names.rfl (E.sub λb c=>List.mem_append_left _ c),N.ext Names.rfl (E.sub λb c=>List.mem_append_right _ c),D,λe f=>?_,?_,om,h9,r⟩
 ·by_cases e:d=q;·subst e;have:=hu v (by rw[Sg.bS];exact T);subst this;exact⟨V,by simp[Act.put,h0.size,h],.u⟩
  ·obtain⟨x,g1,g2⟩:=A.tm q v T;exact⟨x,by rw[fT (λp=>e (Option.some.inj p))];exact g1,g2⟩
 ·rcases List.mem_cons.1 f with rfl|f;·exact⟨⟨_,d,t,l,V,U,rfl,by simp[Act.put,h0.size,h],.inl hA,heap_alloc_new w _⟩,λj=>m.sat.kE (Nat.le_refl _),λhc=>by have:=m.lt hc;omega,y,by simp only;omega,.inr m.frame.size⟩
  ·have c:=O e f;obtain⟨k,X,t',l',v',H,J,Y,Z,e6⟩:=c.ex;refine⟨⟨k,X,t',l',v',H,J,?_,Z,by rw[hold _ c.lt];exact e6⟩,c.mem,c.out,c.new,by have:=c.lt;omega,c.own⟩;rw[fT (λp=>hW e f k H (by rw[J];exact p.symm))];exact Y
 ·refine List.pairwise_cons.2 ⟨λe f=> .inl ?_,h8⟩;have:=(O e f).lt;simp only;omega
theorem aiC{α:Type}{f:Nat->Option α}{x:α}:∀{l:List Nat},Pt f l=some x->∃i,f i=some x
 |[],h=>by cases h
 |i::r,h=>by
  unfold Pt at h
  split at h
  ·rename_i y a;cases h;exact⟨i,a⟩
  ·exact aiC h
theorem aht:∀{os:List Operand}{xs:List Int},Ja os=some xs->os.map cv=xs.map (Value.int .i64)
 |[],xs,h=>by simp[Ja] at h;subst h;rfl
 |x::r,xs,h=>by
  unfold Ja at h
  split at h
  ·rename_i p l hp a
   cases h
   have e:=aht a
   unfold cI at hp
   split at hp
   ·cases hp;simp[cv,e]
   ·cases hp
  ·cases h
theorem alU{p:Oper->Bool}{i:Nat}:∀{l:List Oper}{k:Nat},JY.QU p k l=some i->∃o,l[i-k]?=some o/\k<=i/\p o=true
 |[],k,h=>by cases h
 |o::r,k,h=>by
  unfold JY.QU at h
  split at h
  ·rename_i hp;cases h;exact⟨o,sm,Nat.le_refl _,hp⟩
  ·obtain⟨b,h1,h2,a⟩:=alU h
   refine⟨b,?_,om,a⟩
   rw[show i-k=(i-(k+1))+1 by omega]
   simpa using h1
theorem alV{p:Oper->Bool}{i:Nat}(h:JY ops.toList p=some i):∃o,ops[i]?=some o/\p o=true:=by obtain⟨o,h1,_,a⟩:=alU h;exact⟨o,by simpa using h1,a⟩
structure arW(C:Cf)(ops:Array Oper)(t:Ed):Prop where
 b:∃ob tb T n ps os,ops[t.jb]?=some ob/\ob.op= .buildSlice T n ⟨ps⟩/\ob.dst=some tb/\uK ob=true/\wh 0 ps=some os/\os.map cv=t.xs.map (Value.int .i64)/\
  ∃ox tx ol d T1,ops[t.jx]?=some ox/\ox.op= .indexAddr T (.tmp tb) (.tmp t.y)/\ox.guard=none/\ox.dst=some tx/\elemSize C.P T=some 1/\ops[t.jl]?=some ol/\ol.op= .load T1 (.tmp tx)/\ol.guard=none/\ol.dst=some d/\lD C.P T1=true/\Bw ox t.jb=true/\Bw ol t.jx=true
 ne:t.jx≠t.jl
theorem Kv{t:Ed}(h:iQ C I ops=some t):arW C ops t:=by
 unfold iQ at h;split at h;·cases h
 ·obtain⟨jx,h⟩:=aiC h;split at h
  ·rename_i R a;split at h
   ·cases h;unfold an4 at a;split at a
    ·rename_i ox o;split at a
     ·rename_i T tb y tx h1 h2 D;split at a
      ·rename_i jb jl J L;obtain⟨j,g,b⟩:=alV J;obtain⟨p,f,c⟩:=alV L;split at a
       ·rename_i ob ol v i;rw[g] at v;cases v;rw[f] at i;cases i;split at a
        ·rename_i P M ps T1 u E r;split at a
         ·rename_i os sz F G;split at a
          ·rename_i xs H;split at a
           ·rename_i s B;cases a;simp only[Bool.and_eq_true,Bool.not_eq_true'] at s;obtain⟨w,k,l,x,m,q,z,A⟩:=s;have k:=Nat.eq_of_beq_eq_true k;have l:=Nat.eq_of_beq_eq_true l;have m:=Nat.eq_of_beq_eq_true m;subst k l m
            have n:j.dst=some tb:=by
             split at b;·rename_i d K;rw[K,Nat.eq_of_beq_eq_true b]
             ·cases b
            rw[r] at c;split at c;·rename_i d0 Q N O;exact⟨⟨j,tb,_,M,ps,os,g,E,n,w,F,aht H,ox,_,p,d0,T1,o,h1,h2,D,G,f,r,N,O,x,z,A⟩,λe=>by have e:jx=jl:=e;rw[e,Nat.beq_refl] at q;cases q⟩
            ·cases c
           ·cases a
          ·cases a
         ·cases a
        ·cases a
       ·cases a
      ·cases a
     ·cases a
    ·cases a
   ·cases h
  ·cases h
abbrev lB(b:Nat):Loc:=⟨b,0,0,false,[]⟩
theorem aCY{t:TypeId}{b:Nat}{cs:List (SV C.τ.S)}{vs:List Value}(E:ρ.length=s.nx)(N:RE C.τ M ρ G (s.Th++s.Bh) w a (s.T++s.B))(h1:RH C.τ M ρ w s.Th O1)(h2:RH C.τ M ρ w s.Bh O2)(h:SM κ M w O1 O2)(H:aZ C.τ M ρ cs vs)(D:w.heap[b]?=some (.cells vs.toArray t (0,0)))(K:∀j,M b j=none)(L:b∉O1++O2)(r:b<w.heap.size)(y:b∈κ.F\/κ.w0.heap.size<=b):Names ρ (ρ++[lB b])/\(ρ++[lB b]).length=(s.dY t cs).nx/\RE C.τ M (ρ++[lB b]) G ((s.dY t cs).Th++s.Bh) w a ((s.dY t cs).T++s.B)/\RH C.τ M (ρ++[lB b]) w (s.dY t cs).Th (b::O1)/\RH C.τ M (ρ++[lB b]) w s.Bh O2/\SM κ M w (b::O1) O2/\(ρ++[lB b])[s.nx]?=some (lB b):=by
 have f:Names ρ (ρ++[lB b]):=fF;have d:(ρ++[lB b])[s.nx]?=some (lB b):=by rw[<-E];simp
 have i:=N.names f;refine⟨f,by simp[E,Sg.dY],⟨i.gm,λq v n=>?_,λm o v n I k g ho=>?_⟩,?_,h2.names f,⟨h.tab,h.frame,h.sat,h.le,h.new,?_,λc p=>?_,h.red⟩,d⟩;·rw[show (s.dY t cs).T++s.B=cellsE s.nx 0 cs++(s.T++s.B) by simp[Sg.dY],Gb] at n;exact i.tm q v n
 ·rw[show (s.dY t cs).T++s.B=cellsE s.nx 0 cs++(s.T++s.B) by simp[Sg.dY]] at n;rcases Sz n with ⟨e,z,A,J⟩|⟨z,A⟩
  ·have e:m=s.nx:=by omega
   subst e;obtain⟨x,O,u⟩:=H.get J;exact⟨_,x,d,KT (l:=vs) D (by simpa using O),.inr (u.mono .rfl f)⟩
  ·rw[show (s.dY t cs).Th++s.Bh=(s.nx,.bx t cs.length)::(s.Th++s.Bh) by simp[Sg.dY]] at g;rcases List.mem_cons.1 g with e|g;·cases e;exact absurd ⟨_root_.rfl,Nat.zero_le _,om⟩ z
   ·exact i.cl m o v A I k g ho
 ·exact .cons (o:=[b]) (.bx (l:=lB b) d D (by simp[H.len]) K) (h1.names f)
 ·rw[List.cons_append,List.nodup_cons];exact⟨L,h.nodup⟩
 ·rcases List.mem_cons.1 p with rfl|p;·exact⟨r,y⟩
  ·exact h.own c p
abbrev lL(b k:Nat):Loc:=⟨b,k,k,false,[]⟩
theorem aC1{c:Cd}{zs:List (c.ty C.τ.S)}{b e:Nat}{arr:Array Value}(u:ρ.length=s.nx)(E:RE C.τ M ρ G (s.Th++s.Bh) w a (s.T++s.B))(h1:RH C.τ M ρ w s.Th O1)(h2:RH C.τ M ρ w s.Bh O2)(f:SM κ M w O1 O2)(h0:Pos C.τ c e)(n:zs.length<=140737488355328)(r:zs.length*C.τ.aC c<=arr.size)(H:Row C.τ M ρ c zs (λj=>arr[j]?))(i:w.heap[b]?=some (.cells arr e (0,0)))(A:∀j,M b j=none)(D:b∉O1++O2)(q:b<w.heap.size)(t:b∈κ.F\/κ.w0.heap.size<=b):let M':=com M b (zs.length*C.τ.aC c) arr
  Names ρ (ρ++[lL b zs.length])/\(ρ++[lL b zs.length]).length=(s.newL C none c zs).nx/\RE C.τ M' (ρ++[lL b zs.length]) G ((s.newL C none c zs).Th++s.Bh) w a (s.T++s.B)/\
   RH C.τ M' (ρ++[lL b zs.length]) w (s.newL C none c zs).Th (b::O1)/\RH C.τ M' (ρ++[lL b zs.length]) w s.Bh O2/\SM κ M' w (b::O1) O2/\(ρ++[lL b zs.length])[s.nx]?=some (lL b zs.length):=by
 let l:Loc:=⟨b,zs.length,zs.length,false,[]⟩
 have d:Names ρ (ρ++[l]):=fF
 have g:(ρ++[l])[s.nx]?=some l:=by rw[<-u];simp
 have z:SM κ M w (b::O1) O2:=⟨f.tab,f.frame,f.sat,f.le,f.new,by rw[List.cons_append,List.nodup_cons];exact⟨D,f.nodup⟩,λc p=>by
  rcases List.mem_cons.1 p with rfl|p
  ·exact⟨q,t⟩
  ·exact f.own c p,f.red⟩
 obtain⟨v,k,y⟩:=ahy (m:=s.nx) (hs:=[]) z i h0 (Nat.le_refl _) n r (H.mono .rfl d) (λj _=>A j) g
 exact⟨d,by simp[u,Sg.newL],(E.ext d (h1.app h2) k).more (x:= .ls c zs) (λ_ _ h=>by cases h),.cons (o:=[b]) y (h1.ext d (k.sub λb i=>List.mem_append_left _ i)),h2.ext d (k.sub λb i=>List.mem_append_right _ i),v,g⟩
end
end Go.R
namespace Go.R
open Go.RowKit Go.Dc
section
variable {β:Type}{C:Cf}{T:FuncId->Option (aN C.τ.S)}{I:FuncId->Option (aL C.τ.S)}{s s':Sg C.τ.S}{G G' p:List (Nat×Bool)}{M M':Mem}{ρ ρ' ρ0:List Loc}{H R:Heap C.τ.S}{w w':World}{a a':Act}{O O' O1 O2 On:List Nat}{y:β}{n nx N0 nz k:Nat}{κ:Ctx C.τ}{Q:Exit->Act->World->Prop}{wr xo fr:Bool}{ops:Array Oper}{X XO OX ZO AO XB lim Bs:List Nat}{CL:List (Nat×Nat×Nat)}{kx:Int}{Ms:Mem}{W:List (Nat×Nat)}{listed lr:Array Bool}
def DD(ops:Array Oper)(lim:List Nat):Prop:=lim.Pairwise λi j=>∀a b,ops[i]?=some a->ops[j]?=some b->a.dst≠b.dst
theorem oH{d:Nat}:∀{lim:List Nat},Br ops d lim=true->∀i∈lim,∀o,ops[i]?=some o->o.dst≠some d
 |[],_,i,b=>by cases b
 |j::r,h,i,b=>by
  intro o ho
  unfold Br at h
  rcases List.mem_cons.1 b with rfl|b
  ·rw[ho] at h
   simp only at h
   split at h
   ·rename_i f a
    split at h
    ·cases h
    ·rename_i c
     exact λe=>by rw[a] at e;cases e;simp at c
   ·rename_i a;rw[a];simp
  ·split at h
   ·split at h
    ·split at h
     ·cases h
     ·exact oH h i b o ho
    ·exact oH h i b o ho
   ·exact oH h i b o ho
theorem rP{o:Oper}{d:Nat}(h:nC C I ops o lim=true)(a:o.dst=some d):Br ops d lim=true/\∀t,iQ C I ops=some t->t.jx∈lim->d≠t.y:=by unfold nC at h;rw[a] at h;simp only[Bool.and_eq_true] at h;refine⟨h.1,λt c b e=>?_⟩;have h2:=h.2;unfold ahx at h2;rw[c] at h2;subst e;simp[mG.2 b] at h2
theorem not_lt{i:Nat}{o:Oper}(ho:ops[i]?=some o)(h1:∀T x y,o.op≠ .indexAddr T x y)(h2:∀T x,o.op≠ .load T x):gT C I ops i=false:=by
 unfold gT
 cases g:iQ C I ops with
 |none=>rfl
 |some t=>
  obtain⟨⟨ob,tb,T,h,ps,os,_,_,_,_,_,_,ox,tx,ol,d,T1,a,c,_,_,_,b,f,_⟩,_⟩:=Kv g;show (Nat.beq i t.jx||Nat.beq i t.jl)=false;rw[Bool.or_eq_false_iff];refine⟨Bool.eq_false_iff.2 λe=>?_,Bool.eq_false_iff.2 λe=>?_⟩;·have e:=Nat.eq_of_beq_eq_true e;subst e;rw[ho] at a;cases a;exact h1 _ _ _ c
  ·have e:=Nat.eq_of_beq_eq_true e;subst e;rw[ho] at b;cases b;exact h2 _ _ f
def iZ(lim:List Nat)(W:List (Nat×Nat)):List Nat:=lim.filter λi=> !(W.any λe=>e.1==i)
theorem Ae{i:Nat}:i∈iZ lim W↔i∈lim/\∀b,(i,b)∉W:=by unfold iZ;rw[List.mem_filter];refine and_congr_right λ_=>?_;simp only[Bool.not_eq_true',List.any_eq_false,beq_iff_eq];exact⟨λh b a=>h _ a rfl,λh e c d=>h e.2 (by rw[<-d];exact c)⟩
theorem aiH{i b d:Nat}{o:Oper}(ho:ops[i]?=some o)(X:o.dst=some d)(hs:jk C I kx n κ ρ0 N0 nz Ms ops G s fr W M w a)(z:(i,b)∈W)(N:¬wG C I ops i){f:Mem}{s1:Sg C.τ.S}{v:SV C.τ.S}{l:Loc}(hk:∀ρ O1 O2,ρ.length=s.nx->RE C.τ M ρ G (s.Th++s.Bh) w a (s.T++s.B)->RH C.τ M ρ w s.Th O1->RH C.τ M ρ w s.Bh O2->SM κ M w O1 O2->G8 C I ops kx κ M w a (O1++O2) N0 i b->(ρ++[l]).length=s1.nx/\RE C.τ f (ρ++[l]) G (s1.Th++s1.Bh) w a (s1.T++s1.B)/\RH C.τ f (ρ++[l]) w s1.Th (b::O1)/\RH C.τ f (ρ++[l]) w s1.Bh O2/\SM κ f w (b::O1) O2/\∃x,a.tmps[d]?=some x/\RG C.τ f (ρ++[l]) G v x)(hl:l.b=b)(hM:M.le f)(J:∀A,A≠b->f A=M A):jk C I kx n κ ρ0 N0 nz Ms ops G (s1.put d v) false (W.filter λe=>e.1 != i) f w a:=by
 obtain⟨h0,ρ,O1,O2,h1,h2,Y,Z,h5,h6,U,F,H,h9,E⟩:=hs;have V:=U _ z;obtain⟨k2,Q,k4,k5,k6,x,k7,k8⟩:=hk ρ O1 O2 h2 Y Z h5 h6 V
 have K:∀e∈W,e.2=b->e=(i,b):=λe t h=>by
  by_cases u:e=(i,b);·exact u
  ·have:=(List.Pairwise.forall_of_forall_of_flip (R:=λx y=>x=y\/(x.2≠y.2\/(wG C I ops x.1/\wG C I ops y.1))) (λx _=> .inl rfl) (F.imp λh=> .inr h) (F.imp λh=> .inr (h.imp Ne.symm And.symm)) t z).resolve_left u;rcases this with D|D;·exact absurd h D
   ·exact absurd D.2 N
 refine⟨h0,ρ++[l],b::O1,O2,h1.trans fF,k2,⟨Q.gm,λq v O=>?_,λm o v P T k z=>?_⟩,k4,k5,k6,λe t=>?_,List.Pairwise.sublist List.filter_sublist F,H,λm l' hm c=>?_,E.1.trans hM,λh=>by cases h⟩
 ·rcases kN O with ⟨_,rfl,rfl⟩|⟨_,O⟩;·exact⟨_,k7,k8⟩
  ·exact Q.tm q v O
 ·have P:lk (s1.T++s1.B) (m+1) o=some v:=by have:lk ((0,d,_)::(s1.T++s1.B)) (m+1) o=some v:=P;rwa [bX sm] at this
  exact Q.cl m o v P T k z
 ·obtain⟨t,p⟩:=List.mem_filter.1 t;have p:e.1≠i:=by simpa using p
  have r:=U e t;have j:e.2≠b:=λg=>p (by rw[K e t g]);refine⟨r.ex,by rw[J _ j];exact r.mem,λg=>?_,r.new,r.lt,r.own⟩;rw[List.cons_append] at g;rcases List.mem_cons.1 g with g|g;·exact j g
  ·exact r.out g
 ·by_cases L:m<ρ.length;·rw[List.getElem?_append_left L] at c;exact h9 m l' hm c
  ·rw[List.getElem?_append_right om] at c;have c:=List.mem_of_getElem? c;simp at c;subst c;rw[hl];exact V.new
theorem awh{i b d:Nat}{t:Ed}{o:Oper}(y:iQ C I ops=some t)(hi:i=t.jl)(ho:ops[i]?=some o)(h:o.dst=some d)(hs:jk C I kx n κ ρ0 N0 nz Ms ops G s fr W M w a)(R:(i,b)∈W):∃c,t.xs[kx.toNat]?=some c/\jk C I kx n κ ρ0 N0 nz Ms ops G (s.put d (.i .i64 c)) fr (W.filter λe=>e.1 != i) M w a:=by
 obtain⟨h0,ρ,O1,O2,h1,h2,k,L,N,O,H,P,p,Q,j⟩:=hs;obtain⟨o',V,T,l,v,A,D,E,g,Y⟩:=(H _ R).ex;rw[ho] at A;cases A;rw[h] at D;cases D;obtain⟨⟨ob,tb,U,n',ps,os,_,_,_,_,_,_,ox,tx,ol,X,T1,Z,g2,_,_,_,F,K,_⟩,r⟩:=Kv y;rw[<-hi,ho] at F;cases F;rcases g with g|⟨t',f,_,⟨g,_⟩|⟨_,c,g,J⟩⟩;·rw[K] at g;exact g.elim
 ·rw[y] at f;cases f;exact absurd (g.symm.trans hi) r
 ·rw[y] at f;cases f;refine⟨c,g,h0,ρ,O1,O2,h1,h2,⟨k.gm,λq u x=>?_,λm o v z=>?_⟩,L,N,O,λe S=>H e (List.mem_filter.1 S).1,List.Pairwise.sublist List.filter_sublist P,p,Q,j⟩
  ·rcases kN x with ⟨_,rfl,rfl⟩|⟨_,x⟩;·rw[J] at E;exact⟨_,E,.v .i⟩
   ·exact k.tm q u x
  ·have z:lk (s.T++s.B) (m+1) o=some v:=by have:lk ((0,d,SV.i .i64 c)::(s.T++s.B)) (m+1) o=some v:=z;rwa [bX sm] at this
   exact k.cl m o v z
theorem Jp{x:Option Nat}:∀{lim:List Nat}{s:Sg C.τ.S}{W:List (Nat×Nat)}{fr:Bool}{M:Mem}{K:List Nat->Sg C.τ.S->Option β},ql C I n ops x G lim s K=some y->jk C I kx n κ ρ0 N0 nz Ms ops G s fr W M w a->eG (C:=C) ops.toList G s->UK (n:=n) I ops s lim->(∀t,iQ C I ops=some t->t.jx∈lim->s.lk 0 t.y=some (.i .i64 kx)/\0<=kx/\kx<t.xs.length)->DD ops lim->(∀i∈lim,(∀N,x=some N->lK ops i 14 N=true)->∃b,(i,b)∈W)->∃p s' W' J M',K p s'=some y/\jk C I kx n κ ρ0 N0 nz Ms ops G s' J W' M' w a/\eG (C:=C) ops.toList G s'/\s'.B=s.B/\s'.Bh=s.Bh/\UK (n:=n) I ops s' p/\p.Sublist lim/\(∀e,e∈W'->e∈W)/\(∀e∈W,e.1∈p\/e.1∉lim->e∈W')/\(∀i∈lim,i∉p->∃b,(i,b)∈W)/\(∀e∈W',e.1∈p\/e.1∉lim)/\(x=none->p=[])/\(∀N,x=some N->∀i∈lim,y8 C I ops i=true->i∈p)/\∀d,(∀j∈lim,∀o,ops[j]?=some o->o.dst≠some d)->s'.lk 0 d=s.lk 0 d
 |[],s,W,fr,M,K,h,hs,hR,hU,hY,hD,hx=>⟨[],s,W,fr,M,h,hs,hR,rfl,rfl,hU,.slnil,λ_ h=>h,λ_ h _=>h,λi hi=>(by cases hi),λe D=>Or.inr sm,λ_=>rfl,λ_ _ i hi=>(by cases hi),λ_ _=>rfl⟩
 |i::r,s,W,fr,M,K,h,hs,hR,hU,hY,hD,hx=>by
  have Zn:DD ops r:=(List.pairwise_cons.1 hD).2
  have ae:i∉r:=λO=>by
   obtain⟨o,d,ho,_⟩:=hU i List.mem_cons_self
   exact (List.pairwise_cons.1 hD).1 i O o o ho ho rfl
  unfold ql at h
  split at h
  ·rename_i hw
   split at h
   ·rename_i H
    have a9:x=none:=by
     cases x with
     |none=>rfl
     |some N=>simp[H] at hw
    subst a9
    have aa:jk C I kx n κ ρ0 N0 nz Ms ops G s fr (W.filter λe=>e.1 != i) M w a:=by
     obtain⟨h0,ρ,O1,O2,h1,h2,h3,h4,h5,h6,h7,h8,aw,h9,aq⟩:=hs
     exact⟨h0,ρ,O1,O2,h1,h2,h3,h4,h5,h6,λe D=>h7 e (List.mem_filter.1 D).1,List.Pairwise.sublist List.filter_sublist h8,aw,h9,aq⟩
    obtain⟨b,hb⟩:=hx i List.mem_cons_self λN e=>by cases e
    obtain⟨p,s',W',J,M',g1,g2,g3,g4,g5,g6,g7,g8,g9,V,X,ab,PE,Q⟩:=Jp h aa hR (λj f=>hU j (List.mem_cons_of_mem _ f)) (λt ht f=>hY t ht (List.mem_cons_of_mem _ f)) Zn (λj f hw=>by
     obtain⟨R,F⟩:=hx j (List.mem_cons_of_mem _ f) hw
     exact⟨R,List.mem_filter.2 ⟨F,by simp only[bne_iff_ne,ne_eq];exact λe=>ae (e▸f)⟩⟩)
    have u:=ab rfl
    subst u
    refine⟨[],s',W',J,M',g1,g2,g3,g4,g5,g6,List.nil_sublist _,λe D=>(List.mem_filter.1 (g8 e D)).1,λe D u=>?_,λj f hn=>?_,λe D=>?_,λ_=>rfl,λN e=>(by cases e),λq hq=>Q q λj f=>hq j (List.mem_cons_of_mem _ f)⟩
    ·have L:e.1≠i:=λe'=>by
      rcases u with u|u
      ·cases u
      ·exact u (by rw[e'];exact List.mem_cons_self)
     exact g9 e (List.mem_filter.2 ⟨D,by simpa using L⟩) (.inr λO=>(u.resolve_left sm) (List.mem_cons_of_mem _ O))
    ·rcases List.mem_cons.1 f with rfl|f
     ·exact⟨b,hb⟩
     ·obtain⟨R,F⟩:=V j f hn
      exact⟨R,(List.mem_filter.1 F).1⟩
    ·rcases X e D with h|h
     ·cases h
     ·have L:e.1≠i:=by simpa using (List.mem_filter.1 (g8 e D)).2
      exact .inr (by simp[L,h])
   rename_i H
   have H:y8 C I ops i=false:=by simpa using H
   obtain⟨b,hb⟩:=hx i List.mem_cons_self λN e=>by subst e;simpa [H] using hw
   split at h
   ·rename_i o ho
    have be:∃d s1 v M1 an,o.dst=some d/\jv G ops.toList d=true/\Keep s s1/\ql C I n ops x G r (s1.put d v) K=some y/\jk C I kx n κ ρ0 N0 nz Ms ops G (s1.put d v) an (W.filter λe=>e.1 != i) M1 w a:=by
     split at h
     ·rename_i t d z g
      split at h
      ·rename_i a5 Z
       unfold EK at h
       split at h
       ·rename_i l hz
        split at h
        ·rename_i cs a1
         obtain⟨w1,w2,w3,w4⟩:=U0 (C:=C) (T:=t) (nx:=s.nx) (cs:=cs) (s':=s.dY t cs)
         refine⟨d,ru C t s.nx cs (s.dY t cs),.r s.nx 0,M,false,g,Z,⟨w1,w2,λt=>aq4.trans acF⟩,h,aiH (l:=lB b) ho g hs hb (λA=>A.elim (λA=>by rw[H] at A;cases A) (λA=>by rw[not_lt ho (by rw[z];simp) (by rw[z];simp)] at A;cases A)) (λρ O1 O2 h2 h3 h4 h5 h6 Y=>?_) rfl .rfl λ_ _=>rfl⟩
         obtain⟨o',d',t',l',v',e1,e3,e4,U,e6⟩:=Y.ex
         rw[ho] at e1;cases e1
         rw[g] at e3;cases e3
         have U:G7 C.P o.op t' l' b v':=U.resolve_right λ⟨t0,q0,_,E⟩=>by
          have:=not_lt (C:=C) (I:=I) ho (by rw[z];simp) (by rw[z];simp)
          unfold gT at this
          rw[q0] at this
          rcases E with ⟨E,_⟩|⟨E,_⟩<;>simp[E] at this
         rw[z] at U
         obtain⟨e7,e9,e8⟩:=U
         subst e7 e8
         rw[hz] at e9;cases e9
         obtain⟨k1,k2,k3,k4,k5,k6,k7⟩:=aCY (t:=t') h2 h3 h4 h5 h6 (uq a1) e6 Y.mem Y.out Y.lt Y.own
         have k3:=aq3 k3 k7
         exact⟨k2.trans w4.symm,(by rw[w3,w2];exact k3),(by rw[w3];exact k4),(by rw[w2];exact k5),k6,_,e4,.v (.r (l:=lB b) k7)⟩
        ·cases h
       ·cases h
      ·cases h
     ·rename_i t m ps d z g
      split at h
      ·rename_i a5 Z
       unfold Ji at h
       split at h
       ·rename_i e sz bJ xs dz a2
        split at h
        ·rename_i c O
         split at h
         ·rename_i zs bb
          split at h
          ·rename_i E q2 q3
           obtain⟨ap,bk⟩:=u6 dz
           obtain⟨bn,i',zv,bm,bh,mH,bo,bi,af⟩:=u7 ap
           obtain⟨E,a7⟩:=gM E
           have E:=Nat.eq_of_beq_eq_true E
           have q2:=Nat.eq_of_beq_eq_true q2
           have q3:=Nat.le_of_ble_eq_true q3
           subst E q2
           have hx:zs.length<=zs.length*C.τ.aC c:=Nat.le_mul_of_pos_right _ af
           have ax:∀j,M b j=none:=by
            obtain⟨_,_,_,_,_,_,_,_,_,_,h7,_⟩:=hs
            exact (h7 _ hb).mem
           let M1:Mem:=com M b (zs.length*C.τ.aC c) ((xs.map cv).toArray)
           refine⟨d,s.newL C none c zs,.o s.nx,M1,false,g,Z,⟨rfl,rfl,λ_=>rfl⟩,h,aiH (l:=⟨b,zs.length,zs.length,false,[]⟩) ho g hs hb (λA=>A.elim (λA=>by rw[H] at A;cases A) (λA=>by rw[not_lt ho (by rw[z];simp) (by rw[z];simp)] at A;cases A)) (λρ O1 O2 h2 h3 h4 h5 h6 Y=>?_) rfl (λR j v e=>?_) λR F=>?_⟩
           ·obtain⟨o',d',t',l',v',e1,e3,e4,U,e6⟩:=Y.ex
            rw[ho] at e1;cases e1
            rw[g] at e3;cases e3
            have U:G7 C.P o.op t' l' b v':=U.resolve_right λ⟨t0,q0,_,E⟩=>by
             have:=not_lt (C:=C) (I:=I) ho (by rw[z];simp) (by rw[z];simp)
             unfold gT at this
             rw[q0] at this
             rcases E with ⟨E,_⟩|⟨E,_⟩<;>simp[E] at this
            rw[z] at U
            obtain⟨br,bp,bj,f1,f2,f3,f4,f5,f6⟩:=U
            rw[a2] at f1;cases f1
            rw[dz] at f4;cases f4
            subst f5 f6
            obtain⟨g1,g2,g3,g4⟩:=O9 (fQ h3 h4 h5 h6) bb
            rw[(XP f2).2] at g3 g4
            obtain⟨k1,k2,k3,k4,k5,k6,k7⟩:=aC1 (c:=c) (zs:=zs) h2 h3 h4 h5 h6 ⟨af,a7⟩ om (by simp[g3]) (by simpa using g4) e6 Y.mem Y.out Y.lt Y.own
            exact⟨k2,k3,k4,k5,k6,_,e4,.v (.o k7)⟩
           ·show com M b _ _ R j=some v
            unfold com
            rw[if_neg]
            ·exact e
            ·rintro⟨rfl,_⟩;rw[ax j] at e;cases e
           ·show com M b _ _ R=M R
            funext j
            unfold com
            rw[if_neg]
            exact λO=>F O.1
          ·cases h
         ·cases h
        ·cases h
       ·cases h
      ·cases h
     ·rename_i T1 x1 d z g
      split at h
      ·rename_i t ht
       split at h
       ·rename_i k hi hk ao hm
        have hi:=Nat.eq_of_beq_eq_true hi
        simp only[Bool.and_eq_true] at ao
        have hm:=mG.1 hm
        obtain⟨E,q2,q3⟩:=hY t ht (List.mem_cons_of_mem _ hm)
        rw[E] at hk;cases hk
        obtain⟨c,O,aa⟩:=awh ht hi ho g hs hb
        have a3:idx t.xs kx=some c:=by unfold idx;rw[if_pos q2];exact O
        rw[a3] at h
        exact⟨d,s,.i .i64 c,M,fr,g,ao.2,⟨rfl,rfl,λ_=>rfl⟩,h,aa⟩
       ·cases h
      ·cases h
     ·cases h
    obtain⟨d,s1,v,M1,an,g,Z,hk,h,aa⟩:=be
    have az:UK (n:=n) I ops (s1.put d v) r:=λj f=>by
     obtain⟨oj,dj,j1,j2,j4,j5,j6⟩:=hU j (List.mem_cons_of_mem _ f)
     refine⟨oj,dj,j1,j2,j4,j5,λv hv=>j6 v ?_⟩
     rw[lu (λe=>(List.pairwise_cons.1 hD).1 j f o oj ho j1 (by rw[g,j4,e])),hk.tm] at hv
     exact hv
    have aE:∀t,iQ C I ops=some t->t.jx∈r->(s1.put d v).lk 0 t.y=some (.i .i64 kx)/\0<=kx/\kx<t.xs.length:=λt ht f=>by
     obtain⟨E,q2,q3⟩:=hY t ht (List.mem_cons_of_mem _ f)
     refine⟨?_,q2,q3⟩
     rw[lu (λe=>?_),hk.tm]
     ·exact E
     ·cases e
      obtain⟨oi,di,j1,j2,j4,j5,j6⟩:=hU i List.mem_cons_self
      rw[ho] at j1;cases j1
      rw[g] at j4;cases j4
      cases j6 _ E
    have a8:∀j∈r,(∀N,x=some N->lK ops j 14 N=true)->∃b,(j,b)∈W.filter λe=>e.1 != i:=λj f hw=>by
     obtain⟨R,F⟩:=hx j (List.mem_cons_of_mem _ f) hw
     exact⟨R,List.mem_filter.2 ⟨F,by simp only[bne_iff_ne,ne_eq];exact λe=>ae (e▸f)⟩⟩
    obtain⟨p,s',W',J,M',g1,g2,g3,g4,g5,g6,g7,g8,g9,V,X,ab,PE,Q⟩:=Jp h aa ((hR.keep hk).put Z) az aE Zn a8
    refine⟨p,s',W',J,M',g1,g2,g3,g4.trans hk.1,g5.trans hk.2,g6,g7.cons i,λe D=>(List.mem_filter.1 (g8 e D)).1,λe D u=>?_,λj f hn=>?_,λe D=>?_,ab,λN ag j f A=>?_,λq hq=>?_⟩
    ·have L:e.1≠i:=λe'=>by
      rcases u with u|u
      ·rw[e'] at u;exact ae (g7.subset u)
      ·exact u (by rw[e'];exact List.mem_cons_self)
     exact g9 e (List.mem_filter.2 ⟨D,by simpa using L⟩) (u.imp id λu O=>u (List.mem_cons_of_mem _ O))
    ·rcases List.mem_cons.1 f with rfl|f
     ·exact⟨b,hb⟩
     ·obtain⟨R,F⟩:=V j f hn
      exact⟨R,(List.mem_filter.1 F).1⟩
    ·rcases X e D with h|h
     ·exact .inl h
     ·have L:e.1≠i:=by simpa using (List.mem_filter.1 (g8 e D)).2
      exact .inr (by simp[L,h])
    ·rcases List.mem_cons.1 f with rfl|f
     ·rw[H] at A;cases A
     ·exact PE N ag j f A
    ·rw[Q q λj f=>hq j (List.mem_cons_of_mem _ f),lu (by have:=hq i List.mem_cons_self o ho;rwa [g] at this),hk.tm]
   ·cases h
  ·rename_i hw
   obtain⟨p,s',W',J,M',g1,g2,g3,g4,g5,g6,g7,g8,g9,V,X,ab,PE,Q⟩:=Jp h hs hR (λj f=>hU j (List.mem_cons_of_mem _ f)) (λt ht f=>hY t ht (List.mem_cons_of_mem _ f)) Zn (λj f=>hx j (List.mem_cons_of_mem _ f))
   refine⟨i::p,s',W',J,M',g1,g2,g3,g4,g5,λj f=>?_,g7.cons_cons i,g8,λe D u=>g9 e D ?_,λj f hn=>?_,λe D=>?_,λe=>(by subst e;simp at hw),λN ag j f A=>?_,λq hq=>Q q λj f=>hq j (List.mem_cons_of_mem _ f)⟩
   ·rcases List.mem_cons.1 f with rfl|f
    ·obtain⟨o,d,e1,e2,e4,U,e6⟩:=hU j List.mem_cons_self
     refine⟨o,d,e1,e2,e4,U,λv hv=>e6 v ?_⟩
     rw[Q d λj' a4 o' a6=>λe=>(List.pairwise_cons.1 hD).1 j' a4 o o' e1 a6 (by rw[e4,e])] at hv
     exact hv
    ·exact g6 j f
   ·by_cases e':e.1=i
    ·exact .inr (by rw[e'];exact ae)
    ·rcases u with u|u
     ·rcases List.mem_cons.1 u with u|u
      ·exact absurd u e'
      ·exact .inl u
     ·exact .inr λO=>u (List.mem_cons_of_mem _ O)
   ·rcases List.mem_cons.1 f with rfl|f
    ·exact absurd List.mem_cons_self hn
    ·exact V j f λO=>hn (List.mem_cons_of_mem _ O)
   ·by_cases e':e.1=i
    ·exact .inl (by rw[e'];exact List.mem_cons_self)
    ·rcases X e D with h|h
     ·exact .inl (List.mem_cons_of_mem _ h)
     ·exact .inr (by simp[e',h])
   ·rcases List.mem_cons.1 f with rfl|f
    ·exact List.mem_cons_self
    ·exact List.mem_cons_of_mem _ (PE N ag j f A)
end
end Go.R
