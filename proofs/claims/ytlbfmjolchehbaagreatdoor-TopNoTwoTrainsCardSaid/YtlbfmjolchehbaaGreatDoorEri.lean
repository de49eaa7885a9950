/- Several parts of the engine, one behind the other. -/
import Derived.Test.YtlbfmjolchehbaaGreatDoorErh
set_option linter.all false
namespace Go.R
open Go.RowKit Go.Dc
section
variable {β:Type}{C:Cf}{T:FuncId->Option (aN C.τ.S)}{I:FuncId->Option (aL C.τ.S)}{s s':Sg C.τ.S}{G G' p:List (Nat×Bool)}{M M':Mem}{ρ ρ' ρ0:List Loc}{H R:Heap C.τ.S}{w w':World}{a a':Act}{O O' O1 O2 On:List Nat}{y:β}{n nx N0 nz k:Nat}{κ:Ctx C.τ}{wr xo fr:Bool}{ops:Array Oper}{X XO OX ZO AO lim Bs:List Nat}{XB:Nat->List Nat}{CL:List (Nat×Nat×Nat)}{kx:Int}{Ms:Mem}{W:List (Nat×Nat)}{listed lr:Array Bool}
theorem getD_eq{l:Array Bool}{j:Nat}(h:j<l.size)(d a:Bool):l.getD j d=l.getD j a:=by simp[h]
structure AI(C:Cf)(I:FuncId->Option (aL C.τ.S))(kx:Int)(n:Nat)(κ:Ctx C.τ)(ρ0:List Loc)(N0:Nat)(Ms:Mem)(ops:Array Oper)(G:List (Nat×Bool))(s:Sg C.τ.S)(fr:Bool)(listed lr:Array Bool)(lim:List Nat)(W:List (Nat×Nat))(M:Mem)(w:World)(a:Act)(k:Nat):Prop where
 reg:eG (C:=C) ops.toList G s
 SQ:jh s.B
 inv:HeadInv .any ops ops.size lr
 sz:listed.size=ops.size
 rl:∀j,j<ops.size->(lr.getD j true=true↔listed.getD j true=true/\(j∈lim->∃b,(j,b)∈W))
 ll:∀i∈lim,i<ops.size/\listed.getD i true=true
 uk:UK (n:=n) I ops s lim
 yk:YK I ops kx s lim
 ed:∀i∈lim,gT C I ops i=true->∀o,ops[i]?=some o->∀e∈o.after,Region.binds .any e=true->e.on<ops.size/\listed.getD e.on true=true/\(e.on∈lim->e.on≠i/\∀t,iQ C I ops=some t->i=t.jx->e.on≠t.jl)
 dd:DD ops lim
 wl:∀e∈W,e.1∈lim
 un:(iZ lim W).length<=k
 ss:jk C I kx n κ ρ0 N0 s.nx Ms ops G s fr W M w a
theorem AI.sym(h:AI C I kx n κ ρ0 N0 Ms ops G s fr listed lr lim W M w a k){z:Nat}(l:z∈Region.ready .any ops lr)(j:z∉lim):z∈Region.ready .any ops listed:=by
 obtain⟨h1,o,ho,b⟩:=mem_ready.1 l;have d:=(Array.getElem?_eq_some_iff.1 ho).1;refine mem_ready.2 ⟨?_,o,ho,λe i f=>?_⟩;·cases e:listed.getD z true with|false=>rfl|true=>rw[(h.rl z d).2 ⟨e,λg=>absurd g j⟩] at h1;cases h1
 ·have h2:=b e i f
  have hs:e.on<ops.size:=by
   rcases Nat.lt_or_ge e.on lr.size with c|c;·rw[<-h.inv.size];exact c
   ·simp[Array.getElem?_eq_none c] at h2
  rw[getD_eq (by rw[h.inv.size];exact hs) false true] at h2;rw[getD_eq (by rw[h.sz];exact hs) false true];exact ((h.rl _ hs).1 h2).1
theorem AI.aI2(h:AI C I kx n κ ρ0 N0 Ms ops G s fr listed lr lim W M w a k){i:Nat}(hi:i∈iZ lim W)(p:gT C I ops i=true->∀o,ops[i]?=some o->∀e∈o.after,Region.binds .any e=true->e.on∈lim->∃b,(e.on,b)∈W):i∈Region.ready .any ops lr:=by
 obtain⟨h1,h2⟩:=Ae.1 hi;obtain⟨o,d,g,c,r,t,u⟩:=h.uk i h1;refine mem_ready.2 ⟨?_,o,g,λe j f=>?_⟩;·cases e:lr.getD i true with|false=>rfl|true=>obtain⟨b,f⟩:=((h.rl i (h.ll i h1).1).1 e).2 h1;exact absurd f (h2 b)
 ·rcases c with ⟨c,_⟩|c;·obtain⟨_,_,_,m⟩:=al1 c;rw[m e j] at f;cases f
  ·obtain⟨l,q,_⟩:=h.ed i h1 c o g e j f;rw[getD_eq (by rw[h.inv.size];exact l) false true];exact (h.rl _ l).2 ⟨q,p c o g e j f⟩
theorem Gc{i:Nat}(h:gT C I ops i=true):∃t,iQ C I ops=some t/\(i=t.jx\/i=t.jl):=by
 unfold gT at h;split at h
 ·rename_i t a;rcases (Bool.or_eq_true _ _).mp h with h|h;·exact⟨t,a,.inl (Nat.eq_of_beq_eq_true h)⟩
  ·exact⟨t,a,.inr (Nat.eq_of_beq_eq_true h)⟩
 ·cases h
theorem AI.aqK(h:AI C I kx n κ ρ0 N0 Ms ops G s fr listed lr lim W M w a k)(h0:Region.ready .any ops lr=[]):iZ lim W=[]:=by
 have x:∀i,i∈iZ lim W->(gT C I ops i=true->∀o,ops[i]?=some o->∀e∈o.after,Region.binds .any e=true->e.on∈lim->∃b,(e.on,b)∈W)->False:=λi c z=>by have:=h.aI2 c z;rw[h0] at this;cases this
 have A:∀i∈iZ lim W,gT C I ops i=true:=λi c=>by cases e:gT C I ops i with|true=>rfl|false=>exact (x i c λg=>by rw[e] at g;cases g).elim
 have y:∀i∈lim,gT C I ops i=false->∃b,(i,b)∈W:=λi c e=>Classical.byContradiction λr=>by have:=A i (Ae.2 ⟨c,λb j=>r ⟨b,j⟩⟩);rw[e] at this;cases this
 have B:∀t,iQ C I ops=some t->t.jx∈lim->∃b,(t.jx,b)∈W:=λt l c=>Classical.byContradiction λr=>by
  refine x t.jx (Ae.2 ⟨c,λb j=>r ⟨b,j⟩⟩) λp o ho e u j f=>?_;obtain⟨_,_,q⟩:=h.ed _ c p o ho e u j;refine y _ f ?_
  cases g:gT C I ops e.on with
  |false=>rfl
  |true=>
   obtain⟨D,d,q'⟩:=Gc g;rw[l] at d;cases d;rcases q' with q'|q';·exact absurd q' (q f).1
   ·exact absurd q' ((q f).2 t l rfl)
 refine List.eq_nil_iff_forall_not_mem.2 λi c=>x i c λp o ho e u j f=>?_;obtain⟨v,_⟩:=Ae.1 c;obtain⟨_,_,q⟩:=h.ed _ v p o ho e u j
 cases g:gT C I ops e.on with
 |false=>exact y _ f g
 |true=>
  obtain⟨D,d,q'⟩:=Gc g;obtain⟨t,l,m⟩:=Gc p;rw[l] at d;cases d;rcases q' with q'|q';·rw[q'] at f |-;exact B _ l f
  ·rcases m with m|m;·exact absurd q' ((q f).2 _ l m)
   ·exact absurd (q'.trans m.symm) (q f).1
theorem AI.aoc(h:AI C I kx n κ ρ0 N0 Ms ops G s fr listed lr lim W M w a k){z:Nat}(e:z∈Region.ready .any ops lr)(c:z∈lim):z∈iZ lim W:=by refine Ae.2 ⟨c,λb d=>?_⟩;have:=(h.rl z (h.ll z c).1).2 ⟨(h.ll z c).2,λ_=>⟨b,d⟩⟩;rw[(mem_ready.1 e).1] at this;cases this
theorem aI3{z b:Nat}(a:z∈iZ lim W):(iZ lim ((z,b)::W)).length<(iZ lim W).length:=by
 have:iZ lim ((z,b)::W)=(iZ lim W).filter λi=> !(z==i):=by unfold iZ;rw[List.filter_filter];refine List.filter_congr λi _=>?_;simp[List.any_cons,Bool.not_or]
 rw[this];exact List.length_filter_lt_length_iff_exists.2 ⟨z,a,sm⟩
end
section
variable {β:Type}{C:Cf}{T:FuncId->Option (aN C.τ.S)}{I:FuncId->Option (aL C.τ.S)}{s s':Sg C.τ.S}{G G' p:List (Nat×Bool)}{M M':Mem}{ρ ρ' ρ0:List Loc}{H R:Heap C.τ.S}{w w':World}{a a':Act}{O O' O1 O2 On:List Nat}{y:β}{n nx N0 nz k:Nat}{κ:Ctx C.τ}{wr xo fr:Bool}{ops:Array Oper}{X XO OX ZO AO lim Bs:List Nat}{XB:Nat->List Nat}{CL:List (Nat×Nat×Nat)}{kx:Int}{Ms:Mem}{W:List (Nat×Nat)}{listed lr:Array Bool}
theorem dN.Jz{τ:Tb}(h:dN w w')(g:nX τ w):nX τ w':=⟨λi l a=>by
 obtain⟨b,T,fz,e⟩:=g.1 i l a
 exact⟨b,T,fz,(h.2 i (Array.getElem?_eq_some_iff.1 e).1).trans e⟩,λi a=>by
 obtain⟨b,m,T,fz,e⟩:=g.2 i a
 exact⟨b,m,T,fz,(h.2 i (Array.getElem?_eq_some_iff.1 e).1).trans e⟩⟩
def Oy(ρ:List Loc):Nat->Option Value|0=>some (.slice none 0 0)|j+1=>(ρ[j]?).map Loc.sl
def jX(ρ:List Loc)(a:List (Nat×Nat×Nat))(w w':World):Prop:=∀q∈a,∀l v,ρ[q.1]?=some l->Oy ρ q.2.2=some v->w.cell? ⟨l.b,q.2.1,none⟩=some v->w'.cell? ⟨l.b,q.2.1,none⟩=some v
theorem jX.refl:jX ρ CL w w:=λ_ _ _ _ _ _ h=>h
theorem jX.trans{d e:World}(h:jX ρ CL w d)(f:jX ρ CL d e):jX ρ CL w e:=λq c l v a b h0=>f q c l v a b (h q c l v a b h0)
theorem dN.toC(h:dN w w'):jX ρ CL w w':=λq _ l v _ _ e=>by
 have:=h.2 l.b (Bp e)
 simpa [World.cell?,this] using e
def Dq(C:Cf)(I:FuncId->Option (aL C.τ.S))(ops:Array Oper)(X c d a:List Nat)(XB:Nat->List Nat)(b:List (Nat×Nat×Nat))(ρr:List Loc)(N0:Nat)(Ms:Mem)(i:Nat)(w w':World):Prop:=Dp C I ops X c ρr i w w'/\(eY i d=true->iK N0 w w')/\(eY i a=true->fJ (blk ρr (XB i)) Ms w w')/\(nX C.τ w->nX C.τ w')/\(eY i (xI C I ops)=true->jX ρr b w w')
theorem aCE{z d:Nat}{t:Ed}{o:Oper}{K:Act->World->Prop}{Q:Exit->Act->World->Prop}(A:iQ C I ops=some t)(D:z=t.jx\/z=t.jl)(p:ops[z]?=some o)(hd:o.dst=some d)(S:d<n)(hu:∀v,s.lk 0 d=some v->v= .u)(hW:∀e∈W,∀E,ops[e.1]?=some E->E.dst≠some d)(hy:s.lk 0 t.y=some (.i .i64 kx))(aq:0<=kx)(aw:kx<t.xs.length)(B:z=t.jx->∃b,(t.jb,b)∈W)(aa:z=t.jl->∃b,(t.jx,b)∈W)(hs:jk C I kx n κ ρ0 N0 nz Ms ops G s fr W M w a)(hk:∀b a',jk C I kx n κ ρ0 N0 nz Ms ops G s fr ((z,b)::W) M w a'->K a' w):wpOp C.P ops Q z K a w:=by
 obtain⟨⟨ob,tb,T,n',ps,os,b1,b2,b3,b4,b5,b6,ox,tx,ol,dl,T1,X,Y,x3,x4,x5,l1,l2,l3,l4,l5,_,_⟩,ax⟩:=Kv A
 have hg:o.guard=none:=by
  rcases D with rfl|rfl;·rw[X] at p;cases p;exact x3
  ·rw[l1] at p;cases p;exact l3
 obtain⟨h0,ρ,O1,O2,h1,h2,h3,h4,h5,h6,h7,h8,af,h9,ae⟩:=hs;have az:os.length=t.xs.length:=by have:=congrArg List.length b6;simpa using this
 obtain⟨ai,Z,L⟩:=h3.tm t.y _ (by rw[<-Sg.bS];exact hy);have L:ai= .int .i64 kx:=by cases L with|v L=>cases L;rfl
 subst L;have ap:a.eval (.tmp t.y)= .int .i64 kx:=by show a.tmps.getD t.y undef=_;rw[Array.getD_eq_getD_getElem?,Z];rfl
 obtain⟨c,hc⟩:∃c,t.xs[kx.toNat]?=some c:=⟨_,List.getElem?_eq_getElem om⟩
 have aE:∃b v r,(execOp a.eval o).run C.P w= .ok (.value v) w/\AlE C I ops kx z o r (t.xs.map (Value.int .i64)) b v/\w.heap[b]?=some (.cells (t.xs.map (Value.int .i64)).toArray r (0,0))/\∃e∈W,e.2=b/\wG C I ops e.1:=by
  rcases D with rfl|rfl
  ·rw[X] at p;cases p;obtain⟨b,g⟩:=B rfl;obtain⟨E,d',r,l,v,f1,f2,f3,j,f5⟩:=(h7 _ g).ex;rw[b1] at f1;cases f1;rw[b3] at f2;cases f2
   have j:G7 C.P ob.op r l b v:=j.resolve_right λ⟨t',F,_,H⟩=>by
    rw[A] at F;cases F;rcases H with ⟨H,_⟩|⟨H,_⟩;·rw[<-H,b1] at X;cases X;rw[b2] at Y;cases Y
    ·rw[<-H,b1] at l1;cases l1;rw[b2] at l2;cases l2
   rw[b2] at j;obtain⟨a1,sz,bJ,f6,f7,f8,f9,ab,f11⟩:=j;rw[b5] at f6;cases f6;subst ab f11;have an:a.eval (.tmp tb)= .slice (some ⟨b,0,none⟩) n' n':=by show a.tmps.getD tb undef=_;rw[Array.getD_eq_getD_getElem?,f3];rfl
   refine⟨b,.pointer (some ⟨b,kx.toNat,none⟩),r,?_,.inr ⟨t,A,rfl,.inl ⟨rfl,rfl⟩⟩,by rw[<-b6];exact f5,_,g,rfl,.inl (by unfold y8;rw[A];simp)⟩;obtain⟨dst,op,ty,pos,aM,gd⟩:=o;simp only at Y;subst Y;show (Instr.indexAt T (a.eval (.tmp tb)) (a.eval (.tmp t.y)) >>= λv=>pure (Next.value v)).run C.P w=_;rw[an,ap];have:=Ug (P:=C.P) (t:=T) (b:=b) (o:=0) (m:=n') (c:=n') (k:= .i64) (i:=kx) x5 ⟨aq,by rw[f8,az];exact aw⟩ w;rw[Nat.zero_add,Nat.mul_one] at this;exact bQ this
  ·rw[l1] at p;cases p;obtain⟨b,g⟩:=aa rfl;obtain⟨E,d',r,l,v,f1,f2,f3,j,f5⟩:=(h7 _ g).ex;rw[X] at f1;cases f1;rw[x4] at f2;cases f2
   have j:l=t.xs.map (Value.int .i64)/\v= .pointer (some ⟨b,kx.toNat,none⟩):=by
    rcases j with j|⟨t',F,H,⟨_,q4⟩|⟨q3,_⟩⟩;·rw[Y] at j;exact j.elim
    ·rw[A] at F;cases F;exact⟨H,q4⟩
    ·rw[A] at F;cases F;exact absurd q3 ax
   obtain⟨rfl,rfl⟩:=j;have ao:a.eval (.tmp tx)= .pointer (some ⟨b,kx.toNat,none⟩):=by show a.tmps.getD tx undef=_;rw[Array.getD_eq_getD_getElem?,f3];rfl
   refine⟨b,.int .i64 c,r,?_,.inr ⟨t,A,rfl,.inr ⟨rfl,c,hc,rfl⟩⟩,f5,_,g,rfl,.inl (by unfold y8;rw[A];simp)⟩;obtain⟨dst,op,ty,pos,aM,gd⟩:=o;simp only at l2;subst l2;show (Instr.loadAt T1 (a.eval (.tmp tx)) >>= λv=>pure (Next.value v)).run C.P w=_;rw[ao];exact bQ (s:=loadVar T1 _) (Ui l5 (by simp[World.cell?,f5,hc]))
 obtain⟨b,v,r,k1,k2,k3,e0,N,O,ag⟩:=aE;have J:=h7 e0 N;rw[O] at J;unfold wpOp;simp only[p];rw[if_pos (by simp[Region.wanted,hg])];refine .inl ?_;unfold Oper.wp;rw[k1];show K (a.put o.dst v) w;rw[hd];refine hk b _ ⟨h0.put,ρ,O1,O2,h1,h2,⟨h3.gm,λq u U=>?_,h3.cl⟩,h4,h5,h6,λe f=>?_,?_,af,h9,ae⟩
 ·by_cases e:d=q;·subst e;have:=hu u (by rw[Sg.bS];exact U);subst this;exact⟨v,by simp[Act.put,h0.size,S],.u⟩
  ·obtain⟨x,g1,g2⟩:=h3.tm q u U;exact⟨x,by rw[fT (λe'=>e (Option.some.inj e'))];exact g1,g2⟩
 ·rcases List.mem_cons.1 f with rfl|f;·exact⟨⟨o,d,r,_,v,p,hd,by simp[Act.put,h0.size,S],k2,k3⟩,J.mem,J.out,J.new,J.lt,J.own⟩
  ·have g:=h7 e f;obtain⟨E,d',t',l',v',Z,e3,e4,e5,e6⟩:=g.ex;refine⟨⟨E,d',t',l',v',Z,e3,?_,e5,e6⟩,g.mem,g.out,g.new,g.lt,g.own⟩;rw[fT (λe'=>hW e f E Z (by rw[e3];exact e'.symm))];exact e4
 ·refine List.pairwise_cons.2 ⟨λe f=>?_,h8⟩;have V:wG C I ops z:= .inr (by unfold gT;rw[A];rcases D with rfl|rfl<;>simp);by_cases U:e=e0;·subst U;exact .inr ⟨V,ag⟩
  ·have:=(List.Pairwise.forall_of_forall_of_flip (R:=λx y=>x=y\/(x.2≠y.2\/(wG C I ops x.1/\wG C I ops y.1))) (λx _=> .inl rfl) (h8.imp λh=> .inr h) (h8.imp λh=> .inr (h.imp Ne.symm And.symm)) N f).resolve_left (Ne.symm U);rcases this with h|h;·rw[O] at h;exact .inl h
   ·exact .inr ⟨V,h.2⟩
theorem avB{o:Oper}{j:Nat}(h:Bw o j=true):∃e∈o.after,Region.binds .any e=true/\e.on=j:=by unfold Bw at h;obtain⟨e,h1,h2⟩:=List.any_eq_true.1 h;rw[Bool.and_eq_true] at h2;exact⟨e,by simpa using h1,h2.1,Nat.eq_of_beq_eq_true h2.2⟩
theorem AI.bag{Q:Exit->Act->World->Prop}(h:AI C I kx n κ ρ0 N0 Ms ops G s fr listed lr lim W M w a k){z:Nat}(hz:z∈Region.ready .any ops lr)(p:z∈lim){K:Act->World->Prop}(hk:∀W' w' f D,k=D+1->AI C I kx n κ ρ0 N0 Ms ops G s fr listed (lr.setIfInBounds z true) lim W' M w' f D->K f w'):wpOp C.P ops Q z (λf w'=>Dq C I ops X XO ZO AO XB CL ρ0 N0 Ms z w w'/\K f w') a w:=by
 have hx:=h.aoc hz p;obtain⟨o,d,v,F,U,e5,e6⟩:=h.uk z p
 have H:∀e∈W,∀E,ops[e.1]?=some E->E.dst≠some d:=λe y E m=>by
  have ab:e.1≠z:=λe'=>(Ae.1 hx).2 e.2 (by rw[<-e'];exact y);have hp:∀i∈lim,∀j∈lim,i≠j->∀r u,ops[i]?=some r->ops[j]?=some u->r.dst≠u.dst:=by intro i hi j B aa;exact (List.Pairwise.forall_of_forall_of_flip (R:=λi j=>i=j\/∀r u,ops[i]?=some r->ops[j]?=some u->r.dst≠u.dst) (λx _=> .inl rfl) (h.dd.imp λh=> .inr h) (h.dd.imp λh=> .inr λr u Y Z=>(h u r Z Y).symm) hi B).resolve_left aa
  have:=hp e.1 (h.wl e y) z p ab E o m v;rw[U] at this;exact this
 have fin:∀b w' f,dN w w'->jk C I kx n κ ρ0 N0 s.nx Ms ops G s fr ((z,b)::W) M w' f->Dq C I ops X XO ZO AO XB CL ρ0 N0 Ms z w w'/\K f w':=λb w' f A hs=>by
  refine⟨⟨λE m=>⟨λ_=>A,λ_=>A.x⟩,λ_=>A.toN,λ_=>A.toA,A.Jz,λ_=>A.toC⟩,?_⟩;have ae:=aI3 (b:=b) hx;have af:=h.un;obtain⟨D,rfl⟩:∃D,k=D+1:=⟨k-1,om⟩;refine hk ((z,b)::W) w' f D rfl ⟨h.reg,h.SQ,h.inv.set hz (h.ll z p).1,h.sz,λj B=>?_,h.ll,h.uk,h.yk,h.ed,h.dd,λe y=>?_,om,hs⟩
  ·by_cases e:z=j;·subst e;rw[show (lr.setIfInBounds z true).getD z true=true by have:=h.inv.size;simp[this,B]];exact⟨λ_=>⟨(h.ll z p).2,λ_=>⟨b,List.mem_cons_self⟩⟩,λ_=>rfl⟩
   ·rw[getD_set_ne true e,h.rl j B];refine and_congr_right λ_=>⟨λg hc=>?_,λg hc=>?_⟩;·obtain⟨S,c⟩:=g hc;exact⟨S,List.mem_cons_of_mem _ c⟩
    ·obtain⟨S,c⟩:=g hc;rcases List.mem_cons.1 c with c|c;·cases c;exact absurd rfl e
     ·exact⟨S,c⟩
  ·rcases List.mem_cons.1 y with rfl|y;·exact p
   ·exact h.wl e y
 rcases F with ⟨F,V⟩|F;·obtain⟨_,eg,_,_⟩:=al1 F;exact atd v eg U e5 V e6 H h.ss fin
 ·obtain⟨t,O,N⟩:=Gc F;obtain⟨_,l⟩:=mem_ready.1 hz;obtain⟨E,m,l⟩:=l;rw[v] at m;cases m
  have kY:t.jx∈lim:=by
   rcases N with rfl|rfl;·exact p
   ·exact (h.yk t O).2 p
  obtain⟨y1,y2,y3,y4⟩:=(h.yk t O).1 kY;have J:∀{j:Nat},Bw o j=true->j∈lim->∃b,(j,b)∈W:=λ{j} B hm=>by obtain⟨e,q1,q2,q3⟩:=avB B;have hr:=l e q1 q2;rw[q3] at hr;have L:=(h.ll j hm).1;rw[getD_eq (by rw[h.inv.size];exact L) false true] at hr;exact ((h.rl j L).1 hr).2 hm
  obtain⟨⟨ob,tb,T,n',ps,os,_,_,_,_,_,_,ox,tx,ol,dl,T1,x1,_,_,_,_,l1,_,_,_,_,Y,Z⟩,_⟩:=Kv O;refine aCE O N v U e5 e6 H y2 y3 y4 (λq=>?_) (λq=>?_) h.ss λb f hs=>fin b w f dN.refl hs;·rw[<-q,v] at x1;cases x1;exact J Y y1
  ·rw[<-q,v] at l1;cases l1;exact J Z kY
end
end Go.R
namespace Go.R
open Go.RowKit Go.Dc
section
variable {β:Type}{C:Cf}{T:FuncId->Option (aN C.τ.S)}{I:FuncId->Option (aL C.τ.S)}{s s':Sg C.τ.S}{G G' p:List (Nat×Bool)}{M M':Mem}{ρ ρ' ρ0:List Loc}{H R:Heap C.τ.S}{w w':World}{a a':Act}{O O' O1 O2 On:List Nat}{y:β}{n nx N0 nz k:Nat}{κ:Ctx C.τ}{wr xo fr:Bool}{ops:Array Oper}{X XO OX ZO AO lim Bs:List Nat}{XB:Nat->List Nat}{CL:List (Nat×Nat×Nat)}{kx:Int}{Ms:Mem}{W:List (Nat×Nat)}{listed lr:Array Bool}
theorem AI.yw(h:AI C I kx n κ ρ0 N0 Ms ops G s fr listed lr lim W M w a k):∀t,iQ C I ops=some t->t.jx∈lim->s.lk 0 t.y=some (.i .i64 kx)/\0<=kx/\kx<t.xs.length:=λt c b=>((h.yk t c).1 b).2
theorem afF{K:Sg C.τ.S->Option β}{Kc:Act->World->Prop}(L:∀s',K s'=some y->s'.B=s.B->s'.Bh=s.Bh->KU C.τ n κ ρ0 Kc s'.nx (s'.T++s'.B) s'.Th s'.Bh)(h:ql C I n ops none G lim s (λ_ s'=>fin C G s' K)=some y)(t:Region.ready .any ops listed=[]):∀(k f:Nat) (lr:Array Bool) (W:List (Nat×Nat)) (w:World) (a:Act),AI C I kx n κ ρ0 N0 Ms ops G s fr listed lr lim W M w a k->xX C.P ops (λe a w=>e= .normal/\Kc a w) (Dq C I ops X XO ZO AO XB CL ρ0 N0 Ms) (f+k) lr a w:=by
 have d:∀{k lr W w a},AI C I kx n κ ρ0 N0 Ms ops G s fr listed lr lim W M w a k->iZ lim W=[]->Kc a w:=by intro k lr W w a c m;obtain⟨u,s',q,E,M',F,H,V,r,J,_⟩:=Jp h c.ss c.reg c.uk c.yw c.dd (λi Q _=>by refine Classical.byContradiction λO=>?_;have:i∈iZ lim W:=Ae.2 ⟨Q,λb N=>O ⟨b,N⟩⟩;rw[m] at this;cases this);exact awd F (by rw[r];exact c.SQ) (λp x A D=>L p x (A.trans r) (D.trans J)) H.ss
 intro k
 induction k with
 |zero=>
  intro f lr W w a c;have m:iZ lim W=[]:=List.length_eq_zero_iff.1 (Nat.le_zero.1 c.un)
  have l:∀z,z∉Region.ready .any ops lr:=λz g=>by
   by_cases j:z∈lim;·have:=c.aoc g j;rw[m] at this;cases this
   ·have:=c.sym g j;rw[t] at this;cases this
  cases f with|zero=>exact⟨List.eq_nil_iff_forall_not_mem.2 l,rfl,d c m⟩|succ f=>exact⟨λ_=>⟨rfl,d c m⟩,λz g=>absurd g (l z)⟩
 |succ k U=>
  intro f lr W w a c;refine⟨λh0=>⟨rfl,d c (c.aqK h0)⟩,λz g=>?_⟩;by_cases j:z∈lim;·exact c.bag g j λq w' v Y R o=>U f _ q w' v (by cases R;exact o)
  ·have:=c.sym g j;rw[t] at this;cases this
theorem AI.back(h:AI C I kx n κ ρ0 N0 Ms ops G s fr listed lr lim W M w a k)(p:iZ lim W=[]){i:Nat}(hi:i∈Region.ready .any ops listed):i∈Region.ready .any ops lr:=by
 obtain⟨h1,o,ho,c⟩:=mem_ready.1 hi;have g:=(Array.getElem?_eq_some_iff.1 ho).1;refine mem_ready.2 ⟨?_,o,ho,λe l f=>?_⟩;·cases e:lr.getD i true with|false=>rfl|true=>rw[((h.rl i g).1 e).1] at h1;cases h1
 ·have h2:=c e l f
  have hs:e.on<ops.size:=by
   rcases Nat.lt_or_ge e.on listed.size with d|d;·rw[<-h.sz];exact d
   ·simp[Array.getElem?_eq_none d] at h2
  rw[getD_eq (by rw[h.sz];exact hs) false true] at h2;rw[getD_eq (by rw[h.inv.size];exact hs) false true];refine (h.rl _ hs).2 ⟨h2,λm=>Classical.byContradiction λj=>?_⟩;have:e.on∈iZ lim W:=Ae.2 ⟨m,λb f=>j ⟨b,f⟩⟩;rw[p] at this;cases this
theorem AI.next{i:Nat}{o:Oper}{s1:Sg C.τ.S}{c:List Nat}{r:List (Nat×Nat)}{Q:Mem}(m:AI C I kx n κ ρ0 N0 Ms ops G s fr listed lr lim W M w a k)(hi:ops[i]?=some o)(J:i∉lim)(K:i∈Region.ready .any ops lr)(f:c.Sublist lim)(q:∀e,e∈r->e∈W)(z:∀e∈W,e.1∈c\/e.1∉lim->e∈r)(H:∀i∈lim,i∉c->∃b,(i,b)∈W)(Zu:∀e∈r,e.1∈c\/e.1∉lim)(hU:UK (n:=n) I ops s1 c)(X:YK I ops kx s1 c)(V:nC C I ops o c=true)(F:eG (C:=C) ops.toList G' s')(hB:s'.B=s.B)(Z:∀t,o.dst≠some t->s'.lk 0 t=s1.lk 0 t){x:Bool}(O:jk C I kx n κ ρ0 N0 s'.nx Ms ops G' s' x r Q w' a'):AI C I kx n κ ρ0 N0 Ms ops G' s' x (listed.setIfInBounds i true) (lr.setIfInBounds i true) c r Q w' a' k:=by
 have L:=(Array.getElem?_eq_some_iff.1 hi).1;refine⟨F,by rw[hB];exact m.SQ,m.inv.set K L,by simp[m.sz],λj l=>?_,λj l=>?_,λj l=>?_,λt P=>⟨λl=>?_,(X t P).2⟩,λj l D E N e p A=>?_,m.dd.sublist f,λe p=>?_,?_,O⟩
 ·by_cases e:i=j;·subst e;rw[show (lr.setIfInBounds i true).getD i true=true by have:=m.inv.size;simp[this,l],show (listed.setIfInBounds i true).getD i true=true by have:=m.sz;simp[this,l]];exact⟨λ_=>⟨rfl,λu=>absurd (f.subset u) J⟩,λ_=>rfl⟩
  ·rw[getD_set_ne true e,getD_set_ne true e,m.rl j l];refine and_congr_right λ_=>⟨λg u=>?_,λg u=>?_⟩;·obtain⟨b,A⟩:=g (f.subset u);exact⟨b,z _ A (.inl u)⟩
   ·by_cases D:j∈c;·obtain⟨b,A⟩:=g D;exact⟨b,q _ A⟩
    ·exact H j u D
 ·obtain⟨h1,h2⟩:=m.ll j (f.subset l);refine⟨h1,?_⟩;by_cases e:i=j;·subst e;simp[m.sz,h1]
  ·rw[getD_set_ne true e];exact h2
 ·obtain⟨E,d,T,e2,U,e5,e6⟩:=hU j l;refine⟨E,d,T,e2,U,e5,λv Y=>e6 v ?_⟩;rw[Z d λe=>oH (rP V e).1 j l E T U] at Y;exact Y
 ·obtain⟨y1,y2,y3,y4⟩:=(X t P).1 l;exact⟨y1,by rw[Z t.y λe=>(rP V e).2 t P l rfl];exact y2,y3,y4⟩
 ·obtain⟨q1,q2,q3⟩:=m.ed j (f.subset l) D E N e p A;refine⟨q1,?_,λhm=>q3 (f.subset hm)⟩;by_cases R:i=e.on;·rw[R];simp[m.sz,q1]
  ·rw[getD_set_ne true R];exact q2
 ·rcases Zu e p with h|h;·exact h
  ·exact absurd (m.wl e (q e p)) h
 ·refine Nat.le_trans (List.Sublist.length_le ?_) m.un;have:iZ c r=c.filter λi=> !(W.any λe=>e.1==i):=by unfold iZ;refine List.filter_congr λj l=>?_;congr 1;rw[Bool.eq_iff_iff,List.any_eq_true,List.any_eq_true];exact⟨λ⟨e,p,h⟩=>⟨e,q e p,h⟩,λ⟨e,p,h⟩=>⟨e,z e p (.inl (by rw[beq_iff_eq.1 h];exact l)),h⟩⟩
  rw[this];exact f.filter _
theorem jk.step{o:Oper}{s1:Sg C.τ.S}{p:List (Nat×Nat)}{c:List Nat}{q:Mem}(x:Ms.le M)(h0:SA n a')(T:Names ρ0 ρ)(q4:RH C.τ M ρ w s1.Th O1)(U:RH C.τ M ρ w s1.Bh O2)(V:SM κ M w O1 O2)(W:∀e∈p,G8 C I ops kx κ M w a (O1++O2) N0 e.1 e.2)(X:Dst C I ops p)(R:N0<=w.heap.size)(u:∀e∈p,e.1∈c)(Q:nC C I ops o c=true)(s:∀t,o.dst≠some t->a'.tmps[t]?=a.tmps[t]?)(H:s'.Bh=s1.Bh)(hs:SS C n ⟨w,O1,M⟩ ρ G' s' q w' a'):jk C I kx n κ ρ0 N0 s'.nx Ms ops G' s' false p q w' a':=by
 obtain⟨_,A,r,Oz,K,Y,Z,r4,z,i⟩:=hs;rw[H] at z;obtain⟨_,e⟩:=RH.qO K U z;subst e;have y:SM κ M w (O1++[]) O2:=by simpa using V
 have k:=y.back (On:=r) (O1:=[]) (by simpa using i);rw[List.append_nil] at k;refine⟨h0,A,r,O2,T.trans K,Y,Z,r4,by rw[H];exact z,k,λe E=>?_,X,Nat.le_trans R i.frame.size,λm l G F=>(by rw[List.getElem?_eq_none om] at F;cases F),x.trans i.le,λh=>by cases h⟩;have b:=W e E;have f:e.2∉O1:=λg=>b.out (List.mem_append_left _ g);obtain⟨J,d,t,l,v0,B,D,N,O,P⟩:=b.ex;refine⟨⟨J,d,t,l,v0,B,D,?_,O,?_⟩,λj=>?_,λg=>?_,b.new,Nat.lt_of_lt_of_le b.lt i.frame.size,b.own⟩
 ·rw[s d λL=>?_];·exact N
  ·exact oH (rP Q L).1 e.1 (u e E) J B D
 ·rw[i.frame.block e.2 b.lt f];exact P
 ·cases G:q e.2 j with
  |none=>rfl
  |some v=>
   rcases i.new e.2 j v G with h|h|h;·have h:M e.2 j=some v:=h;rw[b.mem j] at h;cases h
   ·exact absurd h f
   ·have h:w.heap.size<=e.2:=h;have:=b.lt;omega
 ·rcases List.mem_append.1 g with g|g
  ·rcases (i.own _ g).2 with h|h;·exact f h
   ·have h:w.heap.size<=e.2:=h;have:=b.lt;omega
  ·exact b.out (List.mem_append_right _ g)
end
end Go.R
namespace Go.R
open Go.RowKit Go.Dc
section
variable {β:Type}{C:Cf}{T:FuncId->Option (aN C.τ.S)}{I:FuncId->Option (aL C.τ.S)}{s s':Sg C.τ.S}{G G' p:List (Nat×Bool)}{M M':Mem}{ρ ρ' ρ0:List Loc}{H R:Heap C.τ.S}{w w':World}{a a':Act}{O O' O1 O2 On:List Nat}{y:β}{n nx N0 nz k:Nat}{κ:Ctx C.τ}{wr xo fr:Bool}{ops:Array Oper}{X XO OX ZO AO lim Bs:List Nat}{XB:Nat->List Nat}{CL:List (Nat×Nat×Nat)}{kx:Int}{Ms:Mem}{W:List (Nat×Nat)}{listed lr:Array Bool}
theorem ac5:∀{l:List Nat}{i:Nat},KZ C I ops l=some i->i∈l/\∃o,ops[i]?=some o/\(uK o||gT C I ops i)=true
 |[],i,h=>by cases h
 |j::r,i,h=>by
  unfold KZ at h
  split at h
  ·rename_i o ho
   split at h
   ·rename_i a;cases h;exact⟨List.mem_cons_self,o,ho,a⟩
   ·obtain⟨h1,h2⟩:=ac5 h;exact⟨List.mem_cons_of_mem _ h1,h2⟩
  ·obtain⟨h1,h2⟩:=ac5 h;exact⟨List.mem_cons_of_mem _ h1,h2⟩
theorem UG:∀{lim:List Nat},(gq listed lim).size=listed.size|[]=>rfl|i::r=>by unfold gq;simp[UG]
theorem UF{j:Nat}{d:Bool}:∀{lim:List Nat},j<listed.size->((gq listed lim).getD j d=true↔listed.getD j d=true/\j∉lim)
 |[],_=>by simp[gq]
 |i::r,a=>by
  unfold gq
  by_cases e:i=j
  ·subst e
   simp[UG,a]
  ·rw[show ((gq listed r).setIfInBounds i false).getD j d=(gq listed r).getD j d by simp[Array.getElem?_setIfInBounds_ne e],UF a]
   simp[Ne.symm e]
theorem AI.LP(h:AI C I kx n κ ρ0 N0 Ms ops G s fr listed lr lim W M w a k){i:Nat}(l:i∉lim)(hi:i∈Region.ready .any ops (gq listed lim)):i∈Region.ready .any ops lr:=by
 obtain⟨h1,o,ho,b⟩:=mem_ready.1 hi;have c:=(Array.getElem?_eq_some_iff.1 ho).1;refine mem_ready.2 ⟨?_,o,ho,λe j f=>?_⟩;·cases e:lr.getD i true with|false=>rfl|true=>rw[(UF (by rw[h.sz];exact c)).2 ⟨((h.rl i c).1 e).1,l⟩] at h1;cases h1
 ·have h2:=b e j f
  have hs:e.on<ops.size:=by
   rcases Nat.lt_or_ge e.on (gq listed lim).size with d|d;·rw[<-h.sz,<-UG (lim:=lim)];exact d
   ·simp[Array.getElem?_eq_none d] at h2
  rw[getD_eq (by rw[UG,h.sz];exact hs) false true,UF (by rw[h.sz];exact hs)] at h2;rw[getD_eq (by rw[h.inv.size];exact hs) false true];exact (h.rl _ hs).2 ⟨h2.1,λg=>absurd g h2.2⟩
theorem AI.tL(h:AI C I kx n κ ρ0 N0 Ms ops G s fr listed lr lim W M w a k){j:Nat}(b:j<ops.size)(c:lr.getD j true=false):(gq listed lim).getD j true=false:=by cases e:(gq listed lim).getD j true with|false=>rfl|true=>have:=(UF (by rw[h.sz];exact b)).1 e;rw[(h.rl j b).2 ⟨this.1,λd=>absurd d this.2⟩] at c;cases c
theorem AI.off{i d:Nat}{o:Oper}(h:AI C I kx n κ ρ0 N0 Ms ops G s fr listed lr lim W M w a k)(hi:ops[i]?=some o)(hr:i∈Region.ready .any ops listed)(aa:uK o=true/\G6 C.P o.op=true\/gT C I ops i=true)(hd:o.dst=some d)(hc:nC C I ops o lim=true)(N:d<n)(af:jv G ops.toList d=true){X:Int}(ae:(∀t,iQ C I ops=some t->t.jx∈lim->X=kx)/\(∀e∈W,gT C I ops e.1=true->X=kx))(ag:YK I ops X (s.put d .u) (i::lim))(ab:gT C I ops i=true->∀t,iQ C I ops=some t->(i=t.jx->t.jl∉lim)):AI C I X n κ ρ0 N0 Ms ops G (s.put d .u) fr (listed.setIfInBounds i true) lr (i::lim) W M w a (k+1):=by
 have A:=(Array.getElem?_eq_some_iff.1 hi).1;have f:=(mem_ready.1 hr).1;have O:i∉lim:=λhc=>by rw[(h.ll i hc).2] at f;cases f
 have L:=(rP hc hd).1;refine⟨h.reg.put af,h.SQ,h.inv,by simp[h.sz],λj c=>?_,λj c=>?_,λj c=>?_,ag,λj c hl H E e z p=>?_,List.pairwise_cons.2 ⟨λj c oi H J g2=>?_,h.dd⟩,λe z=>List.mem_cons_of_mem _ (h.wl e z),?_,?_⟩
 ·by_cases e:i=j
  ·subst e;refine⟨λg=>?_,λg=>?_⟩;·rw[((h.rl i c).1 g).1] at f;cases f
   ·obtain⟨b,p⟩:=g.2 List.mem_cons_self;exact absurd (h.wl _ p) O
  ·rw[getD_set_ne true e,h.rl j c];simp[Ne.symm e]
 ·rcases List.mem_cons.1 c with rfl|c;·exact⟨A,by simp[h.sz,A]⟩
  ·obtain⟨h1,h2⟩:=h.ll j c;have:i≠j:=λe=>O (e▸c);exact⟨h1,by rw[getD_set_ne true this];exact h2⟩
 ·rcases List.mem_cons.1 c with rfl|c;·exact⟨o,d,hi,aa,hd,N,λv y=>by rw[Sg.bS] at y;have:lk ((0,d,.u)::(s.T++s.B)) 0 d=some v:=y;rw[jf] at this;exact (Option.some.inj this).symm⟩
  ·obtain⟨H,dj,J,g2,g4,g5,g6⟩:=h.uk j c;exact⟨H,dj,J,g2,g4,g5,λv y=>g6 v (by rwa [lu (λe=>oH L j c H J (by rw[g4,e]))] at y)⟩
 ·rcases List.mem_cons.1 c with rfl|c
  ·rw[hi] at E;cases E;obtain⟨_,o',Q,K⟩:=mem_ready.1 hr;rw[hi] at Q;cases Q;have x:=K e z p
   have R:e.on<ops.size:=by
    rcases Nat.lt_or_ge e.on listed.size with h'|h';·rw[<-h.sz];exact h'
    ·simp[Array.getElem?_eq_none h'] at x
   have D:e.on≠j:=λF=>by rw[F,getD_eq (by rw[h.sz];exact A) false true,f] at x;cases x
   refine⟨R,by rw[getD_set_ne true (Ne.symm D)];rw[getD_eq (by rw[h.sz];exact R) true false];exact x,λr=>⟨D,λt ht kY F=>?_⟩⟩;rcases List.mem_cons.1 r with r|r;·exact D r
   ·exact ab hl t ht kY (F▸r)
  ·obtain⟨Y,S,U⟩:=h.ed j c hl H E e z p;refine⟨Y,?_,λr=>?_⟩
   ·by_cases F:i=e.on;·rw[F];simp[h.sz,Y]
    ·rw[getD_set_ne true F];exact S
   ·rcases List.mem_cons.1 r with r|r;·rw[r] at S;rw[S] at f;cases f
    ·exact U r
 ·rw[hi] at J;cases J;rw[hd];exact λe=>oH L j c H g2 e.symm
 ·have h1:=h.un;unfold iZ at h1 |-;rw[List.filter_cons];split;·simp only[List.length_cons];omega
  ·omega
 ·obtain⟨h0,ρ,O1,O2,Y,S,U,q4,q5,q6,q7,q8,l6,q9,lG⟩:=h.ss;refine⟨h0,ρ,O1,O2,Y,S,⟨U.gm,λq v hq=>?_,λm o v y=>?_⟩,q4,q5,q6,λe z=>?_,q8,l6,q9,lG⟩
  ·rcases kN hq with ⟨_,rfl,rfl⟩|⟨_,hq⟩;·exact⟨a.tmps[q]'(by rw[h0.size];exact N),sm,.u⟩
   ·exact U.tm q v hq
  ·have y:lk (s.T++s.B) (m+1) o=some v:=by have:lk ((0,d,SV.u)::(s.T++s.B)) (m+1) o=some v:=y;rwa [bX sm] at this
   exact U.cl m o v y
  ·have p:=q7 e z;obtain⟨o',d',T,l,v,f1,f2,f3,Z,f5⟩:=p.ex;refine⟨⟨o',d',T,l,v,f1,f2,f3,?_,f5⟩,p.mem,p.out,p.new,p.lt,p.own⟩;rcases Z with Z|⟨t,r1,r2,V⟩;·exact .inl Z
   ·have hg:gT C I ops e.1=true:=by unfold gT;rw[r1];rcases V with ⟨V,_⟩|⟨V,_⟩<;>simp[V]
    rw[ae.2 e z hg];exact .inr ⟨t,r1,r2,V⟩
theorem aCZ{a m:Nat}{o:Oper}(h:acQ C a s o=some m):a<=m/\∃t k,bq s.Th m=some (.bx t k):=by
 unfold acQ at h;split at h
 ·split at h
  ·split at h;·rename_i b _ _ _ h1 h2;cases h;exact⟨by simpa using h1,_,_,h2⟩
   ·cases h
  ·cases h
 ·cases h
theorem iK.like(h:iK N0 w w')(hs:Sat M w)(h1:∀b∈O,b<N0)(h2:∀b j v,M b j=some v->b<N0)(c:∀b∈O,b<w.heap.size):Like M O w w':=by
 refine⟨λb j v e=>?_,λb a=>h.2 b (c b a) (h1 b a)⟩
 have a:b<w.heap.size:=by
  rcases Nat.lt_or_ge b w.heap.size with h|h;·exact h
  ·rw[hs.kE h] at e;cases e
 simpa [World.cell?,h.2 b a (h2 b j v e)] using hs b j v e
end
end Go.R
namespace Go.R
open Go.RowKit Go.Dc
section
variable {β:Type}{C:Cf}{T:FuncId->Option (aN C.τ.S)}{I:FuncId->Option (aL C.τ.S)}{s s':Sg C.τ.S}{G G' p:List (Nat×Bool)}{M M':Mem}{ρ ρ' ρ0:List Loc}{H R:Heap C.τ.S}{w w':World}{a a':Act}{O O' O1 O2 On:List Nat}{y:β}{n nx N0 nz k:Nat}{κ:Ctx C.τ}{wr xo fr:Bool}{ops:Array Oper}{X XO OX ZO AO XB lim Bs:List Nat}{CL:List (Nat×Nat×Nat)}{kx:Int}{Ms:Mem}{W:List (Nat×Nat)}{listed lr:Array Bool}{XF:Nat->List Nat}
theorem EC{o:Oper}{v:Value}{Os:List Nat}(q:∀e∈W,e.1∈lim)(p:nC C I ops o lim=true)(h:∀e∈W,G8 C I ops kx κ M w a Os N0 e.1 e.2):∀e∈W,G8 C I ops kx κ M w (a.put o.dst v) Os N0 e.1 e.2:=by intro e g;have b:=h e g;obtain⟨i,d,t,l,r,c,f,k,m,n⟩:=b.ex;refine⟨⟨i,d,t,l,r,c,f,?_,m,n⟩,b.mem,b.out,b.new,b.lt,b.own⟩;rw[fT λj=>oH (rP p j).1 e.1 (q e g) i c f];exact k
theorem AI.pure{i:Nat}{o:Oper}{v:Value}{b:Env C.τ.S}(c:AI C I kx n κ ρ0 N0 Ms ops G s fr listed lr lim W M w a k)(hi:ops[i]?=some o)(f:i∉lim)(g:i∈Region.ready .any ops lr)(l:nC C I ops o lim=true)(d:eG (C:=C) ops.toList G' ⟨s.B,b,s.Bh,s.Th,s.nx⟩)(q:∀t,o.dst≠some t->lk (b++s.B) 0 t=lk (s.T++s.B) 0 t)(j:jk C I kx n κ ρ0 N0 s.nx Ms ops G' ⟨s.B,b,s.Bh,s.Th,s.nx⟩ fr W M w (a.put o.dst v)):AI C I kx n κ ρ0 N0 Ms ops G' ⟨s.B,b,s.Bh,s.Th,s.nx⟩ fr (listed.setIfInBounds i true) (lr.setIfInBounds i true) lim W M w (a.put o.dst v) k:=c.next (s1:=s) hi f g (List.Sublist.refl _) (λ_ h=>h) (λ_ h _=>h) (λi h1 h2=>absurd h1 h2) (λe m=> .inl (c.wl e m)) c.uk c.yk l d rfl (λt p=>by rw[Sg.bS,Sg.bS];exact q t p) j
theorem aDa{ρr:List Loc}{o:Oper}{i:Nat}{Q:Exit->Act->World->Prop}{K:List (Nat×Bool)->Sg C.τ.S->Option β}{Kc:Act->World->Prop}(hT:∀f D,T f=some D->FZ C.P C.τ f D)(hI:∀f i,I f=some i->aF C f i)(h:ac1 C T I n XB ops.toList o G s K=some y)(E:Ez s.Th XB=true)(hN:∀ρ,Names ρ0 ρ->Names ρr ρ)(hl:∀m∈XB,∃l,ρr[m]?=some l)(aa:Ms.le M)(hi:ops[i]?=some o)(hR:eG (C:=C) ops.toList G s)(hs:SS C n κ ρ0 G s M w a)(k:∀V s' M' w' O,K V s'=some y->eG (C:=C) ops.toList V s'->s'.B=s.B->s'.Bh=s.Bh->(∀t,o.dst≠some t->s'.lk 0 t=s.lk 0 t)->SS C n κ ρ0 V s' M' w' O->Kc O w'):wpOp C.P ops Q i (λO w'=>fJ (blk ρr XB) Ms w w'/\Kc O w') a w:=by
 unfold wpOp;simp only[hi];unfold ac1 at h;split at h
 ·rename_i hg;have r:Region.wanted o (yielded ops a.tmps)=true:=by simp[Region.wanted,hg]
  rw[if_pos r];refine .inl ?_;obtain⟨h0,ρ,O1,O2,hn,Z,he,f1,f2,d⟩:=hs;obtain⟨Oq,f4,f5⟩:=f1.perm (uJ XB s.Th);obtain⟨W,A,X,f7,rfl⟩:=f4.split;have d:=(d.perm f5).perm (List.perm_append_comm:(W++A).Perm (A++W));have ag:=O7 (n:=n) (κ:=⟨w,A,M⟩) (ρ0:=ρ) (G:=G) hT hI h;obtain⟨dst,op,ty,pos,aM,gd⟩:=o
  have af:SS C n ⟨w,A,M⟩ ρ G (s.asB XB) M w a:=⟨h0,ρ,A,W++O2,Names.rfl,Z,by
    show RE C.τ M ρ G (pG XB s.Th++(jq XB s.Th++s.Bh)) w a (s.T++s.B);refine he.perm λq hq=>?_;rw[<-List.append_assoc] at hq
    exact (((uJ XB s.Th).trans List.perm_append_comm).append_right _).mem_iff.2 hq,f7,X.app f2,⟨d.tK (by first|exact λ_ h=>h|exact λ_ h=>List.mem_append_left _ h|simp),Frame.refl _ _,d.sat,Mem.le.rfl,λ_ _ _ e=> .inl e,by rw[<-List.append_assoc];exact d.nodup,λb g=>⟨(d.own b (List.mem_append_left _ g)).1,.inl g⟩,λb g=>by
     rcases List.mem_append.1 g with g|g;·exact (d.own b (List.mem_append_right _ g)).1
     ·exact d.red b g⟩⟩
  refine ag _ _ M w a dst ty pos aM gd af λv s' M' w' x N On gB u Y U g2 g3 g4 g5 z g7=>?_;have ko:s'.Bh=jq XB s.Th++s.Bh:=Y.Bh;rw[ko] at g5 g3;obtain⟨Oa,Ob,q1,q2,rfl⟩:=g5.split;obtain⟨_,R⟩:=RH.qO U X q1;obtain⟨_,e2⟩:=RH.qO U f2 q2;subst R e2;refine⟨⟨z.frame.size,λb g p=>?_,λb j v e _=>z.sat b j v (z.le b j v (aa b j v e))⟩,?_⟩;·obtain⟨m,hm,e⟩:=List.mem_filterMap.1 g;obtain⟨l,F⟩:=hl m hm;rw[F] at e;simp at e;subst e;obtain⟨T,k,H⟩:=WK E m hm;obtain⟨o',ho,ae⟩:=X.look (QX hm rfl H);cases ho with|bx R _ _ _=>rw[hN ρ hn _ _ F] at R;cases R;have hx:=ae l.b sm;refine z.frame.block l.b p λhc=>?_;have J:=d.nodup;rw[List.append_assoc] at J;exact (List.nodup_append.1 J).2.2 l.b hc l.b (List.mem_append_left _ hx) rfl
  ·have L:RE C.τ M' N G ((s'.Th++jq XB s.Th)++s.Bh) w' a (s'.T++s'.B):=by rw[List.append_assoc];exact g3
   have c:Keep s (s.TS s' XB):=⟨Y.B,rfl,λt=>Y.tm t⟩;simp only at u;split at u;·exact k G _ M' w' _ u (hR.keep c) c.B c.Bh (λt _=>c.tm t) ⟨h0,N,_,O2,hn.trans U,g2,L,g4.app q1,q2,d.back z⟩
   ·split at u;·rename_i v' p ab;exact k G _ M' w' _ u ((hR.keep c).put ab) c.B c.Bh (λt ht=>(lu ht).trans (c.tm t)) (SS.put (s:=s.TS s' XB) h0 (hn.trans U) g2 L (g4.app q1) q2 (d.back z) (by simpa [Nat.blt_eq] using p) (g7 v' rfl))
    ·cases u
 ·cases h
theorem SS.Jz{κ:Ctx C.τ}(h:SS C n κ ρ0 G s M w a):nX C.τ w:=let ⟨_,_,_,_,_,_,_,_,_,h⟩:=h;h.gt
def uD(τ:Tb):Mem:=λb j=>match τ.gm b with|some l=>l[j]? |none=>none
theorem awE{τ:Tb}(h:GM τ M):(uD τ).le M:=λb j v e=>by
 unfold uD at e
 split at e
 ·rename_i l a;exact h b l a j v e
 ·cases e
theorem aiS{τ:Tb}(h:nX τ w):Sat (uD τ) w:=λb j v e=>by
 unfold uD at e
 split at e
 ·rename_i l a
  obtain⟨_,T,fz,h1⟩:=h.1 b l a
  simp[World.cell?,h1,e]
 ·cases e
theorem awD{τ:Tb}:GM τ (uD τ):=λg l a j v e=>by unfold uD;rw[a];exact e
theorem acD{S:Nat->Type}{a:SV S->SV S}{b c:Nat}:∀{Γ:Env S},lk (Γ.map λq=>(q.1,q.2.1,a q.2.2)) b c=(lk Γ b c).map a
 |[]=>rfl
 |q::r=>by
  simp only[List.map_cons,lk]
  split
  ·split
   ·rfl
   ·exact acD
  ·exact acD
theorem aoi{t:Nat}:lk (s.vo.T++s.vo.B) 0 t=(lk (s.T++s.B) 0 t).map fm:=by show lk ((s.T.map _)++(s.B.map _)) 0 t=_;rw[<-List.map_append,acD]
theorem RG.mf{τ:Tb}{v:SV τ.S}{x:Value}(d:mf v=true)(h:RG τ M ρ G v x):RG τ (uD τ) ρ G v x:=by
 cases h with
 |v h=>cases h with
  |i=>exact .v .i
  |b=>exact .v .b
  |st=>exact .v .st
  |nl=>exact .v .nl
  |o h=>exact .v (.o h)
  |a h c=>exact .v (.a h c)
  |r h=>exact .v (.r h)
  |e h=>exact .v (.e h)
  |m h=>exact .v (.m h)
  |p h c=>exact .v (.p h c)
  |_=>cases d
 |u=>exact .u
 |_=>cases d
theorem RG.fmv{τ:Tb}{v:SV τ.S}{x:Value}(h:RG τ M ρ G v x):RG τ (uD τ) ρ G (fm v) x:=by
 unfold fm;split
 ·split;·rename_i a;cases h with|v h=>cases h|g h1 h2 b=>exact .g h1 (λe=>(h2 e).mf a) b
  ·exact .u
 ·split;·rename_i a;exact h.mf a
  ·exact .u
theorem RE.vo(h:RE C.τ M ρ G H w a (s.T++s.B)):RE C.τ (uD C.τ) ρ G (s.vo.Th++s.vo.Bh) w a (s.vo.T++s.vo.B):=
 ⟨awD,λt v b=>by
  rw[aoi] at b
  cases c:lk (s.T++s.B) 0 t with
  |none=>rw[c] at b;cases b
  |some u=>
   rw[c] at b
   cases b
   obtain⟨x,h1,h2⟩:=h.tm t u c
   exact⟨x,h1,h2.fmv⟩,λm o v _ T k d=>by cases d⟩
theorem eG.vo{l:List Oper}(h:eG (C:=C) l G s):eG (C:=C) l G s.vo:=λj b c=>by
 obtain⟨o,d,h1,h2,a⟩:=h j b c
 refine⟨o,d,h1,h2,?_⟩
 simp only[Sg.bS] at a |-
 rw[aoi]
 rcases a with a|⟨q,a⟩
 ·rw[a];exact .inl rfl
 ·rw[a];exact .inr ⟨q,rfl⟩
theorem SB{t:Nat}:∀{Γ:Env C.τ.S},lk (iY s Γ) 0 t=(lk Γ 0 t).map (fz s)
 |[]=>rfl
 |(a,b,v)::r=>by
  cases a with
  |zero=>
   by_cases e:t=b
   ·subst e;show lk ((0,t,fz s v)::iY s r) 0 t=_;rw[jf,jf];rfl
   ·have c:¬((0,t)=(0,b)):=λh=>e (Prod.mk.inj h).2
    show lk ((0,b,fz s v)::iY s r) 0 t=_
    rw[bX c,bX c];exact SB
  |succ m=>
   have c:¬((0,t)=(m+1,b)):=λh=>by simp at h
   show lk ((m+1,b,v)::iY s r) 0 t=_
   rw[bX c,bX c];exact SB
theorem acH{m o:Nat}:∀{Γ:Env C.τ.S},lk (iY s Γ) (m+1) o=lk Γ (m+1) o
 |[]=>rfl
 |(a,b,v)::r=>by
  cases a with
  |zero=>
   have c:¬((m+1,o)=(0,b)):=λh=>by simp at h
   show lk ((0,b,fz s v)::iY s r) (m+1) o=_
   rw[bX c,bX c];exact acH
  |succ d=>
   show lk ((d+1,b,v)::iY s r) (m+1) o=_
   by_cases e:(m+1,o)=(d+1,b)
   ·cases e;rw[jf,jf]
   ·rw[bX e,bX e];exact acH
theorem UE:∀{Γ c:Env C.τ.S},iY s Γ++iY s c=iY s (Γ++c)|[],_=>rfl|(a,b,v)::r,_=>by cases a<;>simp only[iY,List.cons_append,UE]
theorem RG.fz1{d:List (Nat×Bool)}(h:Rd C s G p M ρ H w a O){v:SV C.τ.S}{x:Value}(b:RG C.τ M ρ d v x):RG C.τ M ρ d (fz s v) x:=by cases b with|v b=>exact .v (BH h b)|c b=>exact .c b|t h1 h2=>exact .t h1 h2|g h0 h1 h2=>exact .g h0 h1 h2|u=>exact .u
theorem RE.uo(e:Rd C s G p M ρ H w a O)(h:RE C.τ M ρ G (jq XB s.Th++[]) w a (s.T++s.B)):RE C.τ M ρ G ((s.uo XB).Th++(s.uo XB).Bh) w a ((s.uo XB).T++(s.uo XB).B):=by
 refine⟨h.gm,λt v b=>?_,λm o v b T k d ho=>?_⟩;·have b:lk (iY s s.T++iY s s.B) 0 t=some v:=b;rw[UE,SB] at b;cases c:lk (s.T++s.B) 0 t with|none=>rw[c] at b;cases b|some u=>rw[c] at b;cases b;obtain⟨x,h1,h2⟩:=h.tm t u c;exact⟨x,h1,h2.fz1 e⟩
 ·have b:lk (iY s s.T++iY s s.B) (m+1) o=some v:=b;rw[UE,acH] at b;exact h.cl m o v b T k d ho
theorem eG.uo{l:List Oper}(h:eG (C:=C) l G s):eG (C:=C) l G (s.uo XB):=λj b c=>by
 obtain⟨o,d,h1,h2,a⟩:=h j b c
 refine⟨o,d,h1,h2,?_⟩
 simp only[Sg.bS] at a |-
 show lk (iY s s.T++iY s s.B) 0 d=_\/∃q,lk (iY s s.T++iY s s.B) 0 d=_
 rw[UE,SB]
 rcases a with a|⟨q,a⟩
 ·rw[a];exact .inl rfl
 ·rw[a];exact .inr ⟨q,rfl⟩
theorem aIV{o:Oper}{d:Nat}(h:thw o=some d):o.guard=none/\o.dst=some d:=by unfold thw at h;split at h<;>first|exact⟨by assumption,h⟩|cases h
theorem awe{o:Oper}(h:Pv C s o=true):o.guard=none:=by
 unfold Pv at h;split at h;·assumption
 ·cases h
theorem ape{ls:Array Bool}:∀{l:List Nat}{i:Nat},Ti C s ops ls l=some i->i∈l/\(match ops[i]? with|some o=>Pv C s o&&(!nL o.op&&Region.free .any ops ls i)|none=>false)=true
 |[],_,h=>by cases h
 |j::r,i,h=>by
  unfold Ti at h
  split at h
  ·rename_i h1;cases h;exact⟨List.mem_cons_self,h1⟩
  ·obtain⟨h1,h2⟩:=ape h;exact⟨List.mem_cons_of_mem _ h1,h2⟩
theorem ac0{ρr:List Loc}(g:Names ρr ρ)(y:RE C.τ M ρ G (s.Th++s.Bh) w a (s.T++s.B)):∀{n:List (Nat×Nat×Nat)},CZ C s n=true->∀q∈n,∀l v,ρr[q.1]?=some l->Oy ρr q.2.2=some v->w.cell? ⟨l.b,q.2.1,none⟩=some v
 |[],_,q,f=>by cases f
 |I::r,h,q,f=>by
  unfold CZ at h
  split at h
  ·rename_i u T k z E
   split at h
   ·rename_i m e
    rcases List.mem_cons.1 f with rfl|f
    ·intro l v A d
     rw[Sg.bS] at z
     obtain⟨H,x,p,D,c⟩:=y.cl _ _ _ z T k (List.mem_append_left _ (pz E)) (by simpa [Nat.blt_eq] using m)
     rw[g _ _ A] at p;cases p
     rw[D]
     congr 1
     split at e
     ·rename_i i
      rw[i] at d
      cases d
      rcases c with c|c
      ·cases c
      ·cases c;rfl
     ·rename_i j F i
      have e:=Nat.eq_of_beq_eq_true e
      subst e
      rw[i] at d
      have d:(ρr[j]?).map Loc.sl=some v:=d
      cases h0:ρr[j]? with
      |none=>rw[h0] at d;cases d
      |some l0=>
       rw[h0] at d;cases d
       rcases c with c|c
       ·cases c
       ·cases c with
        |o t=>rw[g _ _ h0] at t;cases t;rfl
     ·cases e
    ·exact ac0 g y h q f
   ·cases h
  ·cases h
theorem aC9{ρr:List Loc}{κ:Ctx C.τ}{n:Nat}{w0:World}(h:CZ C s CL=true)(hs:SS C n κ ρ G s M w a)(d:Names ρr ρ):jX ρr CL w0 w:=by obtain⟨_,f,_,_,h1,_,h2,_⟩:=hs;exact λq e l v b c _=>ac0 (d.trans h1) h2 h q e l v b c
theorem aCN{i:Nat}(h:SC C I ops CL i s=true)(hi:eY i (xI C I ops)=true):CZ C s CL=true:=by unfold SC at h;rw[hi] at h;exact h
theorem aB1{o:Oper}(h:J5 o=true):∃t p d,o.op= .load t (.tmp p)/\o.guard=none/\o.dst=some d:=by
 unfold J5 at h;split at h;·rename_i h1 h2 a;exact⟨_,_,_,h1,h2,a⟩
 ·cases h
theorem aoe{m o k:Nat}:∀{a:List (Nat×Nat×Nat)},Sy m o a=some k->(m,o,k)∈a
 |[],h=>by cases h
 |q::r,h=>by
  unfold Sy at h
  split at h
  ·rename_i h1 h2
   have h1:=Nat.eq_of_beq_eq_true h1
   have h2:=Nat.eq_of_beq_eq_true h2
   cases h
   subst h1 h2
   exact List.mem_cons_self
  ·exact List.mem_cons_of_mem _ (aoe h)
theorem aCF{o:Oper}{k:Nat}(h:Sv C s CL o=some k):∃t p d m q,o.op= .load t (.tmp p)/\o.guard=none/\o.dst=some d/\lD C.P t=true/\s.lk 0 p=some (.r m q)/\(m,q,k)∈CL:=by
 unfold Sv at h;split at h
 ·rename_i t p h1 h2;obtain⟨i,g,d,f,a,b⟩:=aB1 h1;split at h;·rename_i m q _ c e;exact⟨t,p,d,m,q,h2,a,b,c,e,aoe h⟩
  ·cases h
 ·cases h
theorem ac6{ls:Array Bool}:∀{l:List Nat}{i k:Nat},La C I s ops CL ls l=some (i,k)->i∈l/\∃o,ops[i]?=some o/\Sv C s CL o=some k/\Region.free .any ops ls i=true/\NH C I ops (xI C I ops) ls i=true
 |[],_,_,h=>by cases h
 |j::r,i,k,h=>by
  unfold La at h
  split at h
  ·rename_i o ho
   split at h
   ·rename_i h1 h2
    cases h
    simp only[Bool.and_eq_true] at h2
    exact⟨List.mem_cons_self,o,ho,h1,h2.1,h2.2⟩
   ·obtain⟨h1,h2⟩:=ac6 h;exact⟨List.mem_cons_of_mem _ h1,h2⟩
  ·obtain⟨h1,h2⟩:=ac6 h;exact⟨List.mem_cons_of_mem _ h1,h2⟩
theorem any_ok(hT:∀f bn,T f=some bn->FZ C.P C.τ f bn)(hI:∀f i,I f=some i->aF C f i)(aa:Region.noSelect ops=true)(hX:∀m∈X,∃l,ρ0[m]?=some l)(bz:∀z,∀m∈XF z,∃l,ρ0[m]?=some l)(cb:∀q∈CL,(∃l,ρ0[q.1]?=some l)/\∃v,Oy ρ0 q.2.2=some v)(br:∀j o,eY j AO=true->ops[j]?=some o->jr C I ops.toList o=true)(bt:∀z,∀b∈blk ρ0 (XF z),b<N0)(bw:∀b j v,Ms b j=some v->b<N0){K:Sg C.τ.S->Option β}{Kc:Act->World->Prop}{B0:Env C.τ.S}{U8:Heap C.τ.S}(hK:∀s',K s'=some y->s'.B=B0->s'.Bh=U8->KU C.τ n κ ρ0 Kc s'.nx (s'.T++s'.B) s'.Th s'.Bh):∀(f:Nat) (listed:Array Bool) (lim:List Nat) (fr:Bool) (G:List (Nat×Bool)) (s:Sg C.τ.S) (lr:Array Bool) (W:List (Nat×Nat)) (M:Mem) (w:World) (a:Act) (k:Nat) (kx:Int),iE C T I n wr ops X XO ZO AO XF CL f listed lim fr G s K=some y->s.B=B0->s.Bh=U8->AI C I kx n κ ρ0 N0 Ms ops G s fr listed lr lim W M w a k->xX C.P ops (λe a w=>e= .normal/\Kc a w) (Dq C I ops X XO ZO AO XF CL ρ0 N0 Ms) (f+k) lr a w:=by
 intro f
 induction f with
 |zero=>
  intro listed lim fr G s lr W M w a k kx h eB oI u;unfold iE at h;split at h;·rename_i hr;exact afF (λs' O e2 e3=>hK s' O (e2.trans eB) (e3.trans oI)) h hr k 0 lr W w a u
  ·cases h
 |succ f ih=>
  intro listed lim fr G s lr W M w a k kx h eB oI u;unfold iE at h;simp only[awp] at h;split at h;·rename_i hr;exact afF (λs' O e2 e3=>hK s' O (e2.trans eB) (e3.trans oI)) h hr k (f+1) lr W w a u
  ·split at h
   ·rename_i i hp;obtain⟨D,o,ho,bN⟩:=ac5 hp;rw[ho] at h;simp only at h;split at h
    ·rename_i d hd;split at h
     ·rename_i F U ag;have U:d<n:=by simpa [Nat.blt_eq] using U
      have b5:∀t,iQ C I ops=some t->t.jx∈lim->d≠t.y:=(rP F hd).2;split at h
      ·rename_i hl;split at h
       ·rename_i hz;rw[hl,Bool.or_false] at bN;have N:∀t,iQ C I ops=some t->i≠t.jx/\i≠t.jl:=λt ht=>by unfold gT at hl;rw[ht] at hl;exact⟨λe=>by simp[e] at hl,λe=>by simp[e] at hl⟩
        have:=ih _ _ _ _ _ lr W M w a (k+1) kx h eB oI (u.off ho D (.inl ⟨bN,hz⟩) hd F U ag ⟨λ_ _ _=>rfl,λ_ _ _=>rfl⟩ (λt ht=>⟨λL=>?_,λL=>?_⟩) λe=>by rw[hl] at e;cases e);·rwa [show f+1+k=f+(k+1) by omega]
        ·have L:=(List.mem_cons.1 L).resolve_left (Ne.symm (N t ht).1);obtain⟨y1,y2,y3,y4⟩:=(u.yk t ht).1 L;exact⟨List.mem_cons_of_mem _ y1,by rw[lu (λe=>b5 t ht L (Option.some.inj e))];exact y2,y3,y4⟩
        ·have L:=(List.mem_cons.1 L).resolve_left (Ne.symm (N t ht).2);exact List.mem_cons_of_mem _ ((u.yk t ht).2 L)
       ·cases h
      ·rename_i hl;split at h
       ·rename_i t ht;obtain⟨t',J,cj⟩:=Gc hl;rw[ht] at J;cases J;have co:=(Kv ht).ne;have bm:=(mem_ready.1 D).1;have cp:i∉lim:=λF=>by rw[(u.ll i F).2] at bm;cases bm
        split at h
        ·rename_i A;have A:=Nat.eq_of_beq_eq_true A;split at h
         ·rename_i kk bb hy a2;have bb:=mG.1 bb;obtain⟨a4,h⟩:=jZ h;have a4:=of_decide_eq_true a4;have kY:t.jx∉lim:=A▸cp;have aq:t.jl∉lim:=λF=>kY ((u.yk t ht).2 F);have a2:d≠t.y:=λe=>by rw[e,Nat.beq_refl] at a2;cases a2
          have:=ih _ _ _ _ _ lr W M w a (k+1) kk h eB oI (u.off ho D (.inr hl) hd F U ag ⟨λt' J L=>by rw[ht] at J;cases J;exact absurd L kY,λe he hg=>?_⟩ (λt' J=>?_) λ_ t' J _=>by rw[ht] at J;cases J;exact aq);·rwa [show f+1+k=f+(k+1) by omega]
          ·obtain⟨t',J,q⟩:=Gc hg;rw[ht] at J;cases J;have:=u.wl e he;rcases q with q|q;·rw[q] at this;exact absurd this kY
           ·rw[q] at this;exact absurd this aq
          ·rw[ht] at J;cases J;refine⟨λ_=>⟨List.mem_cons_of_mem _ bb,by rw[lu (λe=>a2 (Option.some.inj e))];exact hy,a4.1,a4.2⟩,λ_=>?_⟩;rw[A];exact List.mem_cons_self
         ·cases h
        ·rename_i A;have A:i=t.jl:=cj.resolve_left λe=>by rw[e,Nat.beq_refl] at A;cases A
         split at h
         ·rename_i kY;have kY:=mG.1 kY;have:=ih _ _ _ _ _ lr W M w a (k+1) kx h eB oI (u.off ho D (.inr hl) hd F U ag ⟨λ_ _ _=>rfl,λ_ _ _=>rfl⟩ (λt' J=>?_) λ_ t' J e=>by rw[ht] at J;cases J;exact absurd (e.symm.trans A) co);·rwa [show f+1+k=f+(k+1) by omega]
          ·rw[ht] at J;cases J;refine⟨λ_=>?_,λ_=>List.mem_cons_of_mem _ kY⟩;obtain⟨y1,y2,y3,y4⟩:=(u.yk t ht).1 kY;exact⟨List.mem_cons_of_mem _ y1,by rw[lu (λe=>b5 t ht kY (Option.some.inj e))];exact y2,y3,y4⟩
         ·cases h
       ·cases h
     ·cases h
    ·cases h
   ·split at h
    ·rename_i i hr;split at h
     ·rename_i o ho;induction k using Nat.strongRecOn generalizing lr W w a with|ind k cy=>
      refine show xX C.P ops _ _ (f+1+k) lr a w from ?_;rw[show f+1+k=(f+k)+1 by omega];refine⟨λh0=>?_,λz hz=>?_⟩;·have hu:iZ lim W=[]:=u.aqK h0;have:=u.back hu (i:=i) (by rw[hr];exact List.mem_singleton.2 rfl);rw[h0] at this;cases this
      ·by_cases hl:z∈lim;·refine u.bag hz hl λW' w' a' k' hk ca=>?_;have:=cy k' om _ _ _ _ ca;rwa [show f+k=f+1+k' by omega]
       ·have bi:=u.sym hz hl;rw[hr] at bi;simp only[List.mem_singleton] at bi;subst bi
        obtain⟨af,s1,W',cE,M,g1,g2,g3,g4,g5,g6,g7,g8,g9,b7,bo,_,b8,b9⟩:=Jp h u.ss u.reg u.uk u.yw u.dd (λj L hw=>by
         have hw:=hw z rfl;by_cases aq:lr.getD j false=false;·exact absurd hz (aq1 u.inv aq hw)
         ·have b0:=(u.ll j L).1;have:lr.getD j true=true:=by rw[getD_eq (by rw[u.inv.size];exact b0) true false];simpa using aq
          exact ((u.rl j b0).1 this).2 L)
        split at g1
        ·rename_i fu;obtain⟨h0,ρ,O1,O2,q1,q2,q3,q4,q5,Z,q7,q8,l6,q9,pI,_⟩:=g2;have Zu:∀e∈W',e.1∈af:=λe he=>(bo e he).resolve_right λh=>h (u.wl e (g8 e he))
         have ce:YK I ops kx s1 af:=λt ht=>by
          obtain⟨y0,y5⟩:=u.yk t ht;have gj:∀{j},j=t.jb\/j=t.jx->j∈lim->j∈af:=λ{j} L hm=>b8 z rfl j hm (by unfold y8;rw[ht];rcases L with rfl|rfl<;>simp);refine⟨λL=>?_,λL=>gj (.inr rfl) (y5 (g7.subset L))⟩;obtain⟨y1,y2,y3,y4⟩:=y0 (g7.subset L);refine⟨gj (.inl rfl) y1,?_,y3,y4⟩;rw[b9 t.y λj L o ho e=>?_];·exact y2
          ·obtain⟨oj,dj,j1,_,j4,_,j6⟩:=u.uk j L;rw[ho] at j1;cases j1;rw[e] at j4;cases j4;cases j6 _ y2
         have a6:SS C n ⟨w,O1,M⟩ ρ G s1 M w a:=⟨h0,ρ,O1,O2,Names.rfl,q2,q3,q4,q5,⟨Z.tK (by first|exact λ_ h=>h|exact λ_ h=>List.mem_append_left _ h|simp),Frame.refl _ _,Z.sat,Mem.le.rfl,λ_ _ _ e=> .inl e,Z.nodup,λb hb=>⟨(Z.own b hb).1,.inl hb⟩,Z.red⟩⟩
         have YQ:∀{G' s' M' w' a'},iE C T I n wr ops X XO ZO AO XF CL f (listed.setIfInBounds z true) af false G' s' K=some y->eG (C:=C) ops.toList G' s'->s'.B=s1.B->s'.Bh=s1.Bh->(∀t,o.dst≠some t->s'.lk 0 t=s1.lk 0 t)->SS C n ⟨w,O1,M⟩ ρ G' s' M' w' a'->(∀t,o.dst≠some t->a'.tmps[t]?=a.tmps[t]?)->
           xX C.P ops (λe a w=>e= .normal/\Kc a w) (Dq C I ops X XO ZO AO XF CL ρ0 N0 Ms) (f+k) (lr.setIfInBounds z true) a' w':=λ{G' s' M' w' a'} j1 j2 j3 j4 j5 j6 j7=>
          ih _ _ _ _ _ _ W' M' w' a' k kx j1 (j3.trans (g4.trans eB)) (j4.trans (g5.trans oI)) (u.next ho hl hz g7 g8 g9 b7 bo g6 ce fu j2 (j3.trans g4) j5 (jk.step pI j6.1 q1 q4 q5 Z q7 q8 l6 Zu fu j7 j4 j6))
         split at g1
         ·rename_i bj;split at g1
          ·rename_i aE;refine wpOp_mono (λa' w' hh=>?_) (aeT ho (apb (ρr:=ρ0) (Q:=λe a w=>e= .normal/\Kc a w) (Kc:=λa' w'=>∃G' s' M',(match SC C I ops CL z s' with|true=>iE C T I n wr ops X XO ZO AO XF CL f (listed.setIfInBounds z true) af false G' s' K|false=>none)=some y/\eG (C:=C) ops.toList G' s'/\s'.B=s1.B/\s'.Bh=s1.Bh/\(∀t,o.dst≠some t->s'.lk 0 t=s1.lk 0 t)/\SS C n ⟨w,O1,M⟩ ρ G' s' M' w' a') hT hI g1 (λb6 JV=>q1.trans JV) hX ho g3 a6 λG' s' M' w' a' j1 j2 j3 j4 j5 j6=>⟨G',s',M',j1,j2,j3,j4,j5,j6⟩));obtain⟨j7,hD,G',s',M',j1,j2,j3,j4,j5,j6⟩:=hh;split at j1;·rename_i be;exact⟨⟨λo' ao=>(by rw[ho] at ao;cases ao;exact hD),λF=>(by rw[bj] at F;cases F),λF=>(by rw[aE] at F;cases F),λ_=>j6.Jz,λF=>aC9 (aCN be F) j6 q1⟩,YQ j1 j2 j3 j4 j5 j6 j7⟩
           ·cases j1
          ·rename_i aE;split at g1
           ·rename_i bh an P9;refine wpOp_mono (λa' w' hh=>?_) (aeT ho (aDa (XB:=XF z) (ρr:=ρ0) (Ms:=Ms) (Q:=λe a w=>e= .normal/\Kc a w) (Kc:=λa' w'=>∃G' s' M',iE C T I n wr ops X XO ZO AO XF CL f (listed.setIfInBounds z true) af false G' s' K=some y/\eG (C:=C) ops.toList G' s'/\s'.B=s1.B/\s'.Bh=s1.Bh/\(∀t,o.dst≠some t->s'.lk 0 t=s1.lk 0 t)/\SS C n ⟨w,O1,M⟩ ρ G' s' M' w' a') hT hI g1 an (λb6 JV=>q1.trans JV) (bz z) pI ho g3 a6 λG' s' M' w' a' j1 j2 j3 j4 j5 j6=>⟨G',s',M',j1,j2,j3,j4,j5,j6⟩));obtain⟨j7,hD,G',s',M',j1,j2,j3,j4,j5,j6⟩:=hh;refine⟨⟨λo' ao=>⟨λe=>?_,λe=>?_⟩,λF=>(by rw[bj] at F;cases F),λ_=>hD,λ_=>j6.Jz,λF=>(by rw[F,Bool.true_and] at P9;cases CL with|nil=>exact λq hq=>by cases hq|cons=>cases P9)⟩,YQ j1 j2 j3 j4 j5 j6 j7⟩;·exact absurd e (by rw[br z o' aE ao];simp)
            ·rw[bh,br z o' aE ao] at e;cases e
           ·cases g1
         ·rename_i bj;split at g1
          ·rename_i m hm bh P9;obtain⟨cq,t,kk,be⟩:=aCZ hm;have bH:∀m'∈[m],∃l,ρ[m']?=some l:=λm' aw=>by simp only[List.mem_singleton] at aw;subst aw;obtain⟨o1,h1,_⟩:=q4.look (pz be);cases h1 with|bx e _ _ _=>exact⟨_,e⟩
           refine wpOp_mono (λa' w' hh=>?_) (aeT ho (apb (ρr:=ρ) (X:=[m]) (xo:=true) (Q:=λe a w=>e= .normal/\Kc a w) (Kc:=λa' w'=>∃G' s' M',iE C T I n wr ops X XO ZO AO XF CL f (listed.setIfInBounds z true) af false G' s' K=some y/\eG (C:=C) ops.toList G' s'/\s'.B=s1.B/\s'.Bh=s1.Bh/\(∀t,o.dst≠some t->s'.lk 0 t=s1.lk 0 t)/\SS C n ⟨w,O1,M⟩ ρ G' s' M' w' a') hT hI g1 (λb6 JV=>JV) bH ho g3 a6 λG' s' M' w' a' j1 j2 j3 j4 j5 j6=>⟨G',s',M',j1,j2,j3,j4,j5,j6⟩));obtain⟨j7,⟨bu,cc⟩,G',s',M',j1,j2,j3,j4,j5,j6⟩:=hh;have bv:iK N0 w w':=by have hf:=cc sm;refine⟨hf.1,λb hb cG=>hf.2 b hb λF=>?_⟩;obtain⟨m',aw,e⟩:=List.mem_filterMap.1 F;simp only[List.mem_singleton] at aw;subst aw;obtain⟨l,b1⟩:=bH m' (List.mem_singleton.2 rfl);rw[b1] at e;simp at e;subst e;have:=q9 m' l cq b1;omega
           refine⟨⟨λo' ao=>?_,λ_=>bv,λ_=>bv.toA (bt _) bw,λ_=>j6.Jz,λF=>(by rw[P9] at F;cases F)⟩,YQ j1 j2 j3 j4 j5 j6 j7⟩;rw[ho] at ao;cases ao;refine⟨bu,λF=>(bu ?_).x⟩;rw[bh] at F;simpa using F
          ·cases g1
        ·cases g1
     ·cases h
    ·split at h
     ·rename_i i hp;obtain⟨D,ab⟩:=Tg hp;split at h
      ·rename_i o A;split at h
       ·rename_i fu;obtain⟨hE,H,hw⟩:=UC A ab;have N:i∉lim:=λF=>by obtain⟨o',d',O,_,e4,_⟩:=u.uk i F;rw[A] at O;cases O;exact oH (rP fu e4).1 i F _ A e4
        have R:=u.LP N D;have ap:=u.ss;obtain⟨h0,ρ,O1,O2,q1,q2,q3,q4,q5,Z,q7,q8,l6,q9,pI,lG⟩:=ap;obtain⟨v,G',T',y1,y2,y3,y4,y5⟩:=ac2 h hE u.reg h0 q3 q4 q5 Z.sat;have a9:f+1+k=(f+k)+1:=by omega
        rw[a9];have ax:xX C.P ops (λe a w=>e= .normal/\Kc a w) (Dq C I ops X XO ZO AO XF CL ρ0 N0 Ms) (f+k) (lr.setIfInBounds i true) (a.put o.dst v) w:=ih _ _ _ _ _ _ W M w _ k kx y2 eB oI (u.pure A N R fu y3 y4 ⟨h0.put,ρ,O1,O2,q1,q2,y5 _ q3,q4,q5,Z,EC u.wl fu q7,q8,l6,q9,pI,lG⟩);have bk:∀j,j≠i->j<ops.size->lr.getD j true=false->∃oj,ops[j]?=some oj/\(jr C I ops.toList oj=false\/eY j (ad2 fr ZO)=true\/∃f,lK ops i f j=true):=λj E V hu=>hw j E V (u.tL V hu);have bY:∀j oj,ops[j]?=some oj->j≠i->lr.getD j true=false->(∀e∈oj.after,Region.binds .any e=true->e.on≠i)->o.apart ops oj=true:=λj oj L E hu=>Region.free_spec A H j oj L E (u.tL (Array.getElem?_eq_some_iff.1 L).1 hu)
        cases fr with
        |true=>
         obtain⟨lG,cz,Lb⟩:=lG rfl;refine DZ (Rel:=iK N0) (λ_=>iK.refl) iK.trans (λ_=>⟨λ_ _=>⟨λ_=>dN.refl,λ_=>gJ.refl⟩,λ_=>iK.refl,λ_=>fJ.refl,λh=>h,λ_=>jX.refl⟩) A (Region.noSelect_spec aa) (λc a w h=>by cases h.1) (f+k) lr a w u.inv bY (λj E V hu=>?_) R (y1.imp (λ⟨O,e2⟩=>⟨O,λw' hF=>e2 w' (hF.like Z.sat lG cz λb hb=>Z.lt hb)⟩) id) ax;obtain⟨oj,ho,h1|h1|h1⟩:=bk j E V hu;·exact .inl λw w' hd=>((hd.1 oj ho).1 h1).toN
         ·exact .inl λw w' hd=>hd.2.1 h1
         ·exact .inr h1
        |false=>
         refine DZ (Rel:=dN) (λ_=>dN.refl) dN.trans (λ_=>⟨λ_ _=>⟨λ_=>dN.refl,λ_=>gJ.refl⟩,λ_=>iK.refl,λ_=>fJ.refl,λh=>h,λ_=>jX.refl⟩) A (Region.noSelect_spec aa) (λc a w h=>by cases h.1) (f+k) lr a w u.inv bY (λj E V hu=>?_) R (y1.imp (λ⟨O,e2⟩=>⟨O,λw' hF=>e2 w' (dN.like hF Z.sat λb hb=>Z.lt hb)⟩) id) ax;obtain⟨oj,ho,h1|h1|h1⟩:=bk j E V hu;·exact .inl λw w' hd=>(hd.1 oj ho).1 h1
         ·cases h1
         ·exact .inr h1
       ·cases h
      ·cases h
     ·split at h
      ·rename_i i _ hp;obtain⟨D,ab⟩:=Tg hp;split at h
       ·rename_i o A;split at h
        ·rename_i fu;obtain⟨hE,H,hw⟩:=UC A ab;have N:i∉lim:=λF=>by obtain⟨o',d',O,_,e4,_⟩:=u.uk i F;rw[A] at O;cases O;exact oH (rP fu e4).1 i F _ A e4
         have R:=u.LP N D;have ap:=u.ss;obtain⟨h0,ρ,O1,O2,q1,q2,q3,q4,q5,Z,q7,q8,l6,q9,pI,lG⟩:=ap;obtain⟨_,_,Lb⟩:=lG rfl;have az:∀m∈yb ops AO XF (gq listed lim) i,m∈XF ops.size/\∀z,eY z AO=true->(gq listed lim).getD z true=false->lK ops i 14 z=true\/m∈XF z:=λm hm=>by obtain⟨O,e2⟩:=List.mem_filter.1 hm;refine⟨O,λz hz hl=>?_⟩;have:=List.all_eq_true.1 e2 z (mG.1 hz);rw[hl,Bool.false_or,Bool.or_eq_true] at this;exact this.imp id mG.1
         generalize cF:yb ops AO XF (gq listed lim) i=Y at h az;have cf:∀m∈Y,∃l,ρ0[m]?=some l:=λm hm=>bz _ m (az m hm).1;have bL:∀z,(∀m∈Y,m∈XF z)->∀b∈blk ρ0 Y,b∈blk ρ0 (XF z):=λz hz b hb=>by obtain⟨m,hm,e⟩:=List.mem_filterMap.1 hb;exact List.mem_filterMap.2 ⟨m,hz m hm,e⟩
         obtain⟨Oq,f1,f2⟩:=q4.perm (uJ Y s.Th);obtain⟨OF,Oz,f3,f4,rfl⟩:=f1.split;have a3:RE C.τ M ρ G (jq Y s.Th++[]) w a (s.T++s.B):=q3.perm λq hq=>by rw[List.append_nil] at hq;exact List.mem_append_left _ ((uJ Y s.Th).mem_iff.2 (List.mem_append_left _ hq))
         have a1:=afM q1 f3 cf λq hq=>QW hq;have QB:∀w',fJ (blk ρ0 Y) Ms w w'->Like M (OF++[]) w w':=λw' hF=>by rw[List.append_nil];exact hF.like Z.sat Lb a1 λb hb=>Z.lt (List.mem_append_left _ (f2.mem_iff.2 (List.mem_append_left _ hb)))
         rw[show f+1+k=(f+k)+1 by omega]
         have a5:∀j,j≠i->j<ops.size->lr.getD j true=false->(∀w w',Dq C I ops X XO ZO AO XF CL ρ0 N0 Ms j w w'->fJ (blk ρ0 Y) Ms w w')\/∃f,lK ops i f j=true:=λj E V hu=>by
          by_cases b4:∃f,lK ops i f j=true;·exact .inr b4
          obtain⟨oj,ho,h1|h1|h1⟩:=hw j E V (u.tL V hu);·exact .inl λw w' hd=>((hd.1 oj ho).1 h1).toA
          ·refine .inl λw w' hd=>?_;rcases List.mem_append.1 (mG.1 h1) with h1|h1;·exact (hd.2.1 (mG.2 h1)).toA (λb hb=>bt _ b (bL ops.size (λm hm=>(az m hm).1) b hb)) bw
           ·exact (hd.2.2.1 (mG.2 h1)).sub (bL j λm hm=>((az m hm).2 j (mG.2 h1) (u.tL V hu)).resolve_left λcw=>b4 ⟨_,cw⟩)
          ·exact .inr h1
         split at h
         ·rename_i d ct;obtain⟨hg,hd⟩:=aIV ct;split at h
          ·rename_i U ag;have U:d<n:=by simpa [Nat.blt_eq] using U
           obtain⟨v,y2,y3⟩:=yU (.inl ⟨rfl,rfl⟩) (eG.uo u.reg) h;obtain⟨x,hx,hr⟩:=y3 M ρ _ w a _ (Rd.of (RE.uo (Rd.of (p:=[]) q3 q4 q5 Z.sat λh=>absurd rfl h) a3) f3 .nil Z.sat λh=>absurd rfl h);have ae:Region.wanted o (yielded ops a.tmps)=true:=by simp[Region.wanted,hg]
           refine DZ (v:=x) (Rel:=fJ (blk ρ0 Y) Ms) (λ_=>fJ.refl) fJ.trans (λ_=>⟨λ_ _=>⟨λ_=>dN.refl,λ_=>gJ.refl⟩,λ_=>iK.refl,λ_=>fJ.refl,λh=>h,λ_=>jX.refl⟩) A (Region.noSelect_spec aa) (λc a w h=>by cases h.1) (f+k) lr a w u.inv (λj oj L E hu=>Region.free_spec A H j oj L E (u.tL (Array.getElem?_eq_some_iff.1 L).1 hu)) a5 R (.inl ⟨ae,λw' hF=>?_⟩) (ih _ _ _ _ _ _ W M w _ k kx y2 eB oI (u.pure A N R fu (u.reg.put ag) (λt ht=>bX (λe=>ht (by cases e;exact hd))) ⟨h0.put,ρ,O1,O2,q1,q2,by rw[hd];exact q3.put h0 U hx,q4,q5,Z,EC u.wl fu q7,q8,l6,q9,pI,lG⟩));obtain⟨dst,op,ty,pos,aM,gd⟩:=o;exact hr w' (QB w' hF) _ _ _ _ _
          ·cases h
         ·obtain⟨v,G',T',y1,y2,y3,y4,y5⟩:=ac2 (s:=s.bxs Y) h hE u.reg h0 a3 f3 .nil Z.sat;exact DZ (Rel:=fJ (blk ρ0 Y) Ms) (λ_=>fJ.refl) fJ.trans (λ_=>⟨λ_ _=>⟨λ_=>dN.refl,λ_=>gJ.refl⟩,λ_=>iK.refl,λ_=>fJ.refl,λh=>h,λ_=>jX.refl⟩) A (Region.noSelect_spec aa) (λc a w h=>by cases h.1) (f+k) lr a w u.inv (λj oj L E hu=>Region.free_spec A H j oj L E (u.tL (Array.getElem?_eq_some_iff.1 L).1 hu)) a5 R (y1.imp (λ⟨O,e2⟩=>⟨O,λw' hF=>e2 w' (QB w' hF)⟩) id) (ih _ _ _ _ _ _ W M w _ k kx y2 eB oI (u.pure A N R fu (λj b hb=>y3 j b hb) y4 ⟨h0.put,ρ,O1,O2,q1,q2,y5 _ q3,q4,q5,Z,EC u.wl fu q7,q8,l6,q9,pI,lG⟩))
        ·cases h
       ·cases h
      ·split at h
       ·rename_i i hp an;obtain⟨D,ab⟩:=Tg hp;split at h
        ·rename_i o A;split at h
         ·rename_i fu;obtain⟨hE,H,hw⟩:=UC A ab;have N:i∉lim:=λF=>by obtain⟨o',d',O,_,e4,_⟩:=u.uk i F;rw[A] at O;cases O;exact oH (rP fu e4).1 i F _ A e4
          have R:=u.LP N D;have ap:=u.ss;obtain⟨h0,ρ,O1,O2,q1,q2,q3,q4,q5,Z,q7,q8,l6,q9,pI,lG⟩:=ap;obtain⟨Oq,f1,f2⟩:=q4.perm (uJ X s.Th);obtain⟨OF,Oz,f3,f4,rfl⟩:=f1.split;have bp:=Z.perm f2
          have a3:RE C.τ M ρ G (pG X s.Th++s.Bh) w a (s.T++s.B):=q3.perm λq hq=>by
           rcases List.mem_append.1 hq with hq|hq;·exact List.mem_append_left _ ((uJ X s.Th).mem_iff.2 (List.mem_append_right _ hq))
           ·exact List.mem_append_right _ hq
          obtain⟨v,G',T',y1,y2,y3,y4,y5⟩:=ac2 (s:=s.hid X) h hE u.reg h0 a3 f4 q5 Z.sat;have a1:∀b∈blk ρ0 X,b∈OF/\∀j,M b j=none:=λb hb=>by obtain⟨m,hm,e⟩:=List.mem_filterMap.1 hb;obtain⟨l,b2⟩:=hX m hm;rw[b2] at e;simp at e;subst e;obtain⟨T,k,D⟩:=WK an m hm;obtain⟨o',ho,cr⟩:=f3.look (QX hm rfl D);cases ho with|bx O _ _ e4=>rw[q1 _ _ b2] at O;cases O;exact⟨cr _ sm,e4⟩
          have QB:∀w',gJ (blk ρ0 X) w w'->Like M (Oz++O2) w w':=λw' hF=>by
           have b3:=bp.nodup;rw[List.append_assoc] at b3;refine⟨λb j v e=>?_,λb hb=>hF.2 b ?_ λF=>?_⟩
           ·have h1:=Z.sat b j v e
            have hb:b<w.heap.size:=by
             rcases Nat.lt_or_ge b w.heap.size with h|h;·exact h
             ·rw[Z.sat.kE h] at e;cases e
            have cn:b∉blk ρ0 X:=λF=>by rw[(a1 b F).2 j] at e;cases e
            simpa [World.cell?,hF.2 b hb cn] using h1
           ·exact bp.lt (by rw[List.append_assoc];exact List.mem_append_right _ hb)
           ·exact (List.nodup_append.1 b3).2.2 b (a1 b F).1 b hb rfl
          rw[show f+1+k=(f+k)+1 by omega];refine DZ (Rel:=gJ (blk ρ0 X)) (λ_=>gJ.refl) gJ.trans (λ_=>⟨λ_ _=>⟨λ_=>dN.refl,λ_=>gJ.refl⟩,λ_=>iK.refl,λ_=>fJ.refl,λh=>h,λ_=>jX.refl⟩) A (Region.noSelect_spec aa) (λc a w h=>by cases h.1) (f+k) lr a w u.inv (λj oj L E hu=>Region.free_spec A H j oj L E (u.tL (Array.getElem?_eq_some_iff.1 L).1 hu)) (λj E V hu=>?_) R (y1.imp (λ⟨O,e2⟩=>⟨O,λw' hF=>e2 w' (QB w' hF)⟩) id) (ih _ _ _ _ _ _ W M w _ k kx y2 eB oI (u.pure A N R fu (λj b hb=>y3 j b hb) y4 ⟨h0.put,ρ,O1,O2,q1,q2,y5 _ q3,q4,q5,Z,EC u.wl fu q7,q8,l6,q9,pI,lG⟩));obtain⟨oj,ho,h1|h1|h1⟩:=hw j E V (u.tL V hu);·exact .inl λw w' hd=>((hd.1 oj ho).1 h1).x
          ·exact .inl λw w' hd=>(hd.1 oj ho).2 (by simp[h1])
          ·exact .inr h1
         ·cases h
        ·cases h
       ·split at h
        ·rename_i i hp;obtain⟨D,ab⟩:=ape hp;split at h
         ·rename_i o A;rw[A] at ab;simp only[Bool.and_eq_true,Bool.not_eq_true'] at ab;obtain⟨ci,hE,H⟩:=ab;split at h
          ·rename_i d hd;split at h
           ·rename_i fu U ag;have U:d<n:=by simpa [Nat.blt_eq] using U
            have hg:=awe ci;have N:i∉lim:=λF=>by obtain⟨o',d',O,_,e4,_⟩:=u.uk i F;rw[A] at O;cases O;exact oH (rP fu e4).1 i F _ A e4
            have R:=u.LP N D;have ap:=u.ss;obtain⟨h0,ρ,O1,O2,q1,q2,q3,q4,q5,Z,q7,q8,l6,q9,pI,lG⟩:=ap;obtain⟨v,y2,y3⟩:=yU (.inl ⟨rfl,rfl⟩) (eG.vo u.reg) h;obtain⟨x,hx,hr⟩:=y3 (uD C.τ) ρ [] w a [] (Rd.of (O1:=[]) (O2:=[]) (RE.vo q3) .nil .nil (aiS Z.gt) λh=>absurd rfl h);have hx:=hx.mono (awE q3.gm) λ_ _ h=>h;have ae:Region.wanted o (yielded ops a.tmps)=true:=by simp[Region.wanted,hg]
            rw[show f+1+k=(f+k)+1 by omega];refine DZ (v:=x) (Rel:=λw w'=>nX C.τ w->nX C.τ w') (λ_ h=>h) (λh h' g=>h' (h g)) (λ_=>⟨λ_ _=>⟨λ_=>dN.refl,λ_=>gJ.refl⟩,λ_=>iK.refl,λ_=>fJ.refl,λh=>h,λ_=>jX.refl⟩) A (Region.noSelect_spec aa) (λc a w h=>by cases h.1) (f+k) lr a w u.inv (λj oj L E hu=>Region.free_spec A H j oj L E (u.tL (Array.getElem?_eq_some_iff.1 L).1 hu)) (λj E V hu=> .inl λw w' hd=>hd.2.2.2.1) R (.inl ⟨ae,λw' hF=>?_⟩) (ih _ _ _ _ _ _ W M w _ k kx y2 eB oI (u.pure A N R fu (u.reg.put ag) (λt ht=>bX (λe=>ht (by cases e;exact hd))) ⟨h0.put,ρ,O1,O2,q1,q2,by rw[hd];exact q3.put h0 U hx,q4,q5,Z,EC u.wl fu q7,q8,l6,q9,pI,lG⟩));obtain⟨dst,op,ty,pos,aM,gd⟩:=o;exact hr w' ⟨aiS (hF Z.gt),λb hb=>by cases hb⟩ _ _ _ _ _
           ·cases h
          ·cases h
         ·cases h
        ·split at h
         ·rename_i _ i kk hp an;obtain⟨D,o,A,cm,H,cx⟩:=ac6 hp;rw[A] at h;obtain⟨t,p,d,m,q,O,e2,e3,e4,e5,e6⟩:=aCF cm;have hE:nL o.op=false:=by rw[O];rfl
          have ab:GH C I ops (xI C I ops) (gq listed lim) i=true:=by unfold GH;rw[A];simp only[hE,H,cx,Bool.and_self]
          obtain⟨_,_,hw⟩:=UC A ab;simp only[e3] at h;split at h
          ·rename_i fu U ag;have U:d<n:=by simpa [Nat.blt_eq] using U
           have N:i∉lim:=λF=>by obtain⟨o',d',O,_,e4,_⟩:=u.uk i F;rw[A] at O;cases O;exact oH (rP fu e4).1 i F _ A e4
           have R:=u.LP N D;obtain⟨h0,ρ,O1,O2,q1,q2,q3,q4,q5,Z,q7,q8,l6,q9,pI,lG⟩:=u.ss;rw[Sg.bS] at e5;obtain⟨xp,p1,p2⟩:=q3.tm _ _ e5;have p2:RV C.τ M ρ (.r m q) xp:=by cases p2 with|v p2=>exact p2
           cases p2 with| @r _ _ lb p3=>
           obtain⟨⟨l,hl⟩,v,hv⟩:=cb _ e6;have ck:lb=l:=by rw[q1 _ _ hl] at p3;exact (Option.some.inj p3).symm
           subst ck;have a8:=ac0 q1 q3 an _ e6 lb v hl hv;have hx:RG C.τ M ρ G (clV kk) v:=by refine .v ?_;cases kk with|zero=>cases hv;exact .nl|succ j=>have hv:(ρ0[j]?).map Loc.sl=some v:=hv;cases a7:ρ0[j]? with|none=>rw[a7] at hv;cases hv|some l0=>rw[a7] at hv;cases hv;exact .o (q1 _ _ a7)
           have ae:Region.wanted o (yielded ops a.tmps)=true:=by simp[Region.wanted,e2]
           have cg:a.eval (.tmp p)= .pointer (some ⟨lb.b,q,none⟩):=by show a.tmps.getD p undef=_;rw[Array.getD_eq_getD_getElem?,p1];rfl
           rw[show f+1+k=(f+k)+1 by omega];refine DZ (v:=v) (Rel:=jX ρ0 CL) (λ_=>jX.refl) jX.trans (λ_=>⟨λ_ _=>⟨λ_=>dN.refl,λ_=>gJ.refl⟩,λ_=>iK.refl,λ_=>fJ.refl,λh=>h,λ_=>jX.refl⟩) A (Region.noSelect_spec aa) (λc a w h=>by cases h.1) (f+k) lr a w u.inv (λj oj L E hu=>Region.free_spec A H j oj L E (u.tL (Array.getElem?_eq_some_iff.1 L).1 hu)) (λj E V hu=>?_) R (.inl ⟨ae,λw' hF=>?_⟩) (ih _ _ _ _ _ _ W M w _ k kx h eB oI (u.pure A N R fu (u.reg.put ag) (λt ht=>bX (λe=>ht (by cases e;exact e3))) ⟨h0.put,ρ,O1,O2,q1,q2,by rw[e3];exact q3.put h0 U hx,q4,q5,Z,EC u.wl fu q7,q8,l6,q9,pI,lG⟩))
           ·obtain⟨oj,ho,h1|h1|h1⟩:=hw j E V (u.tL V hu);·exact .inl λw w' hd=>((hd.1 oj ho).1 h1).toC
            ·exact .inl λw w' hd=>hd.2.2.2.2 h1
            ·exact .inr h1
           ·obtain⟨dst,op,ty,pos,aM,gd⟩:=o;simp only at O;subst O;show (Instr.loadAt t (a.eval (.tmp p)) >>= λv=>pure (Next.value v)).run C.P w'=_;rw[cg];exact bQ (s:=loadVar t _) (Ui e4 (hF _ e6 lb v hl hv a8))
          ·cases h
         ·cases h
end
end Go.R
