/- Several parts of the engine, one behind the other. -/
import Derived.RangeFuncIn
import Derived.RangeFuncRecord
import Derived.RangeFuncLeaves
import Derived.Test.YtlbfmjolchehbaaGreatDoorErk
set_option linter.all false
namespace Go.R
open Go.RowKit Go.Dc
section
variable {β:Type}{C:Cf}{F:Fn C}{s s':Sg C.τ.S}{M M' M0:Mem}{ρ ρ' ρ0 ρe:List Loc}{H H' R:Heap C.τ.S}{w w' w0:World}{a a' a0:Act}{O O' O1 O2:List Nat}{y:β}{n nx:Nat}{κ:Ctx C.τ}{Q:Exit->Act->World->Prop}{its:List aY}{Fe:Fence}
def side:Obj->Prop| .cells _ _ _=>False| .map _ _=>False|_=>True
def Aside(κ:Ctx C.τ)(w:World)(b:Nat):Prop:=κ.w0.heap.size<=b/\∃o,w.heap[b]?=some o/\side o
theorem Aside.lt{b:Nat}(h:Aside κ w b):b<w.heap.size:=by obtain⟨_,o,h,_⟩:=h;exact (Array.getElem?_eq_some_iff.1 h).1
theorem jY.mem{τ:Tb}{ρ:List Loc}{c:Cd}{ys:List (c.ty τ.S)}{v:Value}(h:jY τ M ρ w c ys v O){b:Nat}(a:b∈O):∃arr T,w.heap[b]?=some (.cells arr T (0,0)):=by cases h with|nil=>cases a|own _ _ _ d _ _ _ _=>simp only[List.mem_singleton] at a;subst a;exact⟨_,_,d⟩
theorem dh.mem{τ:Tb}{ρ:List Loc}{c:Cd}{jj:Nat}{ho:Option Int}{i:Nat}{xs:List (c.ty τ.S)}{vs:List Value}(h:dh τ M ρ w c jj ho i xs vs O){b:Nat}(a:b∈O):∃arr T,w.heap[b]?=some (.cells arr T (0,0)):=by
 induction h with
 |nil=>cases a
 |own _ _ h2 _ d=>
  rcases List.mem_append.1 a with a|a;·exact h2.mem a
  ·exact d a
 |hole _ _ d=>exact d a
theorem RO.mem{τ:Tb}{ρ:List Loc}{m:Nat}{x:SO τ.S}(h:RO τ M ρ w m x O){b:Nat}(a:b∈O){o:Obj}(ho:w.heap[b]?=some o):¬side o:=by
 have one:∀{d:Nat}{f:Obj},w.heap[d]?=some f->¬side f->b∈[d]->¬side o:=λh1 h2 e=>by simp only[List.mem_singleton] at e;subst e;rw[ho] at h1;cases h1;exact h2
 cases h with
 |bx _ h2 _ _=>exact one h2 id a
 |iR _ _=>cases a
 |ls _ _ _ _ _ _ c _ _ _ _=>exact one c id a
 |ig _ _=>cases a
 |ar _ _ _ _ _ _ c _ _ _=>exact one c id a
 |se _ h2 _ _=>exact one h2 id a
 |rr _ _ _ _ _ _ c _ _ _ _ _ g=>
  rcases List.mem_cons.1 a with rfl|a;·exact one c id (List.mem_singleton.2 rfl)
  ·obtain⟨arr,T,h⟩:=g.mem a;exact one h id (List.mem_singleton.2 rfl)
 |jg _ _ _ _=>cases a
theorem RH.aside{τ:Tb}{ρ:List Loc}:∀{H:Heap τ.S}{O:List Nat},RH τ M ρ w H O->∀{b:Nat},b∈O->∀{o:Obj},w.heap[b]?=some o->¬side o
 |_,_,.nil,_,a,_,_=>by cases a
 |_,_,.cons h1 h2,b,a,o,ho=>by
  rcases List.mem_append.1 a with a|a
  ·exact h1.mem a ho
  ·exact h2.aside a ho
theorem aEb{b j:Nat}{o:Obj}(h:w.heap[b]?=some o)(hs:side o):w.cell? ⟨b,j,none⟩=none:=by unfold World.cell?;simp only[h];cases o<;>first|rfl|exact hs.elim
theorem CS.put{b:Nat}{x:Obj}(h:CS C κ ρ0 s M w ρ)(J:Aside κ w b):CS C κ ρ0 s M (w.putObj b x) ρ:=by
 obtain⟨h1,h2,H,I,O1,O2,p,r,d⟩:=h;obtain⟨i,o,ho,hs⟩:=J
 have K:∀f∈O1++O2,f≠b:=λf a e=>by
  subst e;rcases List.mem_append.1 a with a|a;·exact p.aside a ho hs
  ·exact r.aside a ho hs
 have u:Ext (O1++O2) M M w (w.putObj b x):=⟨Mem.le.rfl,λf a=>World.putObj_heap_other (K f a),λ_ _=>rfl⟩;refine⟨h1,h2,H,λm q v L T k A i=>?_,O1,O2,p.ext Names.rfl (u.sub λ_ h=>List.mem_append_left _ h),r.ext Names.rfl (u.sub λ_ h=>List.mem_append_right _ h),⟨d.tab,d.frame.trans (F1:=[b]) ⟨rfl,rfl,rfl,by simp[World.putObj],λk _ i=>World.putObj_heap_other (by simpa using i)⟩ (λc g=>by rw[List.mem_singleton.1 g];exact .inr i),λf j v e=>?_,d.le,d.new,d.nodup,λc g=>by have:=d.own c g;simpa [World.putObj] using this,λc g=>by have:=d.red c g;simpa [World.putObj] using this⟩⟩;·obtain⟨l,z,n,y,E⟩:=I m q v L T k A i;refine⟨l,z,n,?_,E⟩;obtain⟨os,F,G⟩:=(p.app r).look A;cases F with|bx D _ _ _=>rw[D] at n;cases n;have:=u.heap l.b (G _ (List.mem_singleton.2 rfl));unfold World.cell? at y |-;rw[this];exact y
 ·have t:f≠b:=λB=>by subst B;have:=d.sat _ j v e;rw[aEb ho hs] at this;cases this
  have:=d.sat f j v e;unfold World.cell? at this |-;rw[World.putObj_heap_other t];exact this
def TM(C:Cf)(M:Mem)(ρ:List Loc)(Γ:Env C.τ.S)(a:Act):Prop:=∀t v,lk Γ 0 t=some v->∃x,a.tmps[t]?=some x/\RG C.τ M ρ [] v x
theorem TM.mono{Γ:Env C.τ.S}(h:TM C M ρ Γ a)(b:M.le M')(c:Names ρ ρ'):TM C M' ρ' Γ a:=λt v d=>let ⟨x,h1,h2⟩:=h t v d;⟨x,h1,h2.mono b c⟩
theorem CS.run{c:Code}{k:KK β C.τ.S}(L:Wd Fe)(O:∀f m,F.T f=some m->FZ C.P C.τ f m)(N:∀f i,F.I f=some i->aF C f i)(h:run C F c s k=some y)(K:jh s.B)(hs:CS C κ ρ0 s M w ρ)(R:SA F.n a)(W:TM C M ρ (s.T++s.B) a)(V:∀e T Th nx M' w' g d,k e T Th nx=some y->CS C κ ρ0 ⟨s.B,T,s.Bh,Th,nx⟩ M' w' d->M.le M'->Names ρ d->SA F.n g->TM C M' d (T++s.B) g->(∀b,Aside κ w b->w'.heap[b]?=w.heap[b]?)->Q e g w'):c.wpIn Fe 0 C.P Q a w:=by obtain⟨h1,h2,G,H,O1,O2,z,J,l⟩:=hs;refine wpIn_mono (ap0 L (κ:=⟨w,O1,M⟩) O N c s k ρ (λe g w'=>∃T Th nx M',k e T Th nx=some y/\St C.τ F.n ⟨w,O1,M⟩ ρ [] nx (T++s.B) Th s.Bh M' w' g) h K (λe T Th nx q M' w' g t=>⟨T,Th,nx,M',q,t⟩) M w a ⟨R,ρ,O1,O2,Names.rfl,h2,⟨G,W,H⟩,z,J,⟨l.tK (λ_ h=>h),Frame.refl _ _,l.sat,Mem.le.rfl,λb j v e=> .inl e,l.nodup,λb p=>⟨(l.own b p).1,.inl p⟩,l.red⟩⟩) ?_;rintro e g w' ⟨T,Th,nx,M',q,D,d,A,E,n1,n2,u,X,Y,x⟩;refine V e T Th nx M' w' g d q ⟨h1.trans n1,n2,u.gm,u.cl,A,E,X,Y,l.lift x⟩ x.le n1 D u.tm λb p=>?_;refine x.frame.block b p.lt λU=>?_;obtain⟨_,o,ho,r⟩:=p;exact z.aside U ho r
theorem CS.meet{K:aK C.τ.S (its.map (·.sh.cd))->Option β}{l:List Nat}(h0:SA n a0)(b:ρe.length=s.nx)(g:RE C.τ M0 ρe [] (s.Th++s.Bh) w0 a0 (s.T++s.B))(h1:RH C.τ M0 ρe w0 s.Th O1)(h2:RH C.τ M0 ρe w0 s.Bh O2)(I:SM κ M0 w0 O1 O2)(c:Iz s ρe its)(L:M0.le M')(hs:CS C κ ρe s' M' w' ρ')(O:s'.Bh=bT l s.Th++s.Bh)(f:∀t,lk s'.B 0 t=lk (s.T++s.B) 0 t)(J:∀m o,m<s.nx->dX (m+1) o its=false->lk s'.B (m+1) o=lk (s.T++s.B) (m+1) o)(h:meet C [] its s.nx s.Th s' K=some y):∃σ a,K (pR C.τ.S its σ)=some y/\CS C κ ρe ⟨kill s [] its++(s.T++s.B),dI C.τ its σ s.nx [],bT l s.Th++s.Bh,fG C.τ its σ s.nx (boxes s.Th),lQ its s.nx⟩ M' w' a:=by
 obtain⟨e,z,A,D,r,H,E,F,G⟩:=hs
 have M:∀t,lk s'.T 0 t=none:=by
  unfold R.meet at h;split at h;·rename_i N;exact λt=>(Kt N).1 t rfl
  ·cases h
 have P:TM C M' ρ' (s'.T++s'.B) a0:=λt v c=>by rw[cu,M,f] at c;obtain⟨x,u,w⟩:=g.tm t v c;exact⟨x,u,w.mono L e⟩
 obtain⟨σ,d,a,q,p,j,Q,U,i,V,W,X,Y⟩:=SG (s':=s') h0 b g h1 h2 I c O ⟨h0,ρ',r,H,e,z,⟨A,P,D⟩,E,F,G⟩ (λt _=>f t) J h;refine⟨σ,a,d,Q,U,i.gm,?_,q,p++j,V,W.app X,Y.give⟩;show ∀m o v,lk (dI C.τ its σ s.nx []++(kill s [] its++(s.T++s.B))) (m+1) o=some v->∀T k,(m,.bx T k)∈fG C.τ its σ s.nx (boxes s.Th)++(bT l s.Th++s.Bh)->_;rw[yS,kL,List.append_assoc,<-kL];exact i.cl
theorem CS.cells(h:CS C κ ρ0 s M w ρ)(c:∀m o,lk (s'.T++s'.B) (m+1) o=lk (s.T++s.B) (m+1) o)(h1:s'.Th=s.Th)(h2:s'.Bh=s.Bh)(a:s'.nx=s.nx):CS C κ ρ0 s' M w ρ:=⟨h.names,h.len.trans a.symm,h.gm,λm o v d T k b=>h.cl m o v ((c m o).symm.trans d) T k (by rw[<-h1,<-h2];exact b),by rw[h1,h2];exact h.mem⟩
theorem aeU{P:Program}{o:Oper}{m n:Act->World->Prop}{Q2:Exit->Act->World->Prop}(h:o.wp P a w m Q)(g:∀j w',(∀t,o.dst≠some t->j.tmps[t]?=a.tmps[t]?)->m j w'->n j w')(k:∀e a w,e≠ .normal->Q e a w->Q2 e a w):o.wp P a w n Q2:=by
 have p:LetsOut Q->LetsOut Q2:=λ⟨a,w,h⟩=>⟨a,w,k _ _ _ sm h⟩;unfold Oper.wp at*;generalize (execOp a.eval o).run P w=r at*
 cases r with
 |ok q w'=>
  cases q<;>simp only[Oper.upon] at h |-;case value v=>exact g _ _ (λt b=>fT b) h
  case skip=>exact g _ _ (λt b=>fT b) h
  case defer=>exact g _ _ (λt b=>fT (a:={a with defers:=_::a.defers}) b) h
  case enter f d=>refine Calls.mono h λe l i=>?_;cases e with|returned v=>exact g _ _ (λt b=>fT b) i|panicked c=>exact k _ _ _ sm i|outgrown=>exact p i
  case row s d=>exact Rows.mono h (λv l i=>g _ _ (λt b=>fT b) i)
 |halt x w'=>cases x<;>simp only[Oper.upon] at h |-;case panic=>exact k _ _ _ sm h
theorem aC4{b c:Act->World->Prop}:∀e a w,e≠ .normal->jU b e a w->jU c e a w:=λ_ _ _ h1 h2=>absurd h2.1 h1
theorem aeS{P:Program}{ops:Array Oper}{K K':Act->World->Prop}:∀{l:List Oper}{a:Act}{w:World},wpList P ops (jU K) l a w->(∀c w',(∀t,iN t (l.filterMap (·.dst))=false->c.tmps[t]?=a.tmps[t]?)->K c w'->K' c w')->wpList P ops (jU K') l a w
 |[],a,w,h,i=>⟨h.1,i _ _ (λ_ _=>rfl) h.2⟩
 |o::r,a,w,h,i=>by
  have f:∀{t:Nat},iN t ((o::r).filterMap (·.dst))=false->o.dst≠some t/\iN t (r.filterMap (·.dst))=false:=λ{t} b=>by
   rw[List.filterMap_cons] at b
   cases k:o.dst with
   |none=>rw[k] at b;exact⟨sm,b⟩
   |some d=>
    rw[k] at b
    simp only[iN] at b
    split at b
    ·cases b
    ·rename_i j
     refine⟨λe=>?_,b⟩
     cases e
     simp at j
  have mono:∀{g:Act}{m:World},(∀t,o.dst≠some t->g.tmps[t]?=a.tmps[t]?)->wpList P ops (jU K) r g m->wpList P ops (jU K') r g m:=λh1 h2=>
   aeS h2 λc w' n p=>i c w' (λt b=>(n t (f b).2).trans (h1 t (f b).1)) p
  unfold wpList at h |-
  split at h
  ·rename_i hw
   rw[if_pos hw]
   rcases h with h|h
   ·exact .inl (aeU h (λc w' h1 h2=>mono h1 h2) aC4)
   ·exact (KO h.2).elim
  ·rename_i hw
   rw[if_neg hw]
   exact mono (λt b=>fT b) h
theorem CS.list{l:List Oper}{K:Sg C.τ.S->Option β}{K':Act->World->Prop}(U:Wd Fe)(W:∀f m,F.T f=some m->FZ C.P C.τ f m)(V:∀f i,F.I f=some i->aF C f i)(h:ord C F.T F.I F.n F.wr l l [] s K=some y)(r:kR l=true)(R:jh s.B)(hs:CS C κ ρ0 s M w ρ)(X:SA F.n a)(ht:TM C M ρ (s.T++s.B) a)(hk:∀s' M' w' d c,K s'=some y->s'.B=s.B->s'.Bh=s.Bh->CS C κ ρ0 s' M' w' c->M.le M'->Names ρ c->SA F.n d->TM C M' c (s'.T++s'.B) d->(∀b,Aside κ w b->w'.heap[b]?=w.heap[b]?)->(∀t,iN t (l.filterMap (·.dst))=false->d.tmps[t]?=a.tmps[t]?)->K' d w'):wpListIn Fe 0 C.P l.toArray (jU K') l a w:=by obtain⟨h1,h2,L,N,O1,O2,D,O,k⟩:=hs;have:=sZ (Q:=jU λd w'=>∃s' M',K s'=some y/\s'.B=s.B/\s'.Bh=s.Bh/\St C.τ F.n ⟨w,O1,M⟩ ρ [] s'.nx (s'.T++s'.B) s'.Th s'.Bh M' w' d) (κ:=⟨w,O1,M⟩) (ρ0:=ρ) W V l [] s h (λj b g=>by cases g) R (λs' G p q M' w' d x=>⟨rfl,s',M',G,p,q,x⟩) M w a ⟨X,ρ,O1,O2,Names.rfl,h2,⟨L,ht,N⟩,D,O,⟨k.tK (λ_ h=>h),Frame.refl _ _,k.sat,Mem.le.rfl,λb j v e=> .inl e,k.nodup,λb g=>⟨(k.own b g).1,.inl g⟩,k.red⟩⟩;refine KD U r (aeS this λd w' Z hq=>?_);obtain⟨s',M',he,p,q,H,c,E,J,n1,n2,z,n4,n5,A⟩:=hq;refine hk s' M' w' d c he p q ⟨h1.trans n1,n2,z.gm,z.cl,E,J,n4,n5,k.lift A⟩ A.le n1 H z.tm (λb g=>?_) Z;refine A.frame.block b g.lt λY=>?_;obtain⟨_,o,ho,u⟩:=g;exact D.aside Y ho u
theorem CS.reg{id:Nat}{l:List Oper}{K:Sg C.τ.S->Option β}(m:Wd Fe)(p:∀f d,F.T f=some d->FZ C.P C.τ f d)(o:∀f i,F.I f=some i->aF C f i)(h:ord C F.T F.I F.n F.wr l l [] s K=some y)(j:kR l=true)(k:jh s.B)(hs:CS C κ ρ0 s M w ρ)(q:SA F.n a)(v:TM C M ρ (s.T++s.B) a)(r:∀s' M' w' g c,K s'=some y->s'.B=s.B->s'.Bh=s.Bh->CS C κ ρ0 s' M' w' c->M.le M'->Names ρ c->SA F.n g->TM C M' c (s'.T++s'.B) g->(∀b,Aside κ w b->w'.heap[b]?=w.heap[b]?)->(∀t,iN t (l.filterMap (·.dst))=false->g.tmps[t]?=a.tmps[t]?)->Q .normal g w'):(Code.region id l.toArray false).wpIn Fe 0 C.P Q a w:=wpIn_mono (wpIn_region_lit (CS.list (K':=λa w=>Q .normal a w) m p o h j k hs q v r)) λe a w u=>by obtain⟨rfl,h⟩:=u;exact h
theorem aDW{P:Program}{L:Nat}{x:Operand}{xs:List Operand}{vs:List Value}{ts:Array TypeId}{dst:Option Tmp}{ty:TypeId}{pos:String}{aM:Array Edge}{gd:Option (Nat×Bool)}{a:Act}{w:World}(b:a.eval x= .func (.yield L) #[] #[])(e:xs.map a.eval=vs):(execOp a.eval ⟨dst,.call {callee:= .value x,args:=xs.toArray,argTypes:=ts},ty,pos,aM,gd⟩).run P w=(Instr.yield L vs.toArray).run P w:=by simp only[execOp,resolve,List.map_toArray,e,b];show (Instr.yield L ((#[]++vs.toArray)++ #[])).run P w=_;rw[Array.empty_append,Array.append_empty]
theorem oJ{t:Nat}{v:Value}(h:a.tmps[t]?=some v):a.eval (.tmp t)=v:=by show a.tmps.getD t undef=v;rw[Array.getD_eq_getD_getElem?,h];rfl
theorem CS.one{o:Oper}{K:Sg C.τ.S->Option β}{K':Act->World->Prop}(R:∀f l,F.T f=some l->FZ C.P C.τ f l)(O:∀f i,F.I f=some i->aF C f i)(h:ord C F.T F.I F.n F.wr [o] [o] [] s K=some y)(Y:o.guard=none)(N:jh s.B)(hs:CS C κ ρ0 s M w ρ)(U:SA F.n a)(ht:TM C M ρ (s.T++s.B) a)(Z:∀s' M' w' d c,K s'=some y->s'.B=s.B->s'.Bh=s.Bh->CS C κ ρ0 s' M' w' c->M.le M'->Names ρ c->SA F.n d->TM C M' c (s'.T++s'.B) d->(∀b,Aside κ w b->w'.heap[b]?=w.heap[b]?)->(∀t,o.dst≠some t->d.tmps[t]?=a.tmps[t]?)->K' d w'):o.wp C.P a w K' Q:=by
 obtain⟨h1,h2,H,J,O1,O2,z,L,k⟩:=hs;have:=sZ (Q:=jU λd w'=>∃s' M',K s'=some y/\s'.B=s.B/\s'.Bh=s.Bh/\St C.τ F.n ⟨w,O1,M⟩ ρ [] s'.nx (s'.T++s'.B) s'.Th s'.Bh M' w' d) (κ:=⟨w,O1,M⟩) (ρ0:=ρ) R O [o] [] s h (λj b g=>by cases g) N (λs' D m p M' w' d r=>⟨rfl,s',M',D,m,p,r⟩) M w a ⟨U,ρ,O1,O2,Names.rfl,h2,⟨H,ht,J⟩,z,L,⟨k.tK (λ_ h=>h),Frame.refl _ _,k.sat,Mem.le.rfl,λb j v e=> .inl e,k.nodup,λb g=>⟨(k.own b g).1,.inl g⟩,k.red⟩⟩;unfold wpList at this;rw[if_pos (by simp[Region.wanted,Y])] at this;rcases this with this|this;·refine aeU this (λd w' W hq=>?_) λe a w h1 h2=>absurd h2.1 h1;obtain⟨_,s',M',X,m,p,E,c,A,G,n1,n2,u,n4,n5,x⟩:=hq;refine Z s' M' w' d c X m p ⟨h1.trans n1,n2,u.gm,u.cl,A,G,n4,n5,k.lift x⟩ x.le n1 E u.tm (λb g=>?_) W;refine x.frame.block b g.lt λV=>?_;obtain⟨_,o,ho,q⟩:=g;exact z.aside V ho q
 ·exact (KO this.2).elim
theorem alloc_old{w:World}{x:Obj}{b:Nat}(h:b<w.heap.size):(w.alloc x).heap[b]?=w.heap[b]?:=Below.heap_alloc w x b h
theorem CS.more(h:CS C κ ρ0 s M w ρ)(x:Obj):CS C κ ρ0 s M (w.alloc x) ρ:=by obtain⟨h1,h2,r,t,O1,O2,f,g,u⟩:=h;obtain⟨a,d⟩:=u.alloc x;refine⟨h1,h2,r,λm q v B T k i A=>?_,O1,O2,f.ext Names.rfl (d.sub λ_ h=>List.mem_append_left _ h),g.ext Names.rfl (d.sub λ_ h=>List.mem_append_right _ h),⟨a.tab,a.frame,a.sat,a.le,a.new,(List.nodup_cons.1 a.nodup).2,λb y=>a.own b (List.mem_cons_of_mem _ y),a.red⟩⟩;obtain⟨l,z,c,e,n⟩:=t m q v B T k i A;refine⟨l,z,c,?_,n⟩;obtain⟨os,o,p⟩:=(f.app g).look i;cases o with|bx j _ _ _=>rw[j] at c;cases c;have:=d.heap l.b (p _ (List.mem_singleton.2 rfl));unfold World.cell? at e |-;rw[this];exact e
theorem aDB{f:Func}{outs:List Cd}{r:aK C.τ.S outs}{us:List (SV C.τ.S)}(p:Nat.ble f.results.toList.length 4=true)(n:xM C s f.results.toList=some us)(u:DS C.τ outs (us.map (gG ⟨s.B,s.T,s.Bh,nI s.Th,s.nx⟩))=some r)(hs:CS C ⟨w0,[],M0⟩ ρ0 s M w ρ)(z:TM C M ρ (s.T++s.B) a):∃x M',(results f a.tmps).run C.P w= .ok x w/\RG C.τ M' [] [] (gV (ES C.τ outs r)) x/\Sat M' w/\M0.le M'/\Frame [] w0 w/\∀b j v,M' b j=some v->M0 b j=some v\/w0.heap.size<=b:=by
 obtain⟨I,J,y,t,O1,O2,h1,h2,l⟩:=hs;have d:RE C.τ M ρ [] (s.Th++s.Bh) w a (s.T++s.B):=⟨y,z,t⟩;obtain⟨zs,D,E,F,G⟩:=TU (fQ d h1 h2 l) n;obtain⟨x,H,A⟩:=apH p D E F G;obtain⟨i,m,_,f1,f2,o⟩:=YZ (O1:=[]) h1 (by rw[List.append_nil];exact l);rw[List.append_nil] at f1
 have g:Rd C ⟨s.B,s.T,s.Bh,nI s.Th,s.nx⟩ [] [] i ρ (nI s.Th++s.Bh) w a (m++O2):=fQ (s:=⟨s.B,s.T,s.Bh,nI s.Th,s.nx⟩) (d.kg f2.le λK T k c=>by
  rcases List.mem_append.1 c with c|c;·exact List.mem_append_left _ (YX c)
  ·exact List.mem_append_right _ c) o (h2.ext (λ_ _ h=>h) (f2.sub λb q=>by simpa using q)) f1
 refine⟨x,i,H,TP g u (A.mono f2.le λ_ _ h=>h),f1.sat,f1.le,f1.frame,λb j v e=>?_⟩;rcases f1.new b j v e with e|e|e;·exact .inl e
 ·cases e
 ·exact .inr e
theorem aJ2{P:Program}{o:Oper}{K:Act->World->Prop}(i:List Deferred)(k:∀d w',(execOp a.eval o).run P w≠ .ok (.defer d) w')(h:o.wp P a w (λa w=>K {a with defers:=i} w) (λe a w=>Q e {a with defers:=i} w)):o.wp P {a with defers:=i} w K Q:=by
 have hp:∀(a:Act) (d:Option Tmp) (v:Value),({a with defers:=i}:Act).put d v={(a.put d v) with defers:=i}:=λa d v=>by cases d<;>rfl
 unfold Oper.wp at h |-;have g:({a with defers:=i}:Act).eval=a.eval:=by funext x;cases x<;>rfl
 rw[g];generalize (execOp a.eval o).run P w=r at h k
 cases r with
 |ok x w'=>
  cases x with
  |value v=>rw[Oper.upon_value] at h |-;rw[hp];exact h
  |skip=>rw[Oper.upon_skip] at h |-;rw[hp];exact h
  |defer d=>exact absurd rfl (k d w')
  |enter f j=>rw[Oper.upon_enter] at h |-;refine h.mono ?_;intro e m g;cases e with|returned v=>dsimp only at g |-;rw[hp];exact g|panicked c=>exact g|outgrown=>obtain⟨a0,w0,n⟩:=g;exact⟨_,w0,n⟩
  |row row j=>rw[Oper.upon_row] at h |-;exact h.mono λv m g=>by rw[hp];exact g
  |round l f t a b=>exact h.elim
  |_=>exact h
 |halt x w'=>cases x<;>exact h
def SE:Oper->Bool|⟨_,.load _ _,_,_,_,none⟩=>true|⟨_,.store _ _ _,_,_,_,none⟩=>true|_=>false
theorem arf{P:Program}{ops:Array Oper}{K:Act->World->Prop}{Q2:Exit->Act->World->Prop}(b:List Deferred):∀{l:List Oper}{a:Act}{w:World},l.all SE=true->wpList P ops (jU K) l a w->(∀a w,K a w->Q2 .normal {a with defers:=b} w)->wpList P ops Q2 l {a with defers:=b} w
 |[],a,w,_,h,f=>f _ _ h.2
 |o::r,a,w,c,h,f=>by
  rw[List.all_cons,Bool.and_eq_true] at c
  have i:o.guard=none:=by
   have:=c.1
   unfold SE at this
   split at this<;>first|rfl|cases this
  unfold wpList at h |-
  rw[if_pos (by simp[Region.wanted,i])] at h |-
  rcases h with h|h
  ·refine .inl (aJ2 b ?_ (aeU h (λj w' _ h=>arf b c.2 h f) λe a w h1 h2=>absurd h2.1 h1))
   intro d w' e
   have:=c.1
   unfold SE at this
   split at this
   ·rename_i dst t x ty pos aM
    have e:(Instr.loadAt t (a.eval x) >>= λv=>(pure (Next.value v):Sem Next)).run P w= .ok (.defer d) w':=e
    rw[Sem.run_bind] at e
    cases hs:(Instr.loadAt t (a.eval x)).run P w with
    |ok v g=>rw[hs] at e;cases e
    |halt x g=>rw[hs] at e;cases e
   ·rename_i dst t x z ty pos aM
    have e:(Instr.storeAt t (a.eval x) (a.eval z) >>= λ_=>(pure Next.skip:Sem Next)).run P w= .ok (.defer d) w':=e
    rw[Sem.run_bind] at e
    cases hs:(Instr.storeAt t (a.eval x) (a.eval z)).run P w with
    |ok v g=>rw[hs] at e;cases e
    |halt x g=>rw[hs] at e;cases e
   ·cases this
  ·exact (KO h.2).elim
theorem CS.aCI{l:List Oper}{K:Sg C.τ.S->Option β}{K':Act->World->Prop}(R:∀f m,F.T f=some m->FZ C.P C.τ f m)(O:∀f i,F.I f=some i->aF C f i)(h:ord C F.T F.I F.n F.wr l l [] s K=some y)(N:jh s.B)(hs:CS C κ ρ0 s M w ρ)(U:SA F.n a)(Z:TM C M ρ (s.T++s.B) a)(X:∀s' M' w' d c,K s'=some y->s'.B=s.B->s'.Bh=s.Bh->CS C κ ρ0 s' M' w' c->M.le M'->Names ρ c->SA F.n d->TM C M' c (s'.T++s'.B) d->(∀b,Aside κ w b->w'.heap[b]?=w.heap[b]?)->K' d w'):wpList C.P l.toArray (jU K') l a w:=by obtain⟨h1,h2,H,J,O1,O2,z,L,k⟩:=hs;have:=sZ (Q:=jU λd w'=>∃s' M',K s'=some y/\s'.B=s.B/\s'.Bh=s.Bh/\St C.τ F.n ⟨w,O1,M⟩ ρ [] s'.nx (s'.T++s'.B) s'.Th s'.Bh M' w' d) (κ:=⟨w,O1,M⟩) (ρ0:=ρ) R O l [] s h (λj b g=>by cases g) N (λs' D p q M' w' d t=>⟨rfl,s',M',D,p,q,t⟩) M w a ⟨U,ρ,O1,O2,Names.rfl,h2,⟨H,Z,J⟩,z,L,⟨k.tK (λ_ h=>h),Frame.refl _ _,k.sat,Mem.le.rfl,λb j v e=> .inl e,k.nodup,λb g=>⟨(k.own b g).1,.inl g⟩,k.red⟩⟩;refine aeS this λd w' _ Y=>?_;obtain⟨s',M',W,p,q,E,c,A,G,n1,n2,u,n4,n5,x⟩:=Y;refine X s' M' w' d c W p q ⟨h1.trans n1,n2,u.gm,u.cl,A,G,n4,n5,k.lift x⟩ x.le n1 E u.tm (λb g=>?_);refine x.frame.block b g.lt λV=>?_;obtain⟨_,o,ho,r⟩:=g;exact z.aside V ho r
end
end Go.R
namespace Go.R
open Go.RowKit Go.Dc
noncomputable def nK(C:Cf)(wr:Bool)(T:FuncId->Option (aN C.τ.S))(I:FuncId->Option (aL C.τ.S))(sp:Nat->Option (List Item))(f:FuncId)(outs:List Cd)(its:List Item):aL C.τ.S:=⟨λ{β} vs s K=>match qQ ⟨bG (s.T++s.B),dx 0 vs,s.Bh,s.Th,s.nx⟩ its with
 |some ri=>match ri.all λi=>Nat.blt 0 i.a with
  |true=>au (λ(x:aK C.τ.S outs×aK C.τ.S (ri.map (·.sh.cd)))=>rT s.B (dI C.τ ri (bD C.τ.S ri x.2) s.nx (kill s [] ri++s.T)) s.Bh (fG C.τ ri (bD C.τ.S ri x.2) s.nx (boxes s.Th++bT (bR ⟨bG (s.T++s.B),dx 0 vs,s.Bh,s.Th,s.nx⟩ ri) s.Th)) (lQ ri s.nx) λs'=>K (gV (ES C.τ outs x.1)) s')
   λ(b:aK C.τ.S outs×aK C.τ.S (ri.map (·.sh.cd))->Option β)=>DY C wr T I sp f vs ⟨bG (s.T++s.B),[],bT (bR ⟨bG (s.T++s.B),dx 0 vs,s.Bh,s.Th,s.nx⟩ ri) s.Th++s.Bh,lZ (bR ⟨bG (s.T++s.B),dx 0 vs,s.Bh,s.Th,s.nx⟩ ri) s.Th,s.nx⟩ λus s'=>match DS C.τ outs (us.map (gG s')) with
    |some r=>meet C [] ri s.nx s.Th ⟨dx 0 vs++bG (s.T++s.B),s'.T,bT (bR ⟨bG (s.T++s.B),dx 0 vs,s.Bh,s.Th,s.nx⟩ ri) s.Th++s.Bh,s'.Th,s'.nx⟩ λx=>b (r,x)
    |none=>none
  |false=>none
 |none=>none,false⟩
section
variable {β:Type}{C:Cf}{F:Fn C}{s s':Sg C.τ.S}{M M' M0:Mem}{ρ ρ' ρ0 ρe:List Loc}{H H' R:Heap C.τ.S}{w w' w0:World}{a a' a0:Act}{O O' O1 O2:List Nat}{y:β}{n nx:Nat}{κ:Ctx C.τ}{its:List aY}{wr:Bool}{T:FuncId->Option (aN C.τ.S)}{I:FuncId->Option (aL C.τ.S)}{sp:Nat->Option (List Item)}{f:FuncId}
theorem CS.aCQ{K:aK C.τ.S (its.map (·.sh.cd))->Option β}{l:List Nat}(h0:SA n a0)(b:ρe.length=s.nx)(j:RE C.τ M0 ρe [] (s.Th++s.Bh) w0 a0 (s.T++s.B))(h1:RH C.τ M0 ρe w0 s.Th O1)(h2:RH C.τ M0 ρe w0 s.Bh O2)(I:SM κ M0 w0 O1 O2)(c:Iz s ρe its)(J:M0.le M')(hs:CS C κ ρe s' M' w' ρ')(N:s'.Bh=bT l s.Th++s.Bh)(d:s'.B=s.T++s.B)(h:Go.R.meet C [] its s.nx s.Th s' K=some y):∃σ a,K (pR C.τ.S its σ)=some y/\CS C κ ρe ⟨kill s [] its++(s.T++s.B),dI C.τ its σ s.nx [],s.Bh,fG C.τ its σ s.nx (boxes s.Th++bT l s.Th),lQ its s.nx⟩ M' w' a:=by
 obtain⟨i,z,A,D,r,H,E,F,G⟩:=hs
 have L:∀t,lk s'.T 0 t=none:=by
  unfold Go.R.meet at h;split at h;·rename_i M;exact λt=>(Kt M).1 t rfl
  ·cases h
 have O:TM C M' ρ' (s'.T++s'.B) a0:=λt v c=>by rw[cu,L,d] at c;obtain⟨x,u,w⟩:=j.tm t v c;exact⟨x,u,w.mono J i⟩
 obtain⟨σ,e,a,g,f,q,P,Q,p,U,V,W,X⟩:=SG (s':=s') h0 b j h1 h2 I c N ⟨h0,ρ',r,H,i,z,⟨A,O,D⟩,E,F,G⟩ (λt _=>by rw[d]) (λm o _ _=>by rw[d]) h;refine⟨σ,a,e,P,Q,p.gm,?_,g++f,q,?_,W,X⟩;·show ∀m o v,lk (dI C.τ its σ s.nx []++(kill s [] its++(s.T++s.B))) (m+1) o=some v->∀T k,(m,.bx T k)∈fG C.τ its σ s.nx (boxes s.Th++bT l s.Th)++s.Bh->_;rw[yS,kL,List.append_assoc,List.append_assoc,<-kL];exact p.cl
 ·show RH C.τ M' a w' (fG C.τ its σ s.nx (boxes s.Th++bT l s.Th)) (g++f);rw[kL,<-List.append_assoc,<-kL];exact U.app V
theorem avF{a b nx:Nat}{t:Nat}{Γ:Env C.τ.S}(d:Nat.blt 0 a=true):∀(sh:Sh) (x:sh.cd.ty C.τ.S),lk (ER C.τ a b nx sh x Γ) 0 t=lk Γ 0 t:=by
 have d:0<a:=by simpa [Nat.blt_eq] using d
 have c:∀{v:SV C.τ.S},lk ((a,b,v)::Γ) 0 t=lk Γ 0 t:=bX (by simp;omega);intro sh x;cases sh<;>first|exact c|rfl
theorem aij{t:Nat}{Γ:Env C.τ.S}:∀{ri:List aY}{σ:HL C.τ.S ri}{nx:Nat},ri.all (λi=>Nat.blt 0 i.a)=true->lk (dI C.τ ri σ nx Γ) 0 t=lk Γ 0 t
 |[],_,_,_=>rfl
 |i::r,σ,nx,h=>by
  rw[List.all_cons,Bool.and_eq_true] at h
  show lk (ER C.τ i.a i.b nx i.sh σ.1 (dI C.τ r σ.2 (Jj nx i.sh) Γ)) 0 t=_
  rw[avF h.1]
  exact aij h.2
theorem oM{outs:List Cd}{its:List Item}(hT:∀f G,T f=some G->FZ C.P C.τ f G)(hI:∀f i,I f=some i->aF C f i):aF C f (nK C wr T I sp f outs its):=by
 intro β y vs s K h κ M w ρ xs hs Y
 have h:(match qQ (⟨bG (s.T++s.B),dx 0 vs,s.Bh,s.Th,s.nx⟩:Sg C.τ.S) its with
 |some ri=>match ri.all λi=>Nat.blt 0 i.a with
  |true=>au (λ(x:aK C.τ.S outs×aK C.τ.S (ri.map (·.sh.cd)))=>rT s.B (dI C.τ ri (bD C.τ.S ri x.2) s.nx (kill s [] ri++s.T)) s.Bh (fG C.τ ri (bD C.τ.S ri x.2) s.nx (boxes s.Th++bT (bR ⟨bG (s.T++s.B),dx 0 vs,s.Bh,s.Th,s.nx⟩ ri) s.Th)) (lQ ri s.nx) λs'=>K (gV (ES C.τ outs x.1)) s')
   λ(kk:aK C.τ.S outs×aK C.τ.S (ri.map (·.sh.cd))->Option β)=>DY C wr T I sp f vs ⟨bG (s.T++s.B),[],bT (bR ⟨bG (s.T++s.B),dx 0 vs,s.Bh,s.Th,s.nx⟩ ri) s.Th++s.Bh,lZ (bR ⟨bG (s.T++s.B),dx 0 vs,s.Bh,s.Th,s.nx⟩ ri) s.Th,s.nx⟩ λus s'=>match DS C.τ outs (us.map (gG s')) with
    |some r=>meet C [] ri s.nx s.Th ⟨dx 0 vs++bG (s.T++s.B),s'.T,bT (bR ⟨bG (s.T++s.B),dx 0 vs,s.Bh,s.Th,s.nx⟩ ri) s.Th++s.Bh,s'.Th,s'.nx⟩ λx=>kk (r,x)
    |none=>none
  |false=>none
 |none=>none)=some y:=h
 generalize g:(⟨bG (s.T++s.B),dx 0 vs,s.Bh,s.Th,s.nx⟩:Sg C.τ.S)=s0 at h;split at h
 ·rename_i ri dz;split at h
  ·rename_i O;obtain⟨kk,an,h⟩:=am0 h;obtain⟨n1,n2,n3,n4,O1,O2,n5,n6,n7⟩:=id hs;have E:s0.T=dx 0 vs:=by rw[<-g]
   have F:s0.B=bG (s.T++s.B):=by rw[<-g]
   have q:s0.Th=s.Th:=by rw[<-g]
   have z:s0.Bh=s.Bh:=by rw[<-g]
   have A:s0.nx=s.nx:=by rw[<-g]
   have D:RE C.τ M ρ [] (s0.Th++s0.Bh) w ⟨xs.toArray,[]⟩ (s0.T++s0.B):=⟨n3,(λt v c=>by
    rw[E,F,cu] at c;split at c
    ·rename_i u hu;cases c;obtain⟨_,c⟩:=CX hu;have hi:=(List.getElem?_eq_some_iff.1 c).1;have L:t<xs.length:=by rw[Y.1];omega
     exact⟨xs[t],by simp[L],Y.2 t v _ (by simpa using c) (by simp[L])⟩
    ·rw[nQ] at c;cases c),(λm o v c=>by
    rw[E,F,kP uX,kD] at c;rw[q,z];exact n4 m o v c)⟩
   have Q:SA xs.length (⟨xs.toArray,[]⟩:Act):=⟨sm,rfl⟩;obtain⟨_,j,P1,P2,Z,a2,a3,a4,a5,a6⟩:=NP (l:=bR s0 ri) (n:=xs.length) Names.rfl Q (n2.trans A.symm) D (q▸n5) (z▸n6) n7;have p:CS C κ ρ ⟨bG (s.T++s.B),[],bT (bR s0 ri) s.Th++s.Bh,lZ (bR s0 ri) s.Th,s.nx⟩ M w j:=by have:=(⟨Z,a2,a3.gm,a3.cl,P1,P2,a4,a5,a6⟩:CS C κ ρ ⟨s0.T++s0.B,[],bT (bR s0 ri) s0.Th++s0.Bh,lZ (bR s0 ri) s0.Th,s0.nx⟩ M w j);rw[q,z,A] at this;refine this.cells (λm o=>?_) rfl rfl rfl;show lk ([]++bG (s.T++s.B)) (m+1) o=lk ([]++(s0.T++s0.B)) (m+1) o;rw[List.nil_append,List.nil_append,E,F,kP uX]
   have af:AB C.τ M j vs xs:=⟨Y.1,λi v x g1 g2=>(Y.2 i v x g1 g2).mono .rfl Z⟩;have aa:CS C κ j ⟨bG (s.T++s.B),[],bT (bR s0 ri) s.Th++s.Bh,lZ (bR s0 ri) s.Th,s.nx⟩ M w j:=⟨Names.rfl,p.len,p.gm,p.cl,p.mem⟩;refine (UY hT hI h aa af).mono ?_;rintro e w' ⟨x,us,s',M',W,rfl,H,d,N,b,hx⟩;split at H
   ·rename_i r hr;have J:CS C κ ρ ⟨s0.T++s0.B,s'.T,bT (bR s0 ri) s0.Th++s0.Bh,s'.Th,s'.nx⟩ M' w' W:=by have hb:s'.B=bG (s.T++s.B):=d.1;have ag:s'.Bh=bT (bR s0 ri) s.Th++s.Bh:=d.2;refine CS.cells (s:=s') ⟨Z.trans b.names,b.len,b.gm,b.cl,b.mem⟩ (λm o=>?_) rfl (by rw[ag,q,z]) rfl;show lk (s'.T++(s0.T++s0.B)) (m+1) o=lk (s'.T++s'.B) (m+1) o;rw[cu,cu s'.T s'.B,hb,E,F,kP uX]
    have H:Go.R.meet C [] ri s0.nx s0.Th ⟨s0.T++s0.B,s'.T,bT (bR s0 ri) s0.Th++s0.Bh,s'.Th,s'.nx⟩ (λx=>kk (r,x))=some y:=by rw[E,F,q,z,A];exact H
    obtain⟨σ,ap,V,U⟩:=CS.aCQ (n:=xs.length) Q (n2.trans A.symm) D (q▸n5) (z▸n6) n7 (Gu D dz) N J rfl rfl H;subst an;simp only[Pn,xW] at V;have ab:kill s [] ri=kill s0 [] ri:=rfl;refine⟨x,_,_,M',ap,rfl,V,⟨rfl,rfl,λt=>?_⟩,N,⟨U.names,by have:=U.len;rw[A] at this;exact this,U.gm,λm o v c T' k hb=>?_,?_⟩,?_⟩;·rw[Sg.bS,Sg.bS];show lk (dI C.τ ri σ s.nx (kill s [] ri++s.T)++s.B) 0 t=_;rw[cu,aij O,<-cu,List.append_assoc,R9 rfl]
    ·refine U.cl m o v ?_ T' k (by rw[q,z,A];exact hb);have c:lk (dI C.τ ri σ s.nx (kill s [] ri++s.T)++s.B) (m+1) o=some v:=c;have ao:∀X,dI C.τ ri σ s.nx X=dI C.τ ri σ s.nx []++X:=λX=>by rw[yS,List.nil_append]
     show lk (dI C.τ ri σ s0.nx []++(kill s0 [] ri++(s0.T++s0.B))) (m+1) o=some v;rw[<-c,A,E,F,ao (kill s [] ri++s.T),List.append_assoc,List.append_assoc,cu,cu (dI C.τ ri σ s.nx []),<-ab,cu (kill s [] ri),cu (kill s [] ri),kP uX,kD]
    ·obtain⟨Oa,Ob,q1,q2,q3⟩:=U.mem;exact⟨Oa,Ob,by have:=q1;rw[q,A] at this;exact this,by have:=q2;rw[z] at this;exact this,q3⟩
    ·obtain⟨Oa,Ob,q1,q2,q3⟩:=b.mem;have ae:RE C.τ M' W [] (s'.Th++s'.Bh) w' ⟨#[],[]⟩ (s'.T++s'.B):=⟨b.gm,(λt v c=>by have:=d.tm t;rw[Sg.bS,Sg.bS,c] at this;have:some v=lk ([]++bG (s.T++s.B)) 0 t:=this;rw[List.nil_append,nQ] at this;cases this),b.cl⟩;exact TP (fQ ae q1 q2 q3) hr hx
   ·cases H
  ·cases h
 ·cases h
end
end Go.R
