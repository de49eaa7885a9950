/- Several parts of the engine, one behind the other. -/
import Derived.Test.YtlbfmjolchehbaaGreatDoorErb
import Derived.Lib.UnsafeStr
set_option linter.all false
namespace Go.R
open Go.RowKit Go.Dc
section
variable {β:Type}(C:Cf)(s:Sg C.τ.S)
def Sg.wr{S:Nat->Type}(s:Sg S)(m o:Nat)(cs:List (SV S)):Sg S:=⟨s.B,cellsE m o cs++s.T,s.Bh,s.Th,s.nx⟩
def Ya(T:TypeId)(x:Operand)(K:SV C.τ.S->Sg C.τ.S->Option β):Option β:=match s.gets [] x with
 |some v=>match Ac C v with
  |true=>K (.r s.nx 0) (s.dY T v.cs)
  |false=>none
 |none=>none
def ru(T nx:Nat)(cs:List (SV C.τ.S))(s':Sg C.τ.S):Sg C.τ.S:=match Nat.beq T C.τ.tb,cs with|true,.z (.pointer none)::_=>⟨s'.B,(nx+1,0,.p nx)::s'.T,s'.Bh,s'.Th,s'.nx⟩|_,_=>s'
def EK(T:TypeId)(K:SV C.τ.S->Sg C.τ.S->Option β):Option β:=match rC C.P T with
 |some l=>match qh l with
  |some cs=>K (.r s.nx 0) (ru C T s.nx cs (s.dY T cs))
  |none=>none
 |none=>none
def setH{S:Nat->Type}(m:Nat)(x:SO S):Heap S->Heap S|[]=>[]|q::r=>match Nat.beq q.1 m with|true=>(m,x)::r|false=>q::setH m x r
def vG(c:Cd)(vs:List (SV C.τ.S)):Option (c.ty C.τ.S):=match D C.τ c (.c vs) with|some z=>some z|none=>match vs with|[v]=>D C.τ c v|_=>none
def LM(P:Program)(t:TypeId)(k:Nat):Bool:=match P.info? t with|some i=>Nat.beq i.size k|none=>false
def O8(t:TypeId)(x y:Operand)(K:Sg C.τ.S->Option β):Option β:=match s.gets [] x,s.gets [] y with
 |some (.r m o),some v=>match Ac C v,LM C.P t v.cs.length with
  |true,true=>match bq s.Th m with
   |some (.bx _ k)=>match Nat.ble (o+v.cs.length) k with
    |true=>K (s.wr m o v.cs)
    |false=>none
   |_=>none
  |_,_=>none
 |some (.e m n i j),some v=>match Ac C v,LM C.P t (gG s v).cs.length with
  |true,true=>match bq s.Th m with
   |some (.ar c xs)=>match Nat.beq n (C.τ.aC c),Nat.ble (j+(gG s v).cs.length) n with
    |true,true=>(idx xs i).bind λz=>match vG C c (DN (E C.τ c z).cs j (gG s v).cs) with
     |some a=>K ⟨s.B,s.T,s.Bh,setH m (.ar c (xs.set i.toNat a)) s.Th,s.nx⟩
     |none=>none
    |_,_=>none
   |_=>none
  |_,_=>none
 |_,_=>none
end
def Step(C:Cf)(n:Nat)(κ:Ctx C.τ)(ρ0:List Loc)(G:List (Nat×Bool))(s:Sg C.τ.S)(op:Op)(v:Option (SV C.τ.S))(s':Sg C.τ.S):Prop:=∀(K:Act->World->Prop) (Q:Exit->Act->World->Prop) (M:Mem) (w:World) (a:Act) (dst:Option Nat) (ty:TypeId) (pos:String) (aM:Array Edge) (b:Option (Nat×Bool)),SS C n κ ρ0 G s M w a->(∀M' w' x ρ O1 O2,Names ρ0 ρ->ρ.length=s'.nx->RE C.τ M' ρ G (s'.Th++s'.Bh) w' a (s'.T++s'.B)->RH C.τ M' ρ w' s'.Th O1->RH C.τ M' ρ w' s'.Bh O2->SM κ M' w' O1 O2->(∀u,v=some u->RG C.τ M' ρ G u x)->K (a.put dst x) w')->(⟨dst,op,ty,pos,aM,b⟩:Oper).wp C.P a w K Q
section
variable {β:Type}{C:Cf}{s s':Sg C.τ.S}{G p:List (Nat×Bool)}{g:Option Bool}{M:Mem}{ρ ρ' ρ0:List Loc}{H R:Heap C.τ.S}{w w':World}{a:Act}{O O1 O2:List Nat}{y:β}{n nx:Nat}{κ:Ctx C.τ}{Γ:Env C.τ.S}{Q:Exit->Act->World->Prop}
theorem TV{v:SV C.τ.S}{x:Value}(b:Ac C v=true)(h:RG C.τ M ρ G v x):∃vs,x.cells=vs.toArray/\aZ C.τ M ρ v.cs vs:=by
 cases h with
 |v a=>
  refine⟨[x],?_,?_⟩;·have:=a.one;cases x<;>first|rfl|cases this
  ·have:v.cs=[v]:=by cases a<;>rfl
   rw[this];exact .cons a .nil
 |c a=>exact⟨_,rfl,a⟩
 |t _ _=>cases b
 |g _ _ _=>cases b
 |u=>cases b
theorem fQ(c:RE C.τ M ρ G (s.Th++s.Bh) w a (s.T++s.B))(h1:RH C.τ M ρ w s.Th O1)(h2:RH C.τ M ρ w s.Bh O2)(b:SM κ M w O1 O2):Rd C s G [] M ρ (s.Th++s.Bh) w a (O1++O2):=Rd.of c h1 h2 b.sat (λh=>absurd rfl h)
theorem aCJ{m o:Nat}{cs:List (SV C.τ.S)}{t:Nat}:(s.wr m o cs).lk 0 t=s.lk 0 t:=by rw[Sg.bS,Sg.bS];show R.lk ((cellsE m o cs++s.T)++s.B) 0 t=_;rw[List.append_assoc,Gb]
theorem acF{a:TypeId}{cs:List (SV C.τ.S)}{t:Nat}:(s.dY a cs).lk 0 t=s.lk 0 t:=by rw[Sg.bS,Sg.bS];show R.lk ((cellsE s.nx 0 cs++s.T)++s.B) 0 t=_;rw[List.append_assoc,Gb]
structure Keep(s s':Sg C.τ.S):Prop where
 B:s'.B=s.B
 Bh:s'.Bh=s.Bh
 tm:∀t,s'.lk 0 t=s.lk 0 t
theorem Keep.rfl:Keep s s:=⟨_root_.rfl,_root_.rfl,λ_=>_root_.rfl⟩
theorem Keep.trans{s1 b c:Sg C.τ.S}(h:Keep s1 b)(a:Keep b c):Keep s1 c:=⟨a.B.trans h.B,a.Bh.trans h.Bh,λt=>(a.tm t).trans (h.tm t)⟩
theorem aIy{T:TypeId}{x:Operand}{K:SV C.τ.S->Sg C.τ.S->Option β}(h:Ya C s T x K=some y):∃v s',K v s'=some y/\Keep s s'/\Step C n κ ρ0 G s (.box T x) (some v) s':=by
 unfold Ya at h;split at h
 ·rename_i v F;split at h
  ·rename_i E;refine⟨_,_,h,⟨rfl,rfl,λt=>acF⟩,λK Q M w a dst ty pos aM q ⟨h0,ρ,O1,O2,B,A,f,h1,h2,d⟩ z=>?_⟩;obtain⟨vs,e,D⟩:=TV E ((fQ f h1 h2 d).gets F);obtain⟨c,g,i,j,k,l,m,o,p⟩:=aoW (T:=T) h0 B A f h1 h2 d D;have b:(execOp a.eval ⟨dst,.box T x,ty,pos,aM,q⟩).run C.P w= .ok (.value (.pointer (some ⟨w.heap.size,0,none⟩))) (w.alloc (.cells vs.toArray T)):=by show (Instr.box T (a.eval x) >>= λv=>pure (Next.value v)).run C.P w=_;rw[<-e];rfl
   unfold Oper.wp;rw[b];exact z _ _ _ c g O2 i j k l m o λu e=>by cases e;exact .v (.r p)
  ·cases h
 ·cases h
theorem aq4{T nx:Nat}{cs:List (SV C.τ.S)}{s':Sg C.τ.S}{t:Nat}:(ru C T nx cs s').lk 0 t=s'.lk 0 t:=by
 unfold ru;split;·unfold Sg.lk;rw[bX sm]
 ·rfl
theorem U0{T nx:Nat}{cs:List (SV C.τ.S)}{s':Sg C.τ.S}:(ru C T nx cs s').B=s'.B/\(ru C T nx cs s').Bh=s'.Bh/\(ru C T nx cs s').Th=s'.Th/\(ru C T nx cs s').nx=s'.nx:=by unfold ru;split<;>exact⟨rfl,rfl,rfl,rfl⟩
theorem aq3{T:Nat}{cs:List (SV C.τ.S)}{H:Heap C.τ.S}{l:Loc}(h:RE C.τ M ρ G H w a ((s.dY T cs).T++(s.dY T cs).B))(i:ρ[s.nx]?=some l):RE C.τ M ρ G H w a ((ru C T s.nx cs (s.dY T cs)).T++(ru C T s.nx cs (s.dY T cs)).B):=by
 unfold ru;split
 ·rename_i r _;refine⟨h.gm,λt v b=>?_,λm o v b f k g ho=>?_⟩;·have b:lk ((s.nx+1,0,SV.p s.nx)::((s.dY T (.z (.pointer none)::r)).T++(s.dY T (.z (.pointer none)::r)).B)) 0 t=some v:=b;rw[bX sm] at b;exact h.tm t v b
  ·have b:lk ((s.nx+1,0,SV.p s.nx)::((s.dY T (.z (.pointer none)::r)).T++(s.dY T (.z (.pointer none)::r)).B)) (m+1) o=some v:=b;rcases kN b with ⟨d,e,c⟩|⟨_,b⟩
   ·have d:m=s.nx:=by omega
    subst d e c;have h0:lk ((s.dY T (.z (.pointer none)::r)).T++(s.dY T (.z (.pointer none)::r)).B) (s.nx+1) 0=some (.z (.pointer none)):=jf;obtain⟨j,x,d,e,c⟩:=h.cl s.nx 0 _ h0 f k g ho;refine⟨j,x,d,e,.inr ?_⟩;rcases c with c|c;·cases c
    ·cases c;exact .p i (.inl rfl)
   ·exact h.cl m o v b f k g ho
 ·exact h
theorem aqp{T:TypeId}{K:SV C.τ.S->Sg C.τ.S->Option β}(h:EK C s T K=some y):∃v s',K v s'=some y/\Keep s s'/\Step C n κ ρ0 G s (.alloc T) (some v) s':=by
 unfold EK at h;split at h
 ·rename_i l b;split at h
  ·rename_i cs j;refine⟨_,_,h,⟨(U0).1,(U0).2.1,λt=>aq4.trans acF⟩,λK Q M w a dst ty pos aM F ⟨h0,ρ,O1,O2,N,L,I,h1,h2,H⟩ J=>?_⟩;obtain⟨k,q,x,A,g,B,D,E,m⟩:=aoW (T:=T) h0 N L I h1 h2 H (uq j);obtain⟨U,o,p,O⟩:=U0 (C:=C) (T:=T) (nx:=s.nx) (cs:=cs) (s':=s.dY T cs);have g:=aq3 g m;unfold rC at b
   cases f:C.P.info? T with
   |none=>rw[f] at b;cases b
   |some i=>
    cases c:i.zero with
    |none=>rw[f] at b;simp[c] at b
    |some z=>
     rw[f] at b;simp[c] at b;have R:(zeroValue T).run C.P w= .ok z w:=by unfold zeroValue;rw[run_bind_ok (Lp f w)];simp only[c];rfl
     have d:(execOp a.eval ⟨dst,.alloc T,ty,pos,aM,F⟩).run C.P w= .ok (.value (.pointer (some ⟨w.heap.size,0,none⟩))) (w.alloc (.cells l.toArray T)):=by
      show (Instr.alloc T true (.tuple #[]) >>= λv=>pure (Next.value v)).run C.P w=_;refine bQ ?_;unfold Instr.alloc;rw[run_bind_ok R];have:z.cells=l.toArray:=by rw[<-b]
      show (do pure (Value.pointer (some (<-newVar T z))):Sem Value).run C.P w=_;unfold newVar;rw[this];rfl
     unfold Oper.wp;rw[d];exact J _ _ _ k q O2 x (by rw[O];exact A) (by rw[p,o];exact g) (by rw[p];exact B) (by rw[o];exact D) E λu e=>by cases e;exact .v (.r m)
  ·cases h
 ·cases h
theorem aCU{α:Type}{x:α}{l:List α}(h:x∈l):∃a,l.Perm (x::a):=by obtain⟨s,t,rfl⟩:=List.append_of_mem h;exact⟨s++t,List.perm_middle⟩
theorem aes{P:Program}{t k:Nat}(h:LM P t k=true):P.cellsOf t=k/\(P.info? t).isSome=true:=by
 unfold LM at h;split at h;·rename_i i a;exact⟨by simp[Program.cellsOf,a,Nat.eq_of_beq_eq_true h],by simp[a]⟩
 ·cases h
theorem RE.perm{τ:Tb}{H H':Heap τ.S}{Γ:Env τ.S}(hp:∀x,x∈H'->x∈H)(h:RE τ M ρ G H w a Γ):RE τ M ρ G H' w a Γ:=⟨h.gm,h.tm,λm o v c T k b ho=>h.cl m o v c T k (hp _ b) ho⟩
theorem aKa{m o T k:Nat}{l:Loc}{cs:List (SV C.τ.S)}{us ls:List Value}{p Bh:Heap C.τ.S}{Γ:Env C.τ.S}(z:RE C.τ M ρ G ((m,.bx T k)::p++Bh) w a Γ)(I:ρ[m]?=some l)(O:w.heap[l.b]?=some (.cells ls.toArray T (0,0)))(q:aZ C.τ M ρ cs us)(h:o+cs.length<=ls.length)(g:w'.heap[l.b]?=some (.cells (fZ ls o us).toArray T (0,0)))(P:∀c,c≠l.b->w'.heap[c]?=w.heap[c]?)(h1:RH C.τ M ρ w p O1)(h2:RH C.τ M ρ w Bh O2)(A:l.b∉O1++O2):RE C.τ M ρ G ((m,.bx T k)::p++Bh) w' a (cellsE m o cs++Γ):=by
 refine⟨z.gm,λt v r=>z.tm t v (by rw[Gb] at r;exact r),λs n v r F J d ho=>?_⟩;rcases Sz r with ⟨e,y,H,N⟩|⟨y,H⟩
 ·have e:s=m:=by omega
  subst e;obtain⟨x,Q,E⟩:=q.get N;refine⟨l,x,I,KT g ?_,.inr E⟩;have:=Un us ls o (n-o) (by rw[q.len];omega) (by rw[q.len];exact h);rw[show o+(n-o)=n by omega] at this;rw[this];exact Q
 ·obtain⟨K,x,f,u,L⟩:=z.cl s n v H F J d ho;refine⟨K,x,f,?_,L⟩;by_cases i:s=m
  ·subst i;rw[I] at f;cases f;have:ls[n]?=some x:=by simpa [World.cell?,O] using u
   refine KT g ?_;rw[Gz _ _ _ _ (by rw[q.len];omega)];exact this
  ·have d:(s,SO.bx F J)∈p++Bh:=by
    rw[List.cons_append] at d;rcases List.mem_cons.1 d with e|d;·cases e;exact absurd rfl i
    ·exact d
   obtain⟨ob,D,j⟩:=(h1.app h2).look d;cases D with|bx y _ _ _=>rw[y] at f;cases f;have B:K.b≠l.b:=λe=>A (e▸j _ sm);unfold World.cell? at u |-;rw[P _ B];exact u
end
end Go.R
namespace Go.R
open Go.RowKit Go.Dc
section
variable {β:Type}{C:Cf}{s s':Sg C.τ.S}{G p:List (Nat×Bool)}{g:Option Bool}{M M':Mem}{ρ ρ' ρ0:List Loc}{H R:Heap C.τ.S}{w w':World}{a:Act}{O O' O1 O2:List Nat}{y:β}{n nx:Nat}{κ:Ctx C.τ}{Γ:Env C.τ.S}{Q:Exit->Act->World->Prop}
theorem SM.perm(h:SM κ M w O1 O2)(hp:O1.Perm O'):SM κ M w O' O2:=⟨h.tab,h.frame,h.sat,h.le,h.new,(hp.append_right O2).nodup_iff.1 h.nodup,λb a=>h.own b (hp.mem_iff.2 a),h.red⟩
theorem DK{S:Nat->Type}{m:Nat}{x y:SO S}:∀{H:Heap S},bq H m=some x->∃a,H.Perm ((m,x)::a)/\(setH m y H).Perm ((m,y)::a)
 |[],h=>by simp[bq] at h
 |q::r,h=>by
  unfold bq at h
  split at h
  ·rename_i e
   have b:=Nat.eq_of_beq_eq_true e
   cases h
   subst b
   exact⟨r,.rfl,by rw[setH,e]⟩
  ·rename_i e
   obtain⟨a,h1,h2⟩:=DK (y:=y) h
   exact⟨q::a,(h1.cons q).trans (.swap _ _ _),by rw[setH,e];exact (h2.cons q).trans (.swap _ _ _)⟩
theorem RE.more{τ:Tb}{H:Heap τ.S}{Γ:Env τ.S}{m:Nat}{x:SO τ.S}(h:RE τ M ρ G H w a Γ)(d:∀T n,x≠ .bx T n):RE τ M ρ G ((m,x)::H) w a Γ:=
 ⟨h.gm,h.tm,λf o v c T k b ho=>by
  rcases List.mem_cons.1 b with e|b
  ·cases e;exact absurd rfl (d _ _)
  ·exact h.cl f o v c T k b ho⟩
theorem RH.back{τ:Tb}{H H':Heap τ.S}(hp:H.Perm H'){O:List Nat}(h:RH τ M ρ w H' O)(b:SM κ M w O O2):∃a,RH τ M ρ w H a/\SM κ M w a O2:=by obtain⟨a,h1,h2⟩:=h.perm hp.symm;exact⟨a,h1,b.perm h2⟩
theorem WO(arr:Array Value):arr=arr.toList.toArray:=by simp
theorem Row.set{τ:Tb}{c:Cd}{xs:List (c.ty τ.S)}{arr:Array Value}{i j:Nat}{z z':c.ty τ.S}{us:List Value}{cs:List (SV τ.S)}(h:Row τ M ρ c xs (λj=>arr[j]?))(A:xs[i]?=some z)(B:xs.length*τ.aC c<=arr.size)(l:aZ τ M ρ cs us)(w:j+cs.length<=τ.aC c)(n:∀(q:Nat) u,(E τ c z').cs[q]?=some u->∀v,(fZ ((arr.toList.drop (i*τ.aC c)).take (τ.aC c)) j us)[q]?=some v->RV τ M ρ u v):Row τ M ρ c (xs.set i z') (λq=>(fZ arr.toList (i*τ.aC c+j) us)[q]?):=by
 have r:i<xs.length:=(List.getElem?_eq_some_iff.1 A).1;have g:(i+1)*τ.aC c<=xs.length*τ.aC c:=Nat.mul_le_mul_right _ r;rw[Nat.succ_mul] at g;intro b x a q u m;have y:q<τ.aC c:=by rw[<-jd c x];exact (List.getElem?_eq_some_iff.1 m).1
 rw[List.getElem?_set] at a;by_cases e:i=b
 ·subst e;simp only[if_true,r] at a;cases a;have d:((arr.toList.drop (i*τ.aC c)).take (τ.aC c)).length=τ.aC c:=by simp;omega
  have f:i*τ.aC c+q<(fZ arr.toList (i*τ.aC c+j) us).length:=by rw[Ls];simp;omega
  refine⟨_,List.getElem?_eq_getElem f,n q u m _ ?_⟩;rw[<-List.getElem?_eq_getElem f];by_cases t:j<=q/\q<j+us.length;·have o:=Un us arr.toList (i*τ.aC c+j) (q-j) om (by rw[l.len];simp;omega);have p:=Un us ((arr.toList.drop (i*τ.aC c)).take (τ.aC c)) j (q-j) om (by rw[l.len,d];exact w);rw[show i*τ.aC c+j+(q-j)=i*τ.aC c+q by omega] at o;rw[show j+(q-j)=q by omega] at p;rw[o,p]
  ·rw[Gz _ _ _ _ om,Gz _ _ _ _ om];rw[List.getElem?_take_of_lt y,List.getElem?_drop]
 ·simp only[if_neg e] at a;obtain⟨v,h1,h2⟩:=h b x a q u m;refine⟨v,?_,h2⟩;have s:b<xs.length:=(List.getElem?_eq_some_iff.1 a).1
  have k:b*τ.aC c+q<i*τ.aC c\/(i+1)*τ.aC c<=b*τ.aC c+q:=by
   rcases Nat.lt_or_gt_of_ne e with h|h;·right;exact Nat.le_trans (Nat.mul_le_mul_right _ h) (Nat.le_add_right _ _)
   ·left;have:=Nat.mul_le_mul_right (τ.aC c) h;rw[Nat.succ_mul] at this;omega
  rw[Nat.succ_mul] at k;show (fZ arr.toList (i*τ.aC c+j) us)[b*τ.aC c+q]?=some v;rw[Gz _ _ _ _ (by rw[l.len];omega)];simpa using h1
theorem aww{v:SV C.τ.S}(a:Ac C v=true):Ac C (gG s v)=true:=by
 unfold gG;split;·rfl
 ·unfold fz;split;·split<;>rfl
  ·rfl
  ·exact a
theorem aeY{i:Nat}{v:SV C.τ.S}{z:(Cd.st i).ty C.τ.S}(h:D C.τ (.st i) v=some z):∃vs p,v= .c vs/\DL C.τ (C.τ.cs i) vs=some p/\z=C.τ.KG i p:=by
 cases v with
 |c vs=>
  simp only[D] at h;split at h;·rename_i p hp;cases h;exact⟨vs,p,rfl,hp,rfl⟩
  ·cases h
 |_=>simp[D] at h
theorem ae0{c:Cd}(a:∀i,c≠ .st i)(z:c.ty C.τ.S):(E C.τ c z).cs=[E1 C.τ c z]:=by cases c with|st i=>exact absurd rfl (a i)|any=>rfl|_=>rfl
theorem Mg{c:Cd}(a:∀i,c≠ .st i){v:SV C.τ.S}{z:c.ty C.τ.S}(h:D C.τ c v=some z):D1 C.τ c v=some z:=by cases c with|st i=>exact absurd rfl (a i)|_=>exact h
theorem aeX{c:Cd}{v:SV C.τ.S}{xs:List Value}{z:c.ty C.τ.S}(h:D C.τ c v=some z)(b:aZ C.τ M ρ v.cs xs):aZ C.τ M ρ (E C.τ c z).cs xs:=by
 by_cases a:∃i,c= .st i;·obtain⟨i,rfl⟩:=a;obtain⟨vs,p,rfl,h1,rfl⟩:=aeY h;simp only[E,C.τ.um];exact Vb h1 b
 ·have a:∀i,c≠ .st i:=λi e=>a ⟨i,e⟩;rw[ae0 a];have h1:=Mg a h;have f:v.cs=[v]:=by cases v with|c vs=>cases c<;>simp[D1] at h1|_=>rfl
  rw[f] at b;cases b with|cons h2 d=>cases d;exact .cons (Ho h1 h2) .nil
theorem Hq{c:Cd}{vs:List (SV C.τ.S)}{xs:List Value}{z:c.ty C.τ.S}(h:vG C c vs=some z)(a:aZ C.τ M ρ vs xs):aZ C.τ M ρ (E C.τ c z).cs xs:=by
 unfold vG at h;split at h;·rename_i e d;cases h;exact aeX (v:= .c vs) d a
 ·split at h
  ·rename_i v _;have b:=a
   cases a with
   |cons h1 h2=>
    cases h2;refine aeX h ?_;have:v.cs=[v]:=by cases h1<;>rfl
    rw[this];exact b
  ·cases h
theorem aqs{t:TypeId}{x z:Operand}{K:Sg C.τ.S->Option β}(h:O8 C s t x z K=some y):∃s',K s'=some y/\Keep s s'/\Step C n κ ρ0 G s (.store t x z) none s':=by
 unfold O8 at h;split at h
 ·rename_i m o v hx hz;split at h
  ·rename_i hv X;obtain⟨ht,W⟩:=aes X;split at h
   ·rename_i T k hm;split at h
    ·rename_i f;have f:=Nat.le_of_ble_eq_true f;refine⟨_,h,⟨rfl,rfl,λt=>aCJ⟩,λK Q M w a dst ty pos aM gd ⟨h0,ρ,O1,O2,hn,hl,he,h1,h2,h3⟩ hk=>?_⟩;have hr:=fQ he h1 h2 h3;have hp:=hr.rv hx;obtain⟨us,e,I⟩:=TV hv (hr.gets hz);obtain⟨Hr,d⟩:=aCU (pz hm);obtain⟨bN,L,hO⟩:=h1.perm d;have D:=h3.perm hO;generalize N:a.eval x=ax at hp;cases hp with|r Y=>
     cases L with| @cons _ _ ob os _ p hH=>
     cases p with| @bx _ _ l arr J Z e3 e4=>
     obtain rfl:=Option.some.inj (J.symm.trans Y);rw[WO arr] at Z;have V:arr.toList.length=k:=by simpa using e3
     obtain⟨w',A,hf,_,F,H⟩:=adX (P:=C.P) (o:=o) (t:=t) e (by rw[I.len]) Z (by rw[V];exact f) I.one ht W;obtain⟨h4,h5⟩:=SM.change (w':=w') D (λj v e=>by rw[e4 j] at e;cases e) hf H;have aw:l.b∉os++O2:=(List.nodup_cons.1 D.nodup).1;have an:=aKa (he.perm (H':=(m,.bx T k)::Hr++s.Bh) (λq U=>(d.append_right s.Bh).mem_iff.2 U)) J Z I (by rw[V];exact f) F H hH h2 aw;have BN:RH C.τ M ρ w' ((m,.bx T k)::Hr) ([l.b]++os):= .cons (.bx J F (by simp[Ls,V]) e4) (hH.ext Names.rfl (h5.sub λb p=>List.mem_append_left _ p));obtain⟨O3,h6,h7⟩:=BN.back d h4;have g:(execOp a.eval ⟨dst,.store t x z,ty,pos,aM,gd⟩).run C.P w= .ok .skip w':=by show ((Instr.storeAt t (a.eval x) (a.eval z)) >>= λ_=>pure Next.skip).run C.P w=_;rw[N,run_bind_ok A];rfl
     unfold Oper.wp;rw[g];refine hk M w' undef ρ O3 O2 hn hl ?_ h6 (h2.ext Names.rfl (h5.sub λb p=>List.mem_append_right _ p)) h7 (λu e=>by cases e);rw[show (s.wr m o v.cs).T++(s.wr m o v.cs).B=cellsE m o v.cs++(s.T++s.B) by simp[Sg.wr]];exact an.perm λq U=>(d.append_right s.Bh).mem_iff.1 U
    ·cases h
   ·cases h
  ·cases h
 ·rename_i m n' i j v hx hz;split at h
  ·rename_i hv X;obtain⟨ht,W⟩:=aes X;split at h
   ·rename_i c xs hm;split at h
    ·rename_i R f;have R:=Nat.eq_of_beq_eq_true R;have f:=Nat.le_of_ble_eq_true f;subst R;obtain⟨z0,hi,h⟩:=bind_some h;split at h
     ·rename_i z' hD;refine⟨_,h,⟨rfl,rfl,λt=>rfl⟩,λK Q M w a dst ty pos aM gd ⟨h0,ρ,O1,O2,hn,hl,he,h1,h2,h3⟩ hk=>?_⟩;have hr:=fQ he h1 h2 h3;have hp:=hr.rv hx;obtain⟨us,e,I⟩:=TV (aww (s:=s) hv) (wE hr (hr.gets hz));obtain⟨Hr,d,zh⟩:=DK (y:= .ar c (xs.set i.toNat z')) hm;obtain⟨bN,L,hO⟩:=h1.perm d;have D:=h3.perm hO;obtain⟨a5,a3,O⟩:=wX hi;generalize N:a.eval x=ax at hp;cases hp with|e Y=>
      cases L with| @cons _ _ ob os _ p hH=>
      cases p with|ig J Z=>simp at O| @ar _ _ T l arr J Z e3 e4 e5 e6 e7 e8 e9 aa=>
      obtain rfl:=Option.some.inj (J.symm.trans Y);have a4:=e7;rw[WO arr] at e7;have ae:us.length=(gG s v).cs.length:=I.len;have aq:(i.toNat+1)*C.τ.aC c<=xs.length*C.τ.aC c:=Nat.mul_le_mul_right _ om;have ab:xs.length*C.τ.aC c<=arr.size:=Nat.le_trans (Nat.mul_le_mul_right _ e5) e8;rw[Nat.succ_mul] at aq;obtain⟨w',A,hf,_,F,H⟩:=adX (P:=C.P) (o:=i.toNat*C.τ.aC c+j) (t:=t) e (by rw[ae]) e7 (by simp;omega) I.one ht W;obtain⟨h4,h5⟩:=SM.change (w':=w') D (λj v e=>by rw[aa j] at e;cases e) hf H;have ag:((arr.toList.drop (i.toNat*C.τ.aC c)).take (C.τ.aC c)).length=C.τ.aC c:=by simp;omega
      have af:=Row.set (z':=z') (j:=j) (us:=us) (cs:=(gG s v).cs) e9 O ab I f (by
       intro q u hu v' az;have hold:aZ C.τ M ρ (E C.τ c z0).cs ((arr.toList.drop (i.toNat*C.τ.aC c)).take (C.τ.aC c)):=aZ.of (by rw[ag,jd]) λq' u' v' h1 h2=>by obtain⟨a2,g1,g2⟩:=e9 _ _ O q' u' h1;have:=take_drop h2;have g1:arr[i.toNat*C.τ.aC c+q']?=some a2:=g1;rw[Array.getElem?_toList] at this;rw[this] at g1;cases g1;exact g2
       exact (Hq hD (Uo (C:=C) j I hold)).at hu az)
      have BN:RH C.τ M ρ w' ((m,.ar c (xs.set i.toNat z'))::Hr) ([l.b]++os):= .cons (.ar (xs:=xs.set i.toNat z') (arr:=(fZ arr.toList (i.toNat*C.τ.aC c+j) us).toArray) (T:=T) J Z (by simpa using e3) e4 (by simpa using e5) (by simpa using e6) F (by simp[Ls];omega) (by intro i' x' aE q u hu;obtain⟨v',g1,g2⟩:=af i' x' aE q u hu;exact⟨v',by simpa using g1,g2⟩) aa) (hH.ext Names.rfl (h5.sub λb p=>List.mem_append_left _ p));obtain⟨O3,h6,h7⟩:=BN.back zh h4;have g:(execOp a.eval ⟨dst,.store t x z,ty,pos,aM,gd⟩).run C.P w= .ok .skip w':=by have a1:(Instr.storeAt t (.pointer (some ⟨l.b,i.toNat*C.τ.aC c+j,none⟩)) (a.eval z)).run C.P w= .ok () w':=A;show ((Instr.storeAt t (a.eval x) (a.eval z)) >>= λ_=>pure Next.skip).run C.P w=_;rw[N,run_bind_ok a1];rfl
      unfold Oper.wp;rw[g];refine hk M w' undef ρ O3 O2 hn hl ?_ h6 (h2.ext Names.rfl (h5.sub λb p=>List.mem_append_right _ p)) h7 (λu e=>by cases e);have ao:=he.perm (H':=Hr++s.Bh) (λq U=>(d.append_right s.Bh).mem_iff.2 (List.mem_cons_of_mem _ U));have ap:=(ao.ext Names.rfl (hH.app h2) h5).more (m:=m) (x:= .ar c (xs.set i.toNat z')) (λ_ _ e=>by cases e);exact ap.perm λq U=>(zh.append_right s.Bh).mem_iff.1 U
     ·cases h
    ·cases h
   ·cases h
  ·cases h
 ·cases h
end
end Go.R
namespace Go.R
open Go.RowKit Go.Dc
theorem apX{P:Program}{t e:TypeId}(b:P.underlying t=some (.slice e))(a:Addr)(l c:Nat)(w:World):(Op.equal t (.slice (some a) l c) (.slice none 0 0)).run P w= .ok false w:=by show (Op.equalIn (9999+1) t _ _).run P w=_;unfold Op.equalIn;rw[run_bind_ok (fH b w)];rfl
theorem apW{P:Program}{t e:TypeId}(a:P.underlying t=some (.slice e))(w:World):(Op.equal t (.slice none 0 0) (.slice none 0 0)).run P w= .ok true w:=by show (Op.equalIn (9999+1) t _ _).run P w=_;unfold Op.equalIn;rw[run_bind_ok (fH a w)];rfl
def afL(P:Program)(t:TypeId):Option Nat:=match P.underlying t with
 |some (.array k e)=>match P.info? e with
  |some i=>match Nat.beq i.size 1&&lD P e with|true=>some k|false=>none
  |none=>none
 |_=>none
section
variable {β:Type}(C:Cf)(s:Sg C.τ.S)(p:List (Nat×Bool))(g:Option Bool)
def SN(v:SV C.τ.S)(K:Bool->Option β):Option β:=match v with| .nl=>K true| .l _ xs=>rV g (!xs.isEmpty) (K false)|_=>none
def Yr(w:Bool)(op:BinOp)(t:TypeId)(x y:Operand)(K:SV C.τ.S->Option β):Option β:=match op,y with
 | .shr,.const (.int _ 1)=>match s.gets p x with
  |some (.i k a)=>K (.i k (a.fdiv 2))
  |_=>none
 | .eql,.const (.slice none 0 0)=>match wY C.P t,s.gets p x with
  |true,some v=>SN C g (fz s v) λb=>K (.b b)
  |_,_=>none
 | .neq,.const (.slice none 0 0)=>match wY C.P t,s.gets p x with
  |true,some v=>SN C g (fz s v) λb=>K (.b (!b))
  |_,_=>none
 |op,y=>Yq C s p g w op t x y K
def Yy(t:TypeId)(x y:Operand)(K:SV C.τ.S->Option β):Option β:=match afL C.P t with
 |some m=>match s.gets p x,s.gets p y with
  |some (.c vs),some (.i _ (.ofNat q))=>match Nat.beq vs.length m,vs[q]? with
   |true,some v=>match DW C v with|true=>K v|false=>none
   |_,_=>none
  |_,_=>none
 |none=>YA C s p g t x y K
end
section
variable {β:Type}{C:Cf}{s:Sg C.τ.S}{G p:List (Nat×Bool)}{g:Option Bool}{M:Mem}{ρ:List Loc}{H:Heap C.τ.S}{w:World}{a:Act}{O:List Nat}{y:β}{K:SV C.τ.S->Option β}
theorem aoX{v:SV C.τ.S}{K:Bool->Option β}(j:GT G p g)(h:SN C g v K=some y):∃b,K b=some y/\∀(M:Mem) (ρ:List Loc) (H:Heap C.τ.S) (w:World) (a:Act) (O:List Nat) (x:Operand) (u:SV C.τ.S),Rd C s G p M ρ H w a O->s.gets p x=some u->fz s u=v->(a.eval x= .slice none 0 0/\b=true)\/∃ad l c,a.eval x= .slice (some ad) l c/\b=false:=by
 unfold SN at h;split at h;·refine⟨true,h,λM ρ H w a O x u d i f=> .inl ⟨?_,rfl⟩⟩;have:=d.fz i f;generalize a.eval x=z at this |-;cases this;rfl
 ·rename_i c xs;obtain⟨h1,h2⟩:=uz j h;refine⟨false,h1,λM ρ H w a O x u d i f=> .inr ?_⟩;have:=d.fz i f;have e:=h2 d.hold;generalize a.eval x=z at this |-;cases this with|l vs _ _ _ _ _=>exact⟨_,_,_,rfl,rfl⟩|le=>simp at e
 ·cases h
theorem Uf{P:Program}{op:BinOp}{t:TypeId}{x y:Operand}{a:Option Addr}{l c:Nat}{v:Value}(w:World):(eqGuard op t x y (.slice a l c) v).run P w= .ok () w:=by unfold eqGuard;cases op<;>rfl
theorem avO{w:Bool}{op:BinOp}{t u:TypeId}{x A:Operand}(o:GT G p g)(h:Yr C s p g w op t x A K=some y):∃v,K v=some y/\Ev C s G p (.binOp op t x A u) v:=by
 unfold Yr at h;split at h
 ·split at h
  ·rename_i n E k a D;refine⟨_,h,λM ρ H w d O j=>⟨_,.v .i,λw' _ dst ty pos aM z=>?_⟩⟩;simp only[execOp,j.i D];have B:∀b,(eqGuard .shr t x (.const (.int n 1)) (.int k a) b).run C.P w'= .ok () w':=λb=>rfl;show ((eqGuard .shr t x _ (.int k a) (.int n 1) >>= λ_=>binOp .shr t (.int k a) (.int n 1)) >>= λv=>pure (Next.value v)).run C.P w'=_;refine bQ ?_;rw[run_bind_ok (B _)];show (Op.shift .shr k a n 1).run C.P w'=_;unfold Op.shift;have:min (1:Int).toNat k.bits=1:=by cases k<;>rfl
   simp only[this];rfl
  ·cases h
 ·split at h
  ·rename_i v q r;obtain⟨e,m⟩:=aaZ q;obtain⟨b,h1,h2⟩:=aoX o h;refine⟨_,h1,λM ρ H w d O j=>⟨_,.v .b,λw' _ dst ty pos aM z=>?_⟩⟩;show ((eqGuard .eql t x _ (d.eval x) (.slice none 0 0) >>= λ_=>binOp .eql t (d.eval x) (.slice none 0 0)) >>= λv=>pure (Next.value v)).run C.P w'=_;refine bQ ?_;rcases h2 M ρ H w d O x v j r rfl with ⟨f,rfl⟩|⟨ad,l,c,f,rfl⟩;·rw[f,run_bind_ok (Uf w')];show (Op.equal t _ _ >>= λb=>pure (Value.bool b)).run C.P w'=_;rw[run_bind_ok (apW m w')];rfl
   ·rw[f,run_bind_ok (Uf w')];show (Op.equal t _ _ >>= λb=>pure (Value.bool b)).run C.P w'=_;rw[run_bind_ok (apX m _ _ _ w')];rfl
  ·cases h
 ·split at h
  ·rename_i v q r;obtain⟨e,m⟩:=aaZ q;obtain⟨b,h1,h2⟩:=aoX o h;refine⟨_,h1,λM ρ H w d O j=>⟨_,.v .b,λw' _ dst ty pos aM z=>?_⟩⟩;show ((eqGuard .neq t x _ (d.eval x) (.slice none 0 0) >>= λ_=>binOp .neq t (d.eval x) (.slice none 0 0)) >>= λv=>pure (Next.value v)).run C.P w'=_;refine bQ ?_;rcases h2 M ρ H w d O x v j r rfl with ⟨f,rfl⟩|⟨ad,l,c,f,rfl⟩;·rw[f,run_bind_ok (Uf w')];show (Op.equal t _ _ >>= λb=>pure (Value.bool (!b))).run C.P w'=_;rw[run_bind_ok (apW m w')];rfl
   ·rw[f,run_bind_ok (Uf w')];show (Op.equal t _ _ >>= λb=>pure (Value.bool (!b))).run C.P w'=_;rw[run_bind_ok (apX m _ _ _ w')];rfl
  ·cases h
 ·exact avN o h
theorem avU{t:TypeId}{x o:Operand}(B:GT G p g)(h:Yy C s p g t x o K=some y):∃v,K v=some y/\Ev C s G p (.index t x o) v:=by
 unfold Yy at h;split at h
 ·rename_i m b;split at h
  ·rename_i vs k q I J;split at h
   ·rename_i v a u;split at h
    ·rename_i E;refine⟨_,h,λM ρ H w f O r=>?_⟩;have d:=r.gets I;generalize j:f.eval x=ax at d;cases d with|v h=>cases h| @c _ xs l=>
     obtain⟨z,L,N⟩:=l.get u;refine⟨z,.v N,λw' _ dst ty pos aM Q=>?_⟩;show (Instr.index t (f.eval x) (f.eval o) >>= λv=>pure (Next.value v)).run C.P w'=_;rw[j,r.i J];refine bQ ?_;unfold afL at b;split at b
     ·rename_i S e F;split at b
      ·rename_i i D;split at b;·rename_i h1;cases b;simp only[Bool.and_eq_true] at h1;have n:=Nat.eq_of_beq_eq_true h1.1;have a:=Nat.eq_of_beq_eq_true a;have R:q<vs.length:=(List.getElem?_eq_some_iff.1 u).1;unfold Instr.index;show (underlying t >>= _).run C.P w'=_;rw[run_bind_ok (fH F w')];have A:(0:Int)<=Int.ofNat q/\Int.ofNat q<(m:Int):=⟨Int.natCast_nonneg _,by show (q:Int)<m;omega⟩;simp only[A,and_self,if_true];rw[run_bind_ok (Dn D w'),n,Nat.mul_one];exact Dm h1.2 (by simpa using L)
       ·cases b
      ·cases b
     ·cases b
    ·cases h
   ·cases h
  ·cases h
 ·exact avW B h
end
end Go.R
namespace Go.R
open Go.RowKit Go.Dc
def IK(P:Program)(t:TypeId):Option (Nat×Nat):=match P.underlying t with
 |some (.array k e)=>match P.info? e with|some i=>some (k,i.size)|none=>none
 |_=>none
theorem apY{P:Program}{t b o m sz:Nat}{k:IntKind}{i:Int}(hs:IK P t=some (m,sz))(d:0<=i/\i<(m:Int))(w:World):(Instr.indexAt t (.pointer (some ⟨b,o,none⟩)) (.int k i)).run P w= .ok (.pointer (some ⟨b,o+i.toNat*sz,none⟩)) w:=by
 unfold IK at hs;split at hs
 ·rename_i f e c;split at hs
  ·rename_i ti a;cases hs;unfold Instr.indexAt;show (underlying t >>= _).run P w=_;rw[run_bind_ok (fH c w)];show (underlying t >>= _).run P w=_;rw[run_bind_ok (fH c w)];simp only[d,and_self,if_true];rw[run_bind_ok (Dn a w)];show Result.ok (Value.pointer (some (Addr.add ⟨b,o,none⟩ (i.toNat*ti.size)))) w=_;by_cases h0:i.toNat*ti.size=0;·simp[Addr.add,h0]
   ·simp only[Addr.add,h0,if_false]
  ·cases hs
 ·cases hs
section
variable {β:Type}(C:Cf)(s:Sg C.τ.S)(p:List (Nat×Bool))(g:Option Bool)
def Pf(t:TypeId)(x y:Operand)(K:SV C.τ.S->Option β):Option β:=match IK C.P t with
 |some a=>match s.gets p x,s.gets p y with
  |some (.e m n (.ofNat 0) 0),some (.i _ i)=>match s.bq m with
   |some (.ar c xs)=>match Nat.beq n (C.τ.aC c),Nat.beq a.2 n with
    |true,true=>rV g (decide (0<=i/\i<(a.1:Int))) (wF C g c (idx xs i) λ_=>K (.e m n i 0))
    |_,_=>none
   |_=>none
  |_,_=>none
 |none=>YB C s p g t x y K
end
section
variable {β:Type}{C:Cf}{s:Sg C.τ.S}{G p:List (Nat×Bool)}{g:Option Bool}{M:Mem}{ρ:List Loc}{H:Heap C.τ.S}{w:World}{a:Act}{O:List Nat}{y:β}{K:SV C.τ.S->Option β}
theorem aiq{t:TypeId}{x u:Operand}(j:GT G p g)(h:Pf C s p g t x u K=some y):∃v,K v=some y/\Ev C s G p (.indexAddr t x u) v:=by
 unfold Pf at h;split at h
 ·rename_i r l;split at h
  ·rename_i m n k i I J;split at h
   ·rename_i c xs N;split at h
    ·rename_i A d;have A:=Nat.eq_of_beq_eq_true A;have d:=Nat.eq_of_beq_eq_true d;obtain⟨h1,h2⟩:=uz j h;obtain⟨z,E,_⟩:=BI j h1;refine⟨_,E,λM ρ H w a O q=>?_⟩;have F:0<=i/\i<(r.1:Int):=by simpa using h2 q.hold
     have B:=q.rv I;generalize f:a.eval x=ax at B;cases B with|e D=>refine⟨_,.v (.e D),λw' _ dst ty pos aM L=>?_⟩;show (Instr.indexAt t (a.eval x) (a.eval u) >>= λv=>pure (Next.value v)).run C.P w'=_;rw[f,q.i J];have:=bQ (apY (P:=C.P) (b:=(‹Loc›).b) (o:=(Int.ofNat 0).toNat*n+0) (m:=r.1) (sz:=r.2) (k:=k) l F w');simpa [d] using this
    ·cases h
   ·cases h
  ·cases h
 ·exact avX j h
end
end Go.R
namespace Go.R
open Go.RowKit Go.Dc
theorem dh.len{τ:Tb}{M:Mem}{ρ:List Loc}{w:World}{c:Cd}{jj i:Nat}{ho:Option Int}{xs:List (c.ty τ.S)}{vs:List Value}{O:List Nat}(h:dh τ M ρ w c jj ho i xs vs O):vs.length=xs.length:=by induction h with|nil=>rfl|own _ _ _ _ a=>simp[a]|hole _ _ a=>simp[a]
theorem aCG{P:Program}{t:TypeId}{n:Nat}(h:zO P t=some (n,false)):lD P t=true:=by
 unfold zO at h;split at h;·cases h
 ·split at h;·rename_i h1;exact h1
  ·cases h
section
variable {β:Type}(C:Cf)(s:Sg C.τ.S)(p:List (Nat×Bool))(g:Option Bool)
def ldR(c:Cd)(jj h:Nat)(i:Int)(nn:Nat)(a:Bool)(j:Nat)(z:c.ty C.τ.S):Option (SV C.τ.S):=match Nat.beq j jj,a with
 |true,false=>match (E C.τ c z).cs[jj]? with
  |some (.l d ys)=>some (.x h i d ys)
  |_=>none
 |_,_=>yK C nn a (((E C.τ c z).cs.drop j).take nn)
def YF(t:TypeId)(x:Operand)(K:SV C.τ.S->Option β):Option β:=match s.gets p x with
 |some (.e m n i j)=>match s.bq m with
  |some (.rr c jj xs h none)=>match zO C.P t with
   |some q=>match Nat.beq n (C.τ.aC c) with
    |true=>wF C g c (idx xs i) λz=>match ldR C c jj h i q.1 q.2 j z with|some v=>K v|none=>none
    |false=>none
   |none=>none
  |_=>Ph C s p g t x K
 |_=>Ph C s p g t x K
def YE(t:TypeId)(x:Operand)(K:SV C.τ.S->Option β):Option β:=match s.gets p x with
 |some (.o m)=>match s.bq m with
  |some (.rr _ _ xs _ _)=>match wY C.P t with|true=>K (.i .i64 (xs.length:Int))|false=>none
  |_=>Pg C s p t x K
 |_=>Pg C s p t x K
def YC(t:TypeId)(x y:Operand)(K:SV C.τ.S->Option β):Option β:=match s.gets p x with
 |some (.o m)=>match s.bq m with
  |some (.rr c _ xs _ _)=>match elemSize C.P t,s.gets p y with
   |some n,some (.i _ i)=>match Nat.beq n (C.τ.aC c) with
    |true=>wF C g c (idx xs i) λ_=>K (.e m n i 0)
    |false=>none
   |_,_=>none
  |_=>Pf C s p g t x y K
 |_=>Pf C s p g t x y K
end
section
variable {β:Type}{C:Cf}{s:Sg C.τ.S}{G p:List (Nat×Bool)}{g:Option Bool}{M:Mem}{ρ:List Loc}{H:Heap C.τ.S}{w:World}{a:Act}{O:List Nat}{y:β}{K:SV C.τ.S->Option β}
theorem av1{t:TypeId}{x:Operand}(S:GT G p g)(h:YF C s p g t x K=some y):∃v,K v=some y/\Ev C s G p (.load t x) v:=by
 unfold YF at h;split at h
 ·rename_i m n i j hx;split at h
  ·rename_i c jj xs hh hm;split at h
   ·rename_i q ht;obtain⟨nn,ag⟩:=q;split at h
    ·rename_i W;have W:=Nat.eq_of_beq_eq_true W;subst W;obtain⟨z,h1,h2⟩:=BI S h;split at h1
     ·rename_i v r;refine⟨v,h1,λM ρ H w a O X=>?_⟩;have hp:=X.rv hx;obtain⟨h0,V,Z⟩:=wX (h2 X.hold);obtain⟨aa,ob,ho,J⟩:=X.obj _ _ hm
      cases ho with
      |jg=>simp at V;omega
      | @rr _ _ _ _ T _ l lh arr os e1 e2 e3 e4 e5 e6 e7 e8 e9 ab N Q R=>
       have f:∀w',Like M O w w'->∀(o:Nat) v,arr[o]?=some v->w'.cell? ⟨l.b,o,none⟩=some v:=λw' F o v r=>by rw[F.cell (J _ sm)];simp only[World.cell?,e7];simpa using r
       unfold ldR at r;split at r
       ·rename_i U B;have U:=Nat.eq_of_beq_eq_true U;subst U;have B:ag=false:=B;subst B;have I:=aCG ht;split at r
        ·rename_i d ys hE;cases r;obtain⟨u,L,g2⟩:=e9 i.toNat z Z _ _ hE;have L:arr[i.toNat*C.τ.aC c+j]?=some u:=L;have A:i.toNat<lh.hs.length:=by rw[R.len];exact (List.getElem?_eq_some_iff.1 Z).1
         have Y:lh.hs[i.toNat]?=some u:=by have:=Q i.toNat _ (List.getElem?_eq_getElem A);rw[L] at this;rw[List.getElem?_eq_getElem A];exact this.symm
         refine⟨u,.v (.x N h0 Y g2),λw' F dst ty pos aM gd=>?_⟩;show (Instr.loadAt t (a.eval x) >>= λv=>pure (Next.value v)).run C.P w'=_;generalize a.eval x=ax at hp |-;cases hp with|e D=>rw[e1] at D;cases D;exact bQ (s:=loadVar t _) (Ui I (f w' F _ _ L))
        ·cases r
       ·obtain⟨ys,h3,h4⟩:=ad1 (C:=C) (M:=M) (ρ:=ρ) (b:=0) (o:=0) (n:=nn) (cs:=((E C.τ c z).cs.drop j).take nn) (cell:=λk=>arr[i.toNat*C.τ.aC c+(j+k)]?) λk u Y=>e9 i.toNat z Z _ _ (take_drop Y);obtain⟨u,h5,h6⟩:=Ey (G:=G) ht r h3;refine⟨u,h5,λw' F dst ty pos aM gd=>?_⟩;show (Instr.loadAt t (a.eval x) >>= λv=>pure (Next.value v)).run C.P w'=_;generalize a.eval x=ax at hp |-;cases hp with|e D=>rw[e1] at D;cases D;exact bQ (s:=loadVar t _) (h6 w' _ _ λk v r=>f w' F _ _ (by have:=h4 k v r;simpa [Nat.add_assoc] using this))
     ·cases h1
    ·cases h
   ·cases h
  ·exact ais S h
 ·exact ais S h
theorem av0{t:TypeId}{x:Operand}(h:YE C s p t x K=some y):∃v,K v=some y/\Ev C s G p (.call {callee:= .builtin .len,args:= #[x],argTypes:= #[t]}) v:=by
 unfold YE at h;split at h
 ·rename_i m r;split at h
  ·rename_i c jj xs z ho n;split at h
   ·rename_i q;refine⟨_,h,λM ρ H w a O j=>⟨_,.v .i,λw' _ dst ty pos aM l=>?_⟩⟩;have g:=j.rv r;obtain⟨_,ob,u,_⟩:=j.obj _ _ n;have e:∃ad cap,a.eval x= .slice ad xs.length cap:=by generalize a.eval x=ax at g |-;cases g with|o b=>cases u with|jg d f=>rw[d] at b;cases b;unfold Loc.sl;rw[f];exact⟨_,_,rfl⟩|rr d f k=>rw[d] at b;cases b;unfold Loc.sl;rw[f,k];exact⟨_,_,rfl⟩
    obtain⟨ad,cap,e⟩:=e;exact Uh e q w' dst ty pos aM l
   ·cases h
  ·exact air h
 ·exact air h
theorem avY{t:TypeId}{x u:Operand}(q:GT G p g)(h:YC C s p g t x u K=some y):∃v,K v=some y/\Ev C s G p (.indexAddr t x u) v:=by
 unfold YC at h;split at h
 ·rename_i m Q;split at h
  ·rename_i c jj xs U ho N;split at h
   ·rename_i n k i hs R;split at h;·rename_i D;have D:=Nat.eq_of_beq_eq_true D;obtain⟨z,h1,h2⟩:=BI q h;refine⟨_,h1,λM ρ H w a O f=>?_⟩;obtain⟨h0,d,V⟩:=wX (h2 f.hold);obtain⟨B,ob,S,E⟩:=f.obj _ _ N;have F:=f.rv Q;generalize j:a.eval x=ax at F;cases F with| @o _ l0 A=>refine⟨_,.v (.e A),λw' _ dst ty pos aM T=>?_⟩;cases S with|jg=>simp at d;omega| @rr _ _ _ _ _ _ l _ _ _ I J L=>have r:l0=l:=Option.some.inj (A.symm.trans I);subst r;show (Instr.indexAt t (a.eval x) (a.eval u) >>= λv=>pure (Next.value v)).run C.P w'=_;rw[j,f.i R];unfold Loc.sl;rw[J];have:=bQ (Ug (P:=C.P) (b:=l0.b) (o:=0) (c:=l0.cap) (k:=k) hs (m:=l0.len) ⟨h0,by rw[L];exact d⟩ w');simpa using this
    ·cases h
   ·cases h
  ·exact aiq q h
 ·exact aiq q h
end
end Go.R
namespace Go.R
open Go.RowKit Go.Dc
def Bb:Any->Bool| .s _=>true| .i _=>false
def anyS:Any->Str| .s s=>s| .i _=>⟨[]⟩
def anyI:Any->Int| .s _=>0| .i i=>i
def Md(P:Program)(t:TypeId):Option Value:=(P.info? t).bind (·.zero)
def noIface(P:Program)(t:TypeId):Bool:=match P.underlying t with|some (.interface _)=>false|some _=>true|none=>false
theorem aoY{P:Program}{t:TypeId}(h:noIface P t=true):∃d,P.underlying t=some d/\∀q,d≠ .interface q:=by
 unfold noIface at h;split at h;·cases h
 ·rename_i d a b;exact⟨d,b,λq e=>a q e⟩
 ·cases h
theorem adY{P:Program}{t:TypeId}{v:Value}(h:Md P t=some v)(w:World):(zeroValue t).run P w= .ok v w:=by unfold Md at h;cases a:P.info? t with|none=>rw[a] at h;cases h|some i=>rw[a] at h;simp at h;unfold zeroValue;rw[run_bind_ok (Lp a w)];simp only[h];rfl
section
variable {β:Type}(C:Cf)(s:Sg C.τ.S)(p:List (Nat×Bool))
def Yp(x:Operand)(t:TypeId)(K:SV C.τ.S->Option β):Option β:=match s.gets p x with
 |some (.y z)=>match noIface C.P t,Nat.beq t C.τ.ts,Nat.beq t C.τ.ti,Md C.P t with
  |true,true,false,some (.string q)=>match Nat.beq q.size 0,Nat.beq C.τ.ts C.τ.ti with
   |true,false=>K (.t [.st (anyS z),.b (Bb z)])
   |_,_=>none
  |true,false,true,some (.int .i64 0)=>match Nat.beq C.τ.ts C.τ.ti with
   |false=>K (.t [.i .i64 (anyI z),.b (!Bb z)])
   |true=>none
  |_,_,_,_=>none
 |_=>none
end
section
variable {β:Type}{C:Cf}{s:Sg C.τ.S}{G p:List (Nat×Bool)}{g:Option Bool}{M:Mem}{ρ:List Loc}{H:Heap C.τ.S}{w:World}{a:Act}{O:List Nat}{y:β}{K:SV C.τ.S->Option β}
theorem atb{q:ByteArray}(h:q.size=0):q=(⟨[]⟩:Str).ba:=by apply ByteArray.ext;have:q.data.size=0:=h;show q.data= #[];exact Array.eq_empty_of_size_eq_zero this
theorem aou{a b:Nat}(h:Nat.beq a b=false):a≠b:=λe=>by subst e;simp at h
theorem avL{x:Operand}{u t:TypeId}(h:Yp C s p x t K=some y):∃v,K v=some y/\Ev C s G p (.typeAssert x u t true) v:=by
 have j:∀{F I:SV C.τ.S}{n o:Value}{M ρ},RV C.τ M ρ F n->RV C.τ M ρ I o->RG C.τ M ρ G (.t [F,I]) (.tuple #[n,o]):=by intro F I n o M ρ N Q;refine RG.t (xs:=[n,o]) rfl λi v z g k=>?_;match i with|0=>simp at g k;subst g k;exact .v N|1=>simp at g k;subst g k;exact .v Q|i+2=>simp at g
 unfold Yp at h;split at h
 ·rename_i z L;split at h
  ·rename_i q B h1 h2 k;split at h
   ·rename_i A l;have h1:=Nat.eq_of_beq_eq_true h1;subst h1;have A:=Nat.eq_of_beq_eq_true A;have l:=aou l;obtain⟨d,m,f⟩:=aoY B;refine⟨_,h,λM ρ H w a O E=>?_⟩;have g:=E.rv L;generalize c:a.eval x=ax at g
    cases g with
    | @ys s'=>refine⟨.tuple #[.string s'.ba,.bool true],j .st .b,λw' _ dst ty pos aM r=>?_⟩;show (Instr.typeAssert (a.eval x) u C.τ.ts true >>= λv=>pure (Next.value v)).run C.P w'=_;rw[c];refine bQ ?_;unfold Instr.typeAssert;show (underlying C.τ.ts >>= _).run C.P w'=_;rw[run_bind_ok (fH m w')];cases d<;>first|exact absurd rfl (f _)|(simp only[if_true];rfl)
    | @yi i=>refine⟨.tuple #[.string q,.bool false],j (by rw[atb A];exact .st) .b,λw' _ dst ty pos aM r=>?_⟩;show (Instr.typeAssert (a.eval x) u C.τ.ts true >>= λv=>pure (Next.value v)).run C.P w'=_;rw[c];refine bQ ?_;unfold Instr.typeAssert;show (underlying C.τ.ts >>= _).run C.P w'=_;rw[run_bind_ok (fH m w')];have D:¬(C.τ.ti=C.τ.ts):=λe=>l e.symm;have J:=adY k w';cases d<;>first|exact absurd rfl (f _)|(simp only[D,if_false,if_true];rw[run_bind_ok J];rfl)
   ·cases h
  ·rename_i B h1 h2 k;split at h
   ·rename_i l;have h2:=Nat.eq_of_beq_eq_true h2;subst h2;have l:=aou l;obtain⟨d,m,f⟩:=aoY B;refine⟨_,h,λM ρ H w a O E=>?_⟩;have g:=E.rv L;generalize c:a.eval x=ax at g
    cases g with
    | @yi i=>refine⟨.tuple #[.int .i64 i,.bool true],j .i .b,λw' _ dst ty pos aM r=>?_⟩;show (Instr.typeAssert (a.eval x) u C.τ.ti true >>= λv=>pure (Next.value v)).run C.P w'=_;rw[c];refine bQ ?_;unfold Instr.typeAssert;show (underlying C.τ.ti >>= _).run C.P w'=_;rw[run_bind_ok (fH m w')];cases d<;>first|exact absurd rfl (f _)|(simp only[if_true];rfl)
    | @ys s'=>refine⟨.tuple #[.int .i64 0,.bool false],j .i .b,λw' _ dst ty pos aM r=>?_⟩;show (Instr.typeAssert (a.eval x) u C.τ.ti true >>= λv=>pure (Next.value v)).run C.P w'=_;rw[c];refine bQ ?_;unfold Instr.typeAssert;show (underlying C.τ.ti >>= _).run C.P w'=_;rw[run_bind_ok (fH m w')];have J:=adY k w';cases d<;>first|exact absurd rfl (f _)|(simp only[l,if_false,if_true];rw[run_bind_ok J];rfl)
   ·cases h
  ·cases h
 ·cases h
end
end Go.R
namespace Go.R
open Go.RowKit Go.Dc
section
variable {β:Type}(C:Cf)(s:Sg C.τ.S)(p:List (Nat×Bool))(g:Option Bool)
def YL(x:Operand)(K:SV C.τ.S->Option β):Option β:=match s.gets p x with
 |some (.o m)=>match s.bq m with
  |some (.ls (.int .u8) xs)=>rV g (!(List.isEmpty (α:=Int) xs)) (K (.e m 1 0 0))
  |_=>none
 |_=>none
end
section
variable {β:Type}{C:Cf}{s:Sg C.τ.S}{G p:List (Nat×Bool)}{g:Option Bool}{y:β}{K:SV C.τ.S->Option β}
theorem av7{t:TypeId}{x:Operand}(D:GT G p g)(h:YL C s p g x K=some y):∃v,K v=some y/\Ev C s G p (.call {callee:= .builtin .unsafeSliceData,args:= #[x],argTypes:= #[t]}) v:=by
 unfold YL at h;split at h
 ·rename_i m F;split at h
  ·rename_i xs E;obtain⟨h1,h2⟩:=uz D h;refine⟨_,h1,λM ρ H w a O k=>?_⟩;have c:=h2 k.hold;obtain⟨_,o,ho,_⟩:=k.obj m _ E;have z:=k.rv F;generalize d:a.eval x=ax at z;cases z with| @o _ l r=>
   have c:xs≠[]:=by intro e;subst e;have c:false=true:=c;cases c
   cases ho with
   |iR _ _=>exact absurd rfl c
   |ls u I L N P Q R S T U J=>
    rw[r] at u;cases u;have B:l.cap≠0:=by have:=List.length_pos_iff.2 c;omega
    refine⟨.pointer (some ⟨l.b,0,none⟩),.v (RV.e (m:=m) (n:=1) (i:=0) (j:=0) r),λw' _ dst ty pos aM A=>?_⟩;obtain⟨cs,f⟩:=YO a.eval .unsafeSliceData x #[t] dst ty pos aM A;rw[f,d];have q:l.sl= .slice (some ⟨l.b,0,none⟩) l.len l.cap:=by simp[Loc.sl,I]
    rw[q];exact bQ (s:=Builtin.unsafeSliceData_ #[t] ty #[.slice (some ⟨l.b,0,none⟩) l.len l.cap]) (Lib.run_unsafeSliceData_row w' _ _ _ _ _ B)
  ·cases h
 ·cases h
end
end Go.R
namespace Go.R
open Go.RowKit Go.Dc
def aS(bJ n:Nat):Bool:=decide (n*bJ<=140737488355328)
def qP(P:Program)(t:TypeId):Option (Nat×Nat×Nat):=match P.underlying t with
 |some (.slice e)=>match P.info? e with
  |some i=>match Ub P t e i.size i.bytes,Nat.blt 0 i.bytes with|true,true=>some (e,i.size,i.bytes)|_,_=>none
  |none=>none
 |_=>none
def dK{S:Nat->Type}(m:Nat):Heap S->Heap S|[]=>[]|q::r=>match Nat.beq q.1 m with|true=>r|false=>q::dK m r
section
variable {β:Type}(C:Cf)(s:Sg C.τ.S)
def rQ{S:Nat->Type}(m:Option Nat)(H:Heap S):Heap S:=match m with|some m=>dK m H|none=>H
def Sg.newL(m:Option Nat)(c:Cd)(xs:List (c.ty C.τ.S)):Sg C.τ.S:=⟨s.B,s.T,s.Bh,(s.nx,.ls c xs)::(rQ m s.Th),s.nx+1⟩
def rowOf(q:SO C.τ.S)(c:Cd):Option (List (c.ty C.τ.S)):=match q with
 | .ls a xs=>match Cd.eq a c with|some ⟨h⟩=>some (h▸xs)|none=>none
 | .ar a xs=>match Cd.eq a c with|some ⟨h⟩=>some (h▸xs)|none=>none
 |_=>none
def X5(t:TypeId)(x y:Operand)(K:SV C.τ.S->Sg C.τ.S->Option β):Option β:=match qP C.P t,s.gets [] x,s.gets [] y with
 |some (e,sz,bJ),some a,some b=>match fz s b with
  | .l c ys=>match Nat.beq sz (C.τ.aC c)&&pF C.τ c e,a with
   |true,.nl=>ah (aS bJ ys.length) (K (.o s.nx) (s.newL C none c ys))
   |true,.o m=>match bq s.Th m with
    |some q=>match rowOf C q c with
     |some xs=>ah (aS bJ (xs++ys).length) (K (.o s.nx) (s.newL C (some m) c (xs++ys)))
     |none=>none
    |none=>none
   |_,_=>none
  |_=>none
 |_,_,_=>none
end
section
variable {β:Type}{C:Cf}{s s':Sg C.τ.S}{G p:List (Nat×Bool)}{g:Option Bool}{M M':Mem}{ρ ρ' ρ0:List Loc}{H R:Heap C.τ.S}{w w':World}{a:Act}{O O' O1 O2:List Nat}{y:β}{n nx:Nat}{κ:Ctx C.τ}{Γ:Env C.τ.S}{Q:Exit->Act->World->Prop}
theorem u6{P:Program}{t e sz bJ:Nat}(h:qP P t=some (e,sz,bJ)):Ub P t e sz bJ=true/\0<bJ:=by
 unfold qP at h;split at h
 ·split at h
  ·split at h;·rename_i h1 h2;cases h;exact⟨h1,by simpa [Nat.blt_eq] using h2⟩
   ·cases h
  ·cases h
 ·cases h
theorem vZ{m:Nat}{x:SO C.τ.S}:∀{H:Heap C.τ.S},bq H m=some x->H.Perm ((m,x)::dK m H)
 |[],h=>by simp[bq] at h
 |q::r,h=>by
  unfold bq at h
  unfold dK
  split at h
  ·rename_i e
   have a:=Nat.eq_of_beq_eq_true e
   cases h
   subst a
   rw[e]
  ·rename_i e
   rw[e]
   exact ((vZ h).cons q).trans (.swap _ _ _)
def bU(n m:Nat)(vs:Nat->Nat->Value):List Value:=(List.range (m*n)).map λq=>vs (q / n) (q % n)
theorem gI{n m:Nat}{vs:Nat->Nat->Value}:(bU n m vs).length=m*n:=by simp[bU]
theorem Dk{n m:Nat}{vs:Nat->Nat->Value}{q:Nat}{v:Value}(h:(bU n m vs)[q]?=some v)(b:0<n):q<m*n/\q / n<m/\q % n<n/\q=q / n*n+q % n/\v=vs (q / n) (q % n):=by
 have a:q<m*n:=by have:=(List.getElem?_eq_some_iff.1 h).1;rwa [gI] at this
 refine⟨a,Nat.div_lt_of_lt_mul (by rwa [Nat.mul_comm]),Nat.mod_lt _ b,by rw[Nat.mul_comm];exact (Nat.div_add_mod q n).symm,?_⟩;simp[bU,a] at h;exact h.symm
theorem apP{n m i j:Nat}{vs:Nat->Nat->Value}(hi:i<m)(b:j<n):(bU n m vs)[i*n+j]?=some (vs i j):=by
 have a:i*n+j<m*n:=by have:(i+1)*n<=m*n:=Nat.mul_le_mul_right _ hi;rw[Nat.succ_mul] at this;omega
 have h1:(i*n+j) / n=i:=by rw[Nat.mul_comm,Nat.mul_add_div om,Nat.div_eq_of_lt b,Nat.add_zero]
 have h2:(i*n+j) % n=j:=by rw[Nat.add_comm,Nat.add_mul_mod_self_right,Nat.mod_eq_of_lt b]
 simp[bU,a,h1,h2]
theorem RV.row{c:Cd}{ys:List (c.ty C.τ.S)}{v:Value}(h:RV C.τ M ρ (.l c ys) v)(hs:Sat M w):∃(ad:Option Addr) (cap:Nat) (us:Nat->Nat->Value),v= .slice ad ys.length cap/\(∀(i:Nat) z,ys[i]?=some z->∀j,j<C.τ.aC c->ad=some ⟨sb ad,so ad,none⟩/\w.cell? ⟨sb ad,so ad+(i*C.τ.aC c+j),none⟩=some (us i j))/\∀(i:Nat) z,ys[i]?=some z->∀(j:Nat) u,(E C.τ c z).cs[j]?=some u->RV C.τ M ρ u (us i j):=by cases h with| @l _ _ b o cap vs h0 h1 h2 d e=>exact⟨_,cap,vs,rfl,λi z a j f=>⟨rfl,by have:=hs _ _ _ (d i z a j f);rwa [Nat.add_assoc] at this⟩,e⟩|le=>exact⟨_,_,λ_ _=>undef,rfl,λi z a=>by simp at a,λi z a=>by simp at a⟩
theorem Row.congr{τ:Tb}{c:Cd}{xs:List (c.ty τ.S)}{f g:Nat->Option Value}(h:Row τ M ρ c xs f)(d:∀q,q<xs.length*τ.aC c->f q=g q):Row τ M ρ c xs g:=by
 intro i x b j u a;obtain⟨v,h1,h2⟩:=h i x b j u a;have e:=(List.getElem?_eq_some_iff.1 b).1;have k:j<τ.aC c:=by rw[<-jd c x];exact (List.getElem?_eq_some_iff.1 a).1
 have:(i+1)*τ.aC c<=xs.length*τ.aC c:=Nat.mul_le_mul_right _ e;rw[Nat.succ_mul] at this;exact⟨v,by rw[<-d _ om];exact h1,h2⟩
theorem Row.cat{τ:Tb}{c:Cd}{xs ys:List (c.ty τ.S)}{f:Nat->Option Value}(h1:Row τ M ρ c xs f)(h2:Row τ M ρ c ys (λq=>f (xs.length*τ.aC c+q))):Row τ M ρ c (xs++ys) f:=by
 intro i x b j u e;rcases Nat.lt_or_ge i xs.length with d|d;·rw[List.getElem?_append_left d] at b;exact h1 i x b j u e
 ·rw[List.getElem?_append_right d] at b;obtain⟨v,a,g⟩:=h2 _ x b j u e;refine⟨v,?_,g⟩;have a:f (xs.length*τ.aC c+((i-xs.length)*τ.aC c+j))=some v:=a;rw[<-Nat.add_assoc,<-Nat.add_mul,show xs.length+(i-xs.length)=i by omega] at a;exact a
theorem Row.of{τ:Tb}{c:Cd}{ys:List (c.ty τ.S)}{us:Nat->Nat->Value}(h:∀(i:Nat) z,ys[i]?=some z->∀(j:Nat) u,(E τ c z).cs[j]?=some u->RV τ M ρ u (us i j)):Row τ M ρ c ys (λq=>(bU (τ.aC c) ys.length us)[q]?):=by
 intro i x b j u a;have d:=(List.getElem?_eq_some_iff.1 b).1;have e:j<τ.aC c:=by rw[<-jd c x];exact (List.getElem?_eq_some_iff.1 a).1
 exact⟨_,apP d e,h i x b j u a⟩
def com(M:Mem)(b k:Nat)(arr:Array Value):Mem:=λa j=>if a=b/\j<k then arr[j]? else M a j
theorem ahy{τ:Tb}{b T cap m:Nat}{c:Cd}{zs:List (c.ty τ.S)}{arr:Array Value}(h:SM κ M w (b::O1) O2)(p:w.heap[b]?=some (.cells arr T (0,0)))(h0:Pos τ c T)(r:zs.length<=cap)(f:zs.length<=140737488355328)(n:cap*τ.aC c<=arr.size)(E:Row τ M ρ c zs (λj=>arr[j]?))(B:∀j,zs.length*τ.aC c<=j->M b j=none){hs:List Value}(t:ρ[m]?=some ⟨b,zs.length,cap,false,hs⟩):let M':=com M b (zs.length*τ.aC c) arr
  SM κ M' w (b::O1) O2/\Ext (O1++O2) M M' w w/\RO τ M' ρ w m (.ls c zs) [b]:=by
 have d:M.le (com M b (zs.length*τ.aC c) arr):=λo j v e=>by
  unfold com
  split
  ·rename_i g
   obtain⟨rfl,k⟩:=g
   have:=h.sat _ _ _ e
   simpa [World.cell?,p] using this
  ·exact e
 have D:=List.nodup_cons.1 h.nodup
 have z:zs.length*τ.aC c<=arr.size:=Nat.le_trans (Nat.mul_le_mul_right _ r) n
 refine⟨⟨h.tab,h.frame,λo j v e=>?_,h.le.trans d,λo j v e=>?_,h.nodup,h.own,h.red⟩,⟨d,λ_ _=>rfl,λo q=>?_⟩,?_⟩
 ·unfold com at e
  split at e
  ·rename_i g
   obtain⟨rfl,k⟩:=g
   simp[World.cell?,p,e]
  ·exact h.sat _ _ _ e
 ·unfold com at e
  split at e
  ·rename_i g
   obtain⟨rfl,k⟩:=g
   exact .inr (h.own _ List.mem_cons_self).2
  ·exact h.new _ _ _ e
 ·funext j
  unfold com
  rw[if_neg]
  rintro⟨rfl,_⟩
  exact D.1 q
 ·have a:=E.mono d (ρ':=ρ) λ_ _ h=>h
  refine .ls t rfl rfl h0 r f p n a ?_ λj k=>?_
  ·refine .l (λi j=>(arr[i*τ.aC c+j]?).getD undef) h0.1 r f (λi x s j k=>?_) λi x s j u F=>?_
   ·have C:=(List.getElem?_eq_some_iff.1 s).1
    have h2:(i+1)*τ.aC c<=zs.length*τ.aC c:=Nat.mul_le_mul_right _ C
    rw[Nat.succ_mul] at h2
    unfold com
    rw[if_pos ⟨rfl,om⟩,Nat.zero_add,Array.getElem?_eq_getElem om]
    rfl
   ·obtain⟨v,y,A⟩:=a i x s j u F
    simp only at y
    simp only[y,Option.getD_some]
    exact A
  ·unfold com
   rw[if_neg om]
   exact B j k
theorem yM{τ:Tb}{b T cap m:Nat}{c:Cd}{zs:List (c.ty τ.S)}{arr:Array Value}(h:SM κ M w (b::O1) O2)(g:w.heap[b]?=some (.cells arr T (0,0)))(h0:Pos τ c T)(i:zs.length<=cap)(a:zs.length<=140737488355328)(d:cap*τ.aC c<=arr.size)(k:Row τ M ρ c zs (λj=>arr[j]?))(f:∀j,zs.length*τ.aC c<=j->M b j=none){hs:List Value}(e:ρ[m]?=some ⟨b,zs.length,cap,false,hs⟩):∃M',SM κ M' w (b::O1) O2/\Ext (O1++O2) M M' w w/\RO τ M' ρ w m (.ls c zs) [b]:=⟨_,ahy h g h0 i a d k f e⟩
theorem RE.names'{τ:Tb}{H:Heap τ.S}{Γ:Env τ.S}(b:Names ρ ρ')(h:RE τ M ρ G H w a Γ):RE τ M ρ' G H w a Γ:=
 ⟨h.gm,λt v c=>let ⟨x,h1,h2⟩:=h.tm t v c;⟨x,h1,h2.mono .rfl b⟩,λm o v c T k e ho=>
  let ⟨l,x,h1,h2,d⟩:=h.cl m o v c T k e ho
  ⟨l,x,b _ _ h1,h2,d.imp id (·.mono .rfl b)⟩⟩
theorem adQ{q:SO C.τ.S}{c:Cd}{xs:List (c.ty C.τ.S)}(h:rowOf C q c=some xs):q= .ls c xs\/q= .ar c xs:=by
 unfold rowOf at h;split at h
 ·split at h;·rename_i a _;subst a;cases h;exact .inl rfl
  ·cases h
 ·split at h;·rename_i a _;subst a;cases h;exact .inr rfl
  ·cases h
 ·cases h
theorem adR{m:Nat}{c:Cd}{xs:List (c.ty C.τ.S)}(h:RO C.τ M ρ w m (.ls c xs) O\/RO C.τ M ρ w m (.ar c xs) O):(∃l,ρ[m]?=some l/\l.nil=true/\xs=[]/\O=[])\/∃(T:Nat) (l:Loc) (arr:Array Value),ρ[m]?=some l/\l.nil=false/\l.len=xs.length/\Pos C.τ c T/\xs.length<=l.cap/\w.heap[l.b]?=some (.cells arr T (0,0))/\l.cap*C.τ.aC c<=arr.size/\Row C.τ M ρ c xs (λj=>arr[j]?)/\(∀j,xs.length*C.τ.aC c<=j->M l.b j=none)/\O=[l.b]:=by
 rcases h with h|h;·cases h with| @iR _ l a e=>exact .inl ⟨l,a,e,rfl,rfl⟩| @ls _ _ T l arr a f g i k q n o p r d=>exact .inr ⟨T,l,arr,a,f,g,i,k,n,o,p,d,rfl⟩
 ·cases h with| @ig _ l a e=>exact .inl ⟨l,a,e,rfl,rfl⟩| @ar _ _ T l arr a f g i k q n o p d=>exact .inr ⟨T,l,arr,a,f,g,i,k,n,o,p,λj _=>d j,rfl⟩
theorem Uq{b T:Nat}{arr a:Array Value}(h:w.heap[b]?=some (.cells arr T (0,0))):(w.setRow b a).heap[b]?=some (.cells a T (0,0)):=setRow_heap w b arr a T (0,0) h
theorem step_append{t:TypeId}{x z:Operand}{K:SV C.τ.S→Sg C.τ.S→Option β}(h:X5 C s t x z K=some y):∃v s',K v s'=some y∧Keep s s'∧Step C n κ ρ0 G s (.call ⟨.builtin .append, #[x,z], #[t,t]⟩) (some v) s':=by
 unfold X5 at h
 split at h
 ·rename_i e sz bJ vx vz dz hx hz
  obtain⟨dz,hby⟩:=u6 dz
  obtain⟨hut,i,zv,hi',hisz,mH,hzz,hzs,hpos⟩:=u7 dz
  split at h
  ·rename_i c ys hfz
   have main:∀(xs:List (c.ty C.τ.S)) (m:Option Nat) (hsz:sz=C.τ.aC c),pF C.τ c e=true→aS bJ (xs++ys).length=true→(vx= .nl∧xs=[]∧m=none∨∃m',m=some m'∧vx= .o m'∧(bq s.Th m'=some (.ls c xs)∨bq s.Th m'=some (.ar c xs)))→Step C n κ ρ0 G s (.call ⟨.builtin .append, #[x,z], #[t,t]⟩) (some (.o s.nx)) (s.newL C m c (xs++ys)):=by
    intro xs m hsz hoe hok hcase K Q M w a dst ty pos aM gd ⟨h0,ρ,O1,O2,hn,hl,he,h1,h2,h3⟩ hk
    subst hsz
    have hok:(xs.length+ys.length)*bJ≤140737488355328:=by simpa [aS] using hok
    have hle1:(xs.length+ys.length)*1≤(xs.length+ys.length)*bJ:=Nat.mul_le_mul_left _ hby
    have h47:(xs++ys).length≤140737488355328:=by rw[List.length_append];omega
    have hrd:=fQ he h1 h2 h3
    obtain⟨cs,hcs⟩:=BD a.eval .append x z #[t,t] dst ty pos aM gd
    have hzv:RG C.τ M ρ G (.l c ys) (a.eval z):=by
     have:=wE hrd (hrd.gets hz)
     have e:gG s vz=fz s vz:=by
      cases vz with
      |c _=>cases hfz
      |_=>rfl
     rw[e,hfz] at this
     exact this
    have hzv:RV C.τ M ρ (.l c ys) (a.eval z):=by cases hzv with|v h=>exact h
    obtain⟨src,vY,us,ey,hyc,hyp⟩:=hzv.row h3.sat
    have hnl:(bU (C.τ.aC c) ys.length us).length=ys.length*i.size:=by rw[gI,hisz]
    have hnews:∀j v,(bU (C.τ.aC c) ys.length us)[j]?=some v→src=some ⟨sb src,so src,none⟩∧w.cell? ⟨sb src,so src+j,none⟩=some v:=fun j v hv=>by
     obtain⟨a1,a2,a3,a4,rfl⟩:=Dk hv hpos
     have:=hyc (j / C.τ.aC c) _ (List.getElem?_eq_getElem a2) (j % C.τ.aC c) a3
     rwa [←a4] at this
    have fin:∀(w':World) (l:Loc) (M':Mem) (Oa Ob:List Nat),(builtin .append #[t,t] ty cs #[a.eval x,a.eval z]).run C.P w= .ok (.value l.sl) w'→M.le M'→
      RE C.τ M' (ρ++[l]) G ((rQ m s.Th)++s.Bh) w' a (s.T++s.B)→RO C.τ M' (ρ++[l]) w' s.nx (.ls c (xs++ys)) Oa→RH C.τ M' (ρ++[l]) w' (rQ m s.Th) Ob→RH C.τ M' (ρ++[l]) w' s.Bh O2→SM κ M' w' (Oa++Ob) O2→
      Oper.wp C.P ⟨dst,.call ⟨.builtin .append, #[x,z], #[t,t]⟩,ty,pos,aM,gd⟩ a w K Q:=by
     intro w' l M' Oa Ob hrun _ g1 g2 g3 g4 g5
     unfold Oper.wp
     rw[hcs,hrun]
     have hnew:(ρ++[l])[s.nx]?=some l:=by rw[←hl];simp
     exact hk M' w' l.sl (ρ++[l]) (Oa++Ob) O2 (hn.trans fF) (by simp[hl,Sg.newL]) (g1.more (x:= .ls c (xs++ys)) fun _ _ h=>by cases h) (.cons g2 g3) g4 g5 fun u e=>by cases e;exact .v (.o hnew)
    obtain⟨Hr,rW⟩:∃Hr,Hr=(rQ m s.Th):=⟨_,rfl⟩
    rw[←rW] at fin
    have take:∃Ox Or,O1.Perm (Ox++Or)∧RH C.τ M ρ w Hr Or∧(∀q∈Hr,q∈s.Th)∧((vx= .nl∧xs=[]∧Ox=[])∨∃m',vx= .o m'∧(RO C.τ M ρ w m' (.ls c xs) Ox∨RO C.τ M ρ w m' (.ar c xs) Ox)):=by
     rcases hcase with ⟨e1,e2,e3⟩|⟨m',e1,e2,e3⟩
     ·subst e3;subst rW
      exact⟨[],O1,.rfl,h1,fun q hq=>hq,.inl ⟨e1,e2,rfl⟩⟩
     ·subst e1;subst rW
      rcases e3 with e3|e3
      ·have hp:=vZ e3
       obtain⟨O',g1,g2⟩:=h1.perm hp
       cases g1 with
       |cons g3 g4=>exact⟨_,_,g2,g4,fun q hq=>hp.mem_iff.2 (List.mem_cons_of_mem _ hq),.inr ⟨m',e2,.inl g3⟩⟩
      ·have hp:=vZ e3
       obtain⟨O',g1,g2⟩:=h1.perm hp
       cases g1 with
       |cons g3 g4=>exact⟨_,_,g2,g4,fun q hq=>hp.mem_iff.2 (List.mem_cons_of_mem _ hq),.inr ⟨m',e2,.inr g3⟩⟩
    obtain⟨Ox,Or,BR,iM,BO,hcx⟩:=take
    have h3:=h3.perm BR
    have he':RE C.τ M ρ G (Hr++s.Bh) w a (s.T++s.B):=he.perm fun q hq=>by
     rcases List.mem_append.1 hq with hq|hq
     ·exact List.mem_append_left _ (BO q hq)
     ·exact List.mem_append_right _ hq
    have new:∀(base:Option Addr) (cap:Nat) (olds:List Value),a.eval x= .slice base xs.length cap→cap<xs.length+ys.length→olds.length=xs.length*C.τ.aC c→
      (∀j v,olds[j]?=some v→base=some ⟨sb base,so base,none⟩∧w.cell? ⟨sb base,so base+j,none⟩=some v)→Row C.τ M ρ c xs (fun j=>olds[j]?)→
      Oper.wp C.P ⟨dst,.call ⟨.builtin .append, #[x,z], #[t,t]⟩,ty,pos,aM,gd⟩ a w K Q:=by
     intro base cap olds hxe hg hol holds hrow
     obtain⟨cap',rest,hcap,hrest,hrun⟩:=adV (P:=C.P) (w:=w) t ty e i zv hut hi' hzz base src xs.length cap ys.length vY olds (bU (C.τ.aC c) ys.length us) (by rw[hol,hisz]) hnl holds hnews hg (by omega) (by rw[mH];exact hok)
     let l:Loc:=⟨w.heap.size,(xs++ys).length,cap',false,[]⟩
     have wM:SM κ M w.drew (Ox++Or) O2:=⟨h3.tab,h3.frame.trans (F1:=[]) ⟨rfl,rfl,rfl,Nat.le_refl _,fun _ _ _=>rfl⟩ (fun _ h=>(by cases h)),h3.sat,h3.le,h3.new,h3.nodup,h3.own,h3.red⟩
     obtain⟨hsm,hext⟩:=wM.alloc (.cells (olds.toArray++(bU (C.τ.aC c) ys.length us).toArray++rest) e)
     have hnm:Names ρ (ρ++[l]):=fF
     have wL:SM κ M (w.drew.alloc (.cells (olds.toArray++(bU (C.τ.aC c) ys.length us).toArray++rest) e)) (w.heap.size::Or) O2:=by
      have hp:(w.heap.size::(Ox++Or)).Perm ((w.heap.size::Or)++Ox):=by
       rw[List.cons_append];exact List.Perm.cons _ List.perm_append_comm
      have:=SM.perm hsm hp
      refine⟨this.tab,this.frame,this.sat,this.le,this.new,?_,fun b hb=>this.own b (List.mem_append_left _ hb),this.red⟩
      have hq:((w.heap.size::Or)++Ox++O2).Perm (((w.heap.size::Or)++O2)++Ox):=by
       simp only[List.append_assoc];exact List.Perm.append_left _ List.perm_append_comm
      exact (List.nodup_append.1 (hq.nodup_iff.1 this.nodup)).1
     have hrow2:Row C.τ M (ρ++[l]) c (xs++ys) (fun j=>(olds.toArray++(bU (C.τ.aC c) ys.length us).toArray++rest)[j]?):=by
      refine Row.cat ((hrow.mono .rfl hnm).congr fun q hq=>?_) (((Row.of hyp).mono .rfl hnm).congr fun q hq=>?_)
      ·rw[Array.append_assoc,Array.getElem?_append_left (by simpa [hol] using hq)]
       simp
      ·rw[Array.getElem?_append_left (by simp[gI,hol];exact hq),Array.getElem?_append_right (by simp[hol])]
       simp[hol]
     obtain⟨M',g1,g2,g3⟩:=yM (m:=s.nx) (hs:=[]) (cap:=cap') wL (b:=w.heap.size) (T:=e) (by show (w.heap.push _)[w.heap.size]?=_;simp) ⟨hpos,hoe⟩ (by rw[List.length_append];exact hcap) h47 (by
      simp only[Array.size_append,List.size_toArray,hrest,U6,gI,hzs,hol]
      rw[←Nat.add_mul,←Nat.add_mul]
      have:xs.length+ys.length+(cap'-(xs.length+ys.length))=cap':=by omega
      rw[this];exact Nat.le_refl _) hrow2 (fun j _=>h3.sat.kE (Nat.le_refl _)) (by rw[←hl];simp[l])
     have hx2:Ext (Or++O2) M M' w (w.drew.alloc (.cells (olds.toArray++(bU (C.τ.aC c) ys.length us).toArray++rest) e)):=⟨g2.le,fun b hb=>hext.heap b (by simp only[List.append_assoc];exact List.mem_append_right _ hb),fun b hb=>g2.mem b hb⟩
     refine fin _ l M' [w.heap.size] Or ?_ g2.le (he'.ext hnm (iM.app h2) hx2) g3 (iM.ext hnm (hx2.sub fun b hb=>List.mem_append_left _ hb)) (h2.ext hnm (hx2.sub fun b hb=>List.mem_append_right _ hb)) g1
     rw[hxe,ey]
     have e2:l.sl= .slice (some ⟨w.heap.size,0,none⟩) (xs.length+ys.length) cap':=by simp[l,Loc.sl]
     rw[e2]
     exact bQ hrun
    rcases hcx with ⟨rfl,rfl,rfl⟩|⟨m',rfl,hro⟩
    ·
     have hxv:RV C.τ M ρ (.nl) (a.eval x):=hrd.rv hx
     generalize hax:a.eval x=ax at hxv
     cases hxv
     by_cases hys:ys=[]
     ·subst hys
      let l:Loc:=⟨0,0,0,true,[]⟩
      have hnm:Names ρ (ρ++[l]):=fF
      refine fin w l M [] Or ?_ .rfl (he'.names' hnm) (.iR (l:=l) (by rw[←hl];simp) rfl) (iM.ext hnm Ext.refl) (h2.ext hnm Ext.refl) (by simpa using h3)
      rw[hax,ey]
      have:=Ue (P:=C.P) (w:=w) t ty e i hut hi' src vY
      exact bQ this
     ·have:0<ys.length:=List.length_pos_iff.2 hys
      exact new none 0 [] (by rw[hax];rfl) (by simpa using this) (by simp) (fun j v h=>by simp at h) (fun i z h=>by simp at h)
    ·have hxv:=hrd.rv hx
     generalize hax:a.eval x=ax at hxv
     cases hxv with
     | @o _ l0 e1=>
     rcases adR hro with ⟨l1,e2,e3,rfl,rfl⟩|⟨T,l1,arr,e2,k1,k2,kp,k4,k6,k7,k8,k10,rfl⟩
     ·rw[e1] at e2;cases e2
      have hsl:l0.sl= .slice none 0 0:=by simp[Loc.sl,e3]
      by_cases hys:ys=[]
      ·subst hys
       let l:Loc:=⟨0,0,0,true,[]⟩
       have hnm:Names ρ (ρ++[l]):=fF
       refine fin w l M [] Or ?_ .rfl (he'.names' hnm) (.iR (l:=l) (by rw[←hl];simp) rfl) (iM.ext hnm Ext.refl) (h2.ext hnm Ext.refl) (by simpa using h3)
       rw[hax,ey,hsl]
       have:=Ue (P:=C.P) (w:=w) t ty e i hut hi' src vY
       exact bQ this
      ·have:0<ys.length:=List.length_pos_iff.2 hys
       exact new none 0 [] (by rw[hax,hsl];rfl) (by simpa using this) (by simp) (fun j v h=>by simp at h) (fun i z h=>by simp at h)
     ·rw[e1] at e2;cases e2
      have hsl:l0.sl= .slice (some ⟨l0.b,0,none⟩) xs.length l0.cap:=by simp[Loc.sl,k1,k2]
      have aaq:xs.length*C.τ.aC c≤arr.size:=Nat.le_trans (Nat.mul_le_mul_right _ k4) k7
      have hrow:Row C.τ M ρ c xs (fun j=>(arr.toList.take (xs.length*C.τ.aC c))[j]?):=k8.congr fun q hq=>by
       rw[List.getElem?_take_of_lt hq];simp
      by_cases hg:xs.length+ys.length≤l0.cap
      ·have hone:∀u∈bU (C.τ.aC c) ys.length us,u.oneCell'=true:=fun u hu=>by
        obtain⟨q,hq⟩:=List.getElem?_of_mem hu
        obtain⟨a1,a2,a3,a4,rfl⟩:=Dk hq hpos
        have hz:=List.getElem?_eq_getElem a2
        have hj':q % C.τ.aC c<(E C.τ c ys[q / C.τ.aC c]).cs.length:=by rw[jd];exact a3
        exact (hyp _ _ hz _ _ (List.getElem?_eq_getElem hj')).one
       have hfit:0+xs.length*C.τ.aC c+ys.length*C.τ.aC c≤arr.size:=by
        have:(xs.length+ys.length)*C.τ.aC c≤l0.cap*C.τ.aC c:=Nat.mul_le_mul_right _ hg
        rw[Nat.add_mul] at this;omega
       have hrun:=adU (P:=C.P) (w:=w) t ty e i hut hi' l0.b 0 xs.length l0.cap T arr k6 src ys.length vY (bU (C.τ.aC c) ys.length us) hnl hnews hone hg (by rw[hisz,gI];exact hfit)
       rw[hisz,gI,Nat.zero_add] at hrun
       obtain⟨arr',harr⟩:∃arr',arr'=(arr.toList.take (xs.length*C.τ.aC c)++bU (C.τ.aC c) ys.length us++arr.toList.drop (xs.length*C.τ.aC c+ys.length*C.τ.aC c)).toArray:=⟨_,rfl⟩
       rw[←harr] at hrun
       have hsize:arr'.size=arr.size:=by
        rw[harr];simp[gI];omega
       have hlo:∀j,j<xs.length*C.τ.aC c→arr'[j]?=arr[j]?:=fun j hj=>by
        rw[harr]
        simp only[List.getElem?_toArray]
        rw[List.append_assoc,List.getElem?_append_left (by simp;omega),List.getElem?_take_of_lt hj]
        simp
       have hhi:∀j,j<ys.length*C.τ.aC c→arr'[xs.length*C.τ.aC c+j]?=(bU (C.τ.aC c) ys.length us)[j]?:=fun j hj=>by
        rw[harr]
        simp only[List.getElem?_toArray]
        rw[List.append_assoc,List.getElem?_append_right (by simp;omega),List.getElem?_append_left (by rw[gI];simp;omega)]
        congr 1
        simp;omega
       have hb':(w.setRow l0.b arr').heap[l0.b]?=some (.cells arr' T (0,0)):=Uq k6
       let l:Loc:=⟨l0.b,(xs++ys).length,l0.cap,false,[]⟩
       have hnm:Names ρ (ρ++[l]):=fF
       obtain⟨hsm,hext⟩:=SM.change (b:=l0.b) (w':=w.setRow l0.b arr') h3 (fun j v e1=>by
         have hj:j<xs.length*C.τ.aC c:=by
          rcases Nat.lt_or_ge j (xs.length*C.τ.aC c) with h|h
          ·exact h
          ·rw[k10 j h] at e1;cases e1
         have:=h3.sat l0.b j v e1
         simp only[World.cell?,k6,hb',Option.isSome_none,Bool.false_eq_true,if_false] at this ⊢
         rw[hlo j hj];exact this)
        ⟨rfl,rfl,rfl,by simp,fun c _ hc=>setRow_other w l0.b c arr' (by simpa using hc)⟩ (fun c hc=>setRow_other w l0.b c arr' hc)
       have hrow2:Row C.τ M (ρ++[l]) c (xs++ys) (fun j=>arr'[j]?):=
        Row.cat ((k8.mono .rfl hnm).congr fun q hq=>(hlo q hq).symm) (((Row.of hyp).mono .rfl hnm).congr fun q hq=>(hhi q hq).symm)
       obtain⟨M',g1,g2,g3⟩:=yM (m:=s.nx) (hs:=[]) (cap:=l0.cap) hsm hb' kp (by rw[List.length_append];exact hg) h47 (by rw[hsize];exact k7) hrow2 (fun j hj=>k10 j (by rw[List.length_append,Nat.add_mul] at hj;omega)) (by rw[←hl];simp[l])
       have hx2:Ext (Or++O2) M M' w (w.setRow l0.b arr'):=⟨g2.le,hext.heap,g2.mem⟩
       refine fin _ l M' [l0.b] Or ?_ g2.le (he'.ext hnm (iM.app h2) hx2) g3 (iM.ext hnm (hx2.sub fun b hb=>List.mem_append_left _ hb)) (h2.ext hnm (hx2.sub fun b hb=>List.mem_append_right _ hb)) g1
       rw[hax,ey,hsl]
       have e2:l.sl= .slice (some ⟨l0.b,0,none⟩) (xs.length+ys.length) l0.cap:=by simp[l,Loc.sl]
       rw[e2]
       exact bQ hrun
      ·refine new (some ⟨l0.b,0,none⟩) l0.cap (arr.toList.take (xs.length*C.τ.aC c)) (by rw[hax,hsl]) (by omega) (by simp;omega) (fun j v hv=>⟨rfl,?_⟩) hrow
       have hj:j<xs.length*C.τ.aC c:=by
        have:=(List.getElem?_eq_some_iff.1 hv).1
        simp at this;omega
       rw[List.getElem?_take_of_lt hj] at hv
       simpa [World.cell?,k6,sb,so] using hv
   have keep:∀(m:Option Nat) (zs:List (c.ty C.τ.S)),Keep s (s.newL C m c zs):=fun m zs=>⟨rfl,rfl,fun t=>rfl⟩
   split at h
   ·rename_i hsz
    obtain⟨hok,h⟩:=jZ h
    exact⟨_,_,h,keep _ _,main [] none (Nat.eq_of_beq_eq_true (gM hsz).1) (gM hsz).2 hok (.inl ⟨rfl,rfl,rfl⟩)⟩
   ·rename_i m hsz
    split at h
    ·rename_i q hm
     split at h
     ·rename_i xs hxs
      obtain⟨hok,h⟩:=jZ h
      refine⟨_,_,h,keep _ _,main xs (some m) (Nat.eq_of_beq_eq_true (gM hsz).1) (gM hsz).2 hok (.inr ⟨m,rfl,rfl,?_⟩)⟩
      rcases adQ hxs with rfl|rfl
      ·exact .inl hm
      ·exact .inr hm
     ·cases h
    ·cases h
   ·cases h
  ·cases h
 ·cases h
end
end Go.R
