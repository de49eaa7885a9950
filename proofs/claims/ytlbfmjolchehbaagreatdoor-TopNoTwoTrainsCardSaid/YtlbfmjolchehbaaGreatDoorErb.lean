/- Several parts of the engine, one behind the other. -/
import Derived.Test.YtlbfmjolchehbaaGreatDoorEra
set_option linter.all false
namespace Go.R
open Go.RowKit Go.Dc
def rV{β:Type}(g:Option Bool)(c:Bool)(k:Option β):Option β:=match g with|none=>ah c k|some g=>ah (!g||c) k
def Jv{α β:Type}(g:Option Bool)(d:α)(o:Option α)(k:α->Option β):Option β:=match g with|none=>o.bind k|some g=>(bC g d o).bind k
def sub{α:Type}(xs:List α)(lo hi:Int):Option (List α):=if 0<=lo/\lo<=hi/\hi<=xs.length then some ((xs.take hi.toNat).drop lo.toNat) else none
structure Sg(S:Nat->Type) where
 B:Env S
 T:Env S
 Bh:Heap S
 Th:Heap S
 nx:Nat
section
variable {S:Nat->Type}
def Sg.lk(s:Sg S)(a b:Nat):Option (SV S):=match R.lk s.T a b with|some v=>some v|none=>R.lk s.B a b
def Sg.bq(s:Sg S)(m:Nat):Option (SO S):=match R.bq s.Th m with|some x=>some x|none=>R.bq s.Bh m
def cst:Value->Option (SV S)| .int k n=>some (.i k n)| .bool b=>some (.b b)| .string s=>some (.st (Str.of s))| .slice none 0 0=>some .nl| .pointer none=>some (.z (.pointer none))| .map none=>some (.z (.map none))| .nilFunc=>some (.z .nilFunc)| .nilIface=>some (.z .nilIface)|_=>none
def qh:List Value->Option (List (SV S))
 |[]=>some []
 |v::r=>match cst v with
  |some x=>match qh r with|some y=>some (x::y)|none=>none
  |none=>none
def XL:Value->Option (SV S)
 | .agg cs=>match qh cs.toList with|some l=>some (.c l)|none=>none
 |v=>cst v
def Sg.sW(s:Sg S):Operand->Option (SV S)| .tmp t=>s.lk 0 t| .const v=>XL v| .func f=>some (.f f [])| .global _=>none
def Gd(p:Nat×Bool):List (Nat×Bool)->Bool
 |[]=>false
 |q::r=>match Nat.beq q.1 p.1 with
  |true=>match q.2,p.2 with|true,true=>true|false,false=>true|_,_=>Gd p r
  |false=>Gd p r
def Uz:List (Nat×Bool)->List (Nat×Bool)->Bool|[],_=>true|x::r,p=>match Gd x p with|true=>Uz r p|false=>false
def Sg.gets(s:Sg S)(p:List (Nat×Bool))(x:Operand):Option (SV S):=match s.sW x with
 |some (.g q v)=>match Uz q p with|true=>some v|false=>none
 |r=>r
def fz(s:Sg S):SV S->SV S
 | .o m=>match s.bq m with|some (.ls c xs)=> .l c xs|_=> .o m
 | .x _ _ c xs=> .l c xs
 |v=>v
def yZ(s:Sg S):List (SV S)->List (SV S)|[]=>[]|v::r=>fz s v::yZ s r
def gG(s:Sg S):SV S->SV S| .c vs=> .c (yZ s vs)|v=>fz s v
end
structure Cf where
 P:Program
 τ:Tb
 cd:TypeId->Option Cd
 am:Bool
 rj:Nat->Option Nat
section
variable {β:Type}(C:Cf)(s:Sg C.τ.S)(p:List (Nat×Bool))(g:Option Bool)
def wF{β:Type}(C:Cf)(g:Option Bool)(c:Cd)(o:Option (c.ty C.τ.S))(k:c.ty C.τ.S->Option β):Option β:=match g with|none=>o.bind k|some g=>match dv C.τ c with|some d=>(bC g d o).bind k|none=>none
def WM(w:Bool)(op:BinOp)(k:IntKind)(a b:Int)(K:SV C.τ.S->Option β):Option β:=match op with
 | .add=>match k,w with| .i64,false=>rV g (aj (a+b)) (K (.i .i64 (a+b)))|k,_=>K (.i k (k.wrap (a+b)))
 | .sub=>match k,w with| .i64,false=>rV g (aj (a-b)) (K (.i .i64 (a-b)))|k,_=>K (.i k (k.wrap (a-b)))
 | .mul=>match k,w with| .i64,false=>rV g (aj (a*b)) (K (.i .i64 (a*b)))|k,_=>K (.i k (k.wrap (a*b)))
 | .quo=>rV g (!decide (b=0)) (K (.i k (k.wrap (a.tdiv b))))
 | .rem=>rV g (!decide (b=0)) (K (.i k (a.tmod b)))
 | .lss=>K (.b (decide (a<b)))
 | .leq=>K (.b (decide (a<=b)))
 | .gtr=>K (.b (decide (b<a)))
 | .geq=>K (.b (decide (b<=a)))
 | .eql=>K (.b (decide (a=b)))
 | .neq=>K (.b (!decide (a=b)))
 |_=>none
def aaY(P:Program)(t:TypeId):Bool:=match P.underlying t with|some .bool=>true|_=>false
def eq1{S:Nat->Type}:PK->SV S->SV S->Option Bool
 | .int k,.i a p,.i c q=>match Ca k a,Ca k c with|some _,some _=>some (decide (p=q))|_,_=>none
 | .bool,.b p,.b q=>some (p==q)
 | .string,.st p,.st q=>some (decide (p=q))
 |_,_,_=>none
def yT{S:Nat->Type}:List PK->List (SV S)->List (SV S)->Option Bool
 |[],[],[]=>some true
 |k::d,a::c,b::bs=>match eq1 k a b,yT d c bs with|some x,some y=>some (x&&y)|_,_=>none
 |_,_,_=>none
def Yq(w:Bool)(op:BinOp)(t:TypeId)(x y:Operand)(K:SV C.τ.S->Option β):Option β:=match s.gets p x,s.gets p y with
 |some (.i k a),some (.i d b)=>match Ca k d with|some _=>WM C g w op k a b K|none=>none
 |some (.st a),some (.st b)=>match op with
  | .eql=>K (.b (decide (a=b)))
  | .neq=>K (.b (!decide (a=b)))
  | .add=>Jv g ⟨[]⟩ (DU a b) λq=>K (.st q)
  |_=>none
 |some (.b a),some (.b b)=>match aaY C.P t with
  |true=>match op with
   | .eql=>K (.b (a==b))
   | .neq=>K (.b (!(a==b)))
   |_=>none
  |false=>none
 |some (.c a),some (.c b)=>match Go.Dc.flat C.P 11 t,aek C.P t&& !(C.P.eqGuardType C.P.depth t) with
  |some f,true=>match yT f a b with
   |some e=>match op with
    | .eql=>K (.b e)
    | .neq=>K (.b (!e))
    |_=>none
   |none=>none
  |_,_=>none
 |_,_=>none
def YN(op:UnOp)(x:Operand)(K:SV C.τ.S->Option β):Option β:=match op,s.gets p x with| .not,some (.b b)=>K (.b (!b))| .neg,some (.i .i64 a)=>rV g (aj (-a)) (K (.i .i64 (-a)))|_,_=>none
def idxOf(ops:List Oper)(t:Nat):Option Nat:=match ops with
 |[]=>none
 |o::r=>match o.dst with
  |some d=>match Nat.beq d t with
   |true=>some 0
   |false=>match idxOf r t with|some n=>some (n+1)|none=>none
  |none=>match idxOf r t with|some n=>some (n+1)|none=>none
def ext(G:List (Nat×Bool))(ops:List Oper)(c:Operand)(w:Bool):List (Nat×Bool):=match c with
 | .tmp t=>match idxOf ops t with
  |some j=>match look G j with|some _=>(j,w)::p|none=>p
  |none=>p
 |_=>p
def YJ(G:List (Nat×Bool))(ops:List Oper)(c x y:Operand)(K:SV C.τ.S->Option β):Option β:=match s.gets p c with
 |some (.b b)=>match x,y with
  | .const (.bool true),y=>match s.gets (ext p G ops c false) y with
   |some (.b e)=>K (.b (b||e))
   |_=>none
  |x,.const (.bool false)=>match s.gets (ext p G ops c true) x with
   |some (.b e)=>K (.b (b&&e))
   |_=>none
  |_,_=>none
 |_=>none
def yK(n:Nat)(a:Bool)(cs:List (SV C.τ.S)):Option (SV C.τ.S):=match a with
 |true=>match Nat.beq cs.length n with|true=>some (.c cs)|false=>none
 |false=>match cs with|[v]=>some v|_=>none
def DW:SV C.τ.S->Bool| .c _| .t _| .g _ _| .u=>false|_=>true
def cells(m:Nat):Nat->Nat->Option (List (SV C.τ.S))
 |_,0=>some []
 |o,n+1=>match s.lk (m+1) o with
  |some v=>match DW C v with
   |false=>none
   |true=>match cells m (o+1) n with|some r=>some (v::r)|none=>none
  |none=>none
def zO(P:Program)(t:TypeId):Option (Nat×Bool):=
 match IC P t with
 |some m=>some (m,true)
 |none=>match lD P t with|true=>some (1,false)|false=>none
def Ph(t:TypeId)(x:Operand)(K:SV C.τ.S->Option β):Option β:=match zO C.P t with
 |some (n,a)=>match s.gets p x with
  |some (.r m o)=>match s.bq m with
   |some (.bx _ k)=>match Nat.ble (o+n) k with
    |true=>match cells C s m o n with
     |some cs=>match yK C n a cs with|some v=>K v|none=>none
     |none=>none
    |false=>none
   |_=>none
  |some (.q c z j)=>match yK C n a (((E C.τ c z).cs.drop j).take n) with|some v=>K v|none=>none
  |some (.e m q i j)=>match s.bq m with
   |some (.ar c xs)=>match Nat.beq q (C.τ.aC c) with
    |true=>wF C g c (idx xs i) λz=>match yK C n a (((E C.τ c z).cs.drop j).take n) with|some v=>K v|none=>none
    |false=>none
   |_=>none
  |_=>none
 |none=>none
def Yw(t:TypeId)(x:Operand)(f:Nat)(K:SV C.τ.S->Option β):Option β:=match Pp C.P t f with
 |some d=>match s.gets p x with
  |some (.r m o)=>K (.r m (o+d))
  |some (.q c z j)=>K (.q c z (j+d))
  |some (.e m n i j)=>K (.e m n i (j+d))
  |_=>none
 |none=>none
def YB(t:TypeId)(x y:Operand)(K:SV C.τ.S->Option β):Option β:=match s.gets p y with
 |some (.i _ i)=>match s.gets p x with
  |some v=>match elemSize C.P t,fz s v with
   |some n,.l c xs=>match Nat.beq n (C.τ.aC c) with
    |true=>wF C g c (idx xs i) λz=>K (.q c z 0)
    |false=>none
   |some n,.o m=>match s.bq m with
    |some (.ar c xs)=>match Nat.beq n (C.τ.aC c) with
     |true=>wF C g c (idx xs i) λ_=>K (.e m n i 0)
     |false=>none
    |_=>none
   |_,_=>none
  |none=>none
 |_=>none
def YA(t:TypeId)(x y:Operand)(K:SV C.τ.S->Option β):Option β:=match s.gets p x,s.gets p y with
 |some (.st q),some (.i _ i)=>match Ce C.P t with
  |true=>Jv g 0 (fq q i) λz=>K (.i .u8 z)
  |false=>none
 |_,_=>none
def bnd(x:Option Operand):Option (Option (IntKind×Int)):=match x with|none=>some none|some x=>match s.gets p x with|some (.i k i)=>some (some (k,i))|_=>none
def YM(t:TypeId)(x:Operand)(lo hi:Option Operand)(K:SV C.τ.S->Option β):Option β:=match bnd C s p lo,bnd C s p hi with
 |some l,some h=>match s.gets p x with
  |some v=>match fz s v with
   | .st q=>match Ce C.P t with
    |true=>Jv g ⟨[]⟩ (mX q (oval l 0) (oval h q.l.length)) λr=>K (.st r)
    |false=>none
   | .l c xs=>match elemSize C.P t with
    |some n=>match Nat.beq n (C.τ.aC c) with
     |true=>Jv g [] (sub xs (oval l 0) (oval h xs.length)) λr=>K (.l c r)
     |false=>none
    |none=>none
   |_=>none
  |none=>none
 |_,_=>none
def Pg(t:TypeId)(x:Operand)(K:SV C.τ.S->Option β):Option β:=match s.gets p x with
 |some v=>match fz s v with
  | .st q=>match Ce C.P t with|true=>K (.i .i64 (q.l.length:Int))|false=>none
  | .nl=>match wY C.P t with|true=>K (.i .i64 (0:Int))|false=>none
  | .l _ xs=>match wY C.P t with|true=>K (.i .i64 (xs.length:Int))|false=>none
  | .o m=>match s.bq m with
   |some (.ar _ xs)=>match wY C.P t with|true=>K (.i .i64 (xs.length:Int))|false=>none
   |_=>none
  |_=>none
 |none=>none
def Yv(x:Operand)(i:Nat)(K:SV C.τ.S->Option β):Option β:=match s.gets p x with
 |some (.t vs)=>match vs[i]? with|some v=>K v|none=>none
 |_=>none
def Yu(a d:TypeId)(x:Operand)(K:SV C.τ.S->Option β):Option β:=match s.gets p x with
 |some (.i _ q)=>match C.P.underlying d,C.P.underlying a with
  |some (.int k),some _=>K (.i k (k.wrap q))
  |_,_=>none
 |_=>none
def YI(x:Operand)(K:SV C.τ.S->Option β):Option β:=match s.gets p x with|some (.r m o)=>K (.r m o)|some (.q c z j)=>K (.q c z j)|some (.e m n i j)=>K (.e m n i j)|_=>none
def DN{α:Type}:List α->Nat->List α->List α|l,_,[]=>l|l,o,v::vs=>DN (l.set o v) (o+1) vs
def EW(pl:Nat->Option (Nat×Nat))(cells:List (SV C.τ.S)):List (Nat×SV C.τ.S)->Option (List (SV C.τ.S))
 |[]=>some cells
 |q::a=>match pl q.1 with
  |none=>none
  |some d=>match Nat.beq q.2.cs.length d.2 with
   |true=>match Nat.ble (d.1+d.2) cells.length with
    |true=>EW pl (DN cells d.1 q.2.cs) a
    |false=>none
   |false=>none
def Ac:SV C.τ.S->Bool| .t _| .g _ _| .u=>false|_=>true
def Jy:List (Nat×Operand)->Option (List (Nat×SV C.τ.S))
 |[]=>some []
 |x::r=>match s.gets p x.2 with
  |some v=>match Ac C v with
   |true=>match Jy r with|some vs=>some ((x.1,v)::vs)|none=>none
   |false=>none
  |none=>none
def WW(t:TypeId)(a:List (Nat×SV C.τ.S)):Option (List (SV C.τ.S)):=
 match C.P.info? t,C.P.underlying t with
 |some d,some (.array _ e)=>
  match d.zero,C.P.info? e with
  |some z,some g=>match qh z.cells.toList with
   |some cs=>EW C (λi=>some (i*g.size,g.size)) cs a
   |none=>none
  |_,_=>none
 |some d,some (.struct b)=>
  match d.zero,b.toList.mapM (λf=>(C.P.info? f.type).map λi=>(f.offset,i.size)) with
  |some z,some c=>match qh z.cells.toList with
   |some cs=>EW C (c.toArray[·]?) cs a
   |none=>none
  |_,_=>none
 |_,_=>none
def Yt(t:TypeId)(a:List (Nat×Operand))(K:SV C.τ.S->Option β):Option β:=match Jy C s p a with
 |some vs=>match WW C t vs with|some r=>K (.c r)|none=>none
 |none=>none
def Yz(t:TypeId)(x:Operand)(K:SV C.τ.S->Option β):Option β:=match s.gets p x with|some (.i k i)=>K (.n t (.i k i))|some (.st q)=>K (.n t (.st q))|_=>none
def Jw:List Operand->Option (List (SV C.τ.S))
 |[]=>some []
 |x::r=>match s.gets p x with
  |some v=>match DW C v with
   |true=>match Jw r with|some vs=>some (v::vs)|none=>none
   |false=>none
  |none=>none
def Yx(f:FuncId)(xs:List Operand)(K:SV C.τ.S->Option β):Option β:=match Jw C s p xs with|some vs=>K (.f f vs)|none=>none
def Pj(mx:Bool)(xs:List Operand)(K:SV C.τ.S->Option β):Option β:=match xs with
 |[x,y]=>match s.gets p x,s.gets p y with
  |some (.i .i64 a),some (.i .i64 b)=>match mx with
   |true=>K (.i .i64 (max a b))
   |false=>K (.i .i64 (min a b))
  |_,_=>none
 |_=>none
end
end Go.R
namespace Go.R
open Go.RowKit Go.Dc
def Like(M:Mem)(O:List Nat)(w w':World):Prop:=Sat M w'/\∀b∈O,w'.heap[b]?=w.heap[b]?
structure Rd(C:Cf)(s:Sg C.τ.S)(G:List (Nat×Bool))(p:List (Nat×Bool))(M:Mem)(ρ:List Loc)(H:Heap C.τ.S)(w:World)(a:Act)(O:List Nat):Prop where
 env:RE C.τ M ρ G H w a (s.T++s.B)
 obj:∀m x,s.bq m=some x->(m,x)∈H/\∃o,RO C.τ M ρ w m x o/\∀b∈o,b∈O
 sat:Sat M w
 hold:p≠[]->dM G p=some true
def Ev(C:Cf)(s:Sg C.τ.S)(G:List (Nat×Bool))(p:List (Nat×Bool))(op:Op)(v:SV C.τ.S):Prop:=∀M ρ H w a O,Rd C s G p M ρ H w a O->∃x,RG C.τ M ρ G v x/\∀w',Like M O w w'->∀dst ty pos aM b,(execOp a.eval ⟨dst,op,ty,pos,aM,b⟩).run C.P w'= .ok (.value x) w'
def GT(G p:List (Nat×Bool))(g:Option Bool):Prop:=(p=[]/\g=none)\/(p≠[]/\∃e,g=some e/\dM G p=some e)
section
variable {β:Type}{C:Cf}{s:Sg C.τ.S}{G p:List (Nat×Bool)}{g:Option Bool}{M:Mem}{ρ:List Loc}{H:Heap C.τ.S}{w:World}{a:Act}{O:List Nat}{y:β}{K:SV C.τ.S->Option β}
theorem uz{c:Bool}{k:Option β}(b:GT G p g)(h:rV g c k=some y):k=some y/\((p≠[]->dM G p=some true)->c=true):=by
 rcases b with ⟨rfl,rfl⟩|⟨hp,e,rfl,a⟩;·obtain⟨h1,h2⟩:=jZ h;exact⟨h2,λ_=>h1⟩
 ·obtain⟨h1,h2⟩:=jZ h;refine⟨h2,λd=>?_⟩;have:=d hp;rw[a] at this;cases this;simpa using h1
theorem PN{α:Type}{d:α}{o:Option α}{k:α->Option β}(b:GT G p g)(h:Jv g d o k=some y):∃z,k z=some y/\((p≠[]->dM G p=some true)->o=some z):=by
 rcases b with ⟨rfl,rfl⟩|⟨hp,e,rfl,a⟩;·obtain⟨z,h1,h2⟩:=bind_some h;exact⟨z,h2,λ_=>h1⟩
 ·obtain⟨z,h1,h2⟩:=bind_some h;refine⟨z,h2,λc=>?_⟩;have:=c hp;rw[a] at this;cases this;exact h1
theorem BI{c:Cd}{o:Option (c.ty C.τ.S)}{k:c.ty C.τ.S->Option β}(b:GT G p g)(h:wF C g c o k=some y):∃z,k z=some y/\((p≠[]->dM G p=some true)->o=some z):=by
 rcases b with ⟨rfl,rfl⟩|⟨hp,e,rfl,a⟩;·obtain⟨z,h1,h2⟩:=bind_some h;exact⟨z,h2,λ_=>h1⟩
 ·unfold wF at h;simp only at h;split at h;·obtain⟨z,h1,h2⟩:=bind_some h;refine⟨z,h2,λd=>?_⟩;have:=d hp;rw[a] at this;cases this;exact h1
  ·cases h
theorem Sg.bS(a b:Nat):s.lk a b=R.lk (s.T++s.B) a b:=by rw[cu];rfl
theorem Rd.tmp(h:Rd C s G p M ρ H w a O){t:Nat}{v:SV C.τ.S}(b:s.lk 0 t=some v):RG C.τ M ρ G v (a.eval (.tmp t)):=by
 obtain⟨x,h1,h2⟩:=h.env.tm t v (by rw[<-Sg.bS];exact b);have:a.eval (.tmp t)=x:=by simp[Act.eval,Array.getD_eq_getD_getElem?,h1]
 rw[this];exact h2
theorem ahJ{τ:Tb}{M:Mem}{ρ:List Loc}{v:Value}{x:SV τ.S}(h:cst v=some x):RV τ M ρ x v:=by
 unfold cst at h;split at h<;>cases h;·exact .i
 ·exact .b
 ·have:=RV.st (τ:=τ) (M:=M) (ρ:=ρ) (s:=Str.of ‹ByteArray›);rw[Str.atc] at this;exact this
 ·exact .nl
 ·exact .z rfl
 ·exact .z rfl
 ·exact .z rfl
 ·exact .z rfl
theorem uq{τ:Tb}{M:Mem}{ρ:List Loc}:∀{l:List Value}{xs:List (SV τ.S)},qh l=some xs->aZ τ M ρ xs l
 |[],xs,h=>by simp[qh] at h;subst h;exact .nil
 |v::r,xs,h=>by
  unfold qh at h
  split at h
  ·rename_i x a
   split at h
   ·rename_i y b
    cases h
    exact .cons (ahJ a) (uq b)
   ·cases h
  ·cases h
theorem avo{τ:Tb}{M:Mem}{ρ:List Loc}{G:List (Nat×Bool)}{v:Value}{x:SV τ.S}(h:XL v=some x):RG τ M ρ G x v:=by
 unfold XL at h;split at h
 ·rename_i cs;split at h
  ·rename_i l a;cases h;have:cs=cs.toList.toArray:=by simp
   rw[this];exact .c (uq a)
  ·cases h
 ·exact .v (ahJ h)
theorem Rd.sW(h:Rd C s G p M ρ H w a O){x:Operand}{v:SV C.τ.S}(b:s.sW x=some v):RG C.τ M ρ G v (a.eval x):=by cases x with|tmp t=>exact h.tmp b|const c=>exact avo b|func f=>simp[Sg.sW] at b;subst b;exact .v (.f (vs:=[]) rfl λi x v h=>by simp at h)|global g=>simp[Sg.sW] at b
theorem acJ{q:Nat×Bool}:∀{p:List (Nat×Bool)},Gd q p=true->q∈p
 |[],h=>by simp[Gd] at h
 |x::r,h=>by
  unfold Gd at h
  split at h
  ·rename_i h1
   have h1:=Nat.eq_of_beq_eq_true h1
   split at h
   ·rename_i a b;exact List.mem_cons.2 (.inl (Prod.ext h1.symm (b.trans a.symm)))
   ·rename_i a b;exact List.mem_cons.2 (.inl (Prod.ext h1.symm (b.trans a.symm)))
   ·exact List.mem_cons_of_mem _ (acJ h)
  ·exact List.mem_cons_of_mem _ (acJ h)
theorem aqy{p:List (Nat×Bool)}:∀{q:List (Nat×Bool)},Uz q p=true->∀x∈q,x∈p
 |[],_,x,h=>by cases h
 |z::r,h,x,a=>by
  unfold Uz at h
  split at h
  ·rename_i h1
   rcases List.mem_cons.1 a with rfl|a
   ·exact acJ h1
   ·exact aqy h x a
  ·cases h
theorem aiu:∀{p:List (Nat×Bool)},dM G p=some true->∀x∈p,∃b,look G x.1=some b/\lit b x.2=true
 |[],h,_,_=>by simp[dM] at h
 |[x],h,z,a=>by
  simp at a;subst a
  unfold dM at h
  split at h
  ·rename_i b c;exact⟨b,c,by simpa using h⟩
  ·cases h
 |x::y::r,h,z,a=>by
  unfold dM at h
  split at h
  ·rename_i b c
   split at h
   ·rename_i e d
    simp at h
    rcases List.mem_cons.1 a with rfl|a
    ·exact⟨b,c,h.2⟩
    ·exact aiu (by rw[d,h.1]) z a
   ·cases h
  ·cases h
theorem aiw:∀{q:List (Nat×Bool)}{e:Bool},dM G q=some e->(∀x∈q,∃b,look G x.1=some b/\lit b x.2=true)->e=true
 |[],_,h,_=>by simp[dM] at h
 |[x],e,h,a=>by
  obtain⟨b,h1,h2⟩:=a x sm
  unfold dM at h
  rw[h1] at h
  simp at h;rw[<-h];exact h2
 |x::y::r,e,h,a=>by
  obtain⟨b,h1,h2⟩:=a x sm
  unfold dM at h
  rw[h1] at h
  simp only at h
  split at h
  ·rename_i f c
   simp at h
   rw[<-h,h2,aiw c λz d=>a z (List.mem_cons_of_mem _ d)]
   rfl
  ·cases h
theorem Rd.gets(h:Rd C s G p M ρ H w a O){x:Operand}{v:SV C.τ.S}(c:s.gets p x=some v):RG C.τ M ρ G v (a.eval x):=by
 unfold Sg.gets at c;split at c
 ·rename_i q k f;split at c;·rename_i hs;cases c;have:=h.sW f;cases this with|v d=>cases d|g h0 h1 _=>refine h1 (aiw h0 λz i=>?_);have b:=aqy hs z i;exact aiu (h.hold (by intro e;rw[e] at b;cases b)) z b
  ·cases c
 ·rename_i r j;exact h.sW c
theorem Rd.i(h:Rd C s G p M ρ H w a O){x:Operand}{k:IntKind}{i:Int}(b:s.gets p x=some (.i k i)):a.eval x= .int k i:=by have:=h.gets b;generalize a.eval x=z at this |-;cases this with|v h=>cases h;rfl
theorem Rd.b(h:Rd C s G p M ρ H w a O){x:Operand}{i:Bool}(c:s.gets p x=some (.b i)):a.eval x= .bool i:=by have:=h.gets c;generalize a.eval x=z at this |-;cases this with|v h=>cases h;rfl
theorem Rd.st(h:Rd C s G p M ρ H w a O){x:Operand}{i:Str}(b:s.gets p x=some (.st i)):a.eval x= .string i.ba:=by have:=h.gets b;generalize a.eval x=z at this |-;cases this with|v h=>cases h;rfl
theorem Rd.rv(h:Rd C s G p M ρ H w a O){x:Operand}{v:SV C.τ.S}(f:s.gets p x=some v)(h1:∀xs,v≠ .c xs:=by intros;intro h;cases h)(h2:∀xs,v≠ .t xs:=by intros;intro h;cases h)(d:∀b y,v≠ .g b y:=by intros;intro h;cases h)(e:v≠ .u:=by intro h;cases h):RV C.τ M ρ v (a.eval x):=by have:=h.gets f;generalize a.eval x=z at this |-;cases this with|v h=>exact h|c _=>exact absurd rfl (h1 _)|t _ _=>exact absurd rfl (h2 _)|g _ _ _=>exact absurd rfl (d _ _)|u=>exact absurd rfl e
theorem BH(h:Rd C s G p M ρ H w a O){v:SV C.τ.S}{x:Value}(b:RV C.τ M ρ v x):RV C.τ M ρ (fz s v) x:=by
 unfold fz;split
 ·rename_i m;split;·rename_i c xs g;obtain⟨_,o,ho,_⟩:=h.obj _ _ g;cases b with|o h1=>cases ho with|iR d f=>rw[d] at h1;cases h1;unfold Loc.sl;rw[f];exact .le|ls d _ _ _ _ _ _ _ _ e _=>rw[d] at h1;cases h1;exact e
  ·exact b
 ·cases b with|x _ _ _ h=>exact h
 ·exact b
theorem Ju(h:Rd C s G p M ρ H w a O):∀{vs:List (SV C.τ.S)}{xs:List Value},aZ C.τ M ρ vs xs->aZ C.τ M ρ (yZ s vs) xs|_,_,.nil=> .nil|_,_,.cons h1 h2=> .cons (BH h h1) (Ju h h2)
theorem wE(h:Rd C s G p M ρ H w a O){v:SV C.τ.S}{x:Value}(b:RG C.τ M ρ G v x):RG C.τ M ρ G (gG s v) x:=by
 cases b with
 |v b=>
  unfold gG;split;·cases b
  ·exact .v (BH h b)
 |c b=>exact .c (Ju h b)
 |t h1 h2=>exact .t h1 h2
 |g h0 h1 h2=>exact .g h0 h1 h2
 |u=>exact .u
theorem Rd.fz(h:Rd C s G p M ρ H w a O){x:Operand}{v u:SV C.τ.S}(i:s.gets p x=some v)(j:R.fz s v=u)(h1:∀xs,u≠ .c xs:=by intros;intro h;cases h)(h2:∀xs,u≠ .t xs:=by intros;intro h;cases h)(e:∀b y,u≠ .g b y:=by intros;intro h;cases h)(f:u≠ .u:=by intro h;cases h):RV C.τ M ρ u (a.eval x):=by have d:=h.gets i;subst j;generalize a.eval x=z at d |-;cases d with|v d=>exact BH h d|c _=>exact absurd rfl (h1 _)|t _ _=>exact absurd rfl (h2 _)|g _ _ _=>exact absurd rfl (e _ _)|u=>exact absurd rfl f
theorem av4{x:Operand}{v:SV C.τ.S}(a:s.gets p x=some v):Ev C s G p (.move x) v:=λ_ _ _ _ _ _ h=>⟨_,h.gets a,λ_ _ _ _ _ _ _=>rfl⟩
theorem avM{x:Operand}{v:SV C.τ.S}(a:s.gets p x=some v):Ev C s G p (.assign x) v:=λ_ _ _ _ _ _ h=>⟨_,h.gets a,λ_ _ _ _ _ _ _=>rfl⟩
theorem nU{op:BinOp}{t:TypeId}{k:IntKind}{a b:Int}{x:Value}(w':World)(h:match op with
  | .add=>x= .int k (k.wrap (a+b))| .sub=>x= .int k (k.wrap (a-b))| .mul=>x= .int k (k.wrap (a*b))
  | .quo=>b≠0/\x= .int k (k.wrap (a.tdiv b))| .rem=>b≠0/\x= .int k (a.tmod b)
  | .lss=>x= .bool (decide (a<b))| .leq=>x= .bool (decide (a<=b))| .gtr=>x= .bool (decide (b<a))| .geq=>x= .bool (decide (b<=a))
  | .eql=>x= .bool (decide (a=b))| .neq=>x= .bool (!decide (a=b))|_=>False):(binOp op t (.int k a) (.int k b)).run C.P w'= .ok x w':=by
 split at h
 ·subst h;cases k<;>rfl
 ·subst h;cases k<;>rfl
 ·subst h;cases k<;>rfl
 ·obtain⟨h0,rfl⟩:=h;cases k<;>(simp only[binOp,Op.intDiv];simp[go_sem,h0])
 ·obtain⟨h0,rfl⟩:=h;cases k<;>(simp only[binOp,Op.intDiv];simp[go_sem,h0])
 ·subst h;cases k<;>rfl
 ·subst h;cases k<;>rfl
 ·subst h;cases k<;>rfl
 ·subst h;cases k<;>rfl
 ·subst h
  have e:(a==b)=decide (a=b):=by by_cases e:a=b<;>simp[e]
  cases k<;>(show Result.ok (Value.bool (a==b)) w'=_;rw[e])
 ·subst h
  have e:(a != b)= !decide (a=b):=by by_cases e:a=b<;>simp[e]
  cases k<;>(show Result.ok (Value.bool (a != b)) w'=_;rw[e])
 ·cases h
theorem asS{w:Bool}{op:BinOp}{t:TypeId}{k:IntKind}{a b:Int}(c:GT G p g)(h:WM C g w op k a b K=some y):∃v d,K v=some y/\(∀{M ρ G},RG C.τ M ρ G v d)/\((p≠[]->dM G p=some true)->∀w',(binOp op t (.int k a) (.int k b)).run C.P w'= .ok d w'):=by
 unfold WM at h;split at h
 ·split at h;·obtain⟨h1,h2⟩:=uz c h;exact⟨_,_,h1,.v .i,λhp w'=>nU w' (by rw[JX (BX (h2 hp)).1 (BX (h2 hp)).2])⟩
  ·exact⟨_,_,h,.v .i,λhp w'=>nU w' rfl⟩
 ·split at h;·obtain⟨h1,h2⟩:=uz c h;exact⟨_,_,h1,.v .i,λhp w'=>nU w' (by rw[JX (BX (h2 hp)).1 (BX (h2 hp)).2])⟩
  ·exact⟨_,_,h,.v .i,λhp w'=>nU w' rfl⟩
 ·split at h;·obtain⟨h1,h2⟩:=uz c h;exact⟨_,_,h1,.v .i,λhp w'=>nU w' (by rw[JX (BX (h2 hp)).1 (BX (h2 hp)).2])⟩
  ·exact⟨_,_,h,.v .i,λhp w'=>nU w' rfl⟩
 ·obtain⟨h1,h2⟩:=uz c h;exact⟨_,_,h1,.v .i,λhp w'=>nU w' ⟨by simpa using h2 hp,rfl⟩⟩
 ·obtain⟨h1,h2⟩:=uz c h;exact⟨_,_,h1,.v .i,λhp w'=>nU w' ⟨by simpa using h2 hp,rfl⟩⟩
 ·exact⟨_,_,h,.v .b,λhp w'=>nU w' rfl⟩
 ·exact⟨_,_,h,.v .b,λhp w'=>nU w' rfl⟩
 ·exact⟨_,_,h,.v .b,λhp w'=>nU w' rfl⟩
 ·exact⟨_,_,h,.v .b,λhp w'=>nU w' rfl⟩
 ·exact⟨_,_,h,.v .b,λhp w'=>nU w' rfl⟩
 ·exact⟨_,_,h,.v .b,λhp w'=>nU w' rfl⟩
 ·cases h
theorem apT{P:Program}{t:TypeId}(a:P.underlying t=some .bool)(p q:Bool)(w:World):(Op.equal t (.bool p) (.bool q)).run P w= .ok (p==q) w:=by unfold Op.equal Op.maxDepth Op.equalIn;rw[run_bind_ok (fH a w)];rfl
theorem aBZ{P:Program}{t:TypeId}(h:aaY P t=true):P.underlying t=some .bool:=by
 unfold aaY at h;split at h;·assumption
 ·cases h
theorem aa0{P:Program}{t:TypeId}(h:Ce P t=true):P.underlying t=some .string:=by
 unfold Ce at h;split at h;·assumption
 ·cases h
theorem avG{τ:Tb}{M:Mem}{ρ:List Loc}{k:PK}{a b:SV τ.S}{x y:Value}{e:Bool}(h:eq1 k a b=some e)(c:RV τ M ρ a x)(d:RV τ M ρ b y):k.fit x=true/\k.fit y=true/\(e=true↔x=y):=by
 unfold eq1 at h;split at h
 ·split at h;·rename_i i j _ _;cases h;have f:=i.down;have g:=j.down;subst f g;cases c;cases d;exact⟨by simp[PK.fit],by simp[PK.fit],sm⟩
  ·cases h
 ·cases h;cases c;cases d;exact⟨rfl,rfl,sm⟩
 ·cases h;cases c;cases d;refine⟨rfl,rfl,?_⟩;simp only[decide_eq_true_eq,Value.string.injEq];exact⟨λh=>by rw[h],Str.WR⟩
 ·cases h
theorem aip{τ:Tb}{M:Mem}{ρ:List Loc}:∀{d:List PK}{c bs:List (SV τ.S)}{xs ys:List Value}{e:Bool},yT d c bs=some e->aZ τ M ρ c xs->aZ τ M ρ bs ys->fit d xs=true/\fit d ys=true/\(e=true↔xs=ys)
 |[],[],[],_,_,e,h,.nil,.nil=>by cases h;exact⟨rfl,rfl,sm⟩
 |k::d,a::c,b::bs,_,_,e,h,.cons h1 h2,.cons l m=>by
  unfold yT at h
  split at h
  ·rename_i x y n o
   cases h
   obtain⟨f,g,i⟩:=avG n h1 l
   obtain⟨f1,f2,j⟩:=aip o h2 m
   refine⟨by simp[fit,f,f1],by simp[fit,g,f2],?_⟩
   rw[Bool.and_eq_true,i,j]
   simp
  ·cases h
 |[],_::_,_,_,_,_,h,_,_=>by simp[yT] at h
 |[],[],_::_,_,_,_,h,_,_=>by simp[yT] at h
 |_::_,[],_,_,_,_,h,_,_=>by simp[yT] at h
 |_::_,_::_,[],_,_,_,h,_,_=>by simp[yT] at h
theorem avN{w:Bool}{op:BinOp}{t u:TypeId}{x o:Operand}(F:GT G p g)(h:Yq C s p g w op t x o K=some y):∃v,K v=some y/\Ev C s G p (.binOp op t x o u) v:=by
 unfold Yq at h;split at h
 ·rename_i k a X b j m;split at h
  ·rename_i q I;have e:=q.down;subst e;obtain⟨v,V,h1,h2,N⟩:=asS (t:=t) F h;refine⟨v,h1,λM ρ H w f O d=>⟨V,h2,λw' _ dst ty pos aM r=>?_⟩⟩;simp only[execOp,d.i j,d.i m];have I:(eqGuard op t x o (.int k a) (.int k b)).run C.P w'= .ok () w':=by unfold eqGuard;cases op<;>rfl
   show ((eqGuard op t x o (.int k a) (.int k b) >>= λ_=>binOp op t (.int k a) (.int k b)) >>= λv=>pure (Next.value v)).run C.P w'=_;refine bQ ?_;rw[run_bind_ok I];exact N d.hold w'
  ·cases h
 ·rename_i a b j m;split at h;·refine⟨_,h,λM ρ H w f O d=>⟨_,.v .b,λw' _ dst ty pos aM r=>?_⟩⟩;simp only[execOp,d.st j,d.st m];show Result.ok (Next.value (.bool (a.ba.toList==b.ba.toList))) w'=_;rw[aej,aqv]
  ·refine⟨_,h,λM ρ H w f O d=>⟨_,.v .b,λw' _ dst ty pos aM r=>?_⟩⟩;simp only[execOp,d.st j,d.st m];show Result.ok (Next.value (.bool (!(a.ba.toList==b.ba.toList)))) w'=_;rw[aej,aqv]
  ·obtain⟨q,h1,h2⟩:=PN F h;refine⟨_,h1,λM ρ H w f O d=>⟨_,.v .st,λw' _ dst ty pos aM r=>?_⟩⟩;simp only[execOp,d.st j,d.st m];have h:=h2 d.hold;unfold DU at h;split at h
   ·rename_i W;simp at h;subst h;show (Sem.bind (if ((a.ba.size+b.ba.size:Nat):Int)>IntKind.i64.max then _ else _) _).run C.P w'=_;have L:¬(((a.ba.size+b.ba.size:Nat):Int)>IntKind.i64.max):=by have:IntKind.i64.max=9223372036854775807:=rfl;rw[this,Str.Bd,Str.Bd];omega
    rw[if_neg L];have:a.ba++b.ba=(⟨a.l++b.l⟩:Str).ba:=by apply ByteArray.ext;simp[Str.ba]
    show Result.ok (Next.value (.string (a.ba++b.ba))) w'=_;rw[this]
   ·cases h
  ·cases h
 ·rename_i a b j m;split at h
  ·rename_i A;have A:=aBZ A;split at h;·refine⟨_,h,λM ρ H w f O d=>⟨_,.v .b,λw' _ dst ty pos aM r=>?_⟩⟩;simp only[execOp,d.b j,d.b m];refine bQ ?_;show (Op.equal t (.bool a) (.bool b) >>= λb=>pure (Value.bool b)).run C.P w'=_;rw[run_bind_ok (apT A a b w')];rfl
   ·refine⟨_,h,λM ρ H w f O d=>⟨_,.v .b,λw' _ dst ty pos aM r=>?_⟩⟩;simp only[execOp,d.b j,d.b m];refine bQ ?_;show (Op.equal t (.bool a) (.bool b) >>= λb=>pure (Value.bool !b)).run C.P w'=_;rw[run_bind_ok (apT A a b w')];rfl
   ·cases h
  ·cases h
 ·rename_i a b j m;split at h
  ·rename_i Y R n;simp only[Bool.and_eq_true,Bool.not_eq_true'] at n;split at h
   ·rename_i e Q
    have z:∀M ρ H w f O,Rd C s G p M ρ H w f O->∃xs ys:List Value,f.eval x= .agg xs.toArray/\f.eval o= .agg ys.toArray/\∀w':World,(Op.equalIn 10000 t (.agg xs.toArray) (.agg ys.toArray)).run C.P w'= .ok e w':=λM ρ H w f O d=>by
     have h1:=d.gets j;have h2:=d.gets m;generalize f.eval x=ax at h1 |-;generalize f.eval o=ay at h2 |-;cases h1 with|v h1=>cases h1| @c _ xs h1=>
     cases h2 with|v h2=>cases h2| @c _ ys h2=>
     obtain⟨f1,f2,J⟩:=aip Q h1 h2;refine⟨xs,ys,rfl,rfl,λw'=>?_⟩;obtain⟨U,S,T⟩:=awg (w:=w') R n.1 f1 f2;have:U=e:=by rw[Bool.eq_iff_iff,T,J]
     rw[<-this];exact S
    split at h;·refine⟨_,h,λM ρ H w f O d=>⟨_,.v .b,λw' _ dst ty pos aM r=>?_⟩⟩;obtain⟨xs,ys,B,D,E⟩:=z M ρ H w f O d;simp only[execOp,B,D];refine bQ ?_;rw[run_bind_ok (run_eqGuard_agg (P:=C.P) w' .eql t x o _ _ n.2),run_eql_struct,E];rfl
    ·refine⟨_,h,λM ρ H w f O d=>⟨_,.v .b,λw' _ dst ty pos aM r=>?_⟩⟩;obtain⟨xs,ys,B,D,E⟩:=z M ρ H w f O d;simp only[execOp,B,D];refine bQ ?_;rw[run_bind_ok (run_eqGuard_agg (P:=C.P) w' .neq t x o _ _ n.2),run_neq_struct,E];rfl
    ·cases h
   ·cases h
  ·cases h
 ·cases h
theorem av9{op:UnOp}{t:TypeId}{x:Operand}(f:GT G p g)(h:YN C s p g op x K=some y):∃v,K v=some y/\Ev C s G p (.unOp op t x) v:=by
 unfold YN at h;split at h;·rename_i b c;refine⟨_,h,λM ρ H w d O a=>⟨_,.v .b,λw' _ dst ty pos aM e=>?_⟩⟩;simp only[execOp,a.b c];rfl
 ·rename_i q c;obtain⟨h1,h2⟩:=uz f h;refine⟨_,h1,λM ρ H w d O a=>⟨_,.v .i,λw' _ dst ty pos aM e=>?_⟩⟩;simp only[execOp,a.i c];show Result.ok (Next.value (.int .i64 (IntKind.i64.wrap (0-q)))) w'=_;have:=BX (h2 a.hold);rw[Int.zero_sub,JX this.1 this.2]
 ·cases h
def eG(ops:List Oper)(G:List (Nat×Bool))(s:Sg C.τ.S):Prop:=∀j b,look G j=some b->∃o d,ops[j]?=some o/\o.dst=some d/\(s.lk 0 d=some (.b b)\/∃q,s.lk 0 d=some (.g q (.b b)))
theorem aaS{t:Nat}:∀{ops:List Oper}{j:Nat},idxOf ops t=some j->∃o,ops[j]?=some o/\o.dst=some t
 |[],j,h=>by simp[idxOf] at h
 |o::r,j,h=>by
  unfold idxOf at h
  split at h
  ·rename_i d c
   split at h
   ·rename_i e
    cases h
    have:=Nat.eq_of_beq_eq_true e
    subst this
    exact⟨o,rfl,c⟩
   ·split at h
    ·rename_i n a
     cases h
     obtain⟨b,h1,h2⟩:=aaS a
     exact⟨b,by simpa using h1,h2⟩
    ·cases h
  ·split at h
   ·rename_i n a
    cases h
    obtain⟨b,h1,h2⟩:=aaS a
    exact⟨b,by simpa using h1,h2⟩
   ·cases h
theorem Rd.ext(h:Rd C s G p M ρ H w a O){ops:List Oper}(v:eG (C:=C) ops G s){c:Operand}{b wt:Bool}(f:s.gets p c=some (.b b))(m:lit b wt=true):Rd C s G (ext p G ops c wt) M ρ H w a O:=by
 refine⟨h.env,h.obj,h.sat,?_⟩;unfold R.ext;split
 ·rename_i t;split
  ·rename_i j y;split
   ·rename_i x i;intro _;obtain⟨o,d,n,u,g⟩:=v j x i;obtain⟨A,k,l⟩:=aaS y;rw[n] at k;cases k;rw[u] at l;cases l
    have:b=x:=by
     unfold Sg.gets at f;have e:s.sW (.tmp t)=s.lk 0 t:=rfl;rcases g with g|⟨q,g⟩;·rw[e,g] at f;cases f;rfl
     ·rw[e,g] at f;simp only at f;split at f;·cases f;rfl
      ·cases f
    subst this;cases hp:p with|nil=>simp[dM,i,m]|cons z r=>have:=h.hold (by rw[hp];exact List.cons_ne_nil _ _);rw[hp] at this;simp[dM,i,m,this]
   ·exact h.hold
  ·exact h.hold
 ·exact h.hold
theorem av6{ops:List Oper}{c x k:Operand}(j:eG (C:=C) ops G s)(h:YJ C s p G ops c x k K=some y):∃v,K v=some y/\Ev C s G p (.pick c x k) v:=by
 unfold YJ at h;split at h
 ·rename_i b f;split at h
  ·split at h;·rename_i e i;refine⟨_,h,λM ρ H w l O d=>⟨_,.v .b,λw' _ dst ty pos aM m=>?_⟩⟩;have a:=d.b f;cases b with|true=>simp only[execOp,a];rfl|false=>have g:=(d.ext j (wt:=false) f rfl).b i;simp only[execOp,a,g];rfl
   ·cases h
  ·split at h;·rename_i e i;refine⟨_,h,λM ρ H w l O d=>⟨_,.v .b,λw' _ dst ty pos aM m=>?_⟩⟩;have a:=d.b f;cases b with|true=>have g:=(d.ext j (wt:=true) f rfl).b i;simp only[execOp,a,g];rfl|false=>simp only[execOp,a];rfl
   ·cases h
  ·cases h
 ·cases h
end
end Go.R
namespace Go.R
open Go.RowKit Go.Dc
section
variable {β:Type}{C:Cf}{s:Sg C.τ.S}{G p:List (Nat×Bool)}{g:Option Bool}{M:Mem}{ρ:List Loc}{H:Heap C.τ.S}{w:World}{a:Act}{O:List Nat}{y:β}{K:SV C.τ.S->Option β}
theorem RG.one{τ:Tb}{M:Mem}{ρ:List Loc}{G:List (Nat×Bool)}{v:SV τ.S}{x:Value}(h:RG τ M ρ G v x)(h1:∀xs,v≠ .c xs)(h2:∀xs,v≠ .t xs)(a:∀b y,v≠ .g b y)(d:v≠ .u):RV τ M ρ v x:=by cases h with|v h=>exact h|c _=>exact absurd rfl (h1 _)|t _ _=>exact absurd rfl (h2 _)|g _ _ _=>exact absurd rfl (a _ _)|u=>exact absurd rfl d
theorem LD{v:SV C.τ.S}(h:DW C v=true):(∀xs,v≠ .c xs)/\(∀xs,v≠ .t xs)/\(∀b y,v≠ .g b y)/\v≠ .u:=⟨λxs e=>(by subst e;cases h),λxs e=>(by subst e;cases h),λb y e=>(by subst e;cases h),λe=>(by subst e;cases h)⟩
theorem cells_ok(h:Rd C s G p M ρ H w a O){m:Nat}{T k:Nat}{l:Loc}(f:(m,.bx T k)∈H)(g:ρ[m]?=some l):∀{o n:Nat}{cs:List (SV C.τ.S)},cells C s m o n=some cs->o+n<=k->∃xs,aZ C.τ M ρ cs xs/\xs.length=n/\∀(j:Nat) x,xs[j]?=some x->w.cell? ⟨l.b,o+j,none⟩=some x
 |_,0,cs,e,_=>by simp[cells] at e;subst e;exact⟨[],.nil,rfl,λj x h=>by simp at h⟩
 |o,n+1,cs,e,J=>by
  unfold cells at e
  split at e
  ·rename_i v D
   split at e
   ·cases e
   ·rename_i h1
    split at e
    ·rename_i r B
     cases e
     obtain⟨K,x,d,i,q⟩:=h.env.cl m o v (by rw[<-Sg.bS];exact D) T k f om
     rw[g] at d;cases d
     obtain⟨xs,t,u,y⟩:=cells_ok h f g B om
     obtain⟨E,F,I,A⟩:=LD h1
     refine⟨x::xs,.cons (q.resolve_left A) t,by simp[u],λj z c=>?_⟩
     cases j with
     |zero=>simp at c;subst c;exact i
     |succ j=>have:=y j z (by simpa using c);rwa [show o+1+j=o+(j+1) by omega] at this
    ·cases e
  ·cases e
theorem Ey{t n:Nat}{i:Bool}{cs:List (SV C.τ.S)}{v:SV C.τ.S}{xs:List Value}(e:zO C.P t=some (n,i))(d:yK C n i cs=some v)(h:aZ C.τ M ρ cs xs):∃x,RG C.τ M ρ G v x/\∀(w':World) (b o:Nat),(∀(j:Nat) z,xs[j]?=some z->w'.cell? ⟨b,o+j,none⟩=some z)->(loadVar t ⟨b,o,none⟩).run C.P w'= .ok x w':=by
 unfold yK at d;unfold zO at e;split at e
 ·rename_i k g;simp at e;obtain⟨rfl,rfl⟩:=e;simp only at d;split at d
  ·rename_i a;have a:cs.length=k:=Nat.eq_of_beq_eq_true a;cases d;refine⟨.agg xs.toArray,.c h,λw' b o f=>aDY g (by rw[h.len,a]) λj v d=>?_⟩;have:=f j v d;by_cases h0:j=0;·subst h0;simpa [Addr.add] using this
   ·simpa [Addr.add,h0] using this
  ·cases d
 ·split at e
  ·rename_i g;simp at e;obtain⟨rfl,rfl⟩:=e;simp only at d;split at d;·cases d;cases h with|cons h1 h2=>cases h2;exact⟨_,.v h1,λw' b o f=>Ui g (by simpa using f 0 _ rfl)⟩
   ·cases d
  ·cases e
theorem ad1{b o n:Nat}{cs:List (SV C.τ.S)}{cell:Nat->Option Value}(h:∀(j:Nat) z,cs[j]?=some z->∃v,cell j=some v/\RV C.τ M ρ z v):∃xs,aZ C.τ M ρ cs xs/\∀(j:Nat) x,xs[j]?=some x->cell j=some x:=by induction cs generalizing cell with|nil=>exact⟨[],.nil,λj x h=>by simp at h⟩|cons c cs g=>obtain⟨v,h1,h2⟩:=h 0 c rfl;obtain⟨xs,d,e⟩:=g (cell:=λj=>cell (j+1)) λj z f=>h (j+1) z (by simpa using f);refine⟨v::xs,.cons h2 d,λj x a=>?_⟩;cases j with|zero=>simp at a;subst a;exact h1|succ j=>exact e j x (by simpa using a)
theorem take_drop{α:Type}{l:List α}{j n k:Nat}{z:α}(h:((l.drop j).take n)[k]?=some z):l[j+k]?=some z:=by
 have a:k<n:=by have:=(List.getElem?_eq_some_iff.1 h).1;rw[List.length_take] at this;omega
 rwa [List.getElem?_take_of_lt a,List.getElem?_drop] at h
theorem Like.cell{w':World}(h:Like M O w w'){b:Nat}(a:b∈O)(o:Nat):w'.cell? ⟨b,o,none⟩=w.cell? ⟨b,o,none⟩:=by unfold World.cell?;rw[h.2 b a]
theorem ais{t:TypeId}{x:Operand}(hg:GT G p g)(h:Ph C s p g t x K=some y):∃v,K v=some y/\Ev C s G p (.load t x) v:=by
 unfold Ph at h;split at h
 ·rename_i n ag ht;split at h
  ·rename_i m o N;split at h
   ·rename_i T k Z;split at h
    ·rename_i Y;split at h
     ·rename_i cs X;split at h;·rename_i v A;refine⟨v,h,λM ρ H w a O f=>?_⟩;have hp:=f.rv N;obtain⟨B,ob,ho,d⟩:=f.obj _ _ Z;cases ho with|bx D Q _ _=>obtain⟨xs,h1,h2,I⟩:=cells_ok f B D X (Nat.le_of_ble_eq_true Y);obtain⟨z,J,V⟩:=Ey (G:=G) ht A h1;refine⟨z,J,λw' L dst ty pos aM gd=>?_⟩;show (Instr.loadAt t (a.eval x) >>= λv=>pure (Next.value v)).run C.P w'=_;generalize a.eval x=ax at hp |-;cases hp with|r U=>rw[D] at U;cases U;exact bQ (s:=loadVar t _) (V w' _ o λj z S=>by rw[L.cell (d _ sm)];exact I j z S)
      ·cases h
     ·cases h
    ·cases h
   ·cases h
  ·rename_i c z j N;split at h;·rename_i v A;refine⟨v,h,λM ρ H w a O f=>?_⟩;have hp:=f.rv N;generalize W:a.eval x=ax at hp;cases hp with| @q _ _ _ b o vs D Q=>obtain⟨xs,h1,h2⟩:=ad1 (C:=C) (b:=b) (o:=o) (n:=n) (cs:=((E C.τ c z).cs.drop j).take n) (cell:=λk=>M b (o+(j+k))) λk u R=>⟨vs (j+k),D _ _ (take_drop R),Q _ _ (take_drop R)⟩;obtain⟨u,I,J⟩:=Ey (G:=G) ht A h1;refine⟨u,I,λw' L dst ty pos aM gd=>?_⟩;show (Instr.loadAt t (a.eval x) >>= λv=>pure (Next.value v)).run C.P w'=_;rw[W];exact bQ (s:=loadVar t _) (J w' b (o+j) λk v A=>by rw[Nat.add_assoc];exact L.1 _ _ _ (h2 k v A))
   ·cases h
  ·rename_i m q i j N;split at h
   ·rename_i c xs Z;split at h
    ·rename_i hq;have hq:=Nat.eq_of_beq_eq_true hq;subst hq;obtain⟨z,h1,h2⟩:=BI hg h;split at h1;·rename_i v A;refine⟨v,h1,λM ρ H w a O f=>?_⟩;have hp:=f.rv N;obtain⟨h0,ab,S⟩:=wX (h2 f.hold);obtain⟨B,ob,ho,d⟩:=f.obj _ _ Z;cases ho with|ig D Q=>simp at S| @ar _ _ T l arr D Q U e4 e5 e6 e7 e8 e9 aa=>obtain⟨ys,I,J⟩:=ad1 (C:=C) (M:=M) (ρ:=ρ) (b:=0) (o:=0) (n:=n) (cs:=((E C.τ c z).cs.drop j).take n) (cell:=λk=>arr[i.toNat*C.τ.aC c+(j+k)]?) λk u R=>e9 i.toNat z S _ _ (take_drop R);obtain⟨u,V,h6⟩:=Ey (G:=G) ht A I;refine⟨u,V,λw' L dst ty pos aM gd=>?_⟩;show (Instr.loadAt t (a.eval x) >>= λv=>pure (Next.value v)).run C.P w'=_;generalize a.eval x=ax at hp |-;cases hp with|e F=>rw[D] at F;cases F;exact bQ (s:=loadVar t _) (h6 w' _ _ λk v A=>by rw[L.cell (d _ sm)];have:=J k v A;simp only[World.cell?,e7];simpa [Nat.add_assoc] using this)
     ·cases h1
    ·cases h
   ·cases h
  ·cases h
 ·cases h
theorem aDX{P:Program}{s i b o off:Nat}(a:Pp P s i=some off)(w:World):(Instr.fieldAt s (.pointer (some ⟨b,o,none⟩)) i).run P w= .ok (.pointer (some ⟨b,o+off,none⟩)) w:=by
 unfold Pp at a;split at a
 ·rename_i h g;split at a
  ·rename_i f c;split at a
   ·rename_i ti e;split at a;·cases a
    ·rename_i d;simp at a;subst a;unfold Instr.fieldAt;rw[run_bind_ok (fH g w)];simp only[c];show (fieldPlace ⟨b,o,none⟩ f >>= λr=>pure (Value.pointer (some r))).run P w=_
     have hp:(fieldPlace ⟨b,o,none⟩ f).run P w= .ok ⟨b,o+f.offset,none⟩ w:=by
      unfold fieldPlace;rw[run_bind_ok (Dn e w),if_neg d];by_cases h0:f.offset=0;·simp[Addr.add,h0,go_sem]
      ·simp[Addr.add,h0,go_sem]
     rw[run_bind_ok hp];rfl
   ·cases a
  ·cases a
 ·cases a
theorem avS{t:TypeId}{x:Operand}{f:Nat}(h:Yw C s p t x f K=some y):∃v,K v=some y/\Ev C s G p (.fieldAddr t x f) v:=by
 unfold Yw at h;split at h
 ·rename_i d J;have k:∀{v u:SV C.τ.S},s.gets p x=some v->DW C v=true->(∀{M ρ z},RV C.τ M ρ v z->∃b o,z= .pointer (some ⟨b,o,none⟩)/\RV C.τ M ρ u (.pointer (some ⟨b,o+d,none⟩)))->Ev C s G p (.fieldAddr t x f) u:=by intro v u g h1 L M ρ H w a O N;obtain⟨D,E,F,I⟩:=LD h1;obtain⟨b,o,e,h2⟩:=L (N.rv g D E F I);refine⟨_,.v h2,λw' _ dst ty pos aM Q=>?_⟩;show (Instr.fieldAt t (a.eval x) f >>= λv=>pure (Next.value v)).run C.P w'=_;rw[e];exact bQ (aDX J w')
  split at h;·rename_i m o g;exact⟨_,h,k g rfl λl=>by cases l with|r e=>exact⟨_,_,rfl,.r e⟩⟩
  ·rename_i c z j g;exact⟨_,h,k g rfl λl=>by cases l with|q vs A B=>exact⟨_,_,rfl,by rw[Nat.add_assoc];exact .q vs A B⟩⟩
  ·rename_i m n i j g;exact⟨_,h,k g rfl λl=>by cases l with|e e=>exact⟨_,_,rfl,by rw[Nat.add_assoc];exact .e e⟩⟩
  ·cases h
 ·cases h
theorem av5{x:Operand}(h:YI C s p x K=some y):∃v,K v=some y/\Ev C s G p (.nilCheck x) v:=by
 unfold YI at h;have f:∀{v:SV C.τ.S},s.gets p x=some v->DW C v=true->(∀{M ρ z},RV C.τ M ρ v z->∃q,z= .pointer (some q))->Ev C s G p (.nilCheck x) v:=by intro v d h1 t M ρ H w a O u;obtain⟨g,k,l,r⟩:=LD h1;have b:=u.rv d g k l r;obtain⟨q,e⟩:=t b;refine⟨_,.v b,λw' _ dst ty pos aM A=>?_⟩;simp only[execOp,e];rfl
 split at h;·rename_i m o d;exact⟨_,h,f d rfl λb=>by cases b;exact⟨_,rfl⟩⟩
 ·rename_i c z j d;exact⟨_,h,f d rfl λb=>by cases b;exact⟨_,rfl⟩⟩
 ·rename_i m n i j d;exact⟨_,h,f d rfl λb=>by cases b;exact⟨_,rfl⟩⟩
 ·cases h
theorem Ug{P:Program}{t b o m c sz:Nat}{k:IntKind}{i:Int}(hs:elemSize P t=some sz)(f:0<=i/\i<(m:Int))(w:World):(Instr.indexAt t (.slice (some ⟨b,o,none⟩) m c) (.int k i)).run P w= .ok (.pointer (some ⟨b,o+i.toNat*sz,none⟩)) w:=by
 unfold elemSize at hs;split at hs
 ·rename_i e d
  cases a:P.info? e with
  |none=>rw[a] at hs;cases hs
  |some ti=>
   rw[a] at hs;simp at hs;subst hs;unfold Instr.indexAt;show (underlying t >>= _).run P w=_;rw[run_bind_ok (fH d w)];show (underlying t >>= _).run P w=_;rw[run_bind_ok (fH d w)];simp only[f,and_self,if_true];rw[run_bind_ok (Dn a w)];show Result.ok (Value.pointer (some (Addr.add ⟨b,o,none⟩ (i.toNat*ti.size)))) w=_;by_cases h0:i.toNat*ti.size=0;·simp[Addr.add,h0]
   ·simp only[Addr.add,h0,if_false]
 ·cases hs
theorem avX{t:TypeId}{x D:Operand}(S:GT G p g)(h:YB C s p g t x D K=some y):∃v,K v=some y/\Ev C s G p (.indexAddr t x D) v:=by
 unfold YB at h;split at h
 ·rename_i k i W;split at h
  ·rename_i v V;split at h
   ·rename_i n c xs hs J;split at h
    ·rename_i r;have r:=Nat.eq_of_beq_eq_true r;subst r;obtain⟨z,h1,h2⟩:=BI S h;refine⟨_,h1,λM ρ H w a O d=>?_⟩;have A:=d.fz V J;obtain⟨h0,j,B⟩:=wX (h2 d.hold);generalize f:a.eval x=ax at A
     cases A with
     |le=>simp at B
     | @l _ _ b o cap vs F I N Q R=>
      refine⟨_,.v (.q (vs:=vs i.toNat) (b:=b) (o:=o+i.toNat*C.τ.aC c) (λk u L=>?_) λk u L=>R _ z B k u L),λw' _ dst ty pos aM Y=>?_⟩
      ·have Z:k<C.τ.aC c:=by rw[<-jd c z];exact (List.getElem?_eq_some_iff.1 L).1
       exact Q _ z B k Z
      ·show (Instr.indexAt t (a.eval x) (a.eval D) >>= λv=>pure (Next.value v)).run C.P w'=_;rw[f,d.i W];exact bQ (Ug hs ⟨h0,j⟩ w')
    ·cases h
   ·rename_i n m hs J;split at h
    ·rename_i c xs hm;split at h;·rename_i r;have r:=Nat.eq_of_beq_eq_true r;subst r;obtain⟨z,h1,h2⟩:=BI S h;refine⟨_,h1,λM ρ H w a O d=>?_⟩;have A:=d.fz V J;obtain⟨h0,j,B⟩:=wX (h2 d.hold);obtain⟨T,ob,ho,U⟩:=d.obj _ _ hm;generalize f:a.eval x=ax at A;cases A with|o E=>refine⟨_,.v (.e E),λw' _ dst ty pos aM Y=>?_⟩;cases ho with|ig F I=>simp at B|ar F I N Q R e6 e7 e8 e9 X=>rw[F] at E;cases E;show (Instr.indexAt t (a.eval x) (a.eval D) >>= λv=>pure (Next.value v)).run C.P w'=_;rw[f,d.i W];unfold Loc.sl;rw[I];have:=bQ (Ug (P:=C.P) (b:=(‹Loc›).b) (o:=0) (c:=(‹Loc›).cap) (k:=k) hs (m:=(‹Loc›).len) ⟨h0,by rw[N];exact j⟩ w');simpa using this
     ·cases h
    ·cases h
   ·cases h
  ·cases h
 ·cases h
theorem avW{t:TypeId}{x j:Operand}(m:GT G p g)(h:YA C s p g t x j K=some y):∃v,K v=some y/\Ev C s G p (.index t x j) v:=by
 unfold YA at h;split at h
 ·rename_i q k i z A;split at h
  ·rename_i o;have f:=aa0 o;obtain⟨b,h1,h2⟩:=PN m h;refine⟨_,h1,λM ρ H w a O e=>⟨_,.v .i,λw' _ dst ty pos aM B=>?_⟩⟩;obtain⟨h0,n,u,r,rfl⟩:=atj (h2 e.hold);show (Instr.index t (a.eval x) (a.eval j) >>= λv=>pure (Next.value v)).run C.P w'=_;rw[e.st z,e.i A];refine bQ ?_;unfold Instr.index;show (underlying t >>= _).run C.P w'=_;rw[run_bind_ok (fH f w')];have c:i.toNat<q.ba.size:=by rw[Str.Bd];omega
   have d:q.ba[i.toNat]?=some (q.ba[i.toNat]'c):=by simp[c]
   simp only[h0,if_true,d];have:q.ba[i.toNat]'c=u:=by have h1:q.l[i.toNat]'om=u:=(List.getElem?_eq_some_iff.1 r).2;rw[<-h1];rfl
   rw[this];rfl
  ·cases h
 ·cases h
end
end Go.R
namespace Go.R
open Go.RowKit Go.Dc
section
variable {β:Type}{C:Cf}{s:Sg C.τ.S}{G p:List (Nat×Bool)}{g:Option Bool}{M:Mem}{ρ:List Loc}{H:Heap C.τ.S}{w:World}{a:Act}{O:List Nat}{y:β}{K:SV C.τ.S->Option β}
theorem NT(b:Rd C s G p M ρ H w a O){x:Option Operand}{o:Option (IntKind×Int)}(h:bnd C s p x=some o):x.map a.eval=o.map (λp=>Value.int p.1 p.2):=by
 unfold bnd at h;split at h;·cases h;rfl
 ·split at h;·rename_i c;cases h;simp[b.i c]
  ·cases h
theorem aDV{P:Program}{t sz:Nat}{ad:Option Addr}{len cap:Nat}{ol c:Option (IntKind×Int)}(h:0<=oval ol 0/\oval ol 0<=oval c len/\oval c len<=cap)(a:elemSize P t=some sz)(w:World):(Instr.sliceAt t (.slice ad len cap) (ol.map (λp=>Value.int p.1 p.2)) (c.map (λp=>Value.int p.1 p.2)) none).run P w= .ok (.slice (if cap=(oval ol 0).toNat then ad else ad.map (·.add ((oval ol 0).toNat*sz))) ((oval c len).toNat-(oval ol 0).toNat) (cap-(oval ol 0).toNat)) w:=by
 unfold elemSize at a;split at a;·rename_i d e;cases b:P.info? d with|none=>rw[b] at a;cases a|some ti=>rw[b] at a;simp at a;subst a;unfold Instr.sliceAt;rw[run_bind_ok (fH e w)];show (Instr.slice t (.slice ad len cap) _ _ none).run P w=_;unfold Instr.slice;rw[run_bind_ok (fH e w)];show (Instr.sliceBounds true len cap _ _ none >>= _).run P w=_;rw[run_bind_ok (apU h)];show (sizeOf d >>= _).run P w=_;rw[run_bind_ok (Dn b w)];rfl
 ·cases a
theorem RV.cut{c:Cd}{lo hi:Nat}{xs:List (c.ty C.τ.S)}{ad:Option Addr}{cap:Nat}(h:RV C.τ M ρ (.l c xs) (.slice ad xs.length cap))(h1:lo<=hi)(h2:hi<=xs.length):RV C.τ M ρ (.l c ((xs.take hi).drop lo)) (.slice (if cap=lo then ad else ad.map (·.add (lo*C.τ.aC c))) (hi-lo) (cap-lo)):=by
 have f:((xs.take hi).drop lo).length=hi-lo:=by simp;omega
 have a:∀(i:Nat) z,((xs.take hi).drop lo)[i]?=some z->xs[lo+i]?=some z:=λi z d=>by
  rw[List.getElem?_drop] at d;have g:lo+i<hi:=by have:=(List.getElem?_eq_some_iff.1 d).1;rw[List.length_take] at this;omega
  rwa [List.getElem?_take_of_lt g] at d
 by_cases h0:hi-lo=0;·have e:(xs.take hi).drop lo=[]:=List.length_eq_zero_iff.1 om;rw[e,h0];exact .le
 ·generalize u:xs.length=l at h
  cases h with
  | @l _ _ b p cap vs m s t n o=>
   have k:cap≠lo:=by omega
   rw[if_neg k];have e:(some (⟨b,p,none⟩:Addr)).map (·.add (lo*C.τ.aC c))=some ⟨b,p+lo*C.τ.aC c,none⟩:=by simp[Addr.add_lit]
   rw[e,<-f];refine .l (vs:=λi j=>vs (lo+i) j) m om om (λi z d j q=>?_) λi z d j y r=>o _ z (a i z d) j y r;have:=n _ z (a i z d) j q;rw[Nat.add_mul] at this;rw[show p+lo*C.τ.aC c+i*C.τ.aC c+j=p+(lo*C.τ.aC c+i*C.τ.aC c)+j by omega];exact this
  |le=>simp at h2;omega
theorem RV.sl{c:Cd}{xs:List (c.ty C.τ.S)}{x:Value}(h:RV C.τ M ρ (.l c xs) x):∃ad cap,x= .slice ad xs.length cap/\(xs.length<=cap\/xs.length=0):=by cases h with|l _ _ h1=>exact⟨_,_,rfl,.inl h1⟩|le=>exact⟨_,_,rfl,.inr rfl⟩
theorem av8{t:TypeId}{x:Operand}{lo hi:Option Operand}(l:GT G p g)(h:YM C s p g t x lo hi K=some y):∃v,K v=some y/\Ev C s G p (.slice t x lo hi none) v:=by
 unfold YM at h;split at h
 ·rename_i ol D f d;split at h
  ·rename_i v u;split at h
   ·rename_i q j;split at h
    ·rename_i B;have o:=aa0 B;obtain⟨r,h1,h2⟩:=PN l h;refine⟨_,h1,λM ρ H w a O b=>⟨_,.v .st,λw' _ dst ty pos aM z=>?_⟩⟩;have h:=h2 b.hold;have m:=b.fz u j;unfold mX at h;split at h;·rename_i i;simp at h;subst h;show (Instr.sliceAt t (a.eval x) (lo.map a.eval) (hi.map a.eval) none >>= λv=>pure (Next.value v)).run C.P w'=_;rw[NT b f,NT b d];generalize a.eval x=ax at m |-;cases m;refine bQ ?_;unfold Instr.sliceAt;rw[run_bind_ok (fH o w')];show (Instr.slice t (.string q.ba) _ _ none).run C.P w'=_;unfold Instr.slice;rw[run_bind_ok (fH o w')];show (Instr.sliceBounds false q.ba.size q.ba.size _ _ none >>= _).run C.P w'=_;rw[Str.Bd,run_bind_ok (apU (by exact i))];show Result.ok (Value.string (q.ba.extract _ _)) w'=_;rw[aIM]
     ·cases h
    ·cases h
   ·rename_i c xs j;split at h
    ·rename_i n A;split at h
     ·rename_i e;have e:=Nat.eq_of_beq_eq_true e;subst e;obtain⟨r,h1,h2⟩:=PN l h;refine⟨_,h1,λM ρ H w a O b=>?_⟩;have h:=h2 b.hold;have k:=b.fz u j;unfold R.sub at h;split at h;·rename_i i;cases h;obtain⟨ad,cap,e,E⟩:=k.sl;rw[e] at k;refine⟨_,.v (k.cut (lo:=(oval ol 0).toNat) (hi:=(oval D xs.length).toNat) om om),λw' _ dst ty pos aM z=>?_⟩;show (Instr.sliceAt t (a.eval x) (lo.map a.eval) (hi.map a.eval) none >>= λv=>pure (Next.value v)).run C.P w'=_;rw[e,NT b f,NT b d];exact bQ (aDV ⟨i.1,i.2.1,om⟩ A w')
      ·cases h
     ·cases h
    ·cases h
   ·cases h
  ·cases h
 ·cases h
theorem aaZ{P:Program}{t:TypeId}(h:wY P t=true):∃e,P.underlying t=some (.slice e):=by
 unfold wY at h;split at h;·exact⟨_,by assumption⟩
 ·cases h
theorem Uh{P:Program}{a:Act}{x:Operand}{t:TypeId}{ad:Option Addr}{m c:Nat}(e:a.eval x= .slice ad m c)(d:wY P t=true)(w:World)(dst ty pos aM gd):(execOp a.eval ⟨dst,.call {callee:= .builtin .len,args:= #[x],argTypes:= #[t]},ty,pos,aM,gd⟩).run P w= .ok (.value (.int .i64 (m:Int))) w:=by obtain⟨cs,b⟩:=YO a.eval .len x #[t] dst ty pos aM gd;obtain⟨g,f⟩:=aaZ d;rw[b,e];refine bQ (s:=Builtin.len_ #[t] ty #[.slice ad m c]) ?_;show (underlying t >>= _).run P w=_;rw[run_bind_ok (fH f w)];rfl
theorem air{t:TypeId}{x:Operand}(h:Pg C s p t x K=some y):∃v,K v=some y/\Ev C s G p (.call {callee:= .builtin .len,args:= #[x],argTypes:= #[t]}) v:=by
 unfold Pg at h;split at h
 ·rename_i v l;split at h
  ·rename_i q g;split at h;·rename_i j;have B:=aa0 j;refine⟨_,h,λM ρ H w a O d=>⟨_,.v .i,λw' _ dst ty pos aM f=>?_⟩⟩;obtain⟨cs,z⟩:=YO a.eval .len x #[t] dst ty pos aM f;have b:=d.fz l g;rw[z];generalize a.eval x=ax at b |-;cases b;rw[<-Str.Bd];refine bQ (s:=Builtin.len_ #[t] ty #[.string q.ba]) ?_;show (underlying t >>= _).run C.P w'=_;rw[run_bind_ok (fH B w')];rfl
   ·cases h
  ·rename_i g;split at h
   ·rename_i j;refine⟨_,h,λM ρ H w a O d=>⟨_,.v .i,λw' _ dst ty pos aM f=>?_⟩⟩;have b:=d.fz l g;have e:a.eval x= .slice none 0 0:=by generalize a.eval x=ax at b |-;cases b;rfl
    exact Uh e j w' dst ty pos aM f
   ·cases h
  ·rename_i c xs g;split at h;·rename_i j;refine⟨_,h,λM ρ H w a O d=>⟨_,.v .i,λw' _ dst ty pos aM f=>?_⟩⟩;obtain⟨ad,cap,e,_⟩:=(d.fz l g).sl;exact Uh e j w' dst ty pos aM f
   ·cases h
  ·rename_i m g;split at h
   ·rename_i c xs A;split at h
    ·rename_i j;refine⟨_,h,λM ρ H w a O d=>⟨_,.v .i,λw' _ dst ty pos aM f=>?_⟩⟩;have b:=d.fz l g;obtain⟨_,ob,ho,_⟩:=d.obj _ _ A;have e:∃ad cap,a.eval x= .slice ad xs.length cap:=by generalize a.eval x=ax at b |-;cases b with|o k=>cases ho with|ig n r=>rw[n] at k;cases k;unfold Loc.sl;rw[r];exact⟨_,_,rfl⟩|ar n r u=>rw[n] at k;cases k;unfold Loc.sl;rw[r,u];exact⟨_,_,rfl⟩
     obtain⟨ad,cap,e⟩:=e;exact Uh e j w' dst ty pos aM f
    ·cases h
   ·cases h
  ·cases h
 ·cases h
theorem avR{x:Operand}{i:Nat}(h:Yv C s p x i K=some y):∃v,K v=some y/\Ev C s G p (.extract x i) v:=by
 unfold Yv at h;split at h
 ·rename_i vs j;split at h
  ·rename_i v e;refine⟨v,h,λM ρ H w a O f=>?_⟩;have b:=f.gets j;generalize c:a.eval x=ax at b
   cases b with
   |v b=>cases b
   | @t _ xs h1 h2=>
    have d:i<xs.length:=by rw[h1];exact (List.getElem?_eq_some_iff.1 e).1
    refine⟨_,(h2 i v _ e (List.getElem?_eq_getElem d)).g,λw' _ dst ty pos aM k=>?_⟩;simp only[execOp,c,Instr.extract];simp[d,go_sem]
  ·cases h
 ·cases h
theorem avQ{t d:TypeId}{x:Operand}(h:Yu C s p t d x K=some y):∃v,K v=some y/\Ev C s G p (.convert t d x) v:=by
 unfold Yu at h;split at h
 ·rename_i k q g;split at h;·rename_i l b e f;refine⟨_,h,λM ρ H w a O c=>⟨_,.v .i,λw' _ dst ty pos aM j=>?_⟩⟩;show (convert t d (a.eval x) >>= λv=>pure (Next.value v)).run C.P w'=_;rw[c.i g];refine bQ ?_;unfold convert;rw[run_bind_ok (fH f w'),run_bind_ok (fH e w')];cases b<;>rfl
  ·cases h
 ·cases h
theorem aiN(b:Rd C s G p M ρ H w a O):∀{xs:List Operand}{vs:List (SV C.τ.S)},Jw C s p xs=some vs->aZ C.τ M ρ vs (xs.map a.eval)
 |[],vs,h=>by simp[Jw] at h;subst h;exact .nil
 |x::r,vs,h=>by
  unfold Jw at h
  split at h
  ·rename_i v i
   split at h
   ·rename_i h1
    split at h
    ·rename_i us c
     cases h
     obtain⟨d,e,f,g⟩:=LD h1
     exact .cons (b.rv i d e f g) (aiN b c)
    ·cases h
   ·cases h
  ·cases h
theorem avT{f:FuncId}{xs:List Operand}(h:Yx C s p f xs K=some y):∃v,K v=some y/\Ev C s G p (.makeFunc (.func f) #[] xs.toArray) v:=by
 unfold Yx at h;split at h;·rename_i vs d;refine⟨_,h,λM ρ H w a O c=>?_⟩;have b:=aiN c d;exact⟨.func (.func f) #[] (xs.map a.eval).toArray,.v (.f b.len λi x v h1 h2=>b.at h1 h2),λw' _ dst ty pos aM e=>by simp only[execOp,List.map_toArray];rfl⟩
 ·cases h
theorem avV{t:TypeId}{x:Operand}(hi:∀q,C.P.underlying t≠some (.interface q))(f:(C.P.underlying t).isSome=true)(h:Yz C s p t x K=some y):∃v,K v=some y/\Ev C s G p (.makeInterface t x) v:=by
 have c:∀{v:SV C.τ.S},s.gets p x=some v->DW C v=true->Ev C s G p (.makeInterface t x) (.n t v):=by intro v b h1 M ρ H w a O o;obtain⟨g,j,l,m⟩:=LD h1;refine⟨_,.v (.n (o.rv b g j l m)),λw' _ dst ty pos aM r=>?_⟩;show (Instr.makeInterface t (a.eval x) >>= λv=>pure (Next.value v)).run C.P w'=_;refine bQ ?_;unfold Instr.makeInterface;cases e:C.P.underlying t with|none=>rw[e] at f;cases f|some d=>rw[run_bind_ok (fH e w')];cases d<;>first|rfl|exact absurd e (hi _)
 unfold Yz at h;split at h;·rename_i k i b;exact⟨_,h,c b rfl⟩
 ·rename_i q b;exact⟨_,h,c b rfl⟩
 ·cases h
theorem ait{mx:Bool}{xs:List Operand}{ts:Array TypeId}(h:Pj C s p mx xs K=some y):∃v,K v=some y/\Ev C s G p (.call {callee:= .builtin (match mx with|true=> .max|false=> .min),args:=xs.toArray,argTypes:=ts}) v:=by
 match xs,h with
 |[],h=>cases h
 |[_],h=>cases h
 |_::_::_::_,h=>cases h
 |[x,z],h=>
  simp only[Pj] at h;split at h
  ·rename_i q r e f
   cases mx with
   |true=>
    refine⟨_,h,λM ρ H w a O c=>⟨_,.v .i,λw' _ dst ty pos aM b=>?_⟩⟩;obtain⟨cs,d⟩:=BD a.eval .max x z ts dst ty pos aM b;show (execOp a.eval ⟨dst,.call {callee:= .builtin .max,args:= #[x,z],argTypes:=ts},ty,pos,aM,b⟩).run C.P w'=_;rw[d,c.i e,c.i f];refine bQ (s:=Builtin.max_ ts ty #[.int .i64 q,.int .i64 r]) ?_;show Result.ok (Value.int .i64 (if r>q then r else q)) w'=_;have:(if r>q then r else q)=max q r:=by split<;>omega
    rw[this]
   |false=>
    refine⟨_,h,λM ρ H w a O c=>⟨_,.v .i,λw' _ dst ty pos aM b=>?_⟩⟩;obtain⟨cs,d⟩:=BD a.eval .min x z ts dst ty pos aM b;show (execOp a.eval ⟨dst,.call {callee:= .builtin .min,args:= #[x,z],argTypes:=ts},ty,pos,aM,b⟩).run C.P w'=_;rw[d,c.i e,c.i f];refine bQ (s:=Builtin.min_ ts ty #[.int .i64 q,.int .i64 r]) ?_;show Result.ok (Value.int .i64 (if r<q then r else q)) w'=_;have:(if r<q then r else q)=min q r:=by split<;>omega
    rw[this]
  ·cases h
inductive Ej (τ:Tb) (M:Mem) (ρ:List Loc):List (Nat×SV τ.S)->List (Nat×Value)->Prop
 |nil:Ej τ M ρ [] []
 |cons {i:Nat}{v:SV τ.S}{x:Value}{vs:List (Nat×SV τ.S)}{xs:List (Nat×Value)}{us:List Value}:x.cells=us.toArray->aZ τ M ρ v.cs us->Ej τ M ρ vs xs->Ej τ M ρ ((i,v)::vs) ((i,x)::xs)
theorem Uo:∀{ys:List (SV C.τ.S)}{us:List Value}{cs:List (SV C.τ.S)}{vs:List Value}(i:Nat),aZ C.τ M ρ ys us->aZ C.τ M ρ cs vs->aZ C.τ M ρ (DN cs i ys) (fZ vs i us)
 |[],[],_,_,_,.nil,h=>h
 |y::ys,u::us,cs,vs,i,.cons h1 h2,h=>by
  refine Uo (i+1) h2 (aZ.of (by simp[h.len]) λj v x a b=>?_)
  rw[List.getElem?_set] at a b
  by_cases e:i=j
  ·subst e
   have c:vs.length=cs.length:=h.len
   simp only[if_true] at a b
   split at a
   ·split at b
    ·cases a;cases b;exact h1
    ·cases b
   ·cases a
  ·simp only[if_neg e] at a b
   exact h.at a b
theorem YV:∀(l:List Value) (k off:Nat) (arr:Array Value),(l.zipIdx k).foldl (λcs (p:Value×Nat)=>cs.setIfInBounds (off+p.2) p.1) arr=(fZ arr.toList (off+k) l).toArray
 |[],_,_,_=>by simp[fZ]
 |v::l,k,off,arr=>by
  simp only[List.zipIdx_cons,List.foldl_cons]
  rw[YV l (k+1) off _]
  simp[fZ,Nat.add_assoc]
theorem YP{pl:Nat->Option (Nat×Nat)}:∀{a:List (Nat×SV C.τ.S)}{xs:List (Nat×Value)}{cells c:List (SV C.τ.S)}{vs:List Value},Ej C.τ M ρ a xs->aZ C.τ M ρ cells vs->EW C pl cells a=some c->∃b,Instr.fill pl vs.toArray xs=some b.toArray/\aZ C.τ M ρ c b
 |_,_,_,_,vs,.nil,h,e=>by simp[EW] at e;subst e;exact⟨vs,rfl,h⟩
 |_,_,cells,_,vs,.cons (i:=i) (v:=v) (x:=x) (us:=us) h1 h2 h3,h,e=>by
  unfold EW at e
  split at e
  ·cases e
  ·rename_i d l
   split at e
   ·rename_i g
    split at e
    ·rename_i f
     have g:v.cs.length=d.2:=Nat.eq_of_beq_eq_true g
     have f:d.1+d.2<=cells.length:=Nat.le_of_ble_eq_true f
     obtain⟨b,j,k⟩:=YP h3 (Uo (C:=C) d.1 h2 h) e
     refine⟨b,?_,k⟩
     obtain⟨off,size⟩:=d
     simp only[Instr.fill,l]
     rw[if_neg]
     ·rw[h1]
      have:=YV us 0 off vs.toArray
      simp only[Array.zipIdx_toArray,List.foldl_toArray] at this |-
      simp at this |-
      rw[this]
      exact j
     ·rw[h1]
      simp[h2.len,g,h.len]
      exact f
    ·cases e
   ·cases e
theorem aiO(d:Rd C s G p M ρ H w a O):∀{xs:List (Nat×Operand)}{vs:List (Nat×SV C.τ.S)},Jy C s p xs=some vs->Ej C.τ M ρ vs (xs.map λq=>(q.1,a.eval q.2))
 |[],vs,h=>by simp[Jy] at h;subst h;exact .nil
 |x::r,vs,h=>by
  unfold Jy at h
  split at h
  ·rename_i v j
   split at h
   ·rename_i h1
    split at h
    ·rename_i us e
     cases h
     have b:=d.gets j
     have:∃us,(a.eval x.2).cells=us.toArray/\aZ C.τ M ρ v.cs us:=by
      generalize a.eval x.2=ax at b
      cases b with
      |v b=>
       refine⟨[ax],?_,?_⟩
       ·have:=b.one
        cases ax<;>first|rfl|cases this
       ·have:v.cs=[v]:=by cases b<;>rfl
        rw[this]
        exact .cons b .nil
      |c b=>exact⟨_,rfl,b⟩
      |t _ _=>cases h1
      |g _ _ _=>cases h1
      |u=>cases h1
     obtain⟨k,f,i⟩:=this
     exact .cons f i (aiO d e)
    ·cases h
   ·cases h
  ·cases h
theorem ati{t:TypeId}{a:List (Nat×SV C.τ.S)}{xs:List (Nat×Value)}{cs:List (SV C.τ.S)}(hp:Ej C.τ M ρ a xs)(h:WW C t a=some cs):∃vs,C.P.built t xs=some vs.toArray/\aZ C.τ M ρ cs vs:=by
 unfold WW at h;unfold Program.built;split at h
 ·rename_i j e h1 h2;split at h
  ·rename_i z k f g;split at h;·rename_i d i;simp only[h1,h2,f,g];have:=YP hp (uq (M:=M) (ρ:=ρ) i) h;simpa using this
   ·cases h
  ·cases h
 ·rename_i j b h1 h2;split at h
  ·rename_i z c f g;split at h;·rename_i d i;simp only[h1,h2,f,g];have:=YP hp (uq (M:=M) (ρ:=ρ) i) h;simpa using this
   ·cases h
  ·cases h
 ·cases h
theorem avP{t:TypeId}{b:List (Nat×Operand)}(h:Yt C s p t b K=some y):∃v,K v=some y/\Ev C s G p (.build t b.toArray) v:=by
 unfold Yt at h;split at h
 ·rename_i vs f;split at h;·rename_i r d;refine⟨_,h,λM ρ H w a O e=>?_⟩;obtain⟨us,h1,h2⟩:=ati (aiO e f) d;refine⟨_,.c h2,λw' _ dst ty pos aM g=>?_⟩;show (Instr.build t (b.toArray.map λ(i,x)=>(i,a.eval x)) >>= λv=>pure (Next.value v)).run C.P w'=_;exact bQ (run_build w' t _ _ (by simpa using h1))
  ·cases h
 ·cases h
end
end Go.R
namespace Go.R
open Go.RowKit Go.Dc
abbrev SS(C:Cf)(n:Nat)(κ:Ctx C.τ)(ρ0:List Loc)(G:List (Nat×Bool))(s:Sg C.τ.S)(M:Mem)(w:World)(a:Act):Prop:=St C.τ n κ ρ0 G s.nx (s.T++s.B) s.Th s.Bh M w a
def Sg.put{S:Nat->Type}(s:Sg S)(d:Nat)(v:SV S):Sg S:=⟨s.B,(0,d,v)::s.T,s.Bh,s.Th,s.nx⟩
section
variable {β:Type}{C:Cf}{s s':Sg C.τ.S}{G p:List (Nat×Bool)}{g:Option Bool}{M:Mem}{ρ ρ' ρ0:List Loc}{H R:Heap C.τ.S}{w w':World}{a:Act}{O O1 O2:List Nat}{y:β}{n nx:Nat}{κ:Ctx C.τ}{Γ:Env C.τ.S}{Q:Exit->Act->World->Prop}
theorem aof{S:Nat->Type}{m:Nat}{x:SO S}{A B:Heap S}(h:(match bq A m with|some x=>some x|none=>bq B m)=some x):(m,x)∈A++B:=by
 split at h;·rename_i z a;cases h;exact List.mem_append_left _ (pz a)
 ·exact List.mem_append_right _ (pz h)
theorem Rd.of(c:RE C.τ M ρ G (s.Th++s.Bh) w a (s.T++s.B))(h1:RH C.τ M ρ w s.Th O1)(h2:RH C.τ M ρ w s.Bh O2)(hs:Sat M w)(hp:p≠[]->dM G p=some true):Rd C s G p M ρ (s.Th++s.Bh) w a (O1++O2):=⟨c,λm x b=>⟨aof b,(h1.app h2).look (aof b)⟩,hs,hp⟩
theorem SA.put{a:Act}{d:Option Nat}{u:Value}(h:SA n a):SA n (a.put d u):=by cases d with|none=>exact h|some d=>exact⟨by simp[Act.put,h.size],by simp[Act.put,h.zS]⟩
theorem RE.put{τ:Tb}{H:Heap τ.S}{Γ:Env τ.S}{d:Nat}{v:SV τ.S}{x:Value}(h:RE τ M ρ G H w a Γ)(f:SA n a)(i:d<n)(j:RG τ M ρ G v x):RE τ M ρ G H w (a.put (some d) x) ((0,d,v)::Γ):=by
 have hs:d<a.tmps.size:=by rw[f.size];exact i
 refine⟨h.gm,λt u b=>?_,λm o u b T k g ho=>?_⟩
 ·rcases kN b with ⟨_,rfl,rfl⟩|⟨c,b⟩;·exact⟨x,by simp[Act.put,hs],j⟩
  ·obtain⟨z,h1,h2⟩:=h.tm t u b;have c:d≠t:=λe=>c (by rw[e]);exact⟨z,by simpa [Act.put,Array.getElem?_setIfInBounds_ne c] using h1,h2⟩
 ·rcases kN b with ⟨e,_⟩|⟨_,b⟩;·cases e
  ·exact h.cl m o u b T k g ho
theorem SS.put{d:Nat}{v:SV C.τ.S}{x:Value}(h0:SA n a)(g:Names ρ0 ρ)(f:ρ.length=s.nx)(e:RE C.τ M ρ G (s.Th++s.Bh) w a (s.T++s.B))(h1:RH C.τ M ρ w s.Th O1)(h2:RH C.τ M ρ w s.Bh O2)(b:SM κ M w O1 O2)(c:d<n)(h:RG C.τ M ρ G v x):SS C n κ ρ0 G (s.put d v) M w (a.put (some d) x):=⟨h0.put,ρ,O1,O2,g,f,e.put h0 c h,h1,h2,b⟩
theorem Sat.kE(h:Sat M w){b j:Nat}(a:w.heap.size<=b):M b j=none:=by cases e:M b j with|none=>rfl|some v=>have:=h _ _ _ e;simp[World.cell?,Array.getElem?_eq_none a] at this
theorem SM.lt(h:SM κ M w O1 O2){b:Nat}(a:b∈O1++O2):b<w.heap.size:=by
 rcases List.mem_append.1 a with a|a;·exact (h.own b a).1
 ·exact h.red b a
theorem Qf(w:World)(x:Go.Obj):(w.alloc x).heap.size=w.heap.size+1:=by show (w.heap.push _).size=_;simp
theorem heap_alloc_new(w:World)(x:Go.Obj):(w.alloc x).heap[w.heap.size]?=some x:=by show (w.heap.push _)[w.heap.size]?=_;simp
theorem SM.alloc(h:SM κ M w O1 O2)(x:Go.Obj):SM κ M (w.alloc x) (w.heap.size::O1) O2/\Ext (O1++O2) M M w (w.alloc x):=by
 have c:∀k,k<w.heap.size->(w.alloc x).heap[k]?=w.heap[k]?:=λk c=>Below.heap_alloc w x k c;have f:=Qf w x;refine⟨⟨h.tab,h.frame.trans (F1:=[]) ⟨rfl,rfl,rfl,om,λk h1 _=>c k h1⟩ (λ_ h=>by cases h),λb j v e=>?_,h.le,h.new,?_,λb a=>?_,λb a=>by have:=h.red b a;omega⟩,⟨Mem.le.rfl,λb a=>c b (h.lt a),λ_ _=>rfl⟩⟩
 ·have:=h.sat b j v e
  have a:b<w.heap.size:=by
   rcases Nat.lt_or_ge b w.heap.size with h1|h1;·exact h1
   ·rw[h.sat.kE h1] at e;cases e
  simpa [World.cell?,c b a] using this
 ·rw[List.cons_append,List.nodup_cons];exact⟨λd=>by have:=h.lt d;omega,h.nodup⟩
 ·rcases List.mem_cons.1 a with rfl|a;·exact⟨om,.inr h.frame.size⟩
  ·exact⟨by have:=(h.own b a).1;omega,(h.own b a).2⟩
theorem fF{l:Loc}:Names ρ (ρ++[l]):=λm x h=>by
 have:=(List.getElem?_eq_some_iff.1 h).1
 rw[List.getElem?_append_left this];exact h
theorem Names.trans{a b c:List Loc}(h:Names a b)(d:Names b c):Names a c:=λm l e=>d m l (h m l e)
theorem Names.rfl{ρ:List Loc}:Names ρ ρ:=λ_ _ h=>h
def cellsE{S:Nat->Type}(m:Nat):Nat->List (SV S)->Env S|_,[]=>[]|o,v::r=>(m+1,o,v)::cellsE m (o+1) r
theorem Sz{S:Nat->Type}{m:Nat}{Γ:Env S}:∀{cs:List (SV S)}{o:Nat}{a b:Nat}{v:SV S},lk (cellsE m o cs++Γ) a b=some v->(a=m+1/\o<=b/\b<o+cs.length/\cs[b-o]?=some v)\/(¬(a=m+1/\o<=b/\b<o+cs.length)/\lk Γ a b=some v)
 |[],o,a,b,v,h=> .inr ⟨λ⟨_,h1,h2⟩=>by simp at h2;omega,h⟩
 |c::cs,o,a,b,v,h=>by
  rcases kN h with ⟨rfl,rfl,rfl⟩|⟨d,h⟩
  ·exact .inl ⟨rfl,Nat.le_refl _,sm,sm⟩
  ·rcases Sz h with ⟨e,h1,h2,i⟩|⟨h1,h2⟩
   ·refine .inl ⟨e,om,by simp;omega,?_⟩
    rw[show b-o=(b-(o+1))+1 by omega]
    simpa using i
   ·refine .inr ⟨λ⟨f,j,g⟩=>?_,h2⟩
    by_cases e:b=o
    ·exact d (by rw[f,e])
    ·exact h1 ⟨f,om,by simp at g;omega⟩
theorem Gb{S:Nat->Type}{m:Nat}{Γ:Env S}{t:Nat}:∀{cs:List (SV S)}{o:Nat},lk (cellsE m o cs++Γ) 0 t=lk Γ 0 t
 |[],_=>rfl
 |c::cs,o=>by
  show lk ((m+1,o,c)::(cellsE m (o+1) cs++Γ)) 0 t=_
  rw[bX sm]
  exact Gb
def Sg.dY{S:Nat->Type}(s:Sg S)(T:TypeId)(cs:List (SV S)):Sg S:=⟨s.B,cellsE s.nx 0 cs++s.T,s.Bh,(s.nx,.bx T cs.length)::s.Th,s.nx+1⟩
theorem aoW{T:TypeId}{cs:List (SV C.τ.S)}{vs:List Value}(h0:SA n a)(N:Names ρ0 ρ)(q:ρ.length=s.nx)(F:RE C.τ M ρ G (s.Th++s.Bh) w a (s.T++s.B))(h1:RH C.τ M ρ w s.Th O1)(h2:RH C.τ M ρ w s.Bh O2)(E:SM κ M w O1 O2)(H:aZ C.τ M ρ cs vs):∃c z,Names ρ0 c/\c.length=(s.dY T cs).nx/\RE C.τ M c G ((s.dY T cs).Th++s.Bh) (w.alloc (.cells vs.toArray T)) a ((s.dY T cs).T++s.B)/\RH C.τ M c (w.alloc (.cells vs.toArray T)) (s.dY T cs).Th z/\RH C.τ M c (w.alloc (.cells vs.toArray T)) s.Bh O2/\SM κ M (w.alloc (.cells vs.toArray T)) z O2/\c[s.nx]?=some ⟨w.heap.size,0,0,false,[]⟩:=by
 obtain⟨K,p⟩:=E.alloc (.cells vs.toArray T);let l:Loc:=⟨w.heap.size,0,0,false,[]⟩;have f:Names ρ (ρ++[l]):=fF;have d:(ρ++[l])[s.nx]?=some l:=by rw[<-q];simp
 have h:=F.ext f (h1.app h2) p;refine⟨ρ++[l],w.heap.size::O1,N.trans f,by simp[q,Sg.dY],⟨F.gm,λt v i=>?_,λm o v i y k g ho=>?_⟩,?_,h2.ext f (p.sub λb g=>List.mem_append_right _ g),K,d⟩;·rw[show (s.dY T cs).T++s.B=cellsE s.nx 0 cs++(s.T++s.B) by simp[Sg.dY],Gb] at i;exact h.tm t v i
 ·rw[show (s.dY T cs).T++s.B=cellsE s.nx 0 cs++(s.T++s.B) by simp[Sg.dY]] at i;have P:∀{k},(m,.bx y k)∈s.Th++s.Bh->m<s.nx:=λ{k} g=>by obtain⟨Q,r,_⟩:=(h1.app h2).look g;cases r with|bx I _ _ _=>rw[<-q];exact (List.getElem?_eq_some_iff.1 I).1
  rcases Sz i with ⟨e,A,D,J⟩|⟨A,D⟩
  ·have e:m=s.nx:=by omega
   subst e;obtain⟨x,O,u⟩:=H.get J;refine⟨l,x,d,?_,.inr (u.mono .rfl f)⟩;have L:=heap_alloc_new w (.cells vs.toArray T);exact KT (l:=vs) L (by simpa using O)
  ·rw[show (s.dY T cs).Th++s.Bh=(s.nx,.bx T cs.length)::(s.Th++s.Bh) by simp[Sg.dY]] at g;rcases List.mem_cons.1 g with e|g;·cases e;exact absurd ⟨_root_.rfl,Nat.zero_le _,om⟩ A
   ·exact h.cl m o v D y k g ho
 ·refine .cons (o:=[w.heap.size]) (.bx (l:=l) d (heap_alloc_new w _) (by simp[H.len]) λj=>E.sat.kE (Nat.le_refl _)) (h1.ext f (p.sub λb g=>List.mem_append_left _ g))
theorem ap1{P:Program}{b T:Nat}:∀(vs:List Value) (i:Nat) (o:Nat) (l:List Value) (w:World),w.heap[b]?=some (.cells l.toArray T (0,0))->o+i+vs.length<=l.length->(∀v∈vs,v.oneCell'=true)->∃w',(storeCells ⟨b,o,none⟩ vs i).run P w= .ok () w'/\Frame [b] w w'/\w'.heap.size=w.heap.size/\w'.heap[b]?=some (.cells (fZ l (o+i) vs).toArray T (0,0))/\∀k,k≠b->w'.heap[k]?=w.heap[k]?
 |[],i,o,l,w,h,_,_=>⟨w,rfl,Frame.refl _ _,rfl,h,λ_ _=>rfl⟩
 |v::vs,i,o,l,w,h,q,h1=>by
  simp only[List.length_cons] at q
  have m:w.cell? ⟨b,o+i,none⟩=some (l[o+i]'om):=KT h sm
  have a:Addr.add ⟨b,o,none⟩ i=⟨b,o+i,none⟩:=by
   by_cases h0:i=0
   ·simp[Addr.add,h0]
   ·simp[Addr.add,h0]
  have e:w.frozen? ⟨b,o+i,none⟩=false:=by
   have j:w.heap[b]?=some (.cells l.toArray T (0,0)):=h
   simp[World.frozen?,j]
  have x:=h1 v List.mem_cons_self
  obtain⟨w',s,n,g,ho,p⟩:=ap1 vs (i+1) o (l.set (o+i) v) (w.setCell ⟨b,o+i,none⟩ v) (axz h) (by simp;omega) (λu t=>h1 u (List.mem_cons_of_mem _ t))
  have d:Frame [b] w (w.setCell ⟨b,o+i,none⟩ v):=⟨rfl,rfl,rfl,by simp[World.setCell],λk _ r=>Below.heap_setCell _ _ _ _ (by simpa using r)⟩
  refine⟨w',?_,d.trans n (λ_ h=> .inl h),g.trans (by simp[World.setCell]),by rw[show o+(i+1)=o+i+1 by omega] at ho;exact ho,λk c=>(p k c).trans (Below.heap_setCell _ _ _ _ c)⟩
  have f:(store (Addr.add ⟨b,o,none⟩ i) v).run P w= .ok () (w.setCell ⟨b,o+i,none⟩ v):=by
   rw[a]
   cases v<;>first
    |(simp[Value.oneCell'] at x;done)
    |(simp only[store,Sem.run,m,e];rfl)
  show (store _ _ >>= λ_=>storeCells ⟨b,o,none⟩ vs (i+1)).run P w=_
  rw[run_bind_ok f]
  exact s
theorem adX{P:Program}{b T o t m:Nat}{vs l:List Value}{v:Value}{w:World}(n:v.cells=vs.toArray)(a:vs.length=m)(g:w.heap[b]?=some (.cells l.toArray T (0,0)))(p:o+m<=l.length)(h1:∀v∈vs,v.oneCell'=true)(j:P.cellsOf t=m)(d:(P.info? t).isSome=true):∃w',(Instr.storeAt t (.pointer (some ⟨b,o,none⟩)) v).run P w= .ok () w'/\Frame [b] w w'/\w'.heap.size=w.heap.size/\w'.heap[b]?=some (.cells (fZ l o vs).toArray T (0,0))/\∀k,k≠b->w'.heap[k]?=w.heap[k]?:=by
 cases e:P.info? t with
 |none=>rw[e] at d;cases d
 |some i=>
  have f:i.size=m:=by simpa [Program.cellsOf,e] using j
  obtain⟨w',h,h2⟩:=ap1 (P:=P) vs 0 o l w g om h1;refine⟨w',?_,h2⟩;show (storeVar t ⟨b,o,none⟩ v).run P w=_;unfold storeVar;rw[run_bind_ok (Dn e w),n];have c:¬(vs.toArray.size≠i.size):=by simp[a,f]
  simp only[c,if_false];exact h
theorem SM.change{b:Nat}(h:SM κ M w (b::O1) O2)(l:∀j v,M b j=some v->w'.cell? ⟨b,j,none⟩=some v)(d:Frame [b] w w')(i:∀k,k≠b->w'.heap[k]?=w.heap[k]?):SM κ M w' (b::O1) O2/\Ext (O1++O2) M M w w':=by
 have m:=h.own b sm;have f:∀c∈O1++O2,c≠b:=λc a e=>(List.nodup_cons.1 h.nodup).1 (e▸a);refine⟨⟨h.tab,h.frame.trans d λc a=>?_,λc j v e=>?_,h.le,h.new,h.nodup,λc a=>⟨Nat.lt_of_lt_of_le (h.own c a).1 d.size,(h.own c a).2⟩,λc a=>Nat.lt_of_lt_of_le (h.red c a) d.size⟩,⟨Mem.le.rfl,λc a=>i c (f c a),λ_ _=>rfl⟩⟩;·simp at a;subst a;exact m.2
 ·by_cases g:c=b;·subst g;exact l j v e
  ·have:=h.sat c j v e;simpa [World.cell?,i c g] using this
end
end Go.R
