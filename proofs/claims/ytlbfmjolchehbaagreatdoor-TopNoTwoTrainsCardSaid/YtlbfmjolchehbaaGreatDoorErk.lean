/- Several parts of the engine, one behind the other. -/
import Derived.Test.YtlbfmjolchehbaaGreatDoorErj
set_option linter.all false
namespace Go.R
open Go.RowKit Go.Dc
structure LC(S:Nat->Type) where
 k:Nat
 na:Nat
 sk:Env S
 hp:Heap S
 its:List aY
 bK:List aY
 outs:List Cd
 sP:aK S (its.map (·.sh.cd))->Option (aK S outs×aK S (bK.map (·.sh.cd)))
section
variable {S:Nat->Type}
def Bz(g:Nat->Option Nat)(p v:SV S):Bool:=match p,v with
 | .r j o,.r m b=>match g j with|some a=>Nat.beq a m&&Nat.beq o b|none=>false
 | .o j,.o m=>match g j with|some a=>Nat.beq a m|none=>false
 |_,_=>false
def all2(f:SV S->SV S->Bool):List (SV S)->List (SV S)->Bool|[],[]=>true|x::xs,y::ys=>f x y&&all2 f xs ys|_,_=>false
def BA(g:Nat->Option Nat):Nat->SV S->SV S->Bool
 |0=>Bz g
 |n+1=>λp v=>match p,v with
  | .f h xs,.f a ys=>Nat.beq h a&&all2 (BA g n) xs ys
  |p,v=>Bz g p v
def wu(g:Nat->Option Nat)(p v:SV S):Bool:=BA g 3 p v
def asU:SV S->SV S->List (Nat×Nat)| .r j _,.r m _=>[(j,m)]| .o j,.o m=>[(j,m)]| .f _ xs,.f _ ys=>NR xs ys|_,_=>[]
where NR:List (SV S)->List (SV S)->List (Nat×Nat)
 | .r j _::xs,.r m _::ys=>(j,m)::NR xs ys
 | .o j::xs,.o m::ys=>(j,m)::NR xs ys
 |_::xs,_::ys=>NR xs ys
 |_,_=>[]
def WQ:List (Nat×Nat)->Nat->Option Nat|[],_=>none|q::r,j=>match Nat.beq q.1 j with|true=>some q.2|false=>WQ r j
def NQ(s:Sg S):Env S->List (Nat×Nat)->List (Nat×Nat)
 |[],l=>l
 |q::r,l=>match (match q.1 with|0=>some 0|m+1=>(match WQ l m with|some b=>some (b+1)|none=>none)) with
  |some a=>match s.lk a q.2.1 with
   |some v=>NQ s r (l++asU q.2.2 v)
   |none=>NQ s r l
  |none=>NQ s r l
def KI(l:List (Nat×Nat)):Nat->Nat->Option (List Nat)
 |_,0=>some []
 |i,n+1=>match WQ l i with
  |some m=>match KI l (i+1) n with|some r=>some (m::r)|none=>none
  |none=>none
def rk(μ:List Nat):Nat->Option Nat|0=>some 0|m+1=>match μ[m]? with|some a=>some (a+1)|none=>none
def Ur(μ:List Nat)(s:Sg S):Env S->Bool
 |[]=>true
 |q::r=>match rk μ q.1 with
  |some a=>match s.lk a q.2.1 with
   |some v=>wu (λj=>μ[j]?) q.2.2 v&&Ur μ s r
   |none=>false
  |none=>false
def Lx(s:Sg S):Env S->Bool
 |[]=>true
 |q::r=>match q.1 with
  |0=>Lx s r
  |m+1=>match s.lk (m+1) q.2.1 with
   |some v=>wu some q.2.2 v&&Lx s r
   |none=>false
def lC(μ:List Nat)(j:Nat):Nat:=match μ[j]? with|some m=>m|none=>0
def iT(μ:List Nat)(i:aY):aY:=⟨match i.a with|0=>0|m+1=>lC μ m+1,i.b,lC μ i.m,i.sh⟩
def gU(μ:List Nat):List aY->List aY|[]=>[]|i::r=>iT μ i::gU μ r
def JO(μ:List Nat):(its:List aY)->HL S (gU μ its)->HL S its|[],_=>()|_::r,x=>(x.1,JO μ r x.2)
def Fy(μ:List Nat):(its:List aY)->HL S its->HL S (gU μ its)|[],_=>()|_::r,x=>(x.1,Fy μ r x.2)
def oL(μ:List Nat):Heap S->Heap S|[]=>[]|q::r=>(lC μ q.1,q.2)::oL μ r
def NG(n:Nat):List Nat->Bool|[]=>true|m::r=>Nat.blt m n&&NG n r
def Ov(hp:Heap S)(a b:Nat):Bool:=match a with|0=>true|m+1=>match bq hp m with|some (.bx _ k)=>Nat.blt b k|_=>false
def LZ(k:Nat)(hp:Heap S):List aY->Bool|[]=>true|i::r=>Ov hp i.a i.b&&(!fA i.sh||Nat.blt i.m k)&&LZ k hp r
def UZ(hp:Heap S):Env S->Bool|[]=>true|q::r=>Ov hp q.1 q.2.1&&UZ hp r
def P8(a b:Nat):Env S->Bool|[]=>false|q::r=>match Nat.beq q.1 a,Nat.beq q.2.1 b with|true,true=>true|_,_=>P8 a b r
def OC(sk:Env S)(its:List aY)(m:Nat):Nat->Bool|0=>true|o+1=>(dX (m+1) o its||P8 (m+1) o sk)&&OC sk its m o
def OB(k:Nat)(sk:Env S)(its:List aY):Heap S->Bool|[]=>true|q::r=>(match q.2 with| .bx _ n=>OC sk its q.1 n|_=>false)&&Nat.blt q.1 k&&OB k sk its r
def SY:List aY->Bool|[]=>true|i::r=>(fA i.sh|| !Nat.beq i.a 0)&&SY r
def SH:List aY->Bool|[]=>true|i::r=>(fA i.sh|| !dX i.a i.b r)&&SH r
def zn(bK:List aY)(i:aY):Bool:= !Nat.beq i.a 0&& !fA i.sh&& !dX i.a i.b bK
def tJ:Sh->Bool| .v _=>true|_=>false
def vC(bK:List aY):List aY->Bool|[]=>true|i::r=>(!zn bK i||tJ i.sh)&&vC bK r
def LC.wf(c:LC S):Bool:=SH c.its&&vC c.bK c.its&&LZ c.k c.hp c.its&&UZ c.hp c.sk&&OB c.k c.sk (c.its++c.bK) c.hp&&LZ c.k c.hp c.bK&&SY c.bK
def OG(bK:List aY)(T:Env S):List aY->Bool|[]=>true|i::r=>(!zn bK i||(match lk T i.a i.b with|none=>true|some _=>false))&&OG bK T r
def plV:SV S->Bool| .i _ _| .b _| .st _| .l _ _| .y _=>true|_=>false
def OH(s:Sg S)(μ:List Nat)(i:aY):Bool:=match s.lk (iT μ i).a i.b with|some v=>plV v|none=>false
def vT(Γ:Env S):Nat->Nat->List (SV S)|_,0=>[]|i,n+1=>(match lk Γ 0 i with|some v=>v|none=> .u)::vT Γ (i+1) n
end
def nD(τ:Tb)(bK:List aY)(s:Sg τ.S)(μ:List Nat):(its:List aY)->HL τ.S (gU μ its)->Env τ.S
 |[],_=>[]
 |i::r,x=>match zn bK i&& !OH s μ i with
  |true=>((iT μ i).a,i.b,E τ i.sh.cd x.1)::nD τ bK s μ r x.2
  |false=>nD τ bK s μ r x.2
section
variable (C:Cf)(c:LC C.τ.S)
def LC.env(p:aK C.τ.S (c.its.map (·.sh.cd))):Env C.τ.S:=dI C.τ c.its (bD C.τ.S c.its p) c.k c.sk
def LC.st(p:aK C.τ.S (c.its.map (·.sh.cd))):Sg C.τ.S:=⟨bG (c.env C p),[],[],fG C.τ c.its (bD C.τ.S c.its p) c.k c.hp,lQ c.its c.k⟩
def LC.out(us:List (SV C.τ.S))(s:Sg C.τ.S):Option (aK C.τ.S c.outs×aK C.τ.S (c.bK.map (·.sh.cd))):=match DS C.τ c.outs (us.map (gG s)) with
 |some r=>match Lx s c.sk&&OG c.bK s.T c.its with
  |true=>match decs C.τ s c.bK s.Th with
   |some σ=>match takeB c.hp σ.2 with
    |some _=>some (r,pR C.τ.S c.bK σ.1)
    |none=>none
   |none=>none
  |false=>none
 |none=>none
noncomputable def lnv(wr:Bool)(T:FuncId->Option (aN C.τ.S))(I:FuncId->Option (aL C.τ.S))(sp:Nat->Option (List Item))(f:FuncId)(p:aK C.τ.S (c.its.map (·.sh.cd))):Option (aK C.τ.S c.outs×aK C.τ.S (c.bK.map (·.sh.cd))):=DY C wr T I sp f (vT (c.env C p) 0 c.na) (c.st C p) λus s=>c.out C us s
noncomputable def LC.go2{β:Type}(μ:List Nat)(vs:List (SV C.τ.S))(s0 s:Sg C.τ.S)(K:SV C.τ.S->Sg C.τ.S->Option β):Option β:=
 match Nat.beq vs.length c.na,NG s.nx μ,Ur μ s0 c.sk with
 |true,true,true=>match decs C.τ s0 (gU μ c.its) s.Th with
  |some σ=>match takeB (oL μ c.hp) σ.2 with
   |some R=>(c.sP (pR C.τ.S c.its (JO μ c.its σ.1))).bind λy=>(K (gV (ES C.τ c.outs y.1)) ⟨s.B,dI C.τ (gU μ c.bK) (Fy μ c.bK (bD C.τ.S c.bK y.2)) s.nx (sO (gU μ c.bK)++(nD C.τ c.bK s0 μ c.its σ.1++s.T)),s.Bh,fG C.τ (gU μ c.bK) (Fy μ c.bK (bD C.τ.S c.bK y.2)) s.nx (oL μ c.hp++R),lQ (gU μ c.bK) s.nx⟩:Option β)
   |none=>none
  |none=>none
 |_,_,_=>none
def rU(μ:List Nat)(s0:Sg C.τ.S):List aY->Sg C.τ.S->Sg C.τ.S
 |[],t=>t
 |i::r,t=>match i.sh with
  | .v (.list _)=>match s0.lk (iT μ i).a i.b with
   |some (.o m)=>rU μ s0 r (t.kg m)
   |_=>rU μ s0 r t
  |_=>rU μ s0 r t
noncomputable def LC.go{β:Type}(vs:List (SV C.τ.S))(s0 s:Sg C.τ.S)(K:SV C.τ.S->Sg C.τ.S->Option β):Option β:=
 match KI (NQ s0 c.sk []) 0 c.k with
 |some a=>c.go2 C a vs ⟨bG (s.T++s.B),dx 0 vs,s.Bh,(rU C a s0 c.its s).Th,s.nx⟩ ⟨s.B,s.T,s.Bh,(rU C a s0 c.its s).Th,s.nx⟩ K
 |none=>none
noncomputable def LC.inl:aL C.τ.S:=⟨λvs s K=>c.go C vs ⟨bG (s.T++s.B),dx 0 vs,s.Bh,s.Th,s.nx⟩ s K,false⟩
end
def SKR(τ:Tb)(M:Mem)(ρ:List Loc)(w:World)(a:Act)(sk:Env τ.S):Prop:=∀q b v,(q,b,v)∈sk->∃x,Dh ρ w a q b x/\RV τ M ρ v x
def SKC(τ:Tb)(M:Mem)(ρ:List Loc)(w:World)(sk:Env τ.S):Prop:=∀m b v,(m+1,b,v)∈sk->∃l x,ρ[m]?=some l/\w.cell? ⟨l.b,b,none⟩=some x/\RV τ M ρ v x
def DC(τ:Tb)(M:Mem)(ρ:List Loc)(w:World)(bK:List aY):(its:List aY)->HL τ.S its->Prop|[],_=>True|i::r,x=>(zn bK i=true->∃m l z,i.a=m+1/\ρ[m]?=some l/\w.cell? ⟨l.b,i.b,none⟩=some z/\RV τ M [] (E τ i.sh.cd x.1) z)/\DC τ M ρ w bK r x.2
def LS(P:Program)(τ:Tb)(f:FuncId)(c:LC τ.S):Prop:=∀p y,c.sP p=some y->∀(w:World) (M:Mem) (ρ:List Loc) (xs:List Value) (Os a:List Nat),xs.length=c.na->ρ.length=c.k->GM τ M->SM (⟨w,Os++a,M⟩:Ctx τ) M w (Os++a) []->SKR τ M ρ w ⟨xs.toArray,[]⟩ c.sk->DR τ M ρ w ⟨xs.toArray,[]⟩ c.its (bD τ.S c.its p) Os->RH τ M ρ w c.hp a->Calls P f xs.toArray w (λe w'=>∃x M' b,e= .returned x/\RG τ M' [] [] (gV (ES τ c.outs y.1)) x/\GM τ M'/\SM (⟨w,Os++a,M⟩:Ctx τ) M' w' (b++a) []/\SKC τ M' ρ w' c.sk/\DC τ M' ρ w' c.bK c.its (bD τ.S c.its p)/\DR τ M' ρ w' ⟨#[],[]⟩ c.bK (bD τ.S c.bK y.2) b/\RH τ M' ρ w' c.hp a)
section
variable {β:Type}{C:Cf}{T:FuncId->Option (aN C.τ.S)}{I:FuncId->Option (aL C.τ.S)}{s s':Sg C.τ.S}{M M' M0:Mem}{ρ ρ' ρ0 ρe:List Loc}{H H' R:Heap C.τ.S}{w w' w0:World}{a a' a0:Act}{O O' O1 O2 bN gB Os Ob:List Nat}{y:β}{n nx:Nat}{κ:Ctx C.τ}{wr:Bool}{sp:Nat->Option (List Item)}{f:FuncId}{μ:List Nat}
theorem acE{S:Nat->Type}{q b:Nat}{v:SV S}:∀{Γ:Env S},lk Γ q b=some v->(q,b,v)∈Γ
 |[],h=>by cases h
 |(q',a,u)::r,h=>by
  rcases kN h with ⟨rfl,rfl,rfl⟩|⟨_,h⟩
  ·exact List.mem_cons_self
  ·exact List.mem_cons_of_mem _ (acE h)
theorem afH{S:Nat->Type}{Γ:Env S}:∀{n i:Nat},(vT Γ i n).length=n|0,_=>rfl|n+1,i=>by simp[vT,afH (n:=n)]
theorem afG{S:Nat->Type}{Γ:Env S}:∀{n i j:Nat}{v:SV S},(vT Γ i n)[j]?=some v->v= .u\/lk Γ 0 (i+j)=some v
 |0,i,j,v,h=>by simp[vT] at h
 |n+1,i,0,v,h=>by
  simp only[vT,List.getElem?_cons_zero,Option.some.injEq] at h
  cases e:lk Γ 0 i with
  |none=>rw[e] at h;exact .inl h.symm
  |some u=>
   rw[e] at h
   have h:u=v:=h
   subst h
   exact .inr rfl
 |n+1,i,j+1,v,h=>by
  have:=afG (n:=n) (i:=i+1) (j:=j) (v:=v) (by simpa [vT] using h)
  rwa [show i+(j+1)=i+1+j by omega]
theorem ahv{S:Nat->Type}{hp:Heap S}{q b:Nat}(h:Ov hp q b=true):∀a,q=a+1->∃T k,(a,SO.bx T k)∈hp/\b<k:=by
 intro a e;subst e;simp only[Ov] at h;split at h;·rename_i T k c;exact⟨T,k,pz c,by simpa [Nat.blt_eq] using h⟩
 ·cases h
theorem L6{S:Nat->Type}{k:Nat}{hp:Heap S}:∀{its:List aY},LZ k hp its=true->∀i∈its,(∀d,i.a=d+1->∃T n,(d,SO.bx T n)∈hp/\i.b<n)/\(fA i.sh=true->i.m<k)
 |[],_,i,c=>by cases c
 |j::r,h,i,c=>by
  simp only[LZ,Bool.and_eq_true] at h
  rcases List.mem_cons.1 c with rfl|c
  ·refine⟨ahv h.1.1,λe=>?_⟩
   have:=h.1.2
   rw[e] at this
   simpa [Nat.blt_eq] using this
  ·exact L6 h.2 i c
theorem aeQ{S:Nat->Type}{hp:Heap S}:∀{sk:Env S},UZ hp sk=true->∀q b v,(q,b,v)∈sk->∀c,q=c+1->∃T n,(c,SO.bx T n)∈hp/\b<n
 |[],_,q,b,v,a=>by cases a
 |j::r,h,q,b,v,a=>by
  simp only[UZ,Bool.and_eq_true] at h
  rcases List.mem_cons.1 a with rfl|a
  ·exact ahv h.1
  ·exact aeQ h.2 q b v a
theorem ai7{S:Nat->Type}{q b:Nat}:∀{sk:Env S},P8 q b sk=true->∃v,(q,b,v)∈sk
 |[],h=>by cases h
 |j::r,h=>by
  unfold P8 at h
  split at h
  ·rename_i a c
   have a:=Nat.eq_of_beq_eq_true a
   have c:=Nat.eq_of_beq_eq_true c
   obtain⟨f,g,e⟩:=j
   simp only at a c
   subst a c
   exact⟨e,List.mem_cons_self⟩
  ·obtain⟨v,d⟩:=ai7 h
   exact⟨v,List.mem_cons_of_mem _ d⟩
theorem ahF{S:Nat->Type}{sk:Env S}{its:List aY}{m:Nat}:∀{n o:Nat},OC sk its m n=true->o<n->dX (m+1) o its=true\/∃v,(m+1,o,v)∈sk
 |0,o,_,h=>by omega
 |n+1,o,a,h=>by
  simp only[OC,Bool.and_eq_true,Bool.or_eq_true] at a
  by_cases e:o=n
  ·subst e
   rcases a.1 with h1|h1
   ·exact .inl h1
   ·exact .inr (ai7 h1)
  ·exact ahF a.2 om
theorem XK{S:Nat->Type}{k:Nat}{sk:Env S}{its:List aY}:∀{hp:Heap S},OB k sk its hp=true->∀q∈hp,q.1<k/\∃T n,q.2= .bx T n/\∀o,o<n->dX (q.1+1) o its=true\/∃v,(q.1+1,o,v)∈sk
 |[],_,q,a=>by cases a
 |x::r,h,q,a=>by
  simp only[OB,Bool.and_eq_true] at h
  rcases List.mem_cons.1 a with rfl|a
  ·refine⟨by simpa [Nat.blt_eq] using h.1.2,?_⟩
   have h1:=h.1.1
   split at h1
   ·rename_i T n e
    exact⟨T,n,e,λo ho=>ahF h1 ho⟩
   ·cases h1
  ·exact XK h.2 q a
theorem WU{S:Nat->Type}:∀{H:Heap S},(∀q∈H,∃T n,q.2= .bx T n)->boxes H=H
 |[],_=>rfl
 |q::r,h=>by
  obtain⟨T,n,e⟩:=h q List.mem_cons_self
  unfold boxes
  rw[e]
  simp only[FC]
  rw[WU λx a=>h x (List.mem_cons_of_mem _ a)]
theorem ao0:∀{its:List aY},SY its=true->∀i∈its,fA i.sh=true\/i.a≠0
 |[],_,i,h=>by cases h
 |j::r,hw,i,h=>by
  simp only[SY,Bool.and_eq_true,Bool.or_eq_true,Bool.not_eq_true'] at hw
  rcases List.mem_cons.1 h with rfl|h
  ·rcases hw.1 with h1|h1
   ·exact .inl h1
   ·exact .inr λe=>by rw[e] at h1;cases h1
  ·exact ao0 hw.2 i h
theorem ail{τ:Tb}{g:Nat->Option Nat}(c:∀j m l,g j=some m->ρ[m]?=some l->ρ'[j]?=some l){p v:SV τ.S}{x:Value}(h:Bz g p v=true)(d:RV τ M ρ v x):RV τ M ρ' p x:=by
 unfold Bz at h;split at h
 ·split at h;·rename_i i b;simp only[Bool.and_eq_true] at h;have a:=Nat.eq_of_beq_eq_true h.1;have f:=Nat.eq_of_beq_eq_true h.2;subst a f;cases d with|r e=>exact .r (c _ _ _ b e)
  ·cases h
 ·split at h;·rename_i i b;have a:=Nat.eq_of_beq_eq_true h;subst a;cases d with|o e=>exact .o (c _ _ _ b e)
  ·cases h
 ·cases h
theorem afC{τ:Tb}{f:SV τ.S->SV τ.S->Bool}(a:∀p v x,f p v=true->RV τ M ρ v x->RV τ M' ρ' p x):∀{ps vs:List (SV τ.S)}{xs:List Value},all2 f ps vs=true->aZ τ M ρ vs xs->aZ τ M' ρ' ps xs
 |[],[],_,_,.nil=> .nil
 |p::ps,v::vs,_,h,.cons h1 h2=>by
  simp only[all2,Bool.and_eq_true] at h
  exact .cons (a p v _ h.1 h1) (afC a h.2 h2)
 |[],_::_,_,h,_=>by simp[all2] at h
 |_::_,[],_,h,_=>by simp[all2] at h
theorem aio{τ:Tb}{g:Nat->Option Nat}(c:∀j m l,g j=some m->ρ[m]?=some l->ρ'[j]?=some l):∀(n:Nat) (p v:SV τ.S) (x:Value),BA g n p v=true->RV τ M ρ v x->RV τ M ρ' p x
 |0,p,v,x,h,a=>ail c h a
 |n+1,p,v,x,h,a=>by
  unfold BA at h
  split at h
  ·simp only[Bool.and_eq_true] at h
   have b:=Nat.eq_of_beq_eq_true h.1
   subst b
   cases a with
   |f b d=>
    have h2:=afC (aio c n) h.2 (aZ.of b d)
    exact .f h2.len λi u z e k=>h2.at e k
  ·exact ail c h a
theorem Ym{τ:Tb}{g:Nat->Option Nat}(a:∀j m l,g j=some m->ρ[m]?=some l->ρ'[j]?=some l){p v:SV τ.S}{x:Value}(h:wu g p v=true)(b:RV τ M ρ v x):RV τ M ρ' p x:=aio a 3 p v x h b
theorem aik{τ:Tb}{g:Nat->Option Nat}(c:∀j m l,g j=some m->ρ'[j]?=some l->ρ[m]?=some l){p v:SV τ.S}{x:Value}(h:Bz g p v=true)(d:RV τ M ρ' p x):RV τ M ρ v x:=by
 unfold Bz at h;split at h
 ·split at h;·rename_i i b;simp only[Bool.and_eq_true] at h;have a:=Nat.eq_of_beq_eq_true h.1;have f:=Nat.eq_of_beq_eq_true h.2;subst a f;cases d with|r e=>exact .r (c _ _ _ b e)
  ·cases h
 ·split at h;·rename_i i b;have a:=Nat.eq_of_beq_eq_true h;subst a;cases d with|o e=>exact .o (c _ _ _ b e)
  ·cases h
 ·cases h
theorem afB{τ:Tb}{f:SV τ.S->SV τ.S->Bool}(a:∀p v x,f p v=true->RV τ M' ρ' p x->RV τ M ρ v x):∀{ps vs:List (SV τ.S)}{xs:List Value},all2 f ps vs=true->aZ τ M' ρ' ps xs->aZ τ M ρ vs xs
 |[],[],_,_,.nil=> .nil
 |p::ps,v::vs,_,h,.cons h1 h2=>by
  simp only[all2,Bool.and_eq_true] at h
  exact .cons (a p v _ h.1 h1) (afB a h.2 h2)
 |[],_::_,_,h,_=>by simp[all2] at h
 |_::_,[],_,h,_=>by simp[all2] at h
theorem ain{τ:Tb}{g:Nat->Option Nat}(c:∀j m l,g j=some m->ρ'[j]?=some l->ρ[m]?=some l):∀(n:Nat) (p v:SV τ.S) (x:Value),BA g n p v=true->RV τ M ρ' p x->RV τ M ρ v x
 |0,p,v,x,h,a=>aik c h a
 |n+1,p,v,x,h,a=>by
  unfold BA at h
  split at h
  ·simp only[Bool.and_eq_true] at h
   have b:=Nat.eq_of_beq_eq_true h.1
   subst b
   cases a with
   |f b d=>
    have h2:=afB (ain c n) h.2 (aZ.of b d)
    exact .f h2.len λi u z e k=>h2.at e k
  ·exact aik c h a
theorem avI{τ:Tb}{g:Nat->Option Nat}(a:∀j m l,g j=some m->ρ'[j]?=some l->ρ[m]?=some l){p v:SV τ.S}{x:Value}(h:wu g p v=true)(b:RV τ M ρ' p x):RV τ M ρ v x:=ain a 3 p v x h b
theorem Yn{S:Nat->Type}{g:Nat->Option Nat}{p v:SV S}(h:wu g p v=true):(∃m o,v= .r m o)\/(∃m,v= .o m)\/∃k ys,v= .f k ys:=by
 unfold wu BA at h;split at h;·exact .inr (.inr ⟨_,_,rfl⟩)
 ·unfold Bz at h;split at h;·exact .inl ⟨_,_,rfl⟩
  ·exact .inr (.inl ⟨_,rfl⟩)
  ·cases h
theorem avJ{τ:Tb}{g:Nat->Option Nat}{p v:SV τ.S}{x:Value}(h:wu g p v=true)(a:RG τ M ρ [] v x):RV τ M ρ v x:=by rcases Yn h with ⟨_,_,rfl⟩|⟨_,rfl⟩|⟨_,_,rfl⟩<;>cases a<;>assumption
theorem aEc{sk:Env C.τ.S}(h:Lx s sk=true):∀m b v,(m+1,b,v)∈sk->∃u,s.lk (m+1) b=some u/\wu some v u=true:=by
 induction sk with
 |nil=>intro m b v a;cases a
 |cons q r c=>
  intro m b v a;unfold Lx at h;rcases List.mem_cons.1 a with e|a
  ·subst e;simp only at h;split at h;·rename_i u d;simp only[Bool.and_eq_true] at h;exact⟨u,d,h.1⟩
   ·cases h
  ·split at h;·exact c h m b v a
   ·split at h;·simp only[Bool.and_eq_true] at h;exact c h.2 m b v a
    ·cases h
theorem aqb{sk:Env C.τ.S}(h:Ur μ s sk=true):∀q b v,(q,b,v)∈sk->∃a u,rk μ q=some a/\s.lk a b=some u/\wu (λj=>μ[j]?) v u=true:=by
 induction sk with
 |nil=>intro m b v c;cases c
 |cons q r g=>
  intro m b v c;unfold Ur at h;split at h
  ·rename_i a d;split at h
   ·rename_i u f;simp only[Bool.and_eq_true] at h;rcases List.mem_cons.1 c with e|c;·subst e;exact⟨a,u,d,f,h.1⟩
    ·exact g h.2 m b v c
   ·cases h
  ·cases h
def Am(τ:Tb)(Γ:Env τ.S):(its:List aY)->HL τ.S its->Prop|[],_=>True|i::r,x=>(tJ i.sh=true->lk Γ i.a i.b=some (E τ i.sh.cd x.1))/\Am τ Γ r x.2
theorem ai4{q b:Nat}:∀{its:List aY},dX q b its=false->∀i∈its,fA i.sh=false->¬(i.a=q/\i.b=b)
 |[],_,i,c,_=>by cases c
 |j::r,h,i,c,d=>by
  rcases List.mem_cons.1 c with rfl|c
  ·rintro⟨rfl,rfl⟩
   rw[Zw d] at h;cases h
  ·refine ai4 ?_ i c d
   cases e:dX q b r with
   |false=>rfl
   |true=>
    unfold dX at h
    split at h
    ·cases h
    ·rw[e] at h;cases h
theorem Am.cons{Γ:Env C.τ.S}{q b:Nat}{v:SV C.τ.S}:∀{its:List aY}{σ:HL C.τ.S its},Am C.τ Γ its σ->(∀i∈its,fA i.sh=false->¬(i.a=q/\i.b=b))->Am C.τ ((q,b,v)::Γ) its σ
 |[],_,_,_=>trivial
 |i::r,σ,h,d=>by
  refine⟨λhs=>?_,h.2.cons λj f=>d j (List.mem_cons_of_mem _ f)⟩
  have g:fA i.sh=false:=by
   cases e:i.sh with
   |v c=>rfl
   |_=>rw[e] at hs;cases hs
  rw[bX (λe=>d i List.mem_cons_self g ⟨(Prod.mk.inj e).1,(Prod.mk.inj e).2⟩)]
  exact h.1 hs
theorem Jk{Γ:Env C.τ.S}:∀{its:List aY}{σ:HL C.τ.S its}{nx:Nat},SH its=true->Am C.τ (dI C.τ its σ nx Γ) its σ
 |[],_,_,_=>trivial
 |i::r,σ,nx,h=>by
  simp only[SH,Bool.and_eq_true] at h
  obtain⟨f,j,l,d⟩:=i
  have b:fA d=false->∀(v:SV C.τ.S) (nx:Nat),Am C.τ ((f,j,v)::dI C.τ r σ.2 nx Γ) r σ.2:=λe v nx=>(Jk h.2).cons (ai4 (by
   have:=h.1
   simp only at this
   rw[e] at this
   simpa using this))
  cases d with
  |v c=>exact⟨λ_=>jf,b rfl _ _⟩
  |o c=>exact⟨λa=>absurd a (by simp[tJ]),b rfl _ _⟩
  |n c=>exact⟨λa=>absurd a (by simp[tJ]),b rfl _ _⟩
  |g c jj=>exact⟨λa=>absurd a (by simp[tJ]),b rfl _ _⟩
  |k c=>exact⟨λa=>absurd a (by simp[tJ]),Jk (its:=r) h.2⟩
  |w c jj=>exact⟨λa=>absurd a (by simp[tJ]),Jk (its:=r) h.2⟩
  |s c=>exact⟨λa=>absurd a (by simp[tJ]),Jk (its:=r) h.2⟩
theorem RV.ac7{c:Cd}{x:c.ty C.τ.S}{z:Value}(h:RV C.τ M ρ (E C.τ c x) z):RV C.τ M ρ' (E C.τ c x) z:=by have:=RG.plain (ρ':=ρ') (G:=[]) (RG.v h);generalize e:E C.τ c x=v at this h;cases this with|v h=>exact h|c _=>cases h
theorem ah5{hp:Heap C.τ.S}{Γ:Env C.τ.S}{bK:List aY}(g:RE C.τ M' ρ' [] H w' a (s.T++s.B))(y:Names ρ ρ')(A:∀m T n,(m,SO.bx T n)∈hp->(∃l,ρ[m]?=some l)/\(m,SO.bx T n)∈H)(x:∀m b,lk s.B (m+1) b=lk Γ (m+1) b):∀{its:List aY}{σ:HL C.τ.S its},vC bK its=true->OG bK s.T its=true->Am C.τ Γ its σ->(∀i∈its,∀D,i.a=D+1->∃T n,(D,SO.bx T n)∈hp/\i.b<n)->DC C.τ M' ρ w' bK its σ
 |[],_,_,_,_,_=>trivial
 |i::r,σ,p,k,w,hw=>by
  simp only[vC,OG,Bool.and_eq_true] at p k
  refine⟨λf=>?_,ah5 g y A x p.2 k.2 w.2 λj L=>hw j (List.mem_cons_of_mem _ L)⟩
  have hs:tJ i.sh=true:=by have:=p.1;rw[f] at this;simpa using this
  have o:lk s.T i.a i.b=none:=by
   have:=k.1
   rw[f] at this
   simp only[Bool.not_true,Bool.false_or] at this
   split at this
   ·assumption
   ·cases this
  have K:i.a≠0:=λe=>by
   unfold zn at f
   rw[e] at f
   simp at f
  obtain⟨m,h⟩:∃m,i.a=m+1:=Nat.exists_eq_succ_of_ne_zero K
  obtain⟨T,n,F,G⟩:=hw i List.mem_cons_self m h
  obtain⟨⟨l0,t⟩,I⟩:=A m T n F
  have M:=w.1 hs
  obtain⟨l,z,u,J,d⟩:=g.cl m i.b (E C.τ i.sh.cd σ.1) (by
   have o:lk s.T (m+1) i.b=none:=by rw[<-h];exact o
   rw[kP o,x,<-h]
   exact M) T n I G
  rw[y _ _ t] at u;cases u
  refine⟨m,_,z,h,t,J,?_⟩
  rcases d with d|d
  ·exfalso
   obtain⟨N,O,P,q⟩:=i
   cases q with
   |v c=>cases c<;>cases d
   |_=>cases hs
  ·exact d.ac7
theorem aom{c:LC C.τ.S}(hT:∀f Y,T f=some Y->FZ C.P C.τ f Y)(hI:∀f i,I f=some i->aF C f i)(hw:c.wf=true)(h:∀p,lnv C c wr T I sp f p=c.sP p):LS C.P C.τ f c:=by
 intro p y hy w M ρ xs Os Ob az N ab aw L ap W;rw[<-h] at hy;simp only[LC.wf,Bool.and_eq_true] at hw;obtain⟨⟨⟨⟨⟨⟨wD,wV⟩,wI⟩,wS⟩,wH⟩,wO⟩,wN⟩:=hw;have BU:=L6 wO;have JR:=L6 wI;have ax:=aeQ wS;have Qc:=XK wH;have Qa:boxes c.hp=c.hp:=WU λq hq=>let ⟨_,T,n,e,_⟩:=Qc q hq;⟨T,n,e⟩
 have aq:RE C.τ M ρ [] c.hp w ⟨xs.toArray,[]⟩ c.sk:=⟨ab,λt v hl=>by
  obtain⟨x,h1,h2⟩:=L 0 t v (acE hl);exact⟨x,h1,.v h2⟩,λm o v hl T k hb ho=>by
  obtain⟨x,⟨l,h1,h2⟩,h3⟩:=L (m+1) o v (acE hl);exact⟨l,x,h1,h2,.inr h3⟩⟩
 obtain⟨O,z1,z2,z3,z4⟩:=uw (Hb:=c.hp) ap Names.rfl N aq
 have ao:CS C ⟨w,Os++Ob,M⟩ O (c.st C p) M w O:=by
  refine⟨Names.rfl,z2,ab,λm o v V T k hb ho=>?_,Os++Ob,[],?_,.nil,aw⟩;·have V:lk ([]++bG (c.env C p)) (m+1) o=some v:=V;rw[List.nil_append,kD] at V;have hb:(m,SO.bx T k)∈fG C.τ c.its (bD C.τ.S c.its p) c.k c.hp++[]:=hb;rw[List.append_nil] at hb;exact z3.cl m o v V T k hb ho
  ·show RH _ _ _ _ (fG C.τ c.its (bD C.τ.S c.its p) c.k c.hp) _;rw[kL];exact z4.app (W.names z1)
 have G:AB C.τ M O (vT (c.env C p) 0 c.na) xs:=⟨by rw[afH];exact az,λi v x h1 h2=>by
  rcases afG h1 with rfl|h1;·exact .u
  ·rw[Nat.zero_add] at h1;obtain⟨x',F,g2⟩:=z3.tm i v h1;have F:xs.toArray[i]?=some x':=F;rw[List.getElem?_toArray,h2] at F;cases F;exact g2⟩
 unfold lnv at hy;refine (UY hT hI hy ao G).mono ?_;rintro e w' ⟨x,us,s',M',E,rfl,A,d,a1,a,hx⟩;obtain⟨O1,O2,F,g2,g3⟩:=a.mem;have ko:s'.Bh=[]:=d.Bh;have hN:Names ρ E:=z1.trans a.names;unfold LC.out at A;split at A
 ·rename_i r hr;split at A
  ·rename_i D;simp only[Bool.and_eq_true] at D;obtain⟨D,an⟩:=D;split at A
   ·rename_i σ ag;split at A
    ·rename_i R hR;cases A;obtain⟨σ,H2⟩:=σ;have g:=LG hR;have af:=OT ag
     have K:RE C.τ M' E [] (s'.Th++s'.Bh) w' ⟨#[],[]⟩ (s'.T++s'.B):=⟨a.gm,λt v V=>(by
      have:=d.tm t;have h2:lk ((c.st C p).T++(c.st C p).B) 0 t=none:=by show lk ([]++bG _) 0 t=none;rw[List.nil_append,nQ]
      rw[Sg.bS,Sg.bS,V,h2] at this;cases this),a.cl⟩
     have ae:=fQ (s:=s') K F g2 g3;have H:∀q∈c.hp,q∈s'.Th:=λq hq=>af q (g.mem_iff.2 (List.mem_append_left _ (by rw[Qa];exact hq)));obtain⟨Az,Or,d1,d2,d3⟩:=OQ ae ag F λi J m' e=>by obtain⟨T,k,Q,X⟩:=(BU i J).1 m' e;exact⟨T,k,List.mem_append_left _ (H _ Q),X⟩
     obtain⟨aE,d4,d5⟩:=d2.perm g;obtain⟨ny,Og,d6,d7,rfl⟩:=d4.split;rw[Qa] at d6;obtain⟨i3,rfl⟩:=RH.qO hN W d6;have hd:=d1.back hN λi J=>⟨λm' e=>by obtain⟨T,k,k1,_⟩:=(BU i J).1 m' e;obtain⟨o,ho,_⟩:=W.look k1;obtain⟨l,e,_⟩:=ho.ren;exact⟨l,e⟩,λhk=>⟨ρ[i.m]'(by rw[N];exact (BU i J).2 hk),by simp[N,(BU i J).2 hk]⟩⟩;rw[ko] at g2;cases g2;refine⟨x,M',Az,rfl,TP ae hr hx,a.gm,?_,λm b v U=>?_,?_,?_,i3⟩;·refine (g3.perm (d3.trans (d5.append_left Az))).GD ?_;rw[<-List.append_assoc];exact List.sublist_append_left _ _
     ·obtain⟨u,hu,aa⟩:=aEc D m b v U;obtain⟨T,n,Q,X⟩:=ax _ b v U m rfl;obtain⟨l,z,e1,e2,Z⟩:=K.cl m b u (by rw[<-Sg.bS];exact hu) T n (List.mem_append_left _ (H _ Q)) X
      have Z:RV C.τ M' E u z:=by
       rcases Z with rfl|Z;·rcases Yn aa with ⟨_,_,e⟩|⟨_,e⟩|⟨_,_,e⟩<;>cases e
       ·exact Z
      have e4:RV C.τ M' E v z:=Ym (λj m l hj hl=>by cases hj;exact hl) aa Z;obtain⟨x0,_,k2⟩:=L (m+1) b v U;obtain⟨o,ho,_⟩:=W.look Q;obtain⟨l0,e0,_⟩:=ho.ren;rw[hN _ _ e0] at e1;cases e1;exact⟨_,z,e0,e2,k2.back hN e4⟩
     ·refine ah5 (s:=s') (hp:=c.hp) K hN (λm T n U=>?_) (Γ:=c.env C p) (λm b=>?_) wV an (Jk wD) λi J m' e=>?_;·obtain⟨o,ho,_⟩:=W.look U;obtain⟨l0,e0,_⟩:=ho.ren;exact⟨⟨l0,e0⟩,List.mem_append_left _ (H _ U)⟩
      ·rw[show s'.B=bG (c.env C p) from d.B,kD]
      ·obtain⟨T,n,Q,X⟩:=(JR i J).1 m' e;exact⟨T,n,Q,X⟩
     ·rw[xW];exact hd
    ·cases A
   ·cases A
  ·cases A
 ·cases A
theorem aot{l:List (Nat×Nat)}:∀{n i:Nat}{a:List Nat},KI l i n=some a->a.length=n
 |0,i,a,h=>by simp only[KI,Option.some.injEq] at h;subst h;rfl
 |n+1,i,a,h=>by
  unfold KI at h
  split at h
  ·split at h
   ·rename_i r b
    cases h
    simp[aot b]
   ·cases h
  ·cases h
theorem afD{n:Nat}:∀{b:List Nat},NG n b=true->∀m∈b,m<n
 |[],_,m,a=>by cases a
 |x::r,h,m,a=>by
  simp only[NG,Bool.and_eq_true] at h
  rcases List.mem_cons.1 a with rfl|a
  ·simpa [Nat.blt_eq] using h.1
  ·exact afD h.2 m a
theorem lY{j m:Nat}(h:μ[j]?=some m):lC μ j=m:=by unfold lC;rw[h]
theorem adF:∀{its:List aY}{i:aY},i∈gU μ its->∃j∈its,i=iT μ j
 |[],i,h=>by cases h
 |x::r,i,h=>by
  rcases List.mem_cons.1 h with rfl|h
  ·exact⟨x,List.mem_cons_self,rfl⟩
  ·obtain⟨j,h1,h2⟩:=adF h
   exact⟨j,List.mem_cons_of_mem _ h1,h2⟩
theorem akC{S:Nat->Type}:∀{hp:Heap S}{q:Nat×SO S},q∈hp->(lC μ q.1,q.2)∈oL μ hp
 |x::r,q,h=>by
  rcases List.mem_cons.1 h with rfl|h
  ·exact List.mem_cons_self
  ·exact List.mem_cons_of_mem _ (akC h)
theorem aai{S:Nat->Type}:∀{hp:Heap S}{q:Nat×SO S},q∈oL μ hp->∃j,j∈hp/\q=(lC μ j.1,j.2)
 |[],q,h=>by cases h
 |x::r,q,h=>by
  rcases List.mem_cons.1 h with rfl|h
  ·exact⟨x,List.mem_cons_self,rfl⟩
  ·obtain⟨j,h1,h2⟩:=aai h
   exact⟨j,List.mem_cons_of_mem _ h1,h2⟩
theorem ai5{m o:Nat}:∀{its:List aY},dX (m+1) o its=true->dX (lC μ m+1) o (gU μ its)=true
 |[],h=>by cases h
 |i::r,h=>by
  by_cases e:fA i.sh=false/\i.a=m+1/\i.b=o
  ·obtain⟨d,f,g⟩:=e
   have:=Zw (i:=iT μ i) (r:=gU μ r) d
   have j:(iT μ i).a=lC μ m+1:=by simp[iT,f]
   have k:(iT μ i).b=o:=g
   rw[j,k] at this
   exact this
  ·rw[P7 (by
    cases n:fA i.sh with
    |true=>exact .inl rfl
    |false=>
     by_cases c:i.a=m+1
     ·exact .inr (.inr λl=>e ⟨n,c,l⟩)
     ·exact .inr (.inl c))] at h
   have:=ai5 h
   unfold gU dX
   split
   ·rfl
   ·exact this
theorem DR.Lg{τ:Tb}(p:∀(j m:Nat) l,μ[j]?=some m->ρ[m]?=some l->ρ0[j]?=some l):∀{its:List aY}{σ:HL τ.S (gU μ its)}{Os:List Nat},DR τ M ρ w a (gU μ its) σ Os->(∀i∈its,(∀y,i.a=y+1->∃m,μ[y]?=some m)/\(fA i.sh=true->∃m,μ[i.m]?=some m))->DR τ M ρ0 w a its (JO μ its σ) Os
 |[],_,_,.nil,_=> .nil
 |i::r,_,_,.cons (x:=x) h1 h2 h3,hv=>by
  have u:=hv i List.mem_cons_self
  refine DR.cons (x:=x) (λB=>?_) ?_ (h3.Lg p λj A=>hv j (List.mem_cons_of_mem _ A))
  ·have h1:=h1 B
   obtain⟨q,z,t,f⟩:=i
   cases q with
   |zero=>exact h1
   |succ y=>
    obtain⟨m,d⟩:=u.1 y rfl
    obtain⟨l,b,e⟩:=h1
    rw[lY d] at b
    exact⟨l,p _ _ _ d b,e⟩
  ·obtain⟨q,z,t,f⟩:=i
   have C:(iT μ ⟨q,z,t,f⟩).a≠0↔q≠0:=by cases q<;>simp[iT]
   cases f with
   |v c=>exact⟨h2.1,λh=>h2.2.1 (C.2 h),h2.2.2⟩
   |o c=>exact h2
   |n c=>exact h2
   |g c jj=>exact h2
   |k c=>
    obtain⟨m,d⟩:=u.2 rfl
    obtain⟨l,b,e⟩:=h2
    have b:ρ[lC μ t]?=some l:=b
    rw[lY d] at b
    exact⟨l,p _ _ _ d b,e⟩
   |s c=>
    obtain⟨m,d⟩:=u.2 rfl
    obtain⟨l,b,e⟩:=h2
    have b:ρ[lC μ t]?=some l:=b
    rw[lY d] at b
    exact⟨l,p _ _ _ d b,e⟩
   |w c jj=>
    obtain⟨m,d⟩:=u.2 rfl
    obtain⟨l,lh,b,e⟩:=h2
    have b:ρ[lC μ t]?=some l:=b
    rw[lY d] at b
    exact⟨l,lh,p _ _ _ d b,e⟩
theorem DR.Lh{τ:Tb}(p:∀(j m:Nat) l,μ[j]?=some m->ρ0[j]?=some l->ρ[m]?=some l):∀{its:List aY}{σ:HL τ.S its}{Os:List Nat},DR τ M ρ0 w a its σ Os->(∀i∈its,(∀u,i.a=u+1->∃m,μ[u]?=some m)/\(fA i.sh=true->∃m,μ[i.m]?=some m))->DR τ M ρ w a (gU μ its) (Fy μ its σ) Os
 |[],_,_,.nil,_=> .nil
 |i::r,_,_,.cons (x:=x) h1 h2 h3,hv=>by
  have y:=hv i List.mem_cons_self
  refine DR.cons (i:=iT μ i) (x:=x) (λB=>?_) ?_ (h3.Lh p λj A=>hv j (List.mem_cons_of_mem _ A))
  ·have h1:=h1 B
   obtain⟨q,z,t,f⟩:=i
   cases q with
   |zero=>exact h1
   |succ u=>
    obtain⟨m,b⟩:=y.1 u rfl
    obtain⟨l,d,e⟩:=h1
    refine⟨l,?_,e⟩
    show ρ[lC μ u]?=some l
    rw[lY b]
    exact p _ _ _ b d
  ·obtain⟨q,z,t,f⟩:=i
   have C:(iT μ ⟨q,z,t,f⟩).a≠0↔q≠0:=by cases q<;>simp[iT]
   cases f with
   |v c=>exact⟨h2.1,λh=>h2.2.1 (C.1 h),h2.2.2⟩
   |o c=>exact h2
   |n c=>exact h2
   |g c jj=>exact h2
   |k c=>
    obtain⟨m,b⟩:=y.2 rfl
    obtain⟨l,d,e⟩:=h2
    refine⟨l,?_,e⟩
    show ρ[lC μ t]?=some l
    rw[lY b]
    exact p _ _ _ b d
   |s c=>
    obtain⟨m,b⟩:=y.2 rfl
    obtain⟨l,d,e⟩:=h2
    refine⟨l,?_,e⟩
    show ρ[lC μ t]?=some l
    rw[lY b]
    exact p _ _ _ b d
   |w c jj=>
    obtain⟨m,b⟩:=y.2 rfl
    obtain⟨l,lh,d,e⟩:=h2
    refine⟨l,lh,?_,e⟩
    show ρ[lC μ t]?=some l
    rw[lY b]
    exact p _ _ _ b d
theorem RH.Lg{τ:Tb}(b:∀(j m:Nat) l,μ[j]?=some m->ρ[m]?=some l->ρ0[j]?=some l):∀{hp:Heap τ.S}{O:List Nat},RH τ M ρ w (oL μ hp) O->(∀q∈hp,(∃m,μ[q.1]?=some m)/\∃T n,q.2= .bx T n)->RH τ M ρ0 w hp O
 |[],_,.nil,_=> .nil
 |(q,x)::r,_,.cons h1 h2,d=>by
  obtain⟨⟨m,a⟩,T,n,e⟩:=d _ List.mem_cons_self
  simp only at e a
  subst e
  refine .cons ?_ (h2.Lg b λq i=>d q (List.mem_cons_of_mem _ i))
  cases h1 with
  |bx c f g h=>
   rw[lY a] at c
   exact .bx (b _ _ _ a c) f g h
theorem RH.Lh{τ:Tb}(b:∀(j m:Nat) l,μ[j]?=some m->ρ0[j]?=some l->ρ[m]?=some l):∀{hp:Heap τ.S}{O:List Nat},RH τ M ρ0 w hp O->(∀q∈hp,(∃m,μ[q.1]?=some m)/\∃T n,q.2= .bx T n)->RH τ M ρ w (oL μ hp) O
 |[],_,.nil,_=> .nil
 |(q,x)::r,_,.cons h1 h2,c=>by
  obtain⟨⟨m,a⟩,T,n,e⟩:=c _ List.mem_cons_self
  simp only at e a
  subst e
  refine .cons ?_ (h2.Lh b λq i=>c q (List.mem_cons_of_mem _ i))
  cases h1 with
  |bx d f g h=>
   refine .bx ?_ f g h
   rw[lY a]
   exact b _ _ _ a d
theorem Jl{q b:Nat}{X Y:Env C.τ.S}(h:lk X q b=lk Y q b):∀{its:List aY}{σ:HL C.τ.S its}{nx:Nat},lk (dI C.τ its σ nx X) q b=lk (dI C.τ its σ nx Y) q b
 |[],_,_=>h
 |i::r,σ,nx=>by
  obtain⟨d,f,l,j⟩:=i
  have a:∀(v:SV C.τ.S) (nx:Nat),lk ((d,f,v)::dI C.τ r σ.2 nx X) q b=lk ((d,f,v)::dI C.τ r σ.2 nx Y) q b:=λv nx=>by
   by_cases e:(q,b)=(d,f)
   ·cases e;rw[jf,jf]
   ·rw[bX e,bX e];exact Jl (its:=r) h
  cases j with
  |v c=>exact a _ _
  |o c=>exact a _ _
  |n c=>exact a _ _
  |g c jj=>exact a _ _
  |k c=>exact Jl (its:=r) h
  |w c jj=>exact Jl (its:=r) h
  |s c=>exact Jl (its:=r) h
theorem wo{t:Nat}{X:Env C.τ.S}:∀{its:List aY}{σ:HL C.τ.S its}{nx:Nat},(∀i∈its,fA i.sh=true\/i.a≠0)->lk (dI C.τ its σ nx X) 0 t=lk X 0 t
 |[],_,_,_=>rfl
 |i::r,σ,nx,h=>by
  have d:=h i List.mem_cons_self
  have l:=λj q=>h j (List.mem_cons_of_mem _ q)
  obtain⟨m,x,y,f⟩:=i
  have b:fA f=false->∀(v:SV C.τ.S) (nx:Nat),lk ((m,x,v)::dI C.τ r σ.2 nx X) 0 t=lk X 0 t:=λu v nx=>by
   have p:m≠0:=by
    rcases d with d|d
    ·simp only at d;rw[u] at d;cases d
    ·exact d
   rw[bX (λe=>p (Prod.mk.inj e).1.symm)];exact wo (its:=r) l
  cases f with
  |v c=>exact b rfl _ _
  |o c=>exact b rfl _ _
  |n c=>exact b rfl _ _
  |g c jj=>exact b rfl _ _
  |k c=>exact wo (its:=r) l
  |w c jj=>exact wo (its:=r) l
  |s c=>exact wo (its:=r) l
def U7(τ:Tb)(s:Sg τ.S):(its:List aY)->HL τ.S its->Prop|[],_=>True|i::r,x=>(tJ i.sh=true->∃v,s.lk i.a i.b=some v/\D τ i.sh.cd (gG s v)=some x.1)/\U7 τ s r x.2
theorem ah6:∀{its:List aY}{H d:Heap C.τ.S}{σ:HL C.τ.S its},decs C.τ s its H=some (σ,d)->U7 C.τ s its σ
 |[],_,_,_,_=>trivial
 |i::r,H,d,σ,h=>by
  unfold decs at h
  split at h
  ·rename_i x a
   split at h
   ·rename_i z g
    obtain⟨m,n⟩:=x
    obtain⟨o,p⟩:=z
    cases h
    refine⟨λhs=>?_,ah6 g⟩
    obtain⟨j,k,l,b⟩:=i
    cases b with
    |v c=>
     simp only[qj] at a
     split at a
     ·rename_i v f
      split at a
      ·rename_i q e
       cases a
       exact⟨v,f,e⟩
      ·cases a
     ·cases a
    |_=>cases hs
   ·cases h
  ·cases h
theorem aDr{c:Cd}{v:SV C.τ.S}{x:c.ty C.τ.S}(h:plV v=true)(a:D C.τ c (gG s v)=some x):E C.τ c x=v:=by
 cases v with
 |i k p=>
  have a:D C.τ c (.i k p)=some x:=a
  cases c with
  |int j=>
   simp only[D,D1] at a;split at a
   ·rename_i e _;cases a;unfold Ca at*;rename_i f;split at f;·rename_i e;subst e;rfl
    ·cases f
   ·cases a
  |_=>simp[D,D1] at a
 |b p=>have a:D C.τ c (.b p)=some x:=a;cases c with|bool=>simp only[D,D1] at a;cases a;rfl|_=>simp[D,D1] at a
 |st p=>have a:D C.τ c (.st p)=some x:=a;cases c with|str=>simp only[D,D1] at a;cases a;rfl|_=>simp[D,D1] at a
 |l g xs=>
  have a:D C.τ c (.l g xs)=some x:=a
  cases c with
  |list d=>
   simp only[D,D1] at a;split at a;·rename_i e _;cases a;subst e;rfl
   ·cases a
  |_=>simp[D,D1] at a
 |y z=>have a:D C.τ c (.y z)=some x:=a;cases c with|any=>simp only[D,D1] at a;cases a;rfl|_=>simp[D,D1] at a
 |_=>cases h
theorem ahI{bK:List aY}{s0:Sg C.τ.S}{j o m:Nat}{v:SV C.τ.S}(k:μ[j]?=some m)(w:s0.lk (m+1) o=some v)(ho:dX (j+1) o bK=false):∀{its:List aY}{σ:HL C.τ.S (gU μ its)},dX (j+1) o its=true->vC bK its=true->lk (nD C.τ bK s0 μ its σ) (m+1) o=none->U7 C.τ s0 (gU μ its) σ->DC C.τ M' ρ0 w' bK its (JO μ its σ)->∃l z,ρ0[j]?=some l/\w'.cell? ⟨l.b,o,none⟩=some z/\RV C.τ M' ρ v z
 |[],_,h,_,_,_,_=>by cases h
 |i::r,σ,h,u,d,A,B=>by
  simp only[vC,Bool.and_eq_true] at u
  have t:lk (nD C.τ bK s0 μ r σ.2) (m+1) o=none:=by
   unfold nD at d
   split at d
   ·by_cases e:(m+1,o)=((iT μ i).a,i.b)
    ·obtain⟨p,f⟩:=Prod.mk.inj e
     rw[p,f,jf] at d;cases d
    ·rwa [bX e] at d
   ·exact d
  by_cases e:fA i.sh=false/\i.a=j+1/\i.b=o
  ·obtain⟨p,f,g⟩:=e
   have s:zn bK i=true:=by
    unfold zn
    rw[f,g,ho,p]
    rfl
   have hs:tJ i.sh=true:=by have:=u.1;rw[s] at this;simpa using this
   have q:(iT μ i).a=m+1:=by simp[iT,f,lY k]
   have hp:OH s0 μ i=true:=by
    cases J:OH s0 μ i with
    |true=>rfl
    |false=>
     unfold nD at d
     rw[s,J,q,g] at d
     have d:lk ((m+1,o,E C.τ i.sh.cd σ.1)::nD C.τ bK s0 μ r σ.2) (m+1) o=none:=d
     rw[jf] at d;cases d
   unfold OH at hp
   rw[q,g,w] at hp
   have hp:plV v=true:=hp
   obtain⟨N,l,z,y,F,G,H⟩:=B.1 s
   rw[f] at y
   cases y
   obtain⟨M,n,L⟩:=A.1 hs
   have n:s0.lk (iT μ i).a i.b=some M:=n
   rw[q,g,w] at n
   cases n
   refine⟨l,z,F,by rw[<-g];exact G,?_⟩
   have:=aDr (c:=i.sh.cd) (x:=σ.1) hp L
   rw[<-this]
   exact RV.ac7 H
  ·refine ahI k w ho (its:=r) ?_ u.2 t A.2 B.2
   rwa [P7 (by
    cases K:fA i.sh with
    |true=>exact .inl rfl
    |false=>
     by_cases D:i.a=j+1
     ·exact .inr (.inr λI=>e ⟨K,D,I⟩)
     ·exact .inr (.inl D))] at h
theorem XM{bK:List aY}{s0:Sg C.τ.S}{o m:Nat}{v:SV C.τ.S}(d:∀(j m:Nat) l,μ[j]?=some m->ρ0[j]?=some l->ρ[m]?=some l):∀{its:List aY}{σ:HL C.τ.S (gU μ its)},lk (nD C.τ bK s0 μ its σ) (m+1) o=some v->(∀i∈its,∀p,i.a=p+1->∃m,μ[p]?=some m)->DC C.τ M' ρ0 w' bK its (JO μ its σ)->∃l z,ρ[m]?=some l/\w'.cell? ⟨l.b,o,none⟩=some z/\RV C.τ M' ρ v z
 |[],_,h,_,_=>by cases h
 |i::r,σ,h,k,f=>by
  unfold nD at h
  split at h
  ·rename_i B
   obtain⟨A,_⟩:=gM B
   rcases kN h with ⟨e,s,t⟩|⟨_,h⟩
   ·obtain⟨D,l,z,n,w,x,y⟩:=f.1 A
    obtain⟨q,c⟩:=k i List.mem_cons_self D n
    have u:(iT μ i).a=q+1:=by simp[iT,n,lY c]
    rw[u] at e
    have e:m=q:=by omega
    subst e s t
    exact⟨l,z,d _ _ _ c w,x,RV.ac7 y⟩
   ·exact XM d h (λj g=>k j (List.mem_cons_of_mem _ g)) f.2
  ·exact XM d h (λj g=>k j (List.mem_cons_of_mem _ g)) f.2
theorem OI{bK:List aY}{s0:Sg C.τ.S}{t:Nat}:∀{its:List aY}{σ:HL C.τ.S (gU μ its)},lk (nD C.τ bK s0 μ its σ) 0 t=none
 |[],_=>rfl
 |i::r,σ=>by
  unfold nD
  split
  ·rename_i d
   obtain⟨b,_⟩:=gM d
   have:i.a≠0:=λe=>by
    unfold zn at b
    rw[e] at b
    simp at b
   have c:(iT μ i).a≠0:=by
    obtain⟨f,h,j,g⟩:=i
    cases f with
    |zero=>exact absurd rfl this
    |succ n=>simp[iT]
   rw[bX (λe=>c (Prod.mk.inj e).1.symm)]
   exact OI
  ·exact OI
theorem ai3{q b:Nat}:∀{x z:List aY},dX q b (x++z)=true->dX q b x=true\/dX q b z=true
 |[],_,h=> .inr h
 |i::r,z,h=>by
  have h:dX q b (i::(r++z))=true:=h
  unfold dX at h
  split at h
  ·rename_i a c d
   refine .inl ?_
   unfold dX
   rw[a,c,d]
  ·rename_i e
   rcases ai3 h with h|h
   ·refine .inl ?_
    unfold dX
    split
    ·rfl
    ·exact h
   ·exact .inr h
theorem LC.go_ok{c:LC C.τ.S}(hw:c.wf=true)(hL:LS C.P C.τ f c){vs:List (SV C.τ.S)}{K:SV C.τ.S->Sg C.τ.S->Option β}{xs:List Value}(aa:μ.length=c.k)(h:c.go2 C μ vs ⟨bG (s.T++s.B),dx 0 vs,s.Bh,s.Th,s.nx⟩ s K=some y)(J:CS C κ ρ s M w ρ)(an:AB C.τ M ρ vs xs):Calls C.P f xs.toArray w (λe w'=>∃x v s' M' a2,e= .returned x/\K v s'=some y/\Keep s s'/\M.le M'/\CS C κ ρ s' M' w' a2/\RG C.τ M' a2 [] v x):=by
 simp only[LC.wf,Bool.and_eq_true] at hw;obtain⟨⟨⟨⟨⟨⟨wD,wV⟩,wI⟩,wS⟩,wH⟩,wO⟩,wN⟩:=hw;have BU:=L6 wO;have JR:=L6 wI;have bh:=aeQ wS;have Qc:=XK wH;obtain⟨O1,O2,h1,h2,Y⟩:=J.mem;unfold LC.go2 at h
 ·split at h
  ·rename_i hn a8 aE;split at h
   ·rename_i σ ao;split at h
    ·rename_i R hR;obtain⟨z,hz,hK⟩:=bind_some h;obtain⟨σ,H2⟩:=σ;have hn:=Nat.eq_of_beq_eq_true hn
     have ag:RE C.τ M ρ [] (s.Th++s.Bh) w ⟨xs.toArray,[]⟩ (dx 0 vs++bG (s.T++s.B)):=⟨J.gm,λt v g=>(by
      rw[cu] at g;split at g
      ·rename_i u hu;cases g;obtain⟨_,g⟩:=CX hu;have U:=(List.getElem?_eq_some_iff.1 g).1;have ax:t<xs.length:=by rw[an.1];omega
       exact⟨xs[t],by simp[ax],an.2 t v _ (by simpa using g) (by simp[ax])⟩
      ·rw[nQ] at g;cases g),λm o v g T k d ho=>(by
      rw[kP uX,kD] at g;exact J.cl m o v g T k d ho)⟩
     have bb:=fQ (s:=⟨bG (s.T++s.B),dx 0 vs,s.Bh,s.Th,s.nx⟩) ag h1 h2 Y;generalize X:(μ.map λm=>ρ.getD m ⟨0,0,0,true,[]⟩)=ρ0;have L1:∀(j m:Nat) l,μ[j]?=some m->ρ[m]?=some l->ρ0[j]?=some l:=λj m l hj hl=>by rw[<-X,List.getElem?_map,hj];simp[hl]
     have L2:∀(j m:Nat) l,μ[j]?=some m->ρ0[j]?=some l->ρ[m]?=some l:=λj m l hj hl=>by
      rw[<-X,List.getElem?_map,hj] at hl;have hm:m<ρ.length:=by rw[J.len];exact afD a8 m (List.mem_of_getElem? hj)
      simp[hm] at hl;simp[hm,hl]
     have a1:ρ0.length=c.k:=by rw[<-X,List.length_map];exact aa
     have JU:∀j,j<c.k->∃m,μ[j]?=some m:=λj hj=>⟨μ[j]'om,by simp[aa,hj]⟩;have JE:∀q∈c.hp,(∃m,μ[q.1]?=some m)/\∃T n,q.2= .bx T n:=λq hq=>let ⟨A,T,n,L,_⟩:=Qc q hq;⟨JU _ A,T,n,L⟩;have Qa:boxes (oL μ c.hp)=oL μ c.hp:=WU λq hq=>by obtain⟨j,A,rfl⟩:=aai hq;obtain⟨_,T,n,e⟩:=JE j A;exact⟨T,n,e⟩
     have D:=LG hR;rw[Qa] at D;have ab:=OT ao;have aq:∀q∈c.hp,(lC μ q.1,q.2)∈s.Th:=λq hq=>ab _ (D.mem_iff.2 (List.mem_append_left _ (akC hq)));have az:∀i∈c.its,(∀H,i.a=H+1->∃m,μ[H]?=some m)/\(fA i.sh=true->∃m,μ[i.m]?=some m):=λi U=>⟨λH e=>by obtain⟨T,n,A,_⟩:=(JR i U).1 H e;exact (JE _ A).1,λhk=>JU _ ((JR i U).2 hk)⟩;obtain⟨Os,Or,d1,d2,d3⟩:=OQ bb ao h1 λi U H e=>by obtain⟨j,A,rfl⟩:=adF U;obtain⟨ja,jb,jm,bi⟩:=j;cases ja with|zero=>cases e|succ m0=>obtain⟨T,k,b1,b2⟩:=(JR _ A).1 m0 rfl;cases e;exact⟨T,k,List.mem_append_left _ (aq _ b1),b2⟩
     obtain⟨bm,d4,d5⟩:=d2.perm D;obtain⟨ny,Og,d6,d7,rfl⟩:=d4.split;have ap:O1.Perm (Os++ny++Og):=by rw[List.append_assoc];exact d3.trans (d5.append_left Os)
     have I:=Y.perm ap;have W:=I.nodup
     have a3:SKR C.τ M ρ0 w ⟨xs.toArray,[]⟩ c.sk:=by
      intro q b v hm;obtain⟨a,u,A,L,k3⟩:=aqb aE q b v hm;rw[Sg.bS] at L
      cases q with
      |zero=>cases A;obtain⟨x,N,Q⟩:=ag.tm b u L;exact⟨x,N,Ym L1 k3 (avJ k3 Q)⟩
      |succ m=>
       simp only[rk] at A;split at A
       ·rename_i H r;cases A;obtain⟨T,n,b1,b2⟩:=bh _ b v hm m rfl;have:=aq _ b1;simp only[lY r] at this;obtain⟨l,x,N,Q,O⟩:=ag.cl H b u L T n (List.mem_append_left _ this) b2
        have O:RV C.τ M ρ u x:=by
         rcases O with rfl|O;·rcases Yn k3 with ⟨_,_,e⟩|⟨_,e⟩|⟨_,_,e⟩<;>cases e
         ·exact O
        exact⟨x,⟨l,L1 _ _ _ r N,Q⟩,Ym L1 k3 O⟩
       ·cases A
     have wM:SM (⟨w,Os++ny,M⟩:Ctx C.τ) M w (Os++ny) []:=⟨I.tK λb d=>List.mem_append_left _ d,Frame.refl _ _,Y.sat,Mem.le.rfl,λb j v e=> .inl e,by rw[List.append_nil];exact (List.nodup_append.1 (List.nodup_append.1 W).1).1,λb d=>⟨(I.own b (List.mem_append_left _ d)).1,.inl d⟩,λb d=>by cases d⟩;refine (hL _ z hz w M ρ0 xs Os ny (by rw[an.1,hn]) a1 J.gm wM a3 (by rw[xW];exact d1.Lg L1 az) (d6.Lg L1 JE)).mono ?_;rintro e w' ⟨x,M',Az,rfl,i1,i2,G,i4,iC,i5,i6⟩;have hk:∀b,b<w.heap.size->b∉Os++ny->w'.heap[b]?=w.heap[b]?:=G.frame.block
     have Fj:∀b∈Og++O2,b<w.heap.size/\b∉Os++ny:=λb d=>⟨by
      rcases List.mem_append.1 d with d|d;·exact (I.own b (List.mem_append_right _ d)).1
      ·exact I.red b d,λE=>by
      rw[List.append_assoc] at W;exact (List.nodup_append.1 W).2.2 b E b d rfl⟩
     have V:Ext (Og++O2) M M' w w':=⟨G.le,λb d=>hk b (Fj b d).1 (Fj b d).2,λb d=>by
      funext j
      cases e:M' b j with
      |none=>cases e':M b j with|none=>rfl|some v=>rw[G.le b j v e'] at e;cases e
      |some v=>
       rcases G.new b j v e with e'|e'|e';·exact e'.symm
       ·exact absurd e' (Fj b d).2
       ·have:=(Fj b d).1;have:w.heap.size<=b:=e';omega⟩
     have Z:∀i∈c.bK,(∀H,i.a=H+1->∃m,μ[H]?=some m)/\(fA i.sh=true->∃m,μ[i.m]?=some m):=λi U=>⟨λH e=>by obtain⟨T,n,A,_⟩:=(BU i U).1 H e;exact (JE _ A).1,λhk=>JU _ ((BU i U).2 hk)⟩;have j5:=i5.Lh L2 Z;have j6:=i6.Lh L2 JE;have j7:RH C.τ M' ρ w' R Og:=d7.ext (λ_ _ h=>h) (V.sub λb d=>List.mem_append_left _ d);have j8:RH C.τ M' ρ w' s.Bh O2:=h2.ext (λ_ _ h=>h) (V.sub λb d=>List.mem_append_right _ d);have a5:∀q∈R,q∈s.Th:=λq hq=>ab _ (D.mem_iff.2 (List.mem_append_right _ hq))
     have ae:RE C.τ M' ρ [] ((oL μ c.hp++R)++s.Bh) w' ⟨#[],[]⟩ (sO (gU μ c.bK)++(nD C.τ c.bK ⟨bG (s.T++s.B),dx 0 vs,s.Bh,s.Th,s.nx⟩ μ c.its σ++bG (s.T++s.B))):=by
      refine⟨i2,λt v g=>?_,λm o v g T k d ho=>?_⟩;·rw[cu,CW] at g;simp only at g;rw[kP OI,nQ] at g;cases g
      ·obtain⟨ob,je,_⟩:=((j6.app j7).app j8).look d;rw[cu] at g;rcases Ku (S:=C.τ.S) (m:=m) (o:=o) (its:=gU μ c.bK) with ⟨A,L⟩|⟨A,L⟩
       ·rw[A] at g;cases g
        cases je with
        | @bx _ _ l arr f1 f2 f3 f4=>
         have:o<arr.size:=by omega
         exact⟨l,arr[o],f1,by simp[World.cell?,f2,this],.inl rfl⟩
       ·rw[A] at g;simp only at g;rw[xW] at iC;rw[cu] at g;split at g;·rename_i v' be;cases g;obtain⟨l,z,N,Q,O⟩:=XM L2 be (λi U=>(az i U).1) iC;exact⟨l,z,N,Q,.inr O⟩
        rename_i aw;rw[kD] at g
        have bj:(m,SO.bx T k)∈R++s.Bh->∃l x,ρ[m]?=some l/\w'.cell? ⟨l.b,o,none⟩=some x/\(v= .u\/RV C.τ M' ρ v x):=by
         intro d
         have p:(m,SO.bx T k)∈s.Th++s.Bh:=by
          rcases List.mem_append.1 d with d|d;·exact List.mem_append_left _ (a5 _ d)
          ·exact List.mem_append_right _ d
         obtain⟨l,x,N,Q,O⟩:=J.cl m o v g T k p ho;obtain⟨oo,a9,a4⟩:=(d7.app h2).look d;refine⟨l,x,N,?_,O.imp id λh=>h.mono G.le λ_ _ h=>h⟩;cases a9 with|bx f1 f2 f3 f4=>rw[f1] at N;cases N;have:=V.heap _ (a4 _ (List.mem_singleton.2 rfl));unfold World.cell? at Q |-;rw[this];exact Q
        rw[List.append_assoc] at d;rcases List.mem_append.1 d with d|d
        ·obtain⟨j,g1,g2⟩:=aai d;obtain⟨jj,jx⟩:=j;cases g2;obtain⟨af,T',n',e,E⟩:=Qc _ g1;simp only at e af E;cases e;rcases E o ho with E|⟨pt,E⟩
         ·have Z:dX (jj+1) o c.bK=false:=by cases hh:dX (jj+1) o c.bK with|false=>rfl|true=>have:=ai5 (μ:=μ) hh;rw[L] at this;cases this
          have E:dX (jj+1) o c.its=true:=by
           rcases ai3 E with E|E;·exact E
           ·rw[Z] at E;cases E
          obtain⟨H,r⟩:=JU jj af;rw[lY r] at g |-;obtain⟨l,z,N,Q,O⟩:=ahI (ρ:=ρ) (v:=v) r (by rw[Sg.bS];show lk (dx 0 vs++bG (s.T++s.B)) (H+1) o=some v;rw[kP uX,kD];exact g) Z E wV (by rw[lY r] at aw;exact aw) (ah6 ao) iC;exact⟨l,z,L2 _ _ _ r N,Q,.inr O⟩
         ·obtain⟨H,r⟩:=JU jj af;rw[lY r] at g |-;obtain⟨a,u,q1,q2,q3⟩:=aqb aE _ _ _ E;simp only[rk,r] at q1;cases q1;rw[Sg.bS] at q2;have q2:lk (dx 0 vs++bG (s.T++s.B)) (H+1) o=some u:=q2;rw[kP uX,kD,g] at q2;cases q2;obtain⟨l,x,N,Q,O⟩:=i4 jj o pt E;exact⟨l,x,L2 _ _ _ r N,Q,.inr (avI L2 q3 O)⟩
        ·exact bj d
     obtain⟨bk,z1,z2,z3,z4⟩:=uw (Hb:=(oL μ c.hp++R)++s.Bh) (a:=⟨#[],[]⟩) j5 Names.rfl J.len ae;refine⟨x,_,_,M',bk,rfl,hK,⟨rfl,rfl,λt=>?_⟩,G.le,⟨z1,z2,i2,λm o v g T k d ho=>?_,Az++(ny++Og),O2,?_,j8.names z1,?_⟩,?_⟩
     ·rw[Sg.bS,Sg.bS];show lk (dI _ _ _ _ _++s.B) 0 t=_;rw[yS,wo,List.append_assoc,cu,CW];simp only;rw[List.append_assoc,kP OI];intro i U;obtain⟨j,A,rfl⟩:=adF U;rcases ao0 wN j A with L|L;·exact .inl L
      ·refine .inr ?_;obtain⟨ja,jb,jm,bi⟩:=j;cases ja with|zero=>exact absurd rfl L|succ m0=>simp[iT]
     ·refine z3.cl m o v ?_ T k ?_ ho;·have g:lk (dI C.τ (gU μ c.bK) (Fy μ c.bK (bD C.τ.S c.bK z.2)) s.nx (sO (gU μ c.bK)++(nD C.τ c.bK ⟨bG (s.T++s.B),dx 0 vs,s.Bh,s.Th,s.nx⟩ μ c.its σ++s.T))++s.B) (m+1) o=some v:=g;rw[yS] at g;rw[<-g];apply Jl;rw[List.append_assoc,List.append_assoc,cu,cu (B:=_++(s.T++s.B)),cu (B:=bG (s.T++s.B)),cu (B:=s.T++s.B),kD]
      ·have d:(m,SO.bx T k)∈fG C.τ (gU μ c.bK) (Fy μ c.bK (bD C.τ.S c.bK z.2)) s.nx (oL μ c.hp++R)++s.Bh:=d;rw[kL,List.append_assoc,<-kL] at d;exact d
     ·show RH _ _ _ _ (fG C.τ (gU μ c.bK) _ s.nx (oL μ c.hp++R)) _;rw[kL];exact z4.app ((j6.app j7).names z1)
     ·have d:∀b,b∈Os++ny\/w.heap.size<=b->b∈κ.F\/κ.w0.heap.size<=b:=λb d=>by
       rcases d with d|d;·exact (I.own b (List.mem_append_left _ d)).2
       ·exact .inr (Nat.le_trans Y.frame.size d)
      rw[<-List.append_assoc];refine⟨Y.tab,Y.frame.trans G.frame (λb p=>d b (.inl p)),G.sat,Y.le.trans G.le,λb j v e=>?_,?_,λb p=>?_,λb p=>Nat.lt_of_lt_of_le (Y.red b p) G.frame.size⟩
      ·rcases G.new b j v e with e|e;·exact Y.new b j v e
       ·exact .inr (d b e)
      ·rw[List.append_assoc] at W |-;refine List.nodup_append.2 ⟨by simpa using G.nodup,(List.nodup_append.1 W).2.1,λb a6 b' a7 e=>?_⟩;subst e;obtain⟨A,L⟩:=Fj b a7;rcases (G.own b a6).2 with k3|k3;·exact L k3
       ·have:w.heap.size<=b:=k3;omega
      ·rcases List.mem_append.1 p with p|p;·exact⟨(G.own b p).1,d b (G.own b p).2⟩
       ·exact⟨Nat.lt_of_lt_of_le (Fj b (List.mem_append_left _ p)).1 G.frame.size,(I.own b (List.mem_append_right _ p)).2⟩
     ·exact i1.mono .rfl λm l h=>by simp at h
    ·cases h
   ·cases h
  ·cases h
theorem Py{s0:Sg C.τ.S}:∀{its:List aY}{t:Sg C.τ.S}{M:Mem},CS C κ ρ t M w ρ->∃M',M.le M'/\CS C κ ρ (rU C μ s0 its t) M' w ρ/\Keep t (rU C μ s0 its t)/\(rU C μ s0 its t).T=t.T/\(rU C μ s0 its t).nx=t.nx
 |[],t,M,h=>⟨M,.rfl,h,Keep.rfl,rfl,rfl⟩
 |i::r,t,M,h=>by
  unfold rU
  split
  ·split
   ·rename_i m _
    obtain⟨O1,O2,h1,h2,u⟩:=h.mem
    obtain⟨f,j,_,e,c,s⟩:=Y1 (m:=m) (O1:=[]) h1 (by rw[List.append_nil];exact u)
    rw[List.append_nil] at e
    have d:CS C κ ρ (t.kg m) f w ρ:=by
     refine⟨h.names,h.len,h.gm.mono c.le,λF o v y T k a ho=>?_,j,O2,s,h2.ext (λ_ _ h=>h) (c.sub λb a=>by simpa using a),e⟩
     obtain⟨l,x,n,p,q⟩:=h.cl F o v y T k (by
      rcases List.mem_append.1 a with a|a
      ·exact List.mem_append_left _ (Y0 a)
      ·exact List.mem_append_right _ a) ho
     exact⟨l,x,n,p,q.imp id λh=>h.mono c.le λ_ _ h=>h⟩
    obtain⟨g,z,A,B,D,E⟩:=Py (s0:=s0) (its:=r) d
    exact⟨g,c.le.trans z,A,acj.trans B,D,E⟩
   ·exact Py h
  ·exact Py h
theorem LC.bf{c:LC C.τ.S}(hw:c.wf=true)(D:LS C.P C.τ f c):aF C f (c.inl C):=by
 intro β y vs s K h κ M w ρ xs d a;unfold LC.inl LC.go at h;simp only at h;split at h
 ·rename_i k g;obtain⟨I,m,j,b,n,o⟩:=Py (μ:=k) (s0:=⟨bG (s.T++s.B),dx 0 vs,s.Bh,s.Th,s.nx⟩) (its:=c.its) d;generalize G:rU C k ⟨bG (s.T++s.B),dx 0 vs,s.Bh,s.Th,s.nx⟩ c.its s=s1 at h j b n o;have e:s1=⟨s.B,s.T,s.Bh,s1.Th,s.nx⟩:=by obtain⟨B,T,Bh,Th,nx⟩:=s1;have A:B=s.B:=b.B;have H:Bh=s.Bh:=b.Bh;have E:T=s.T:=n;have F:nx=s.nx:=o;subst A H E F;rfl
  rw[e] at j b;refine (LC.go_ok hw D (aot g) h j ⟨a.1,λi v x h1 h2=>(a.2 i v x h1 h2).mono m λ_ _ h=>h⟩).mono ?_;rintro e w' ⟨x,v,s',M',l,p,q,r,t,u,z⟩;exact⟨x,v,s',M',l,p,q,b.trans r,m.trans t,u,z⟩
 ·cases h
end
end Go.R
namespace Go.R
open Go.RowKit Go.Dc
section
variable {C:Cf}{s:Sg C.τ.S}{M:Mem}{ρ:List Loc}{w w':World}{κ:Ctx C.τ}
theorem ahH{c:Cd}{xs:List (c.ty C.τ.S)}{e:Nat}{V:Value}{cells:List Value}(h:CS C κ ρ s M w ρ)(f:Below w.heap.size w w')(hz:Pos C.τ c e)(ho:w'.ownsRow w.heap.size e (C.τ.aC c) V xs.length cells)(hr:Row C.τ M ρ c xs (λj=>cells[j]?))(I:xs.length<=140737488355328):∃M' l,V=l.sl/\M.le M'/\CS C κ ρ (s.newL C none c xs) M' w' (ρ++[l]):=by
 obtain⟨O1,O2,h1,h2,z⟩:=h.mem;have hf:Frame [] w w':=⟨f.os,f.tape,f.output,f.size,λk hk _=>f.block k hk⟩
 have lT:Sat M w':=λb j v e=>by
  have h1:=z.sat b j v e
  have L:b<w.heap.size:=by
   rcases Nat.lt_or_ge b w.heap.size with h|h;·exact h
   ·simp[World.cell?,Array.getElem?_eq_none h] at h1
  exact (World.cell?_of_block (w:=w) (a:=⟨b,j,none⟩) (f.block b L)).trans h1
 obtain⟨i,R⟩:=z.call lT .rfl hf (λb j v e=> .inl e)
 have fin:∀(l:Loc) (M':Mem) (O:List Nat),M.le M'->Ext (O1++O2) M M' w w'->RO C.τ M' (ρ++[l]) w' s.nx (.ls c xs) O->SM κ M' w' (O++O1) O2->CS C κ ρ (s.newL C none c xs) M' w' (ρ++[l]):=by
  intro l M' O A E P u;have n:Names ρ (ρ++[l]):=fF;refine⟨n,by simp[Sg.newL,h.len],h.gm.mono A,λm o v hv T k p ho=>?_,O++O1,O2,.cons P (h1.ext n (E.sub λb f=>List.mem_append_left _ f)),h2.ext n (E.sub λb f=>List.mem_append_right _ f),u⟩
  have p:(m,SO.bx T k)∈s.Th++s.Bh:=by
   have p:(m,SO.bx T k)∈(s.nx,SO.ls c xs)::s.Th++s.Bh:=p;rcases List.mem_cons.1 p with e|p;·cases e
   ·exact p
  obtain⟨l',x,H,Q,W⟩:=h.cl m o v hv T k p ho;obtain⟨ob,je,D⟩:=(h1.app h2).look p;refine⟨l',x,n _ _ H,?_,W.imp id λh=>h.mono A n⟩;cases je with|bx f1 f2 f3 f4=>rw[f1] at H;cases H;have:=E.heap _ (D _ (List.mem_singleton.2 rfl));unfold World.cell? at Q |-;rw[this];exact Q
 have r:∀l:Loc,(ρ++[l])[s.nx]?=some l:=λl=>by rw[<-h.len];simp
 rcases ho.2 with ⟨rfl,n⟩|⟨g,cap,G,rfl,U,d,N,aa,J,y⟩;·have:xs=[]:=List.length_eq_zero_iff.1 n;subst this;exact⟨M,⟨0,0,0,true,[]⟩,rfl,.rfl,fin _ M [] .rfl R (.iR (r _) rfl) i⟩
 ·let l:Loc:=⟨g,xs.length,cap,false,[]⟩;have n:Names ρ (ρ++[l]):=fF;have K:g<w'.heap.size:=(Array.getElem?_eq_some_iff.1 d).1
  have u:SM κ M w' (g::O1) O2:=by
   refine⟨i.tab,i.frame,i.sat,i.le,i.new,?_,λb t=>?_,i.red⟩;·show (g::(O1++O2)).Nodup;refine List.nodup_cons.2 ⟨λZ=>?_,i.nodup⟩;have:=z.lt Z;omega
   ·rcases List.mem_cons.1 t with rfl|t;·exact⟨K,.inr (Nat.le_trans z.frame.size U)⟩
    ·exact i.own b t
  have B:Row C.τ M (ρ++[l]) c xs (λj=>G[j]?):=(hr.mono .rfl n).congr λq hq=>by rw[<-y,List.getElem?_take];rw[if_pos hq,Array.getElem?_toList]
  obtain⟨M',X,F,Y⟩:=yM (m:=s.nx) (hs:=[]) (cap:=cap) u d hz N I (by rw[J];exact Nat.le_refl _) B (λj _=>z.sat.kE U) (r l);have E:Ext (O1++O2) M M' w w':=⟨F.le,R.heap,F.mem⟩;exact⟨M',l,rfl,F.le,fin l M' [g] F.le E Y X⟩
theorem avn(h:CS C κ ρ s M w ρ):∃O,Rd C ⟨bG (s.T++s.B),[],s.Bh,s.Th,s.nx⟩ [] [] M ρ (s.Th++s.Bh) w ⟨#[],[]⟩ O:=by
 obtain⟨O1,O2,h1,h2,c⟩:=h.mem
 have b:RE C.τ M ρ [] (s.Th++s.Bh) w ⟨#[],[]⟩ ([]++bG (s.T++s.B)):=⟨h.gm,λt v a=>(by
  rw[List.nil_append,nQ] at a;cases a),λm o v a T k d ho=>(by
  rw[List.nil_append,kD] at a;exact h.cl m o v a T k d ho)⟩
 exact⟨_,fQ (s:=⟨bG (s.T++s.B),[],s.Bh,s.Th,s.nx⟩) b h1 h2 c⟩
def Uv(C:Cf)(s:Sg C.τ.S)(c:Cd)(v:SV C.τ.S):Option (List (c.ty C.τ.S)):=match fz s v with
 | .nl=>some []
 | .l a xs=>match Cd.eq a c with|some ⟨h⟩=>some (h▸xs)|none=>none
 | .o m=>match s.bq m with|some q=>rowOf C q c|none=>none
 |_=>none
theorem aqj{c:Cd}{v:SV C.τ.S}{xs:List (c.ty C.τ.S)}{x:Value}(h:CS C κ ρ s M w ρ)(hs:Uv C s c v=some xs)(Q:RG C.τ M ρ [] v x):∃(ad:Option Addr) (cap:Nat) (us:Nat->Nat->Value),x= .slice ad xs.length cap/\(ad=none->xs=[])/\(∀(i:Nat) z,xs[i]?=some z->∀j,j<C.τ.aC c->ad=some ⟨sb ad,so ad,none⟩/\w.cell? ⟨sb ad,so ad+(i*C.τ.aC c+j),none⟩=some (us i j))/\∀(i:Nat) z,xs[i]?=some z->∀(j:Nat) u,(E C.τ c z).cs[j]?=some u->RV C.τ M ρ u (us i j):=by
 obtain⟨O,f⟩:=avn h;have F:∀u,RV C.τ M ρ u x->RV C.τ M ρ (fz s u) x:=λu I=>BH (s:=⟨bG (s.T++s.B),[],s.Bh,s.Th,s.nx⟩) f I;unfold Uv at hs;have R:RV C.τ M ρ v x:=by cases Q with|v h=>exact h|c _=>simp[fz] at hs|t _ _=>simp[fz] at hs|g _ _ _=>simp[fz] at hs|u=>simp[fz] at hs
 have k:=F v R;split at hs;·rename_i e;cases hs;rw[e] at k;cases k;exact⟨none,0,λ_ _=>undef,rfl,λ_=>rfl,λi z a=>by simp at a,λi z a=>by simp at a⟩
 ·rename_i c' ys e;split at hs;·rename_i N _;cases hs;subst N;rw[e] at k;obtain⟨ad,cap,us,n,d,A⟩:=k.row f.sat;refine⟨ad,cap,us,n,λD=>?_,d,A⟩;subst D;cases J:ys with|nil=>rfl|cons y r=>subst J;have h0:=(d 0 y rfl 0 (by cases k with|l _ h0 _ _ _ _=>exact h0)).1;cases h0
  ·cases hs
 ·rename_i m e;rw[e] at k;split at hs
  ·rename_i q P;obtain⟨hm,o,ho,K⟩:=f.obj m q (by exact P)
   have H:RO C.τ M ρ w m (.ls c xs) o\/RO C.τ M ρ w m (.ar c xs) o:=by
    rcases adQ hs with rfl|rfl;·exact .inl ho
    ·exact .inr ho
   cases k with| @o _ l n=>
   rcases adR H with ⟨l1,d,A,rfl,rfl⟩|⟨T,l1,arr,d,U,W,kp,X,Y,k7,Z,V,rfl⟩;·rw[n] at d;cases d;refine⟨none,0,λ_ _=>undef,by simp[Loc.sl,A],λ_=>rfl,λi z a=>by simp at a,λi z a=>by simp at a⟩
   ·rw[n] at d;cases d;refine⟨some ⟨l.b,0,none⟩,l.cap,λi j=>(arr[i*C.τ.aC c+j]?).getD undef,by simp[Loc.sl,U,W],λD=>absurd D sm,λi z a j hj=>⟨rfl,?_⟩,λi z a j u I=>?_⟩
    ·have G:=(List.getElem?_eq_some_iff.1 a).1;have h2:(i+1)*C.τ.aC c<=xs.length*C.τ.aC c:=Nat.mul_le_mul_right _ G;rw[Nat.succ_mul] at h2;have h3:xs.length*C.τ.aC c<=l.cap*C.τ.aC c:=Nat.mul_le_mul_right _ X;have:i*C.τ.aC c+j<arr.size:=by omega
     show w.cell? ⟨l.b,0+(i*C.τ.aC c+j),none⟩=_;simp[World.cell?,Y,this]
    ·obtain⟨v',L,p⟩:=Z i z a j u I;simp only at L;simp only[L,Option.getD_some];exact p
  ·cases hs
 ·cases hs
theorem avm{m o T k:Nat}{v:SV C.τ.S}{x:Value}(h:CS C κ ρ s M w ρ)(hm:bq s.Th m=some (.bx T k))(ho:o<k)(hv:RV C.τ M ρ v x):∃(l:Loc) (arr:Array Value),ρ[m]?=some l∧w.heap[l.b]?=some (.cells arr T (0,0))∧arr.size=k∧
  CS C κ ρ ⟨s.B,(m+1,o,v)::s.T,s.Bh,s.Th,s.nx⟩ M (w.setCell ⟨l.b,o,none⟩ x) ρ:=by
 obtain⟨O1,O2,h1,h2,h3⟩:=h.mem
 obtain⟨Op,g1,g2⟩:=h1.perm (EJ hm)
 cases g1 with
 |cons g3 g4=>
 cases g3 with
 | @bx _ _ l arr f1 f2 f3 f4=>
 rename_i Or
 have hsm:=h3.perm g2
 have hk:∀c,c≠l.b→(w.setCell ⟨l.b,o,none⟩ x).heap[c]?=w.heap[c]?:=fun c hc=>RowKit.Below.heap_setCell _ _ _ _ hc
 have hheap:(w.setCell ⟨l.b,o,none⟩ x).heap[l.b]?=some (.cells (arr.setIfInBounds o x) T (0,0)):=by
  simp[World.setCell,Array.getElem?_modify,f2]
 obtain⟨k1,k2⟩:=SM.change (b:=l.b) (O1:=Or) (w':=w.setCell ⟨l.b,o,none⟩ x) hsm (fun j v e=>by rw[f4 j] at e;cases e) ⟨rfl,rfl,rfl,by simp[World.setCell],fun c _ hc=>hk c (by simpa using hc)⟩ hk
 have hbx:RO C.τ M ρ (w.setCell ⟨l.b,o,none⟩ x) m (.bx T k) [l.b]:= .bx f1 hheap (by simp[f3]) f4
 have hr:=g4.ext (fun _ _ h=>h) (k2.sub fun b hb=>List.mem_append_left _ hb)
 have hb2:=h2.ext (fun _ _ h=>h) (k2.sub fun b hb=>List.mem_append_right _ hb)
 obtain⟨bN,q1,q2⟩:=(RH.cons hbx hr).perm (EJ hm).symm
 refine⟨l,arr,f1,f2,f3,h.names,h.len,h.gm,fun m' o' v' hv' T' k' hm' ho'=>?_,bN,O2,q1,hb2,k1.perm q2⟩
 have hv':lk ((m+1,o,v)::(s.T++s.B)) (m'+1) o'=some v':=hv'
 rcases kN hv' with ⟨e1,e2,e3⟩|⟨hne,hv'⟩
 ·have e1:m'=m:=by omega
  subst e1 e2 e3
  refine⟨l,x,f1,?_,.inr hv⟩
  have:o'<arr.size:=by omega
  simp[World.cell?,hheap,this]
 ·obtain⟨l',z,e1,e2,e3⟩:=h.cl m' o' v' hv' T' k' hm' ho'
  refine⟨l',z,e1,?_,e3⟩
  by_cases hb:l'.b=l.b
  ·by_cases ho2:o'=o
   ·
    subst ho2
    exfalso
    by_cases e:m'=m
    ·subst e;exact hne rfl
    ·obtain⟨ob,je,hsub⟩:∃ob,RO C.τ M ρ w m' (.bx T' k') ob∧∀b∈ob,b∈Or++O2:=by
      rcases List.mem_append.1 hm' with hm'|hm'
      ·have hm':(m',SO.bx T' k')∈(m,SO.bx T k)::dK m s.Th:=(EJ hm).mem_iff.1 hm'
       rcases List.mem_cons.1 hm' with hm'|hm'
       ·cases hm';exact absurd rfl e
       ·obtain⟨ob,a1,a2⟩:=g4.look hm'
        exact⟨ob,a1,fun b hb=>List.mem_append_left _ (a2 b hb)⟩
      ·obtain⟨ob,a1,a2⟩:=h2.look hm'
       exact⟨ob,a1,fun b hb=>List.mem_append_right _ (a2 b hb)⟩
     cases je with
     |bx p1 p2 p3 p4=>
      rw[p1] at e1;cases e1
      have hin:=hsub _ (List.mem_singleton.2 rfl)
      have hnd:=hsm.nodup
      have hnd:(l.b::(Or++O2)).Nodup:=hnd
      rw[hb] at hin
      exact (List.nodup_cons.1 hnd).1 hin
   ·have:w.cell? ⟨l.b,o',none⟩=some z:=by rw[←hb];exact e2
    rw[hb]
    simp only[World.cell?,hheap]
    simp only[World.cell?,f2] at this
    have ho3:¬(o=o'):=fun h=>ho2 h.symm
    simp only[Array.getElem?_setIfInBounds,ho3,if_false]
    simpa using this
  ·simp only[World.cell?] at e2 ⊢
   rw[hk _ hb];exact e2
theorem ad3{S:Nat->Type}{m:Nat}{x:SO S}:∀{H:Heap S},bq H m=some x->setH m x H=H
 |[],h=>by cases h
 |q::r,h=>by
  obtain⟨a,b⟩:=q
  unfold bq at h
  unfold setH
  split at h
  ·rename_i e
   have c:=Nat.eq_of_beq_eq_true e
   cases h
   rw[e]
   subst c
   rfl
  ·rename_i e
   rw[e]
   simp only
   rw[ad3 h]
theorem OD{m:Nat}{c:Cd}{xs:List (c.ty C.τ.S)}(h:CS C κ ρ s M w ρ)(Q:bq s.Th m=some (.ar c xs)):(∃l,ρ[m]?=some l/\l.nil=true/\xs=[])\/∃(l:Loc) (arr:Array Value) (T:Nat),ρ[m]?=some l/\l.sl= .slice (some ⟨l.b,0,none⟩) xs.length l.cap/\w.heap[l.b]?=some (.cells arr T (0,0))/\l.cap*C.τ.aC c<=arr.size/\xs.length<=l.cap/\xs.length<=140737488355328/\0<C.τ.aC c/\Row C.τ M ρ c xs (λj=>arr[j]?)/\∀(w':World) (f:Array Value) (i:List (c.ty C.τ.S)),Frame [l.b] w w'->w'.heap[l.b]?=some (.cells f T (0,0))->f.size=arr.size->i.length=xs.length->Row C.τ M ρ c i (λj=>f[j]?)->CS C κ ρ ⟨s.B,s.T,s.Bh,setH m (.ar c i) s.Th,s.nx⟩ M w' ρ:=by
 obtain⟨O1,O2,h1,h2,h3⟩:=h.mem;obtain⟨_,p1,_⟩:=DK (y:=SO.ar c xs) Q;obtain⟨Op,g1,g2⟩:=h1.perm p1;cases g1 with|cons g3 g4=>
 cases g3 with| @ig _ l r z=>exact .inl ⟨l,r,z,rfl⟩| @ar _ _ T l arr f1 N R U V W k6 X k8 E=>
 rename_i Or;refine .inr ⟨l,arr,T,f1,by simp[Loc.sl,N,R],k6,X,V,W,U.1,k8,λw' f i F t L q A=>?_⟩;obtain⟨Hr,Z,q2⟩:=DK (y:=SO.ar c i) Q;obtain⟨Oq,r1,r2⟩:=h1.perm Z;cases r1 with|cons r3 r4=>
 rename_i Os;cases r3 with|ig r z=>rw[f1] at r;cases r;rw[N] at z;cases z|ar G _ _ _ _ _ _ _ _ _=>
 rw[f1] at G;cases G;have d:=h3.perm r2;have d:SM κ M w (l.b::Os) O2:=d;have J:∀b∈Os++O2,b≠l.b:=λb a e=>(List.nodup_cons.1 d.nodup).1 (e▸a);have I:∀b∈Os++O2,b<w.heap.size:=λb a=>by have:b∈(l.b::Os)++O2:=List.mem_cons_of_mem _ a;exact d.lt this
 have p:∀b,b<w.heap.size->b≠l.b->w'.heap[b]?=w.heap[b]?:=λb a u=>F.block b a (by simpa using u);have n:Ext (Os++O2) M M w w':=⟨.rfl,λb a=>p b (I b a) (J b a),λ_ _=>rfl⟩
 have wL:SM κ M w' (l.b::Os) O2:=by
  have a:=d.own l.b List.mem_cons_self;refine⟨d.tab,d.frame.trans F λc P=>?_,λb j v e=>?_,d.le,d.new,d.nodup,λb a=>⟨Nat.lt_of_lt_of_le (d.own b a).1 F.size,(d.own b a).2⟩,λb a=>Nat.lt_of_lt_of_le (d.red b a) F.size⟩;·simp at P;subst P;exact a.2
  ·have u:b≠l.b:=λe'=>by subst e';rw[E j] at e;cases e
   have h1:=d.sat b j v e
   have a:b<w.heap.size:=by
    rcases Nat.lt_or_ge b w.heap.size with h|h;·exact h
    ·simp[World.cell?,Array.getElem?_eq_none h] at h1
   simpa [World.cell?,p b a u] using h1
 have K:RO C.τ M ρ w' m (.ar c i) [l.b]:= .ar f1 N (by rw[R,q]) U (by rw[q];exact V) (by rw[q];exact W) t (by rw[L];exact X) A E;obtain⟨bN,z1,z2⟩:=(RH.cons K (r4.ext (λ_ _ h=>h) (n.sub λb a=>List.mem_append_left _ a))).perm q2.symm;refine⟨h.names,h.len,h.gm,λY o v hv O k a ho=>?_,bN,O2,z1,h2.ext (λ_ _ h=>h) (n.sub λb a=>List.mem_append_right _ a),wL.perm z2⟩
 have g:(Y,SO.bx O k)∈Hr++s.Bh:=by
  rcases List.mem_append.1 a with a|a
  ·have a:=q2.mem_iff.1 a;rcases List.mem_cons.1 a with e|a;·cases e
   ·exact List.mem_append_left _ a
  ·exact List.mem_append_right _ a
 obtain⟨l',x,H,r,z⟩:=h.cl Y o v hv O k (by
  rcases List.mem_append.1 g with g|g;·exact List.mem_append_left _ (Z.mem_iff.2 (List.mem_cons_of_mem _ g))
  ·exact List.mem_append_right _ g) ho
 obtain⟨ob,je,D⟩:=(r4.app h2).look g;refine⟨l',x,H,?_,z⟩;cases je with|bx G _ _ _=>rw[G] at H;cases H;have:=n.heap _ (D _ (List.mem_singleton.2 rfl));unfold World.cell? at r |-;rw[this];exact r
end
end Go.R
