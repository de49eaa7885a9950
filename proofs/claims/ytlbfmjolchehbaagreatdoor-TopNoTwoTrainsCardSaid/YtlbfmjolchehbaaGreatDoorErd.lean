/- Several parts of the engine, one behind the other. -/
import Derived.Test.YtlbfmjolchehbaaGreatDoorErc
set_option linter.all false
namespace Go.R
open Go.RowKit Go.Dc
def fE(bJ:Nat)(l c:Int):Bool:=decide (0<=l/\l<=c/\c*(bJ:Int)<=140737488355328)
section
variable {β:Type}(C:Cf)(s:Sg C.τ.S)
def Sg.xJ(c:Cd)(xs:List (c.ty C.τ.S)):Sg C.τ.S:=⟨s.B,s.T,s.Bh,(s.nx,.ar c xs)::s.Th,s.nx+1⟩
def wh:Nat->List (Nat×Operand)->Option (List Operand)
 |_,[]=>some []
 |k,x::r=>match Nat.beq x.1 k with
  |true=>match wh (k+1) r with|some y=>some (x.2::y)|none=>none
  |false=>none
def EP(c:Cd):List Operand->Option (List (c.ty C.τ.S))
 |[]=>some []
 |x::r=>match s.gets [] x with
  |some v=>match Ac C (gG s v) with
   |true=>match vG C c (gG s v).cs with
    |some z=>match EP c r with|some zs=>some (z::zs)|none=>none
    |none=>none
   |false=>none
  |none=>none
def Ji(t:TypeId)(n:Nat)(a:List (Nat×Operand))(K:SV C.τ.S->Sg C.τ.S->Option β):Option β:=match qP C.P t,wh 0 a with
 |some (e,sz,_),some xs=>match C.cd e with
  |some c=>match EP C s c xs with
   |some zs=>match Nat.beq sz (C.τ.aC c)&&pF C.τ c e,Nat.beq n zs.length,Nat.ble (n*sz) 16777216 with
    |true,true,true=>K (.o s.nx) (s.newL C none c zs)
    |_,_,_=>none
   |none=>none
  |none=>none
 |_,_=>none
def zeroE(e:TypeId)(c:Cd):Option (c.ty C.τ.S):=match rC C.P e with
 |some l=>match qh l with|some cs=>vG C c cs|none=>none
 |none=>none
def Ye(t:TypeId)(x y:Operand)(K:SV C.τ.S->Sg C.τ.S->Option β):Option β:=match qP C.P t,s.gets [] x,s.gets [] y with
 |some (e,sz,bJ),some (.i _ l),some (.i _ q)=>match C.cd e with
  |some c=>match Nat.beq sz (C.τ.aC c)&&pF C.τ c e,zeroE C e c with
   |true,some z=>ah (fE bJ l q) (K (.o s.nx) (s.xJ C c (List.replicate l.toNat z)))
   |_,_=>none
  |none=>none
 |_,_,_=>none
end
def nH{α:Type}:Nat->List α->List (Nat×α)|_,[]=>[]|k,v::r=>(k,v)::nH (k+1) r
theorem fill_dense{size:Nat}:∀(vs:List Value) (k:Nat) (b a:List Value),(∀v∈vs,v.cells.size=size)->b.length=k*size->a.length=vs.length*size->Instr.fill (λi=>some (i*size,size)) (b++a).toArray (nH k vs)=some (b++vs.flatMap λv=>v.cells.toList).toArray
 |[],k,b,a,_,_,h=>by
  have:a=[]:=List.length_eq_zero_iff.1 (by simpa using h)
  subst this
  simp[nH,Instr.fill]
 |v::vs,k,b,a,hs,hp,h=>by
  have d:=hs v List.mem_cons_self
  simp only[List.length_cons,Nat.add_mul,Nat.one_mul] at h
  simp only[nH,Instr.fill]
  rw[if_neg (by simp only[d];simp;omega)]
  have e:=YV v.cells.toList 0 (k*size) (b++a).toArray
  have g:v.cells.zipIdx.foldl (λcs (p:Value×Nat)=>cs.setIfInBounds (k*size+p.2) p.1) (b++a).toArray=(fZ (b++a) (k*size) v.cells.toList).toArray:=by
   rw[<-Array.foldl_toList]
   simpa using e
  have j:fZ (b++a) (k*size) v.cells.toList=b++v.cells.toList++a.drop size:=by
   have:b++a=b++(a.take size++a.drop size):=by simp
   have f:∀(vs l q r:List Value),l.length=vs.length->fZ (q++(l++r)) q.length vs=q++vs++r:=by
    intro vs
    induction vs with
    |nil=>intro l q r c;have:l=[]:=List.length_eq_zero_iff.1 c;subst this;simp[fZ]
    |cons v vs m=>
     intro l q r c
     match l,c with
     |u::l,c=>
      simp only[fZ]
      have e:(q++(u::l++r)).set q.length v=(q++[v])++(l++r):=by simp
      rw[e]
      have:=m l (q++[v]) r (by simpa using c)
      simpa using this
   rw[this,<-hp]
   exact f _ _ _ _ (by simp[d];omega)
  rw[show (Array.foldl (λcs x=>cs.setIfInBounds (k*size+x.2) x.1) (b++a).toArray v.cells.zipIdx)=_ from g,j]
  have:=fill_dense vs (k+1) (b++v.cells.toList) (a.drop size) (λv d=>hs v (List.mem_cons_of_mem _ d)) (by simp[hp,d,Nat.add_mul]) (by simp;omega)
  rw[this]
  simp
theorem Yk{α β:Type}{f:α->β}:∀(k:Nat) (l:List α),(nH k l).map (λp=>(p.1,f p.2))=nH k (l.map f)|_,[]=>rfl|k,x::l=>by simp[nH,Yk (k+1) l]
theorem run_buildSlice{P:Program}{t e:TypeId}{i:TypeInfo}{z:Value}(b:P.underlying t=some (.slice e))(hi:P.info? e=some i)(f:i.zero=some z){xs:List Value}(hs:∀v∈xs,v.cells.size=i.size)(g:xs.length*i.size<=16777216)(w:World):(Instr.buildSlice t xs.length (nH 0 xs).toArray).run P w= .ok (.slice (some ⟨w.heap.size,0,none⟩) xs.length xs.length) (w.alloc (.cells (xs.flatMap λv=>v.cells.toList).toArray e)):=by
 have a:∀arr:Array Value,arr.size=xs.length*i.size->Instr.fill (λj=>some (j*i.size,i.size)) arr (nH 0 xs)=some (xs.flatMap λv=>v.cells.toList).toArray:=λarr d=>by have:=fill_dense xs 0 [] arr.toList hs sm (by simpa using d);simpa using this
 have c:¬(16777216<xs.length*i.size):=by omega
 by_cases h0:xs.length*i.size=0;·have:=a (Array.map (λx=>(#[]:Array Value)[x % (#[]:Array Value).size]!) (Array.range (xs.length*i.size))) sm;simp only[h0] at this;simp[Instr.buildSlice,run_underlying b,sizeOf,typeInfo,hi,h0,newRow];simp at this;simp[this]
 ·have:=a (Array.map (λx=>z.cells[x % z.cells.size]!) (Array.range (xs.length*i.size))) sm;simp[Instr.buildSlice,run_underlying b,sizeOf,typeInfo,hi,f,zeroValue,c,h0,this,newRow]
section
variable {β:Type}{C:Cf}{s s':Sg C.τ.S}{G p:List (Nat×Bool)}{g:Option Bool}{M M':Mem}{ρ ρ' ρ0:List Loc}{H R:Heap C.τ.S}{w w':World}{a:Act}{O O' O1 O2:List Nat}{y:β}{n nx:Nat}{κ:Ctx C.τ}{Γ:Env C.τ.S}{Q:Exit->Act->World->Prop}
theorem XW:∀{l:List (Nat×Operand)}{k:Nat}{xs:List Operand},wh k l=some xs->l=nH k xs
 |[],k,xs,h=>by simp[wh] at h;subst h;rfl
 |(i,x)::r,k,xs,h=>by
  unfold wh at h
  split at h
  ·rename_i e
   have e:=Nat.eq_of_beq_eq_true e
   simp only at e
   subst e
   split at h
   ·rename_i ys a
    cases h
    rw[XW a];rfl
   ·cases h
  ·cases h
theorem O9{c:Cd}(k:Rd C s G [] M ρ H w a O):∀{xs:List Operand}{zs:List (c.ty C.τ.S)},EP C s c xs=some zs->xs.length=zs.length/\(∀v∈xs.map a.eval,v.cells.size=C.τ.aC c)/\((xs.map a.eval).flatMap λv=>v.cells.toList).length=zs.length*C.τ.aC c/\Row C.τ M ρ c zs (λj=>((xs.map a.eval).flatMap λv=>v.cells.toList)[j]?)
 |[],zs,h=>by simp[EP] at h;subst h;exact⟨rfl,λv h=>by simp at h,sm,λi x h=>by simp at h⟩
 |x::r,zs,h=>by
  unfold EP at h
  split at h
  ·rename_i v E
   split at h
   ·rename_i l
    split at h
    ·rename_i z F
     split at h
     ·rename_i us p
      cases h
      obtain⟨t,y,A,B⟩:=O9 k p
      obtain⟨vs,e,I⟩:=TV l (wE k (k.gets E))
      have n:=Hq F I
      have b:vs.length=C.τ.aC c:=by rw[n.len,jd]
      refine⟨by simp[t],λq f=>?_,?_,λi J m j u o=>?_⟩
      ·rw[List.map_cons] at f
       rcases List.mem_cons.1 f with rfl|f
       ·rw[e];simpa using b
       ·exact y q f
      ·simp only[List.map_cons,List.flatMap_cons,List.length_append,A,e];simp[b,Nat.add_mul,Nat.add_comm]
      ·simp only[List.map_cons,List.flatMap_cons,e]
       cases i with
       |zero=>
        simp at m;subst m
        obtain⟨q,d,g⟩:=n.get o
        have D:=(List.getElem?_eq_some_iff.1 d).1
        refine⟨q,?_,g⟩
        rw[Nat.zero_mul,Nat.zero_add,List.getElem?_append_left (by simpa using D)]
        simpa using d
       |succ i=>
        obtain⟨q,d,g⟩:=B i J (by simpa using m) j u o
        refine⟨q,?_,g⟩
        rw[List.getElem?_append_right (by simp[b,Nat.add_mul];omega)]
        have:(i+1)*C.τ.aC c+j-vs.toArray.toList.length=i*C.τ.aC c+j:=by simp[b,Nat.add_mul];omega
        rw[this];exact d
     ·cases h
    ·cases h
   ·cases h
  ·cases h
theorem aC0{c:Cd}{zs:List (c.ty C.τ.S)}{arr:Array Value}{e cap:Nat}(E:Names ρ0 ρ)(t:ρ.length=s.nx)(D:RE C.τ M ρ G (s.Th++s.Bh) w a (s.T++s.B))(h1:RH C.τ M ρ w s.Th O1)(h2:RH C.τ M ρ w s.Bh O2)(r:SM κ M w O1 O2)(h0:Pos C.τ c e)(A:zs.length<=cap)(i:zs.length<=140737488355328)(n:cap*C.τ.aC c<=arr.size)(F:Row C.τ M ρ c zs (λj=>arr[j]?)):∃M' d p,Names ρ0 d/\d.length=(s.newL C none c zs).nx/\RE C.τ M' d G ((s.newL C none c zs).Th++s.Bh) (w.alloc (.cells arr e)) a (s.T++s.B)/\RH C.τ M' d (w.alloc (.cells arr e)) (s.newL C none c zs).Th p/\RH C.τ M' d (w.alloc (.cells arr e)) s.Bh O2/\SM κ M' (w.alloc (.cells arr e)) p O2/\d[s.nx]?=some ⟨w.heap.size,zs.length,cap,false,[]⟩:=by
 obtain⟨y,z⟩:=r.alloc (.cells arr e);let l:Loc:=⟨w.heap.size,zs.length,cap,false,[]⟩;have f:Names ρ (ρ++[l]):=fF;have g:(ρ++[l])[s.nx]?=some l:=by rw[<-t];simp
 obtain⟨M',u,q,v⟩:=yM (m:=s.nx) (hs:=[]) y (heap_alloc_new w _) h0 A i n (F.mono .rfl f) (λj _=>r.sat.kE (Nat.le_refl _)) g;have o:Ext (O1++O2) M M' w (w.alloc (.cells arr e)):=⟨q.le,z.heap,q.mem⟩;exact⟨M',ρ++[l],w.heap.size::O1,E.trans f,by simp[t,Sg.newL],(D.ext f (h1.app h2) o).more (x:= .ls c zs) (λ_ _ h=>by cases h),.cons v (h1.ext f (o.sub λb k=>List.mem_append_left _ k)),h2.ext f (o.sub λb k=>List.mem_append_right _ k),u,g⟩
theorem aoV{c:Cd}{zs:List (c.ty C.τ.S)}{arr:Array Value}{e cap:Nat}(v:Names ρ0 ρ)(q:ρ.length=s.nx)(u:RE C.τ M ρ G (s.Th++s.Bh) w a (s.T++s.B))(h1:RH C.τ M ρ w s.Th O1)(h2:RH C.τ M ρ w s.Bh O2)(p:SM κ M w O1 O2)(h0:Pos C.τ c e)(t:zs.length<=cap)(i:zs.length<=140737488355328)(n:cap*C.τ.aC c<=arr.size)(y:Row C.τ M ρ c zs (λj=>arr[j]?)):∃d o,Names ρ0 d/\d.length=(s.xJ C c zs).nx/\RE C.τ M d G ((s.xJ C c zs).Th++s.Bh) (w.alloc (.cells arr e)) a (s.T++s.B)/\RH C.τ M d (w.alloc (.cells arr e)) (s.xJ C c zs).Th o/\RH C.τ M d (w.alloc (.cells arr e)) s.Bh O2/\SM κ M (w.alloc (.cells arr e)) o O2/\d[s.nx]?=some ⟨w.heap.size,zs.length,cap,false,[]⟩:=by
 obtain⟨r,k⟩:=p.alloc (.cells arr e);let l:Loc:=⟨w.heap.size,zs.length,cap,false,[]⟩;have f:Names ρ (ρ++[l]):=fF;have g:(ρ++[l])[s.nx]?=some l:=by rw[<-q];simp
 exact⟨ρ++[l],w.heap.size::O1,v.trans f,by simp[q,Sg.xJ],(u.ext f (h1.app h2) k).more (x:= .ar c zs) (λ_ _ h=>by cases h),.cons (.ar (l:=l) g rfl rfl h0 t i (heap_alloc_new w _) n (y.mono .rfl f) λj=>p.sat.kE (Nat.le_refl _)) (h1.ext f (k.sub λb m=>List.mem_append_left _ m)),h2.ext f (k.sub λb m=>List.mem_append_right _ m),r,g⟩
theorem aIz{t:TypeId}{m:Nat}{b:List (Nat×Operand)}{K:SV C.τ.S->Sg C.τ.S->Option β}(h:Ji C s t m b K=some y):∃v s',K v s'=some y/\Keep s s'/\Step C n κ ρ0 G s (.buildSlice t m b.toArray) (some v) s':=by
 unfold Ji at h;split at h
 ·rename_i e sz bJ xs l p;obtain⟨l,aa⟩:=u6 l;obtain⟨z,i,zv,q,d,mH,A,ab,f⟩:=u7 l;split at h
  ·rename_i c hc;split at h
   ·rename_i zs j;split at h
    ·rename_i k B D;obtain⟨k,r⟩:=gM k;have k:=Nat.eq_of_beq_eq_true k;have B:=Nat.eq_of_beq_eq_true B;have D:=Nat.le_of_ble_eq_true D;subst k B;refine⟨_,_,h,⟨rfl,rfl,λt=>rfl⟩,λK Q M w a dst ty pos aM gd ⟨h0,ρ,O1,O2,hn,hl,I,h1,h2,H⟩ hk=>?_⟩;obtain⟨L,N,O,R⟩:=O9 (fQ I h1 h2 H) j;have hx:zs.length<=zs.length*C.τ.aC c:=Nat.le_mul_of_pos_right _ f;obtain⟨M',E,J,U,V,W,X,Y,Z,g7⟩:=aC0 (c:=c) (zs:=zs) (cap:=zs.length) (s:=s) (e:=e) (arr:=((xs.map a.eval).flatMap λv=>v.cells.toList).toArray) hn hl I h1 h2 H ⟨f,r⟩ (Nat.le_refl _) om (by simp[O]) (by simpa using R)
     have g:(execOp a.eval ⟨dst,.buildSlice t zs.length b.toArray,ty,pos,aM,gd⟩).run C.P w=
       .ok (.value (.slice (some ⟨w.heap.size,0,none⟩) zs.length zs.length)) (w.alloc (.cells ((xs.map a.eval).flatMap λv=>v.cells.toList).toArray e)):=by
      show (Instr.buildSlice t zs.length (b.toArray.map λ(i,x)=>(i,a.eval x)) >>= λv=>pure (Next.value v)).run C.P w=_
      have T:(b.toArray.map λ(i,x)=>(i,a.eval x))=(nH 0 (xs.map a.eval)).toArray:=by
       rw[<-Yk,XW p];simp
      have F:zs.length=(xs.map a.eval).length:=by simp[L]
      rw[T,F]
      exact bQ (run_buildSlice z q A (by rw[d];exact N) (by rw[<-F,d];exact D) w)
     unfold Oper.wp;rw[g];exact hk M' _ _ E J O2 U V W X Y Z λu e=>by cases e;exact .v (.o g7)
    ·cases h
   ·cases h
  ·cases h
 ·cases h
theorem apR{c:Cd}{z:Array Value}{x:c.ty C.τ.S}{k l:Nat}(f:aZ C.τ M ρ (E C.τ c x).cs z.toList)(o:l<=k):Row C.τ M ρ c (List.replicate l x) (λj=>(madeCells z (k*C.τ.aC c))[j]?):=by
 have a:z.size=C.τ.aC c:=by have:=f.len;rw[jd] at this;simpa using this
 intro i p b j u e;have h:i<l:=by have:=(List.getElem?_eq_some_iff.1 b).1;simpa using this
 rw[List.getElem?_replicate,if_pos h] at b;cases b;have n:j<z.size:=by have:=(List.getElem?_eq_some_iff.1 e).1;rw[jd] at this;omega
 obtain⟨q,d,g⟩:=f.get e;refine⟨q,?_,g⟩;have:=aoo (z:=z) (m:=k) (i:=i) n om;rw[a] at this;simp only[Array.getElem?_toList] at this d;show (madeCells z (k*C.τ.aC c))[i*C.τ.aC c+j]?=_;rw[this,d]
theorem aID{t:TypeId}{x z:Operand}{K:SV C.τ.S->Sg C.τ.S->Option β}(h:Ye C s t x z K=some y):∃v s',K v s'=some y/\Keep s s'/\Step C n κ ρ0 G s (.makeSlice t x z) (some v) s':=by
 unfold Ye at h;split at h
 ·rename_i e sz bJ k1 l k2 q H hx hz;obtain⟨H,aa⟩:=u6 H;obtain⟨J,i,F,j,k,mH,D,ab,m⟩:=u7 H;split at h
  ·rename_i c hc;split at h
   ·rename_i R d b;obtain⟨d,I⟩:=gM d;have d:=Nat.eq_of_beq_eq_true d;subst d;obtain⟨g,h⟩:=jZ h;have g:0<=l/\l<=q/\q*(bJ:Int)<=140737488355328:=by simpa [fE] using g
    obtain⟨o1,o2,o3⟩:=g;have o4:q*1<=q*(bJ:Int):=Int.mul_le_mul_of_nonneg_left om om;refine⟨_,_,h,⟨rfl,rfl,λt=>rfl⟩,λK Q M w a dst ty pos aM gd ⟨h0,ρ,O1,O2,hn,hl,O,h1,h2,N⟩ hk=>?_⟩;have p:=fQ O h1 h2 N;have A:=p.rv hx;have B:=p.rv hz
    have f:aZ C.τ M ρ (E C.τ c R).cs F.cells.toList:=by
     unfold zeroE rC at b;rw[j] at b;simp only[Option.bind_some,D,Option.map_some] at b;split at b;·rename_i cs f;exact Hq b (uq f)
     ·cases b
    obtain⟨L,T,U,V,W,X,Y,Z,g7⟩:=aoV (c:=c) (zs:=List.replicate l.toNat R) (cap:=q.toNat) (s:=s) (e:=e) (arr:=madeCells F.cells (q.toNat*C.τ.aC c)) hn hl O h1 h2 N ⟨m,I⟩ (by simp;omega) (by simp;omega) (by rw[size_madeCells];exact Nat.le_refl _) (apR f om);have r:(execOp a.eval ⟨dst,.makeSlice t x z,ty,pos,aM,gd⟩).run C.P w= .ok (.value (.slice (some ⟨w.heap.size,0,none⟩) l.toNat q.toNat)) (w.alloc (.cells (madeCells F.cells (q.toNat*C.τ.aC c)) e)):=by show (Instr.makeSlice t (a.eval x) (a.eval z) >>= λv=>pure (Next.value v)).run C.P w=_;generalize a.eval x=ax at A |-;generalize a.eval z=az at B |-;cases A;cases B;have:=run_make (P:=C.P) w t e i F J j D k1 k2 l q o1 o2 (by rw[mH,Int.mul_comm];omega) om;rw[k] at this;exact bQ this
    unfold Oper.wp;rw[r];refine hk M _ _ L T O2 U V W X Y Z λu e=>?_;cases e;have:=RV.o (τ:=C.τ) (M:=M) g7;simp only[Loc.sl,List.length_replicate] at this;exact .v this
   ·cases h
  ·cases h
 ·cases h
end
end Go.R
namespace Go.R
open Go.RowKit Go.Dc
section
variable {β:Type}(C:Cf)(s:Sg C.τ.S)
def Bq(c:Cd):Nat->List (SV C.τ.S)->Option (List (c.ty C.τ.S))
 |0,[]=>some []
 |0,_::_=>none
 |k+1,vs=>match vG C c (vs.take (C.τ.aC c)) with
  |some z=>match Bq c k (vs.drop (C.τ.aC c)) with|some r=>some (z::r)|none=>none
  |none=>none
def asT(t:TypeId):Option (Nat×TypeId):=match C.P.underlying t with|some (.array k e)=>some (k,e)|_=>none
def X4(t:TypeId)(K:SV C.τ.S->Sg C.τ.S->Option β):Option β:=match asT C t with
 |some a=>match C.cd a.2 with
  |some c=>match rC C.P t with
   |some l=>match qh l with
    |some cs=>match Bq C c a.1 cs,Nat.blt 0 (C.τ.aC c)&&pF C.τ c t,Nat.ble a.1 16777216 with
     |some xs,true,true=>K (.e s.nx (C.τ.aC c) 0 0) (s.xJ C c xs)
     |_,_,_=>none
    |none=>none
   |none=>none
  |none=>EK C s t K
 |none=>EK C s t K
end
section
variable {β:Type}{C:Cf}{s s':Sg C.τ.S}{G p:List (Nat×Bool)}{g:Option Bool}{M:Mem}{ρ ρ' ρ0:List Loc}{H R:Heap C.τ.S}{w w':World}{a:Act}{O O1 O2:List Nat}{y:β}{n nx:Nat}{κ:Ctx C.τ}{Γ:Env C.τ.S}{Q:Exit->Act->World->Prop}
theorem chunk_ok{c:Cd}(h0:0<C.τ.aC c):∀{k:Nat}{vs:List (SV C.τ.S)}{xs:List (c.ty C.τ.S)}{us:List Value},Bq C c k vs=some xs->aZ C.τ M ρ vs us->xs.length=k/\xs.length*C.τ.aC c=us.length/\Row C.τ M ρ c xs (λj=>us[j]?)
 |0,[],xs,us,h,e=>by
  simp[Bq] at h;subst h
  cases e
  exact⟨rfl,sm,λi x d=>by simp at d⟩
 |0,_::_,_,_,h,_=>by simp[Bq] at h
 |k+1,vs,xs,us,h,e=>by
  unfold Bq at h
  split at h
  ·rename_i z v
   split at h
   ·rename_i r g
    cases h
    obtain⟨n,o,p⟩:=chunk_ok h0 g (e.drop _)
    have b:=Hq v (e.take (C.τ.aC c))
    have m:=b.len
    rw[jd] at m
    have t:C.τ.aC c<=us.length:=by simp at m;omega
    refine⟨by simp[n],by simp at o |-;rw[Nat.add_mul];omega,λi x d j u l=>?_⟩
    have s:j<C.τ.aC c:=by have:=(List.getElem?_eq_some_iff.1 l).1;rw[jd] at this;exact this
    cases i with
    |zero=>
     simp at d;subst d
     obtain⟨q,a,f⟩:=b.get l
     refine⟨q,?_,f⟩
     rw[List.getElem?_take,if_pos s] at a
     simpa using a
    |succ i=>
     obtain⟨q,a,f⟩:=p i x (by simpa using d) j u l
     refine⟨q,?_,f⟩
     have a:(us.drop (C.τ.aC c))[i*C.τ.aC c+j]?=some q:=a
     rw[List.getElem?_drop] at a
     rw[<-a]
     show us[(i+1)*C.τ.aC c+j]?=_
     congr 1
     rw[Nat.add_mul];omega
   ·cases h
  ·cases h
theorem aIu{t:TypeId}{K:SV C.τ.S->Sg C.τ.S->Option β}(h:X4 C s t K=some y):∃v s',K v s'=some y/\Keep s s'/\Step C n κ ρ0 G s (.alloc t) (some v) s':=by
 unfold X4 at h;split at h
 ·rename_i Y U;split at h
  ·rename_i c hc;split at h
   ·rename_i l b;split at h
    ·rename_i cs k;split at h
     ·rename_i xs p h0 r;obtain⟨h0,o⟩:=gM h0;have h0:0<C.τ.aC c:=by simpa [Nat.blt_eq] using h0
      have r:Y.1<=16777216:=by simpa using r
      refine⟨_,_,h,⟨rfl,rfl,λt=>rfl⟩,λK Q M w a dst ty pos aM N ⟨O,ρ,O1,O2,W,V,T,h1,h2,R⟩ m=>?_⟩;obtain⟨e1,A,B⟩:=chunk_ok (M:=M) (ρ:=ρ) h0 p (uq k);obtain⟨q,x,D,E,F,H,I,J,L⟩:=aoV (c:=c) (zs:=xs) (cap:=xs.length) (s:=s) (e:=t) (arr:=l.toArray) W V T h1 h2 R ⟨h0,o⟩ (Nat.le_refl _) om (by simp[A]) (by simpa using B);have X:=b;unfold rC at b
      cases g:C.P.info? t with
      |none=>rw[g] at b;cases b
      |some i=>
       cases d:i.zero with
       |none=>rw[g] at b;simp[d] at b
       |some z=>
        rw[g] at b;simp[d] at b;have Z:(zeroValue t).run C.P w= .ok z w:=by unfold zeroValue;rw[run_bind_ok (Lp g w)];simp only[d];rfl
        have f:(execOp a.eval ⟨dst,.alloc t,ty,pos,aM,N⟩).run C.P w= .ok (.value (.pointer (some ⟨w.heap.size,0,none⟩))) (w.alloc (.cells l.toArray t)):=by
         show (Instr.alloc t true (.tuple #[]) >>= λv=>pure (Next.value v)).run C.P w=_;refine bQ ?_;unfold Instr.alloc;rw[run_bind_ok Z];have:z.cells=l.toArray:=by rw[<-b]
         show (do pure (Value.pointer (some (<-newVar t z))):Sem Value).run C.P w=_;unfold newVar;rw[this];rfl
        unfold Oper.wp;rw[f];refine m M _ _ q x O2 D E F H I J λu e=>?_;cases e;have:=RV.e (τ:=C.τ) (M:=M) (n:=C.τ.aC c) (j:=0) (i:=0) L;simp at this;exact .v this
     ·cases h
    ·cases h
   ·cases h
  ·exact aqp h
 ·exact aqp h
end
end Go.R
namespace Go.R
open Go.RowKit Go.Dc
section
variable {β:Type}(C:Cf)(s:Sg C.τ.S)
def Sg.KM(m:Option Nat)(c:Cd)(xs:List (c.ty C.τ.S)):Sg C.τ.S:=⟨s.B,s.T,s.Bh,(s.nx,.ar c xs)::(rQ m s.Th),s.nx+1⟩
def X7(t:TypeId)(x y:Operand)(K:SV C.τ.S->Sg C.τ.S->Option β):Option β:=match qP C.P t,s.gets [] x,s.gets [] y with
 |some (e,sz,bJ),some b,some d=>match fz s d with
  | .l c ys=>match Nat.beq sz (C.τ.aC c)&&pF C.τ c e,b with
   |true,.nl=>ah (aS bJ ys.length) (K (.o s.nx) (s.KM C none c ys))
   |true,.o m=>match bq s.Th m with
    |some (.ar a xs)=>match Cd.eq a c with
     |some ⟨h⟩=>ah (aS bJ ((h▸xs:List (c.ty C.τ.S))++ys).length) (K (.o s.nx) (s.KM C (some m) c ((h▸xs:List (c.ty C.τ.S))++ys)))
     |none=>none
    |_=>none
   |_,_=>none
  |_=>none
 |_,_,_=>none
def aJY(x:Operand):Bool:=match C.am with
 |false=>false
 |true=>match s.gets [] x with
  |some .nl=>true
  |some (.o m)=>match bq s.Th m with|some (.ar _ _)=>true|_=>false
  |_=>false
def EM(t:TypeId)(x y:Operand)(K:SV C.τ.S->Sg C.τ.S->Option β):Option β:=match aJY C s x with|true=>X7 C s t x y K|false=>X5 C s t x y K
end
section
variable {β:Type}{C:Cf}{s s':Sg C.τ.S}{G p:List (Nat×Bool)}{g:Option Bool}{M M':Mem}{ρ ρ' ρ0:List Loc}{H R:Heap C.τ.S}{w w':World}{a:Act}{O O' O1 O2:List Nat}{y:β}{n nx:Nat}{κ:Ctx C.τ}{Γ:Env C.τ.S}{Q:Exit->Act->World->Prop}
theorem asR{m:Nat}{c:Cd}{xs:List (c.ty C.τ.S)}(h:RO C.τ M ρ w m (.ar c xs) O):(∃l,ρ[m]?=some l/\l.nil=true/\xs=[]/\O=[])\/∃(T:Nat) (l:Loc) (arr:Array Value),ρ[m]?=some l/\l.nil=false/\l.len=xs.length/\Pos C.τ c T/\xs.length<=l.cap/\w.heap[l.b]?=some (.cells arr T (0,0))/\l.cap*C.τ.aC c<=arr.size/\Row C.τ M ρ c xs (λj=>arr[j]?)/\(∀j,M l.b j=none)/\O=[l.b]:=by cases h with| @ig _ l a e=>exact .inl ⟨l,a,e,rfl,rfl⟩| @ar _ _ T l arr a f g i k q n o p d=>exact .inr ⟨T,l,arr,a,f,g,i,k,n,o,p,d,rfl⟩
theorem aIv{t:TypeId}{x z:Operand}{K:SV C.τ.S→Sg C.τ.S→Option β}(h:X7 C s t x z K=some y):∃v s',K v s'=some y∧Keep s s'∧Step C n κ ρ0 G s (.call ⟨.builtin .append, #[x,z], #[t,t]⟩) (some v) s':=by
 unfold X7 at h
 split at h
 ·rename_i e sz bJ vx vz dz hx hz
  obtain⟨dz,hby⟩:=u6 dz
  obtain⟨hut,i,zv,hi',hisz,mH,hzz,hzs,hpos⟩:=u7 dz
  split at h
  ·rename_i c ys hfz
   have main:∀(xs:List (c.ty C.τ.S)) (m:Option Nat) (hsz:sz=C.τ.aC c),pF C.τ c e=true→aS bJ (xs++ys).length=true→(vx= .nl∧xs=[]∧m=none∨∃m',m=some m'∧vx= .o m'∧bq s.Th m'=some (.ar c xs))→Step C n κ ρ0 G s (.call ⟨.builtin .append, #[x,z], #[t,t]⟩) (some (.o s.nx)) (s.KM C m c (xs++ys)):=by
    intro xs m hsz hoe hok hcase K Q M w a dst ty pos aM gd ⟨h0,ρ,O1,O2,hn,hl,he,h1,h2,h3⟩ hk
    subst hsz
    have hok:(xs.length+ys.length)*bJ≤140737488355328:=by simpa [aS] using hok
    have hle1:(xs.length+ys.length)*1≤(xs.length+ys.length)*bJ:=Nat.mul_le_mul_left _ hby
    have h47:(xs++ys).length≤140737488355328:=by rw[List.length_append];omega
    have hrd:=fQ he h1 h2 h3
    obtain⟨cs,hcs⟩:=BD a.eval .append x z #[t,t] dst ty pos aM gd
    have hzv:RG C.τ M ρ G (.l c ys) (a.eval z):=by
     have:=wE hrd (hrd.gets hz)
     have e:gG s vz=fz s vz:=by
      cases vz with
      |c _=>cases hfz
      |_=>rfl
     rw[e,hfz] at this
     exact this
    have hzv:RV C.τ M ρ (.l c ys) (a.eval z):=by cases hzv with|v h=>exact h
    obtain⟨src,vY,us,ey,hyc,hyp⟩:=hzv.row h3.sat
    have hnl:(bU (C.τ.aC c) ys.length us).length=ys.length*i.size:=by rw[gI,hisz]
    have hnews:∀j v,(bU (C.τ.aC c) ys.length us)[j]?=some v→src=some ⟨sb src,so src,none⟩∧w.cell? ⟨sb src,so src+j,none⟩=some v:=fun j v hv=>by
     obtain⟨a1,a2,a3,a4,rfl⟩:=Dk hv hpos
     have:=hyc (j / C.τ.aC c) _ (List.getElem?_eq_getElem a2) (j % C.τ.aC c) a3
     rwa [←a4] at this
    have fin:∀(w':World) (l:Loc) (M':Mem) (Oa Ob:List Nat),(builtin .append #[t,t] ty cs #[a.eval x,a.eval z]).run C.P w= .ok (.value l.sl) w'→M.le M'→
      RE C.τ M' (ρ++[l]) G ((rQ m s.Th)++s.Bh) w' a (s.T++s.B)→RO C.τ M' (ρ++[l]) w' s.nx (.ar c (xs++ys)) Oa→RH C.τ M' (ρ++[l]) w' (rQ m s.Th) Ob→RH C.τ M' (ρ++[l]) w' s.Bh O2→SM κ M' w' (Oa++Ob) O2→
      Oper.wp C.P ⟨dst,.call ⟨.builtin .append, #[x,z], #[t,t]⟩,ty,pos,aM,gd⟩ a w K Q:=by
     intro w' l M' Oa Ob hrun _ g1 g2 g3 g4 g5
     unfold Oper.wp
     rw[hcs,hrun]
     have hnew:(ρ++[l])[s.nx]?=some l:=by rw[←hl];simp
     exact hk M' w' l.sl (ρ++[l]) (Oa++Ob) O2 (hn.trans fF) (by simp[hl,Sg.KM]) (g1.more (x:= .ar c (xs++ys)) fun _ _ h=>by cases h) (.cons g2 g3) g4 g5 fun u e=>by cases e;exact .v (.o hnew)
    obtain⟨Hr,rW⟩:∃Hr,Hr=(rQ m s.Th):=⟨_,rfl⟩
    rw[←rW] at fin
    have take:∃Ox Or,O1.Perm (Ox++Or)∧RH C.τ M ρ w Hr Or∧(∀q∈Hr,q∈s.Th)∧((vx= .nl∧xs=[]∧Ox=[])∨∃m',vx= .o m'∧RO C.τ M ρ w m' (.ar c xs) Ox):=by
     rcases hcase with ⟨e1,e2,e3⟩|⟨m',e1,e2,e3⟩
     ·subst e3;subst rW
      exact⟨[],O1,.rfl,h1,fun q hq=>hq,.inl ⟨e1,e2,rfl⟩⟩
     ·subst e1;subst rW
      have hp:=vZ e3
      obtain⟨O',g1,g2⟩:=h1.perm hp
      cases g1 with
      |cons g3 g4=>exact⟨_,_,g2,g4,fun q hq=>hp.mem_iff.2 (List.mem_cons_of_mem _ hq),.inr ⟨m',e2,g3⟩⟩
    obtain⟨Ox,Or,BR,iM,BO,hcx⟩:=take
    have h3:=h3.perm BR
    have he':RE C.τ M ρ G (Hr++s.Bh) w a (s.T++s.B):=he.perm fun q hq=>by
     rcases List.mem_append.1 hq with hq|hq
     ·exact List.mem_append_left _ (BO q hq)
     ·exact List.mem_append_right _ hq
    have new:∀(base:Option Addr) (cap:Nat) (olds:List Value),a.eval x= .slice base xs.length cap→cap<xs.length+ys.length→olds.length=xs.length*C.τ.aC c→
      (∀j v,olds[j]?=some v→base=some ⟨sb base,so base,none⟩∧w.cell? ⟨sb base,so base+j,none⟩=some v)→Row C.τ M ρ c xs (fun j=>olds[j]?)→
      Oper.wp C.P ⟨dst,.call ⟨.builtin .append, #[x,z], #[t,t]⟩,ty,pos,aM,gd⟩ a w K Q:=by
     intro base cap olds hxe hg hol holds hrow
     obtain⟨cap',rest,hcap,hrest,hrun⟩:=adV (P:=C.P) (w:=w) t ty e i zv hut hi' hzz base src xs.length cap ys.length vY olds (bU (C.τ.aC c) ys.length us) (by rw[hol,hisz]) hnl holds hnews hg (by omega) (by rw[mH];exact hok)
     let l:Loc:=⟨w.heap.size,(xs++ys).length,cap',false,[]⟩
     have wM:SM κ M w.drew (Ox++Or) O2:=⟨h3.tab,h3.frame.trans (F1:=[]) ⟨rfl,rfl,rfl,Nat.le_refl _,fun _ _ _=>rfl⟩ (fun _ h=>(by cases h)),h3.sat,h3.le,h3.new,h3.nodup,h3.own,h3.red⟩
     obtain⟨hsm,hext⟩:=wM.alloc (.cells (olds.toArray++(bU (C.τ.aC c) ys.length us).toArray++rest) e)
     have hnm:Names ρ (ρ++[l]):=fF
     have wL:SM κ M (w.drew.alloc (.cells (olds.toArray++(bU (C.τ.aC c) ys.length us).toArray++rest) e)) (w.heap.size::Or) O2:=by
      have hp:(w.heap.size::(Ox++Or)).Perm ((w.heap.size::Or)++Ox):=by
       rw[List.cons_append];exact List.Perm.cons _ List.perm_append_comm
      have:=SM.perm hsm hp
      refine⟨this.tab,this.frame,this.sat,this.le,this.new,?_,fun b hb=>this.own b (List.mem_append_left _ hb),this.red⟩
      have hq:((w.heap.size::Or)++Ox++O2).Perm (((w.heap.size::Or)++O2)++Ox):=by
       simp only[List.append_assoc];exact List.Perm.append_left _ List.perm_append_comm
      exact (List.nodup_append.1 (hq.nodup_iff.1 this.nodup)).1
     have hrow2:Row C.τ M (ρ++[l]) c (xs++ys) (fun j=>(olds.toArray++(bU (C.τ.aC c) ys.length us).toArray++rest)[j]?):=by
      refine Row.cat ((hrow.mono .rfl hnm).congr fun q hq=>?_) (((Row.of hyp).mono .rfl hnm).congr fun q hq=>?_)
      ·rw[Array.append_assoc,Array.getElem?_append_left (by simpa [hol] using hq)]
       simp
      ·rw[Array.getElem?_append_left (by simp[gI,hol];exact hq),Array.getElem?_append_right (by simp[hol])]
       simp[hol]
     have g3:RO C.τ M (ρ++[l]) (w.drew.alloc (.cells (olds.toArray++(bU (C.τ.aC c) ys.length us).toArray++rest) e)) s.nx (.ar c (xs++ys)) [w.heap.size]:=
      .ar (l:=l) (T:=e) (by rw[←hl];simp[l]) rfl rfl ⟨hpos,hoe⟩ (by rw[List.length_append];exact hcap) h47 (by show (w.heap.push _)[w.heap.size]?=_;simp) (by
       show cap'*_≤_
       simp only[Array.size_append,List.size_toArray,hrest,U6,gI,hzs,hol]
       rw[←Nat.add_mul,←Nat.add_mul]
       have:xs.length+ys.length+(cap'-(xs.length+ys.length))=cap':=by omega
       rw[this];exact Nat.le_refl _) hrow2 (fun j=>h3.sat.kE (Nat.le_refl _))
     have hx2:Ext (Or++O2) M M w (w.drew.alloc (.cells (olds.toArray++(bU (C.τ.aC c) ys.length us).toArray++rest) e)):=⟨.rfl,fun b hb=>hext.heap b (by simp only[List.append_assoc];exact List.mem_append_right _ hb),fun _ _=>rfl⟩
     refine fin _ l M [w.heap.size] Or ?_ .rfl (he'.ext hnm (iM.app h2) hx2) g3 (iM.ext hnm (hx2.sub fun b hb=>List.mem_append_left _ hb)) (h2.ext hnm (hx2.sub fun b hb=>List.mem_append_right _ hb)) wL
     rw[hxe,ey]
     have e2:l.sl= .slice (some ⟨w.heap.size,0,none⟩) (xs.length+ys.length) cap':=by simp[l,Loc.sl]
     rw[e2]
     exact bQ hrun
    rcases hcx with ⟨rfl,rfl,rfl⟩|⟨m',rfl,hro⟩
    ·
     have hxv:RV C.τ M ρ (.nl) (a.eval x):=hrd.rv hx
     generalize hax:a.eval x=ax at hxv
     cases hxv
     by_cases hys:ys=[]
     ·subst hys
      let l:Loc:=⟨0,0,0,true,[]⟩
      have hnm:Names ρ (ρ++[l]):=fF
      refine fin w l M [] Or ?_ .rfl (he'.names' hnm) (.ig (l:=l) (by rw[←hl];simp) rfl) (iM.ext hnm Ext.refl) (h2.ext hnm Ext.refl) (by simpa using h3)
      rw[hax,ey]
      have:=Ue (P:=C.P) (w:=w) t ty e i hut hi' src vY
      exact bQ this
     ·have:0<ys.length:=List.length_pos_iff.2 hys
      exact new none 0 [] (by rw[hax];rfl) (by simpa using this) (by simp) (fun j v h=>by simp at h) (fun i z h=>by simp at h)
    ·have hxv:=hrd.rv hx
     generalize hax:a.eval x=ax at hxv
     cases hxv with
     | @o _ l0 e1=>
     rcases asR hro with ⟨l1,e2,e3,rfl,rfl⟩|⟨T,l1,arr,e2,k1,k2,kp,k4,k6,k7,k8,k10,rfl⟩
     ·rw[e1] at e2;cases e2
      have hsl:l0.sl= .slice none 0 0:=by simp[Loc.sl,e3]
      by_cases hys:ys=[]
      ·subst hys
       let l:Loc:=⟨0,0,0,true,[]⟩
       have hnm:Names ρ (ρ++[l]):=fF
       refine fin w l M [] Or ?_ .rfl (he'.names' hnm) (.ig (l:=l) (by rw[←hl];simp) rfl) (iM.ext hnm Ext.refl) (h2.ext hnm Ext.refl) (by simpa using h3)
       rw[hax,ey,hsl]
       have:=Ue (P:=C.P) (w:=w) t ty e i hut hi' src vY
       exact bQ this
      ·have:0<ys.length:=List.length_pos_iff.2 hys
       exact new none 0 [] (by rw[hax,hsl];rfl) (by simpa using this) (by simp) (fun j v h=>by simp at h) (fun i z h=>by simp at h)
     ·rw[e1] at e2;cases e2
      have hsl:l0.sl= .slice (some ⟨l0.b,0,none⟩) xs.length l0.cap:=by simp[Loc.sl,k1,k2]
      have aaq:xs.length*C.τ.aC c≤arr.size:=Nat.le_trans (Nat.mul_le_mul_right _ k4) k7
      have hrow:Row C.τ M ρ c xs (fun j=>(arr.toList.take (xs.length*C.τ.aC c))[j]?):=k8.congr fun q hq=>by
       rw[List.getElem?_take_of_lt hq];simp
      by_cases hg:xs.length+ys.length≤l0.cap
      ·have hone:∀u∈bU (C.τ.aC c) ys.length us,u.oneCell'=true:=fun u hu=>by
        obtain⟨q,hq⟩:=List.getElem?_of_mem hu
        obtain⟨a1,a2,a3,a4,rfl⟩:=Dk hq hpos
        have hz:=List.getElem?_eq_getElem a2
        have hj':q % C.τ.aC c<(E C.τ c ys[q / C.τ.aC c]).cs.length:=by rw[jd];exact a3
        exact (hyp _ _ hz _ _ (List.getElem?_eq_getElem hj')).one
       have hfit:0+xs.length*C.τ.aC c+ys.length*C.τ.aC c≤arr.size:=by
        have:(xs.length+ys.length)*C.τ.aC c≤l0.cap*C.τ.aC c:=Nat.mul_le_mul_right _ hg
        rw[Nat.add_mul] at this;omega
       have hrun:=adU (P:=C.P) (w:=w) t ty e i hut hi' l0.b 0 xs.length l0.cap T arr k6 src ys.length vY (bU (C.τ.aC c) ys.length us) hnl hnews hone hg (by rw[hisz,gI];exact hfit)
       rw[hisz,gI,Nat.zero_add] at hrun
       obtain⟨arr',harr⟩:∃arr',arr'=(arr.toList.take (xs.length*C.τ.aC c)++bU (C.τ.aC c) ys.length us++arr.toList.drop (xs.length*C.τ.aC c+ys.length*C.τ.aC c)).toArray:=⟨_,rfl⟩
       rw[←harr] at hrun
       have hsize:arr'.size=arr.size:=by
        rw[harr];simp[gI];omega
       have hlo:∀j,j<xs.length*C.τ.aC c→arr'[j]?=arr[j]?:=fun j hj=>by
        rw[harr]
        simp only[List.getElem?_toArray]
        rw[List.append_assoc,List.getElem?_append_left (by simp;omega),List.getElem?_take_of_lt hj]
        simp
       have hhi:∀j,j<ys.length*C.τ.aC c→arr'[xs.length*C.τ.aC c+j]?=(bU (C.τ.aC c) ys.length us)[j]?:=fun j hj=>by
        rw[harr]
        simp only[List.getElem?_toArray]
        rw[List.append_assoc,List.getElem?_append_right (by simp;omega),List.getElem?_append_left (by rw[gI];simp;omega)]
        congr 1
        simp;omega
       have hb':(w.setRow l0.b arr').heap[l0.b]?=some (.cells arr' T (0,0)):=Uq k6
       let l:Loc:=⟨l0.b,(xs++ys).length,l0.cap,false,[]⟩
       have hnm:Names ρ (ρ++[l]):=fF
       obtain⟨hsm,hext⟩:=SM.change (b:=l0.b) (w':=w.setRow l0.b arr') h3 (fun j v e1=>by rw[k10 j] at e1;cases e1)
        ⟨rfl,rfl,rfl,by simp,fun c _ hc=>setRow_other w l0.b c arr' (by simpa using hc)⟩ (fun c hc=>setRow_other w l0.b c arr' hc)
       have hrow2:Row C.τ M (ρ++[l]) c (xs++ys) (fun j=>arr'[j]?):=
        Row.cat ((k8.mono .rfl hnm).congr fun q hq=>(hlo q hq).symm) (((Row.of hyp).mono .rfl hnm).congr fun q hq=>(hhi q hq).symm)
       have g3:RO C.τ M (ρ++[l]) (w.setRow l0.b arr') s.nx (.ar c (xs++ys)) [l0.b]:=
        .ar (l:=l) (by rw[←hl];simp[l]) rfl rfl kp (by rw[List.length_append];exact hg) h47 hb' (by rw[hsize];exact k7) hrow2 k10
       have hx2:Ext (Or++O2) M M w (w.setRow l0.b arr'):=hext
       refine fin _ l M [l0.b] Or ?_ .rfl (he'.ext hnm (iM.app h2) hx2) g3 (iM.ext hnm (hx2.sub fun b hb=>List.mem_append_left _ hb)) (h2.ext hnm (hx2.sub fun b hb=>List.mem_append_right _ hb)) hsm
       rw[hax,ey,hsl]
       have e2:l.sl= .slice (some ⟨l0.b,0,none⟩) (xs.length+ys.length) l0.cap:=by simp[l,Loc.sl]
       rw[e2]
       exact bQ hrun
      ·refine new (some ⟨l0.b,0,none⟩) l0.cap (arr.toList.take (xs.length*C.τ.aC c)) (by rw[hax,hsl]) (by omega) (by simp;omega) (fun j v hv=>⟨rfl,?_⟩) hrow
       have hj:j<xs.length*C.τ.aC c:=by
        have:=(List.getElem?_eq_some_iff.1 hv).1
        simp at this;omega
       rw[List.getElem?_take_of_lt hj] at hv
       simpa [World.cell?,k6,sb,so] using hv
   have keep:∀(m:Option Nat) (zs:List (c.ty C.τ.S)),Keep s (s.KM C m c zs):=fun m zs=>⟨rfl,rfl,fun t=>rfl⟩
   split at h
   ·rename_i hsz
    obtain⟨hok,h⟩:=jZ h
    exact⟨_,_,h,keep _ _,main [] none (Nat.eq_of_beq_eq_true (gM hsz).1) (gM hsz).2 hok (.inl ⟨rfl,rfl,rfl⟩)⟩
   ·rename_i m hsz
    split at h
    ·rename_i c' gu hm
     split at h
     ·rename_i hcc _
      subst hcc
      obtain⟨hok,h⟩:=jZ h
      exact⟨_,_,h,keep _ _,main gu (some m) (Nat.eq_of_beq_eq_true (gM hsz).1) (gM hsz).2 hok (.inr ⟨m,rfl,rfl,hm⟩)⟩
     ·cases h
    ·cases h
   ·cases h
  ·cases h
 ·cases h
theorem aqr{t:TypeId}{x z:Operand}{K:SV C.τ.S->Sg C.τ.S->Option β}(h:EM C s t x z K=some y):∃v s',K v s'=some y/\Keep s s'/\Step C n κ ρ0 G s (.call ⟨.builtin .append, #[x,z], #[t,t]⟩) (some v) s':=by
 unfold EM at h;split at h;·exact aIv h
 ·exact step_append h
end
end Go.R
namespace Go.R
open Go.RowKit Go.Dc
section
variable {τ:Tb}{M:Mem}{ρ:List Loc}{w:World}{c:Cd}{jj:Nat}
theorem dh.sh{k:Nat}{q:Int}{xs:List (c.ty τ.S)}{vs:List Value}{O:List Nat}(h:dh τ M ρ w c jj none k xs vs O)(d:q<k):dh τ M ρ w c jj (some q) k xs vs O:=by generalize a:(none:Option Int)=ho at h;induction h with|nil=>exact .nil|own h0 h1 h2 _ b=>exact .own (λe=>by have:=Option.some.inj e;omega) h1 h2 (b om)|hole h1 _ _=>subst a;cases h1
theorem dh.out{k:Nat}{xs:List (c.ty τ.S)}{vs:List Value}{O:List Nat}(h:dh τ M ρ w c jj none k xs vs O):∀{i:Nat}{x:c.ty τ.S}{v:Value},xs[i]?=some x->vs[i]?=some v->∃(d:Cd) (ys:List (d.ty τ.S)) (o b:List Nat),(E τ c x).cs[jj]?=some (.l d ys)/\jY τ M ρ w d ys v o/\dh τ M ρ w c jj (some ((k+i:Nat):Int)) k xs vs b/\O.Perm (o++b):=by
 generalize j:(none:Option Int)=ho at h
 induction h with
 |nil=>intro i x v a;simp at a
 | @own k x xs v vs o os d ys h0 h1 h2 s t=>subst j;intro i z y a f;cases i with|zero=>simp at a f;subst a f;refine⟨d,ys,o,os,h1,h2,.hole sm (s.sh om),.rfl⟩|succ i=>obtain⟨m,g,u,b,n,p,q,r⟩:=t (by simpa using a) (by simpa using f);refine⟨m,g,u,o++b,n,p,.own (λe=>by have:=Option.some.inj e;omega) h1 h2 (by rw[show k+(i+1)=k+1+i by omega];exact q),?_⟩;exact (r.append_left o).trans (List.perm_append_comm_assoc _ _ _)
 |hole h1 _ _=>subst j;cases h1
theorem jY.ro{d:Cd}{ys:List (d.ty τ.S)}{v:Value}{o:List Nat}(h:jY τ M ρ w d ys v o)(m:Nat):∃l:Loc,l.sl=v/\∀a:List Loc,a[m]?=some l->Names ρ a->RO τ M a w m (.ls d ys) o:=by cases h with|nil=>exact⟨⟨0,0,0,true,[]⟩,rfl,λa e _=> .iR e rfl⟩| @own _ b T cap arr h1 h2 f g i j k n=>exact⟨⟨b,ys.length,cap,false,[]⟩,rfl,λa e c=> .ls e rfl rfl h1 h2 f g i (j.mono .rfl c) (k.mono .rfl c) n⟩
end
section
variable {β:Type}(C:Cf)(s:Sg C.τ.S)
def YR(h:Nat):Heap C.τ.S->Option Nat
 |[]=>none
 |q::r=>match q.2 with
  | .rr _ _ _ a none=>match Nat.beq a h with|true=>some q.1|false=>YR h r
  |_=>YR h r
def Sg.ac3(tx m:Nat)(x:SO C.τ.S)(d:Cd)(ys:List (d.ty C.τ.S)):Sg C.τ.S:=⟨s.B,(0,tx,.o s.nx)::s.T,s.Bh,(s.nx,.ls d ys)::setH m x s.Th,s.nx+1⟩
def X6(t:TypeId)(x y:Operand)(K:SV C.τ.S->Sg C.τ.S->Option β):Option β:=match x with
 | .tmp tx=>match s.lk 0 tx with
  |some (.x h i d0 a)=>match YR C h s.Th with
   |some m=>match bq s.Th m with
    |some (.rr c jj xs b none)=>match Nat.beq b h with
     |true=>(idx xs i).bind λz=>match (E C.τ c z).cs[jj]? with
      |some (.l d ys)=>EM C (s.ac3 C tx m (.rr c jj xs b (some i)) d ys) t x y λv s'=>K v (s'.put tx (.x h i d0 a))
      |_=>none
     |false=>none
    |_=>none
   |none=>none
  |_=>EM C s t x y K
 |_=>EM C s t x y K
end
section
variable {β:Type}{C:Cf}{s s':Sg C.τ.S}{G p:List (Nat×Bool)}{g:Option Bool}{M:Mem}{ρ ρ' ρ0:List Loc}{H R:Heap C.τ.S}{w w':World}{a:Act}{O O1 O2:List Nat}{y:β}{n nx:Nat}{κ:Ctx C.τ}{Γ:Env C.τ.S}{Q:Exit->Act->World->Prop}
theorem aDj{tx m h:Nat}{i:Int}{d0:Cd}{aa:List (d0.ty C.τ.S)}{c:Cd}{jj:Nat}{xs:List (c.ty C.τ.S)}{z:c.ty C.τ.S}{d:Cd}{ys:List (d.ty C.τ.S)}(hx:s.lk 0 tx=some (.x h i d0 aa))(hm:bq s.Th m=some (.rr c jj xs h none))(hz:idx xs i=some z)(hE:(E C.τ c z).cs[jj]?=some (.l d ys))(hs:SS C n κ ρ0 G s M w a):SS C n κ ρ0 G (s.ac3 C tx m (.rr c jj xs h (some i)) d ys) M w a:=by
 obtain⟨h0,ρ,O1,O2,hn,hl,F,h1,h2,h3⟩:=hs;obtain⟨ab,P,X⟩:=wX hz;obtain⟨Hr,p1,p2⟩:=DK (y:=SO.rr c jj xs h (some i)) hm;obtain⟨Oq,q1,q2⟩:=h1.perm p1;have U:=F.tm tx _ (by rw[<-Sg.bS];exact hx);obtain⟨v,W,q⟩:=U;cases q with|v q=>
 cases q with|x k1 k2 k3 k4=>
 cases q1 with| @cons _ _ o1 g _ q3 q4=>
 cases q3 with|jg=>simp at P;omega| @rr _ _ _ _ T _ l lh arr os e1 e2 e3 e4 e5 e6 e7 e8 e9 I A J K=>
 rw[A] at k1;cases k1;obtain⟨d',ae,o,r,g1,g2,g3,g4⟩:=K.out X k3;rw[hE] at g1;cases g1;obtain⟨D,r1,r2⟩:=g2.ro s.nx;have f:Names ρ (ρ++[D]):=fF;have k:(ρ++[D])[s.nx]?=some D:=by rw[<-hl];simp
 have O:((0+i.toNat:Nat):Int)=i:=by omega
 rw[O] at g3;have L:RH C.τ M (ρ++[D]) w ((s.nx,.ls d ys)::(m,.rr c jj xs h (some i))::Hr) (o++((l.b::r)++g)):= .cons (r2 _ k f) (.cons (.rr (f _ _ e1) e2 e3 e4 e5 e6 e7 e8 (e9.mono .rfl f) I (f _ _ A) J (g3.ext f Ext.refl)) (q4.ext f Ext.refl));obtain⟨Oz,z1,z2⟩:=L.perm (List.Perm.cons _ p2.symm);have p:O1.Perm Oz:=by refine (q2.trans ?_).trans z2;have:((l.b::os)++g).Perm ((l.b::(o++r))++g):=(g4.cons l.b).append_right g;refine this.trans ?_;show (l.b::(o++r)++g).Perm (o++(l.b::r++g));have h1:(l.b::(o++r)).Perm (o++l.b::r):=List.perm_middle.symm;simpa [List.append_assoc] using h1.append_right g
 refine⟨h0,ρ++[D],Oz,O2,hn.trans f,by simp[hl,Sg.ac3],⟨F.gm,λt u R=>?_,λH Y u V T' k' j Q=>?_⟩,z1,h2.ext f Ext.refl,h3.perm p⟩
 ·rcases kN R with ⟨_,rfl,rfl⟩|⟨_,R⟩;·refine⟨v,W,.v ?_⟩;rw[<-r1];exact .o k
  ·obtain⟨Z,x1,x2⟩:=F.tm t u R;exact⟨Z,x1,x2.mono .rfl f⟩
 ·have V:lk (s.T++s.B) (H+1) Y=some u:=by have:lk ((0,tx,SV.o s.nx)::(s.T++s.B)) (H+1) Y=some u:=V;rwa [bX sm] at this
  have N:(H,SO.bx T' k')∈s.Th++s.Bh:=by
   rcases List.mem_append.1 j with j|j
   ·rcases List.mem_cons.1 j with e|j;·cases e
    ·have:=p2.mem_iff.1 j;rcases List.mem_cons.1 this with e|j;·cases e
     ·exact List.mem_append_left _ (p1.mem_iff.2 (List.mem_cons_of_mem _ j))
   ·exact List.mem_append_right _ j
  obtain⟨l',Z,x1,x2,x3⟩:=F.cl H Y u V T' k' N Q;exact⟨l',Z,f _ _ x1,x2,x3.imp id (·.mono .rfl f)⟩
end
end Go.R
namespace Go.R
open Go.RowKit Go.Dc
section
variable {S:Nat->Type}
def SO.kg:SO S->SO S| .ar c xs=> .ls c xs| .rr c _ xs _ _=> .ls c xs|x=>x
def EX(m:Nat):Heap S->Heap S|[]=>[]|q::r=>match Nat.beq q.1 m with|true=>(q.1,q.2.kg)::r|false=>q::EX m r
def nI:Heap S->Heap S|[]=>[]|q::r=>(q.1,q.2.kg)::nI r
def Sg.kg(s:Sg S)(m:Nat):Sg S:=⟨s.B,s.T,s.Bh,EX m s.Th,s.nx⟩
def Sg.Jr(s:Sg S):List (SV S)->Sg S|[]=>s| .o m::r=>(s.kg m).Jr r|_::r=>s.Jr r
def Sg.Y2(s:Sg S):SV S->Sg S| .o m=>s.kg m| .c vs=>s.Jr vs|_=>s
def Sg.mE(s:Sg S):List Operand->Sg S
 |[]=>s
 |x::r=>match s.gets [] x with
  |some v=>(s.Y2 v).mE r
  |none=>s.mE r
end
section
variable {β:Type}{C:Cf}{s s':Sg C.τ.S}{G p:List (Nat×Bool)}{g:Option Bool}{M M':Mem}{ρ ρ' ρ0:List Loc}{H R:Heap C.τ.S}{w w':World}{a:Act}{O O' O1 O2:List Nat}{y:β}{n nx:Nat}{κ:Ctx C.τ}{Γ:Env C.τ.S}{Q:Exit->Act->World->Prop}
theorem SM.GD(h:SM κ M w O O2)(hs:O'.Sublist O):SM κ M w O' O2:=⟨h.tab,h.frame,h.sat,h.le,h.new,h.nodup.sublist (hs.append (List.Sublist.refl _)),λb a=>h.own b (hs.subset a),h.red⟩
theorem aiL{m:Nat}{x:SO C.τ.S}(h:RO C.τ M ρ w m x O)(d:SM κ M w (O++O1) O2):∃M' f,f.Sublist O/\SM κ M' w (f++O1) O2/\Ext (O1++O2) M M' w w/\RO C.τ M' ρ w m x.kg f:=by
 cases x with
 |bx T k=>exact⟨M,O,.refl _,d,Ext.refl,h⟩
 |ls c xs=>exact⟨M,O,.refl _,d,Ext.refl,h⟩
 |se c xs=>exact⟨M,O,.refl _,d,Ext.refl,h⟩
 |ar c xs=>cases h with|ig g a=>exact⟨M,[],.refl _,d,Ext.refl,.iR g a⟩| @ar _ _ T l arr a q r s t u v y z e=>obtain⟨M',i,n,o⟩:=yM (m:=m) (ρ:=ρ) (hs:=l.hs) d v s t u y z (λj _=>e j) (by rw[a,<-r,<-q]);exact⟨M',_,.refl _,i,n,o⟩
 |rr c jj xs E ho=>cases h with|jg g a=>exact⟨M,[],.refl _,d,Ext.refl,.iR g a⟩| @rr _ _ _ _ T _ l lh arr os a q r s t u v y z e A B D=>have p:SM κ M w (l.b::O1) O2:=d.GD (by rw[List.cons_append];exact (List.sublist_append_right os O1).cons_cons l.b);obtain⟨M',i,n,o⟩:=yM (m:=m) (ρ:=ρ) (hs:=l.hs) p v s t u y z (λj _=>e j) (by rw[a,<-r,<-q]);exact⟨M',[l.b],(List.nil_sublist os).cons_cons l.b,i,n,o⟩
theorem Y1{m:Nat}:∀{H:Heap C.τ.S}{O O1:List Nat}{M:Mem},RH C.τ M ρ w H O->SM κ M w (O++O1) O2->∃M' f,f.Sublist O/\SM κ M' w (f++O1) O2/\Ext (O1++O2) M M' w w/\RH C.τ M' ρ w (EX m H) f
 |[],_,_,M,h,e=>⟨M,_,.refl _,e,Ext.refl,h⟩
 |(q,x)::r,_,O1,M,.cons (o:=o) (os:=os) h1 h2,e=>by
  unfold EX
  split
  ·obtain⟨M',l,g,i,d,j⟩:=aiL (O1:=os++O1) h1 (by rw[<-List.append_assoc];exact e)
   refine⟨M',l++os,g.append (.refl _),by rw[List.append_assoc];exact i,d.sub λb a=>?_,.cons j (h2.ext (λ_ _ h=>h) (d.sub λb a=>by simp[a]))⟩
   rw[List.append_assoc];exact List.mem_append_right _ a
  ·have hp:(o++os++O1).Perm (os++(o++O1)):=by
    rw[List.append_assoc];exact List.perm_append_comm_assoc _ _ _
   obtain⟨M',c,g,i,d,j⟩:=Y1 h2 (SM.perm e hp)
   have k:(o++c++O1).Perm (c++(o++O1)):=by
    rw[List.append_assoc];exact List.perm_append_comm_assoc _ _ _
   exact⟨M',o++c,(List.Sublist.refl o).append g,SM.perm i k.symm,d.sub λb a=>(by rw[List.append_assoc];exact List.mem_append_right _ a),.cons (h1.ext (λ_ _ h=>h) (d.sub λb a=>by simp[a])) j⟩
theorem YZ:∀{H:Heap C.τ.S}{O O1:List Nat}{M:Mem},RH C.τ M ρ w H O->SM κ M w (O++O1) O2->∃M' e,e.Sublist O/\SM κ M' w (e++O1) O2/\Ext (O1++O2) M M' w w/\RH C.τ M' ρ w (nI H) e
 |[],_,_,M,h,g=>⟨M,_,.refl _,g,Ext.refl,h⟩
 |(q,x)::r,_,O1,M,.cons (o:=o) (os:=os) h1 h2,g=>by
  unfold nI
  obtain⟨y,d,n,p,f,s⟩:=aiL (O1:=os++O1) h1 (by rw[<-List.append_assoc];exact g)
  have hp:(d++(os++O1)).Perm (os++(d++O1)):=List.perm_append_comm_assoc _ _ _
  obtain⟨m,a,t,u,l,v⟩:=YZ (h2.ext (λ_ _ h=>h) (f.sub λb c=>by simp[c])) (SM.perm p hp)
  have k:(d++(a++O1)).Perm (a++(d++O1)):=List.perm_append_comm_assoc _ _ _
  refine⟨m,d++a,n.append t,by rw[List.append_assoc];exact SM.perm u k.symm,⟨f.le.trans l.le,λ_ _=>rfl,λb c=>?_⟩,.cons (s.ext (λ_ _ h=>h) (l.sub λb c=>by simp[c])) v⟩
  have i:b∈(os++O1)++O2:=by rw[List.append_assoc];exact List.mem_append_right _ c
  have j:b∈(d++O1)++O2:=by rw[List.append_assoc];exact List.mem_append_right _ c
  exact (l.mem b j).trans (f.mem b i)
theorem Y0{m m' T k:Nat}:∀{H:Heap C.τ.S},(m',SO.bx T k)∈EX m H->(m',SO.bx T k)∈H
 |[],h=>h
 |(q,x)::r,h=>by
  unfold EX at h
  split at h
  ·rcases List.mem_cons.1 h with e|h
   ·cases x with
    |bx a d=>rw[e];exact List.mem_cons_self
    |ls c xs=>cases e
    |ar c xs=>cases e
    |rr c jj xs b ho=>cases e
    |se c xs=>cases e
   ·exact List.mem_cons_of_mem _ h
  ·rcases List.mem_cons.1 h with e|h
   ·rw[e];exact List.mem_cons_self
   ·exact List.mem_cons_of_mem _ (Y0 h)
theorem YX{m' T k:Nat}:∀{H:Heap C.τ.S},(m',SO.bx T k)∈nI H->(m',SO.bx T k)∈H
 |[],h=>h
 |(q,x)::r,h=>by
  unfold nI at h
  rcases List.mem_cons.1 h with e|h
  ·cases x with
   |bx a d=>rw[e];exact List.mem_cons_self
   |ls c xs=>cases e
   |ar c xs=>cases e
   |rr c jj xs b ho=>cases e
   |se c xs=>cases e
  ·exact List.mem_cons_of_mem _ (YX h)
theorem RE.kg{τ:Tb}{H H':Heap τ.S}{Γ:Env τ.S}(h:RE τ M ρ G H w a Γ)(b:M.le M')(e:∀m T k,(m,SO.bx T k)∈H'->(m,SO.bx T k)∈H):RE τ M' ρ G H' w a Γ:=
 ⟨h.gm.mono b,λt v c=>let ⟨x,h1,h2⟩:=h.tm t v c;⟨x,h1,h2.mono b λ_ _ h=>h⟩,λm o v c T k f ho=>
  let ⟨l,x,h1,h2,d⟩:=h.cl m o v c T k (e _ _ _ f) ho
  ⟨l,x,h1,h2,d.imp id (·.mono b λ_ _ h=>h)⟩⟩
theorem Y3{m:Nat}(h:SS C n κ ρ0 G s M w a):∃M',SS C n κ ρ0 G (s.kg m) M' w a:=by
 obtain⟨h0,ρ,O1,O2,p,o,l,h1,h2,i⟩:=h;obtain⟨M',f,_,d,e,g⟩:=Y1 (m:=m) (O1:=[]) h1 (by rw[List.append_nil];exact i);rw[List.append_nil] at d;refine⟨M',h0,ρ,f,O2,p,o,l.kg e.le λq T k c=>?_,g,h2.ext (λ_ _ h=>h) (e.sub λb j=>by simpa using j),d⟩;rcases List.mem_append.1 c with c|c;·exact List.mem_append_left _ (Y0 c)
 ·exact List.mem_append_right _ c
theorem Y4:∀{vs:List (SV C.τ.S)}{s:Sg C.τ.S}{M:Mem},SS C n κ ρ0 G s M w a->∃M',SS C n κ ρ0 G (s.Jr vs) M' w a
 |[],_,M,h=>⟨M,h⟩
 |v::r,s,M,h=>by
  cases v with
  |o m=>obtain⟨b,h1⟩:=Y3 (m:=m) h;exact Y4 (vs:=r) h1
  |_=>exact Y4 (vs:=r) h
theorem awu{v:SV C.τ.S}(h:SS C n κ ρ0 G s M w a):∃M',SS C n κ ρ0 G (s.Y2 v) M' w a:=by cases v with|o m=>exact Y3 h|c vs=>exact Y4 h|_=>exact⟨M,h⟩
theorem Jq:∀{xs:List Operand}{s:Sg C.τ.S}{M:Mem},SS C n κ ρ0 G s M w a->∃M',SS C n κ ρ0 G (s.mE xs) M' w a
 |[],_,M,h=>⟨M,h⟩
 |x::r,s,M,h=>by
  unfold Sg.mE
  split
  ·obtain⟨b,h1⟩:=awu h
   exact Jq h1
  ·exact Jq h
theorem acj{m:Nat}:Keep s (s.kg m):=⟨rfl,rfl,λ_=>rfl⟩
theorem acn:∀{vs:List (SV C.τ.S)}{s:Sg C.τ.S},Keep s (s.Jr vs)
 |[],_=>Keep.rfl
 |v::r,s=>by
  cases v with
  |o m=>exact acj.trans (acn (vs:=r))
  |_=>exact acn (vs:=r)
theorem aCs{v:SV C.τ.S}:Keep s (s.Y2 v):=by cases v with|o m=>exact acj|c vs=>exact acn|_=>exact Keep.rfl
theorem Kr:∀{xs:List Operand}{s:Sg C.τ.S},Keep s (s.mE xs)
 |[],_=>Keep.rfl
 |x::r,s=>by
  unfold Sg.mE
  split
  ·exact aCs.trans Kr
  ·exact Kr
end
end Go.R
namespace Go.R
open Go.RowKit Go.Dc
section
variable {τ:Tb}
theorem Va{c d:Cd}{ys:List (d.ty τ.S)}{y:c.ty τ.S}(h:D1 τ c (.l d ys)=some y):E1 τ c y= .l d ys:=by
 cases c with
 |list c=>
  unfold D1 at h;simp only at h;split at h;·rename_i e _;cases h;subst e;rfl
  ·cases h
 |_=>simp[D1] at h
theorem aeW{d:Cd}{ys:List (d.ty τ.S)}:∀{cs:List Cd}{vs:List (SV τ.S)}{p:aK τ.S cs}{j:Nat},DL τ cs vs=some p->vs[j]?=some (.l d ys)->(EL τ cs p)[j]?=some (.l d ys)
 |[],[],_,_,_,h=>by simp at h
 |[],_::_,_,_,h,_=>by simp[DL] at h
 |[c],[],_,_,h,_=>by simp[DL] at h
 |[c],[v],p,j,h,a=>by
  have h:D1 τ c v=some p:=h
  cases j with
  |zero=>simp at a;subst a;show some (E1 τ c p)=_;rw[Va h]
  |succ j=>simp at a
 |[c],_::_::_,_,_,h,_=>by simp[DL] at h
 |_::_::_,[],_,_,h,_=>by simp[DL] at h
 |c::b::r,v::vs,p,j,h,a=>by
  unfold DL at h
  split at h
  ·rename_i x e
   split at h
   ·rename_i y f
    cases h
    cases j with
    |zero=>simp at a;subst a;show some (E1 τ c x)=_;rw[Va e]
    |succ j=>exact aeW (cs:=b::r) f (by simpa using a)
   ·cases h
  ·cases h
end
section
variable {C:Cf}
theorem D_l{c d:Cd}{vs:List (SV C.τ.S)}{z:c.ty C.τ.S}{ys:List (d.ty C.τ.S)}{j:Nat}(h:vG C c vs=some z)(f:vs[j]?=some (.l d ys)):(E C.τ c z).cs[j]?=some (.l d ys):=by
 unfold vG at h
 have one:∀v,vs=[v]->D C.τ c v=some z->(E C.τ c z).cs[j]?=some (.l d ys):=by
  intro v e g;subst e
  cases j with
  |zero=>
   simp at f;subst f;by_cases a:∃i,c= .st i;·obtain⟨i,rfl⟩:=a;cases g
   ·have a:∀i,c≠ .st i:=λi e=>a ⟨i,e⟩;rw[ae0 a,Va (Mg a g)];rfl
  |succ j=>simp at f
 split at h
 ·rename_i q b;cases h;by_cases a:∃i,c= .st i
  ·obtain⟨i,rfl⟩:=a;simp only[D] at b;split at b;·rename_i p hp;cases b;show (EL C.τ (C.τ.cs i) (C.τ.un i (C.τ.KG i p)))[j]?=_;rw[C.τ.um];exact aeW hp f
   ·cases b
  ·have a:∀i,c≠ .st i:=λi e=>a ⟨i,e⟩;have:=Mg a b;cases c<;>simp[D1] at this
 ·split at h;·exact one _ rfl h
  ·cases h
end
section
variable {τ:Tb}{M:Mem}{ρ:List Loc}{w:World}{c:Cd}{jj:Nat}
theorem dh.set{ho:Option Int}{k:Nat}{xs:List (c.ty τ.S)}{vs:List Value}{O:List Nat}(h:dh τ M ρ w c jj ho k xs vs O):∀{i:Nat}{z:c.ty τ.S}{v:Value}{d:Cd}{ys:List (d.ty τ.S)}{o:List Nat},i<xs.length->(∀q:Nat,q≠k+i->ho≠some (q:Int))->(E τ c z).cs[jj]?=some (.l d ys)->jY τ M ρ w d ys v o->∃e u,dh τ M ρ w c jj none k (xs.set i z) (vs.set i v) e/\(O++o).Perm (e++u):=by
 induction h with
 |nil=>intro i z v d ys o r;simp at r
 | @own k x xs B vs t os d0 C h0 h1 h2 y j=>
  intro i z v d ys o r n p s
  cases i with
  |zero=>
   refine⟨o++os,t,.own sm p s ?_,?_⟩
   ·have:∀{g:Nat}{b a e},dh τ M ρ w c jj ho g b a e->k<g->dh τ M ρ w c jj none g b a e:=by intro g b a e h;induction h with|nil=>intro _;exact .nil|own _ f m _ j=>intro A;exact .own sm f m (j om)|hole f _ _=>intro A;exact absurd f (n _ om)
    exact this y om
   ·have:=(List.perm_append_comm (l₁:=t) (l₂:=os++o));rw[List.append_assoc];exact this.trans (List.Perm.append_right _ List.perm_append_comm)
  |succ i=>obtain⟨e,u,f,m⟩:=j (i:=i) (by simpa using r) (λq D=>n q om) p s;refine⟨t++e,u,.own sm h1 h2 f,?_⟩;rw[List.append_assoc,List.append_assoc];exact m.append_left t
 | @hole k x xs B vs os h1 y j=>
  intro i z v d ys o r n p s
  cases i with
  |zero=>
   refine⟨o++os,[],.own sm p s ?_,by rw[List.append_nil];exact List.perm_append_comm⟩;have:∀{g:Nat}{b a e},dh τ M ρ w c jj ho g b a e->k<g->dh τ M ρ w c jj none g b a e:=by intro g b a e h;induction h with|nil=>intro _;exact .nil|own _ f m _ j=>intro A;exact .own sm f m (j om)|hole f _ _=>intro A;exact absurd f (n _ om)
   exact this y om
  |succ i=>exact absurd h1 (n k om)
theorem dh.rep{d:Cd}:∀(n k:Nat),dh τ M ρ w (.list d) 0 none k (List.replicate n []) (List.replicate n (.slice none 0 0)) []|0,_=> .nil|n+1,k=> .own (o:=[]) (d:=d) (ys:=[]) sm rfl .nil (dh.rep n (k+1))
end
section
variable {β:Type}(C:Cf)(s:Sg C.τ.S)
def Sg.newR(c:Cd)(jj:Nat)(xs:List (c.ty C.τ.S)):Sg C.τ.S:=⟨s.B,s.T,s.Bh,(s.nx,.rr c jj xs (s.nx+1) none)::s.Th,s.nx+2⟩
def Yf(t:TypeId)(x y:Operand)(K:SV C.τ.S->Sg C.τ.S->Option β):Option β:=match qP C.P t with
 |some q=>match C.cd q.1 with
  |some (.list d)=>match rC C.P q.1,s.gets [] x,s.gets [] y,Nat.beq q.2.1 1 with
   |some [.slice none 0 0],some (.i _ l),some (.i _ n),true=>ah (fE q.2.2 l n) (K (.o s.nx) (s.newR C (.list d) 0 (List.replicate l.toNat [])))
   |_,_,_,_=>none
  |_=>Ye C s t x y K
 |none=>none
def aah(ho:Option Int)(i:Int)(r:Option β):Option β:=match ho with|none=>r|some a=>ah (decide (i=a)) r
def Yi(t:TypeId)(x y:Operand)(K:Sg C.τ.S->Option β):Option β:=match s.gets [] x,s.gets [] y with
 |some (.e m n i j),some (.o k)=>match bq s.Th m,bq s.Th k with
  |some (.rr c jj xs _ ho),some (.ls d ys)=>match Nat.beq n (C.τ.aC c),Nat.beq j jj,LM C.P t 1,Nat.beq m k,Nat.blt jj (C.τ.aC c) with
   |true,true,true,false,true=>aah ho i ((idx xs i).bind λz=>match vG C c (DN (E C.τ c z).cs jj [.l d ys]) with
    |some a=>K ⟨s.B,s.T,s.Bh,setH m (.rr c jj (xs.set i.toNat a) s.nx none) (dK k s.Th),s.nx+1⟩
    |none=>none)
   |_,_,_,_,_=>none
  |_,_=>O8 C s t x y K
 |_,_=>O8 C s t x y K
end
section
variable {β:Type}{C:Cf}{s s':Sg C.τ.S}{G p:List (Nat×Bool)}{g:Option Bool}{M:Mem}{ρ ρ' ρ0:List Loc}{H R:Heap C.τ.S}{w w':World}{a:Act}{O O1 O2:List Nat}{y:β}{n nx:Nat}{κ:Ctx C.τ}{Γ:Env C.τ.S}{Q:Exit->Act->World->Prop}
theorem aIE{t:TypeId}{x z:Operand}{K:SV C.τ.S->Sg C.τ.S->Option β}(h:Yf C s t x z K=some y):∃v s',K v s'=some y/\Keep s s'/\Step C n κ ρ0 G s (.makeSlice t x z) (some v) s':=by
 unfold Yf at h;split at h
 ·rename_i q0 V;obtain⟨e,sz,bJ⟩:=q0;split at h
  ·rename_i d hc;split at h
   ·rename_i k1 l k2 q L hx U r;have r:sz=1:=Nat.eq_of_beq_eq_true r;subst r;obtain⟨V,ag⟩:=u6 V;obtain⟨ae,i,f,A,B,mH,O,ao,af⟩:=u7 V;obtain⟨p,h⟩:=jZ h;have p:0<=l/\l<=q/\q*(bJ:Int)<=140737488355328:=by simpa [fE] using p
    obtain⟨o1,o2,o3⟩:=p;have o4:q*1<=q*(bJ:Int):=Int.mul_le_mul_of_nonneg_left om om;refine⟨_,_,h,⟨rfl,rfl,λt=>rfl⟩,λK Q M w a dst ty pos aM gd ⟨h0,ρ,O1,O2,hn,hl,he,h1,h2,W⟩ hk=>?_⟩;have F:=fQ he h1 h2 W;have J:=F.rv hx;have N:=F.rv U;have c:f.cells.toList=[.slice none 0 0]:=by unfold rC at L;have L:((C.P.info? e).bind (·.zero)).map (·.cells.toList)=some [.slice none 0 0]:=L;rw[A] at L;simpa [O] using L
    have Z:aZ C.τ M ρ (E C.τ (.list d) []).cs f.cells.toList:=by rw[c];exact .cons .le .nil
    obtain⟨h4,X⟩:=W.alloc (.cells (madeCells f.cells (q.toNat*1)) e);let k:Loc:=⟨w.heap.size,l.toNat,q.toNat,false,[]⟩;let lh:Loc:=⟨0,0,0,true,List.replicate l.toNat (.slice none 0 0)⟩;have g:Names ρ (ρ++[k,lh]):=λm x h=>by have:=(List.getElem?_eq_some_iff.1 h).1;rw[List.getElem?_append_left this];exact h
    have D:(ρ++[k,lh])[s.nx]?=some k:=by rw[<-hl];simp
    have aa:(ρ++[k,lh])[s.nx+1]?=some lh:=by rw[<-hl];simp
    have H:Row C.τ M ρ (.list d) (List.replicate l.toNat []) (λj=>(madeCells f.cells (q.toNat*C.τ.aC (.list d)))[j]?):=apR Z om
    have hO:RO C.τ M (ρ++[k,lh]) (w.alloc (.cells (madeCells f.cells (q.toNat*1)) e)) s.nx (.rr (.list d) 0 (List.replicate l.toNat []) (s.nx+1) none) (w.heap.size::[]):=by
     refine .rr (l:=k) (lh:=lh) (arr:=madeCells f.cells (q.toNat*1)) (T:=e) D rfl (by simp[k]) ⟨Nat.one_pos,rfl⟩ (by simp[k];omega) (by simp;omega) (heap_alloc_new w _) (by rw[size_madeCells];exact Nat.le_refl _) (H.mono .rfl g) (λj=>W.sat.kE (Nat.le_refl _)) aa (λi' v R=>?_) (dh.rep _ 0);have an:i'<l.toNat:=by have:=(List.getElem?_eq_some_iff.1 R).1;simpa [lh] using this
     have R:v= .slice none 0 0:=by have:=List.mem_of_getElem? R;simp[lh] at this;exact this.2
     subst R;have:=aoo (z:=f.cells) (m:=q.toNat) (i:=i') (j:=0) (by have:=congrArg List.length c;simp at this;omega) om;have ab:f.cells.size=1:=by have:=congrArg List.length c;simpa using this
     rw[ab] at this;have h9:f.cells[0]?=some (.slice none 0 0):=by rw[<-Array.getElem?_toList,c];rfl
     rw[h9] at this;show (madeCells f.cells (q.toNat*1))[i'*1+0]?=_;simpa using this
    have I:(execOp a.eval ⟨dst,.makeSlice t x z,ty,pos,aM,gd⟩).run C.P w= .ok (.value (.slice (some ⟨w.heap.size,0,none⟩) l.toNat q.toNat)) (w.alloc (.cells (madeCells f.cells (q.toNat*1)) e)):=by show (Instr.makeSlice t (a.eval x) (a.eval z) >>= λv=>pure (Next.value v)).run C.P w=_;generalize a.eval x=ax at J |-;generalize a.eval z=az at N |-;cases J;cases N;have:=run_make (P:=C.P) w t e i f ae A O k1 k2 l q o1 o2 (by rw[mH,Int.mul_comm];omega) om;rw[B] at this;exact bQ this
    unfold Oper.wp;rw[I];refine hk M _ _ (ρ++[k,lh]) ((w.heap.size::[])++O1) O2 (hn.trans g) (by simp[hl,Sg.newR]) ((he.ext g (h1.app h2) X).more (x:= .rr (.list d) 0 (List.replicate l.toNat []) (s.nx+1) none) (λ_ _ h=>by cases h)) (.cons hO (h1.ext g (X.sub λb Y=>List.mem_append_left _ Y))) (h2.ext g (X.sub λb Y=>List.mem_append_right _ Y)) h4 λu e=>?_;cases e;exact .v (RV.o (τ:=C.τ) (M:=M) D)
   ·cases h
  ·exact aID h
 ·cases h
theorem azt{ho:Option Int}{i:Int}{r:Option β}(h:aah ho i r=some y):(ho=none\/ho=some i)/\r=some y:=by
 unfold aah at h;split at h;·exact⟨.inl rfl,h⟩
 ·rename_i a;obtain⟨h1,h2⟩:=jZ h;have:i=a:=by simpa using h1
  subst this;exact⟨.inr rfl,h2⟩
theorem aog{S:Nat->Type}{m k:Nat}(a:m≠k):∀{H:Heap S},bq (dK k H) m=bq H m
 |[]=>rfl
 |(q,x)::r=>by
  unfold dK
  split
  ·rename_i e
   have e:=Nat.eq_of_beq_eq_true e
   simp only at e
   subst e
   simp[bq,ED (Ne.symm a)]
  ·unfold bq
   rw[aog a]
theorem aIH{t:TypeId}{x z:Operand}{K:Sg C.τ.S->Option β}(h:Yi C s t x z K=some y):∃s',K s'=some y/\Keep s s'/\Step C n κ ρ0 G s (.store t x z) none s':=by
 unfold Yi at h;split at h
 ·rename_i m n' i j k hx hz;split at h
  ·rename_i c jj xs hh ho d ys hm bn;split at h
   ·rename_i O hj bv N L;have O:=Nat.eq_of_beq_eq_true O;have hj:=Nat.eq_of_beq_eq_true hj;subst O hj;have N:m≠k:=λe=>by subst e;simp at N
    have L:j<C.τ.aC c:=by simpa [Nat.blt_eq] using L
    obtain⟨ht,bu⟩:=aes bv;obtain⟨bk,h⟩:=azt h;obtain⟨z0,hi,h⟩:=bind_some h;split at h
    ·rename_i I hD;refine⟨_,h,⟨rfl,rfl,λt=>rfl⟩,λK Q M w a dst ty pos aM gd ⟨h0,ρ,O1,O2,hn,hl,he,h1,h2,h3⟩ hk=>?_⟩;have hr:=fQ he h1 h2 h3;have hp:=hr.rv hx;have aq:=hr.rv hz;obtain⟨b6,ae,af⟩:=wX hi
     obtain⟨J,g⟩:∃J,s.Th.Perm ((k,.ls d ys)::(m,.rr c j xs hh ho)::J)/\(setH m (SO.rr c j (xs.set i.toNat I) s.nx none) (dK k s.Th)).Perm ((m,SO.rr c j (xs.set i.toNat I) s.nx none)::J):=by
      have p1:=vZ (C:=C) bn;have br:bq (dK k s.Th) m=some (.rr c j xs hh ho):=by rw[aog N];exact hm
      obtain⟨J,p2,p3⟩:=DK (y:=SO.rr c j (xs.set i.toNat I) s.nx none) br;exact⟨J,p1.trans (p2.cons _),p3⟩
     obtain⟨g,zh⟩:=g;obtain⟨bN,a3,hO⟩:=h1.perm g;have a4:=h3.perm hO;generalize a7:a.eval x=ax at hp;generalize a8:a.eval z=az at aq;cases hp with| @e _ _ _ _ l0 b1=>
     cases aq with| @o _ B H=>
     cases a3 with| @cons _ _ ok b7 _ bb a6=>
     cases a6 with| @cons _ _ om f _ r hH=>
     cases r with|jg=>simp at ae;omega| @rr _ _ _ _ T _ l lh arr os e1 e2 e3 e4 e5 e6 e7 e8 e9 aa b4 a1 a2=>
     have bo:l=l0:=Option.some.inj (e1.symm.trans b1);subst bo
     have Zr:jY C.τ M ρ w d ys B.sl ok/\RV C.τ M ρ (.l d ys) B.sl:=by
      cases bb with
      |iR k1 k2=>have:=Option.some.inj (k1.symm.trans H);subst this;unfold Loc.sl;rw[k2];exact⟨.nil,.le⟩
      | @ls _ _ Tk W EB k1 k2 k3 k4 k5 k6 k7 k8 k9 V b2=>
       have:=Option.some.inj (k1.symm.trans H);subst this;have e:W.sl= .slice (some ⟨W.b,0,none⟩) ys.length W.cap:=by unfold Loc.sl;rw[k2,k3]
       rw[e] at V |-;exact⟨.own k4 k5 k6 k7 k8 k9 V b2,V⟩
     obtain⟨Zr,bw⟩:=Zr
     have bh:(DN (E C.τ c z0).cs j [.l d ys])[j]?=some (.l d ys):=by
      have:j<(E C.τ c z0).cs.length:=by rw[jd];exact L
      simp[DN,this]
     have a5:=D_l hD bh;have bm:(i.toNat+1)*C.τ.aC c<=xs.length*C.τ.aC c:=Nat.mul_le_mul_right _ om;have ab:xs.length*C.τ.aC c<=arr.size:=Nat.le_trans (Nat.mul_le_mul_right _ e5) e8;rw[Nat.succ_mul] at bm;have b5:=e7;rw[WO arr] at e7;have iO:aZ C.τ M ρ [.l d ys] [B.sl]:= .cons bw .nil;have be:(B.sl).cells=[B.sl].toArray:=by unfold Loc.sl;split<;>rfl
     have aE:SM κ M w (l.b::(os++(ok++f))) O2:=a4.perm (by show (ok++((l.b::os)++f)).Perm (l.b::(os++(ok++f)));have:(ok++(l.b::(os++f))).Perm (l.b::(ok++(os++f))):=List.perm_middle;refine this.trans (List.Perm.cons _ ?_);rw[<-List.append_assoc,<-List.append_assoc];exact List.Perm.append_right _ List.perm_append_comm);obtain⟨w',ap,hf,_,a9,ag⟩:=adX (P:=C.P) (o:=i.toNat*C.τ.aC c+j) (t:=t) be rfl e7 (by simp;omega) iO.one ht bu;obtain⟨h4,h5⟩:=SM.change (w':=w') aE (λj v e=>by rw[aa j] at e;cases e) hf ag;have bH:Ext os M M w w':=h5.sub λb r=>by simp[r]
     have bL:Ext ok M M w w':=h5.sub λb r=>by simp[r]
     have bY:Ext f M M w w':=h5.sub λb r=>by simp[r]
     obtain⟨D,Og,t1,t2⟩:=(a2.ext Names.rfl bH).set (i:=i.toNat) (z:=I) (v:=B.sl) om (λq F=>by
      rcases bk with rfl|rfl;·simp
      ·intro e;have:=Option.some.inj e;omega) a5 (Zr.ext Names.rfl bL)
     let Z:Loc:=⟨0,0,0,true,lh.hs.set i.toNat B.sl⟩;have A:Names ρ (ρ++[Z]):=fF;have an:(ρ++[Z])[s.nx]?=some Z:=by rw[<-hl];simp
     have aw:((arr.toList.drop (i.toNat*C.τ.aC c)).take (C.τ.aC c)).length=C.τ.aC c:=by simp;omega
     have ao:=Row.set (z':=I) (j:=j) (us:=[B.sl]) (cs:=[.l d ys]) e9 af ab iO (by simp;omega) (by
      intro q u hu X p;have hold:aZ C.τ M ρ (E C.τ c z0).cs ((arr.toList.drop (i.toNat*C.τ.aC c)).take (C.τ.aC c)):=aZ.of (by rw[aw,jd]) λq' u' X h1 h2=>by obtain⟨b3,Y,g2⟩:=e9 _ _ af q' u' h1;have:=take_drop h2;have Y:arr[i.toNat*C.τ.aC c+q']?=some b3:=Y;rw[Array.getElem?_toList] at this;rw[this] at Y;cases Y;exact g2
      exact (Hq hD (Uo (C:=C) j iO hold)).at hu p)
     have BN:RH C.τ M (ρ++[Z]) w' ((m,.rr c j (xs.set i.toNat I) s.nx none)::J) ((l.b::D)++f):= .cons (.rr (l:=l) (lh:=Z) (arr:=(fZ arr.toList (i.toNat*C.τ.aC c+j) [B.sl]).toArray) (T:=T) (A _ _ e1) e2 (by simpa using e3) e4 (by simpa using e5) (by simpa using e6) a9 (by simp[Ls];omega) (Row.mono .rfl A (by intro U x' bz q u hu;obtain⟨X,Y,g2⟩:=ao U x' bz q u hu;exact⟨X,by simpa using Y,g2⟩)) aa an (λU X p=>?_) (t1.ext A Ext.refl)) ((hH.ext A bY))
     ·obtain⟨O3,h6,h7⟩:=BN.back zh (O2:=O2) (κ:=κ) (by
       refine SM.GD (SM.perm h4 (O':=((l.b::D)++f)++Og) ?_) (List.sublist_append_left _ _);show (l.b::(os++(ok++f))).Perm (l.b::D++f++Og);have q1:(os++(ok++f)).Perm ((D++Og)++f):=by rw[<-List.append_assoc];exact t2.append_right f
       have q2:((D++Og)++f).Perm ((D++f)++Og):=by rw[List.append_assoc,List.append_assoc];exact List.perm_append_comm.append_left D
       exact (q1.trans q2).cons l.b)
      have R:(execOp a.eval ⟨dst,.store t x z,ty,pos,aM,gd⟩).run C.P w= .ok .skip w':=by have b0:(Instr.storeAt t (.pointer (some ⟨l.b,i.toNat*C.τ.aC c+j,none⟩)) (B.sl)).run C.P w= .ok () w':=ap;show ((Instr.storeAt t (a.eval x) (a.eval z)) >>= λ_=>pure Next.skip).run C.P w=_;rw[a7,a8,run_bind_ok b0];rfl
      unfold Oper.wp;rw[R];refine hk M w' undef (ρ++[Z]) O3 O2 (hn.trans A) (by simp[hl]) ?_ h6 (h2.ext A (h5.sub λb r=>by simp[r])) h7 (λu e=>by cases e)
      have bi:=he.perm (H':=J++s.Bh) (λq F=>by
       rcases List.mem_append.1 F with F|F;·exact List.mem_append_left _ (g.mem_iff.2 (List.mem_cons_of_mem _ (List.mem_cons_of_mem _ F)))
       ·exact List.mem_append_right _ F)
      have bj:=(bi.ext A (hH.app h2) (h5.sub λb r=>by
       rcases List.mem_append.1 r with r|r;·simp[r]
       ·simp[r])).more (m:=m) (x:= .rr c j (xs.set i.toNat I) s.nx none) (λ_ _ e=>by cases e)
      exact bj.perm λq F=>(zh.append_right s.Bh).mem_iff.1 F
     ·show (fZ arr.toList (i.toNat*C.τ.aC c+j) [B.sl]).toArray[U*C.τ.aC c+j]?=some X;have p:(lh.hs.set i.toNat B.sl)[U]?=some X:=p;simp only[fZ,List.getElem?_toArray];by_cases e:i.toNat=U
      ·subst e;have bp:i.toNat<lh.hs.length:=by have:=(List.getElem?_eq_some_iff.1 p).1;simpa using this
       rw[List.getElem?_set_self bp] at p;rw[List.getElem?_set_self (by simp;omega)];exact p
      ·rw[List.getElem?_set_ne e] at p;have bt:i.toNat*C.τ.aC c+j≠U*C.τ.aC c+j:=λh=>e (Nat.eq_of_mul_eq_mul_right e4.1 om);rw[List.getElem?_set_ne bt];simpa using a1 U X p
    ·cases h
   ·cases h
  ·exact aqs h
 ·exact aqs h
end
end Go.R
