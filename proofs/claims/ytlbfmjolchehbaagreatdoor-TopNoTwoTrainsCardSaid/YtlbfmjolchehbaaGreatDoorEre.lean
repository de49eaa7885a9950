/- Several parts of the engine, one behind the other. -/
import Derived.Test.YtlbfmjolchehbaaGreatDoorErd
set_option linter.all false
namespace Go.R
open Go.RowKit Go.Dc
def Jm{S:Nat->Type}:(c:Cd)->c.ty S->c.ty S->Bool| .str,x,y=>decide (x=y)| .int _,x,y=>decide (x=y)|_,_,_=>false
def qM{S:Nat->Type}:(c:Cd)->c.ty S->List (c.ty S)->Bool| .str,x,l=>pE x l| .int _,x,l=>sQ x l|_,_,_=>false
def FB{S:Nat->Type}:(c:Cd)->c.ty S->List (c.ty S)->List (c.ty S)| .str,x,l=>aaV x l| .int _,x,l=>aaT x l|_,_,l=>l
def mO:Option TypeDesc->Cd->Bool|some .string,.str=>true|some (.int _),.int _=>true|_,_=>false
def Lu(P:Program)(t:TypeId)(c:Cd):Bool:=match P.underlying t with
 |some (.map k e)=>match mO (P.underlying k) c,Md P e with|true,some (.bool false)=>true|_,_=>false
 |_=>false
theorem ap9{P:Program}{t:TypeId}{c:Cd}(h:Lu P t c=true):∃k e d,P.underlying t=some (.map k e)/\P.underlying k=some d/\mO (some d) c=true/\Md P e=some (.bool false):=by
 unfold Lu at h;split at h
 ·rename_i k e b;split at h;·rename_i h1 h2;cases a:P.underlying k with|none=>rw[a] at h1;simp[mO] at h1|some d=>rw[a] at h1;exact⟨k,e,d,b,a,h1,h2⟩
  ·cases h
 ·cases h
theorem aqu(s r:Str):(s.ba==r.ba)=decide (s=r):=by
 rw[beq_toListBytes,aej];by_cases h:s=r;·subst h;simp
 ·have:s.ba≠r.ba:=λe=>h (Str.WR e);simp[h,this]
section
variable {S:Nat->Type}
theorem aD6{d:TypeDesc}{c:Cd}(h:mO (some d) c=true)(x y:c.ty S):Instr.sameNow d (kv c x) (kv c y)=some (Jm c x y):=by
 unfold mO at h;split at h;·rename_i e;cases e;show some (Str.ba x==Str.ba y)=some (decide (x=y));rw[aqu]
 ·rename_i a k e;cases e;show (if k=k then some ((x:Int)==y) else none)=some (decide ((x:Int)=y));simp only[if_true];by_cases h:(x:Int)=y<;>simp[h]
 ·cases h
theorem aCS{d:TypeDesc}{c:Cd}(h:mO (some d) c=true)(x r:c.ty S)(l:List (c.ty S)):qM c x (r::l)=(Jm c x r||qM c x l):=by
 unfold mO at h;split at h;·show pE x (r::l)=(decide (x=r)||pE x l);show (match decide ((x:Str)=r) with|true=>true|false=>pE x l)=_;cases decide ((x:Str)=r)<;>rfl
 ·show sQ x (r::l)=(decide (x=r)||sQ x l);show (match decide ((x:Int)=r) with|true=>true|false=>sQ x l)=_;cases decide ((x:Int)=r)<;>rfl
 ·cases h
theorem aCT{c:Cd}(x:c.ty S):qM c x []=false:=by cases c<;>rfl
theorem avH{c:Cd}{x y:c.ty S}(h:Jm c x y=true):x=y:=by cases c with|str=>exact of_decide_eq_true h|int k=>exact of_decide_eq_true h|_=>cases h
theorem aD5{d:TypeDesc}{c:Cd}(h:mO (some d) c=true)(x:c.ty S)(n:Nat):Instr.sameBits n (kv c x) (kv c x)=true:=by
 unfold mO at h;split at h
 ·have:(Str.ba x==Str.ba x)=true:=by rw[aqu];simp
  cases n<;>simpa [kv,Instr.sameBits] using this
 ·cases n<;>simp[kv,Instr.sameBits]
 ·cases h
theorem aiB{d:TypeDesc}{c:Cd}(a:mO (some d) c=true)(s:c.ty S):∀(xs:List (c.ty S)) (es:List MapEntry) (i:Nat),es.map (λe=>(e.key,e.val))=xs.map (λx=>(kv c x,Value.bool true))->(qM c s xs=true->∃j e,Instr.findNow d (kv c s) es i=some (some (i+j,.bool true))/\es[j]?=some e/\e.key=kv c s/\e.val= .bool true)/\(qM c s xs=false->Instr.findNow d (kv c s) es i=some none)
 |[],es,i,h=>by
  have:es=[]:=by simpa using h
  subst this
  exact⟨λh=>(by rw[aCT] at h;cases h),λ_=>rfl⟩
 |r::xs,[],i,h=>by simp at h
 |r::xs,e::es,i,h=>by
  simp only[List.map_cons,List.cons.injEq,Prod.mk.injEq] at h
  obtain⟨⟨h1,h2⟩,o⟩:=h
  have g:=aiB a s xs es (i+1) o
  have hs:Instr.sameNow d (kv c s) e.key=some (Jm c s r):=by rw[h1];exact aD6 a s r
  rw[aCS a]
  cases b:Jm c s r with
  |true=>
   rw[b] at hs
   refine⟨λ_=>⟨0,e,?_,rfl,?_,h2⟩,λh=>by simp at h⟩
   ·simp only[Instr.findNow,hs,h2,Nat.add_zero]
   ·rw[h1,avH b]
  |false=>
   rw[b] at hs
   refine⟨λf=>?_,λf=>?_⟩
   ·obtain⟨j,k,l,m,n⟩:=g.1 (by simpa using f)
    refine⟨j+1,k,?_,by simpa using m,n⟩
    simp only[Instr.findNow,hs,l]
    rw[show i+1+j=i+(j+1) by omega]
   ·simp only[Instr.findNow,hs]
    exact g.2 (by simpa using f)
theorem run_checkKey{P:Program}{k:TypeId}{b:Bool}{d:TypeDesc}{c:Cd}{x:c.ty S}{w:World}(f:P.underlying k=some d)(a:mO (some d) c=true):(Instr.checkKey b 10000 k (kv c x)).run P w= .ok () w:=by
 unfold Instr.checkKey;rw[run_bind_ok (fH f w)];unfold mO at a;split at a;·rename_i e;cases e;rfl
 ·rename_i e;cases e;rfl
 ·cases a
theorem run_findKey{P:Program}{k:TypeId}{d:TypeDesc}{c:Cd}{s:c.ty S}{xs:List (c.ty S)}{es:List MapEntry}{w:World}(f:P.underlying k=some d)(g:mO (some d) c=true)(h:es.map (λe=>(e.key,e.val))=xs.map (λx=>(kv c x,Value.bool true))):(qM c s xs=true->∃j e,(Instr.findKey k (kv c s) es).run P w= .ok (some (j,.bool true)) w/\es[j]?=some e/\e.key=kv c s/\e.val= .bool true)/\(qM c s xs=false->(Instr.findKey k (kv c s) es).run P w= .ok none w):=by
 have b:=aiB g s xs es 0 h;constructor;·intro a;obtain⟨j,e,i,h2⟩:=b.1 a;refine⟨j,e,?_,h2⟩;unfold Instr.findKey;rw[run_bind_ok (fH f w),i,Nat.zero_add];rfl
 ·intro a;unfold Instr.findKey;rw[run_bind_ok (fH f w),b.2 a];rfl
end
theorem run_getObj_map{P:Program}{b:Nat}{es:Array MapEntry}{clock:Nat}{w:World}(h:w.heap[b]?=some (.map es clock)):(getObj b).run P w= .ok (.map es clock) w:=by simp[getObj,Sem.run,h]
section
variable {β:Type}(C:Cf)(s:Sg C.τ.S)(p:List (Nat×Bool))
def YH(t:TypeId)(x y:Operand)(K:SV C.τ.S->Option β):Option β:=match s.gets p x with
 |some (.m m)=>match s.bq m,s.gets p y with
  |some (.se c xs),some v=>match Lu C.P t c,D C.τ c v with
   |true,some q=>K (.b (qM c q xs))
   |_,_=>none
  |_,_=>none
 |_=>none
def aCu(t:TypeId):Option Cd:=match C.P.underlying t with|some (.map k _)=>C.cd k|_=>none
def Yg(t:TypeId)(K:SV C.τ.S->Sg C.τ.S->Option β):Option β:=match aCu C t with
 |some c=>match Lu C.P t c with
  |true=>K (.m s.nx) ⟨s.B,s.T,s.Bh,(s.nx,.se c [])::s.Th,s.nx+1⟩
  |false=>none
 |none=>none
def Yh(t:TypeId)(x y z:Operand)(K:Sg C.τ.S->Option β):Option β:=match s.gets [] x with
 |some (.m m)=>match bq s.Th m,s.gets [] y,s.gets [] z with
  |some (.se c xs),some v,some (.b true)=>match Lu C.P t c,D C.τ c v with
   |true,some q=>K ⟨s.B,s.T,s.Bh,setH m (.se c (FB c q xs)) s.Th,s.nx⟩
   |_,_=>none
  |_,_,_=>none
 |_=>none
end
section
variable {β:Type}{C:Cf}{s s':Sg C.τ.S}{G p:List (Nat×Bool)}{g:Option Bool}{M:Mem}{ρ ρ' ρ0:List Loc}{H R:Heap C.τ.S}{w w':World}{a:Act}{O O1 O2:List Nat}{y:β}{n nx:Nat}{κ:Ctx C.τ}{Γ:Env C.τ.S}{Q:Exit->Act->World->Prop}
theorem apL{c:Cd}{q:c.ty C.τ.S}{x:Value}{d:TypeDesc}(a:mO (some d) c=true)(h:RG C.τ M ρ G (E C.τ c q) x):x=kv c q:=by
 cases c with
 |str=>cases h with|v h=>cases h;rfl
 |int k=>cases h with|v h=>cases h;rfl
 |_=>cases d<;>cases a
theorem av3{x z:Operand}{t:TypeId}{K:SV C.τ.S->Option β}(h:YH C s p t x z K=some y):∃v,K v=some y/\Ev C s G p (.lookup t x z false) v:=by
 unfold YH at h;split at h
 ·rename_i m V;split at h
  ·rename_i c xs v Q W;split at h
   ·rename_i q T I;obtain⟨k,e,d,U,u,g,n⟩:=ap9 T;refine⟨_,h,λM ρ H w a O i=>?_⟩;have hp:=i.rv V;have R:=apL g (Ap I (i.gets W));obtain⟨A,ob,ho,f⟩:=i.obj _ _ Q;refine⟨.bool (qM c q xs),.v .b,λw' N dst ty pos aM Z=>?_⟩;show (Instr.lookup t (a.eval x) (a.eval z) false >>= λv=>pure (Next.value v)).run C.P w'=_;generalize a.eval x=ax at hp |-;rw[R];cases hp with| @m _ l o=>
    cases ho with| @se _ _ B es clock D E F Y=>
    have:B=l:=Option.some.inj (D.symm.trans o);subst this;have J:w'.heap[B.b]?=some (.map es clock):=(N.2 _ (f _ sm)).trans E;refine bQ ?_;unfold Instr.lookup;rw[run_bind_ok (fH U w')];simp only[];rw[run_bind_ok (run_getObj_map J)];show (Instr.checkKey es.isEmpty 10000 k (kv c q) >>= _).run C.P w'=_;rw[run_bind_ok (run_checkKey u g)];have r:=run_findKey (P:=C.P) (w:=w') (s:=q) u g F;cases hs:qM c q xs with|true=>obtain⟨j,X,L,_⟩:=r.1 hs;rw[run_bind_ok L];rfl|false=>rw[run_bind_ok (r.2 hs)];simp only[];show (zeroValue e >>= _).run C.P w'=_;rw[run_bind_ok (adY n w')];rfl
   ·cases h
  ·cases h
 ·cases h
theorem aIF{t:TypeId}{K:SV C.τ.S->Sg C.τ.S->Option β}(h:Yg C s t K=some y):∃v s',K v s'=some y/\Keep s s'/\Step C n κ ρ0 G s (.makeMap t none) (some v) s':=by
 unfold Yg at h;split at h
 ·rename_i c E;split at h
  ·rename_i F;refine⟨_,_,h,⟨rfl,rfl,λt=>rfl⟩,λK Q M w a dst ty pos aM r ⟨h0,ρ,O1,O2,D,q,A,h1,h2,p⟩ B=>?_⟩;obtain⟨z,k⟩:=p.alloc (.map #[] 0);let i:Loc:=⟨w.heap.size,0,0,false,[]⟩;have d:Names ρ (ρ++[i]):=fF;have f:(ρ++[i])[s.nx]?=some i:=by rw[<-q];simp
   have g:(execOp a.eval ⟨dst,.makeMap t none,ty,pos,aM,r⟩).run C.P w= .ok (.value (.map (some w.heap.size))) (w.alloc (.map #[] 0)):=rfl;unfold Oper.wp;rw[g];refine B M _ _ (ρ++[i]) (w.heap.size::O1) O2 (D.trans d) (by simp[q]) ((A.ext d (h1.app h2) k).more (x:= .se c []) (λ_ _ h=>by cases h)) (.cons (.se (l:=i) (es:= #[]) (clock:=0) f (heap_alloc_new w _) (show VL C.τ c [] (#[]:Array MapEntry).toList from rfl) λj=>p.sat.kE (Nat.le_refl _)) (h1.ext d (k.sub λb o=>List.mem_append_left _ o))) (h2.ext d (k.sub λb o=>List.mem_append_right _ o)) z λu e=>?_;cases e;exact .v (RV.m (τ:=C.τ) (M:=M) f)
  ·cases h
 ·cases h
theorem aIG{t:TypeId}{x z u:Operand}{K:Sg C.τ.S->Option β}(h:Yh C s t x z u K=some y):∃s',K s'=some y/\Keep s s'/\Step C n κ ρ0 G s (.mapUpdate t x z u) none s':=by
 unfold Yh at h;split at h
 ·rename_i m hx;split at h
  ·rename_i c xs v hm hz ap;split at h
   ·rename_i q ht hD;obtain⟨k,e,d,hu,hk,B,az⟩:=ap9 ht;refine⟨_,h,⟨rfl,rfl,λt=>rfl⟩,λK Q M w a dst ty pos aM gd ⟨h0,ρ,O1,O2,hn,hl,he,h1,h2,h3⟩ ae=>?_⟩;have hr:=fQ he h1 h2 h3;have hp:=hr.rv hx;have A:=apL B (Ap hD (hr.gets hz));have Y:=hr.b ap;obtain⟨Hr,r,zh⟩:=DK (y:=SO.se c (FB c q xs)) hm;obtain⟨bN,T,hO⟩:=h1.perm r;have U:=h3.perm hO;generalize W:a.eval x=ax at hp;cases hp with| @m _ l0 aw=>
    cases T with| @cons _ _ o os _ g hH=>
    cases g with| @se _ _ l es clock e1 J O e4=>
    have af:l=l0:=Option.some.inj (e1.symm.trans aw);subst af
    obtain⟨p,f,F,N⟩:∃p f,(Instr.mapUpdate t (.map (some l.b)) (kv c q) (.bool true)).run C.P w= .ok () {w with heap:=w.heap.setIfInBounds l.b (.map p f)}/\VL C.τ c (FB c q xs) p.toList:=by
     have hf:=run_findKey (P:=C.P) (w:=w) (s:=q) hk B O
     have D:∀b,qM c q xs=b->FB c q xs=match b with|true=>xs|false=>xs++[q]:=by
      intro b g;unfold mO at B;split at B;·show aaV q xs=_;unfold aaV;have:pE q xs=b:=g;rw[this];cases b<;>rfl
      ·show aaT q xs=_;unfold aaT;have:sQ q xs=b:=g;rw[this];cases b<;>rfl
      ·cases B
     cases hs:qM c q xs with
     |true=>
      obtain⟨j,en,hj,g1,g2,g3⟩:=hf.1 hs;refine⟨es.modify j λe=>{e with key:=kv c q,val:= .bool true},clock,?_,?_⟩
      ·unfold Instr.mapUpdate;rw[run_bind_ok (fH hu w)];simp only[];rw[run_bind_ok (run_getObj_map J)];simp only[];rw[run_bind_ok (run_checkKey hk B),run_bind_ok hj];simp only[];have L:((es[j]?).map (·.key)).getD (kv c q)=kv c q:=by rw[<-Array.getElem?_toList,g1];exact g2
       rw[L];have ao:(Instr.keyThatStays (kv c q) (kv c q)).run C.P w= .ok (kv c q) w:=by unfold Instr.keyThatStays;rw[if_pos (aD5 B q 10000)];rfl
       rw[run_bind_ok ao];simp[setObj,Sem.run,J]
      ·rw[D true hs];show (es.modify j _).toList.map _=_;rw[<-O];apply List.ext_getElem?;intro i;simp only[Array.toList_modify,List.getElem?_map,List.getElem?_modify];by_cases e:j=i;·subst e;rw[g1];simp[g2,g3]
       ·simp[e]
     |false=>
      refine⟨es.push ⟨kv c q,.bool true,clock⟩,clock+1,?_,?_⟩;·unfold Instr.mapUpdate;rw[run_bind_ok (fH hu w)];simp only[];rw[run_bind_ok (run_getObj_map J)];simp only[];rw[run_bind_ok (run_checkKey hk B),run_bind_ok (hf.2 hs)];simp[setObj,Sem.run,J]
      ·rw[D false hs];show (es.push _).toList.map _=_;have R:es.toList.map (λe=>(e.key,e.val))=xs.map (λx=>(kv c x,Value.bool true)):=O;simp[R]
    generalize I:({w with heap:=w.heap.setIfInBounds l.b (.map p f)}:World)=w' at F;have ag:l.b<w.heap.size:=(Array.getElem?_eq_some_iff.1 J).1;have X:w'.heap[l.b]?=some (.map p f):=by subst I;simp[ag]
    have E:∀k,k≠l.b->w'.heap[k]?=w.heap[k]?:=λk an=>by subst I;simp[Array.getElem?_setIfInBounds_ne (Ne.symm an)]
    have ab:Frame [l.b] w w':=by subst I;exact⟨rfl,rfl,rfl,sm,λk _ hn=>E k (by simpa using hn)⟩
    obtain⟨h4,V⟩:=SM.change (w':=w') U (λj v e=>by rw[e4 j] at e;cases e) ab E;have aq:Ext os M M w w':=V.sub λb g=>by simp[g]
    have BN:RH C.τ M ρ w' ((m,.se c (FB c q xs))::Hr) ([l.b]++os):= .cons (.se e1 X N e4) (hH.ext Names.rfl aq);obtain⟨O3,h6,h7⟩:=BN.back zh (O2:=O2) (κ:=κ) h4;have H:(execOp a.eval ⟨dst,.mapUpdate t x z u,ty,pos,aM,gd⟩).run C.P w= .ok .skip w':=by show ((Instr.mapUpdate t (a.eval x) (a.eval z) (a.eval u)) >>= λ_=>pure Next.skip).run C.P w=_;rw[W,A,Y,run_bind_ok F];rfl
    unfold Oper.wp;rw[H];refine ae M w' undef ρ O3 O2 hn hl ?_ h6 (h2.ext Names.rfl (V.sub λb g=>by simp[g])) h7 (λu e=>by cases e)
    have Z:=he.perm (H':=Hr++s.Bh) (λq A=>by
     rcases List.mem_append.1 A with A|A;·exact List.mem_append_left _ (r.mem_iff.2 (List.mem_cons_of_mem _ A))
     ·exact List.mem_append_right _ A)
    have aa:=(Z.ext Names.rfl (hH.app h2) (V.sub λb g=>by
     rcases List.mem_append.1 g with g|g;·simp[g]
     ·simp[g])).more (m:=m) (x:= .se c (FB c q xs)) (λ_ _ e=>by cases e)
    exact aa.perm λq A=>(zh.append_right s.Bh).mem_iff.1 A
   ·cases h
  ·cases h
 ·cases h
end
end Go.R
namespace Go.R
open Go.RowKit Go.Dc
section
variable {β:Type}(C:Cf)(s:Sg C.τ.S)(p:List (Nat×Bool))(g:Option Bool)
def Za(t:TypeId)(b:Nat):Option (Nat×(Σ c:Cd,List (c.ty C.τ.S))):=match C.P.underlying t,C.τ.gm b with
 |some (.array k e),some l=>match C.cd e,qh (S:=C.τ.S) l with
  |some c,some cs=>match Bq C c k cs,Nat.blt 0 (C.τ.aC c),IK C.P t with
   |some xs,true,some a=>match Nat.beq a.2 (C.τ.aC c) with|true=>some (a.1,⟨c,xs⟩)|false=>none
   |_,_,_=>none
  |_,_=>none
 |_,_=>none
def YG(t:TypeId)(x:Operand)(K:SV C.τ.S->Option β):Option β:=match x with
 | .global b=>match C.τ.gm b,zO C.P t with
  |some l,some na=>match qh (S:=C.τ.S) l with
   |some cs=>match yK C na.1 na.2 (cs.take na.1) with|some v=>K v|none=>none
   |none=>none
  |_,_=>none
 |_=>YF C s p g t x K
def YD(t:TypeId)(x y:Operand)(K:SV C.τ.S->Option β):Option β:=match x with
 | .global b=>match Za C t b,s.gets p y with
  |some q,some (.i _ i)=>rV g (decide (0<=i/\i<(q.1:Int))) (wF C g q.2.1 (idx q.2.2 i) λz=>K (.q q.2.1 z 0))
  |_,_=>none
 |_=>YC C s p g t x y K
end
section
variable {β:Type}{C:Cf}{s:Sg C.τ.S}{G p:List (Nat×Bool)}{g:Option Bool}{M:Mem}{ρ:List Loc}{H:Heap C.τ.S}{w:World}{a:Act}{O:List Nat}{y:β}{K:SV C.τ.S->Option β}
theorem av2{t:TypeId}{x:Operand}(k:GT G p g)(h:YG C s p g t x K=some y):∃v,K v=some y/\Ev C s G p (.load t x) v:=by
 unfold YG at h;split at h
 ·rename_i b;split at h
  ·rename_i l na n q;split at h
   ·rename_i cs d;split at h
    ·rename_i v r;refine⟨v,h,λM ρ H w a O o=>?_⟩;obtain⟨x,f,i⟩:=Ey (G:=G) q r ((uq (M:=M) (ρ:=ρ) d).take na.1);refine⟨x,f,λw' e dst ty pos aM u=>?_⟩;refine bQ (i w' b 0 λj z c=>?_)
     have m:l[j]?=some z:=by
      rw[List.getElem?_take] at c;split at c;·exact c
      ·cases c
     rw[Nat.zero_add];exact e.1 b j z (o.env.gm b l n j z m)
    ·cases h
   ·cases h
  ·cases h
 ·exact av1 k h
theorem awF{t:TypeId}{b:Nat}{q:Nat×(Σ c:Cd,List (c.ty C.τ.S))}(h:Za C t b=some q)(w:GM C.τ M):IK C.P t=some (q.1,C.τ.aC q.2.1)/\∀i z,q.2.2[i]?=some z->RV C.τ M ρ (.q q.2.1 z 0) (.pointer (some ⟨b,i*C.τ.aC q.2.1,none⟩)):=by
 unfold Za at h;split at h
 ·rename_i k e l f y;split at h
  ·rename_i c cs D g;split at h
   ·rename_i xs E n h0 m;split at h
    ·rename_i d;have d:=Nat.eq_of_beq_eq_true d;cases h;have h0:0<C.τ.aC c:=by simpa [Nat.blt_eq] using h0
     obtain⟨A,B,p⟩:=chunk_ok (M:=M) (ρ:=ρ) h0 n (uq g);refine⟨by rw[m,<-d],λi z s=>?_⟩;have:=RV.q (τ:=C.τ) (M:=M) (ρ:=ρ) (c:=c) (x:=z) (j:=0) (b:=b) (o:=i*C.τ.aC c) (λk=>(l[i*C.τ.aC c+k]?).getD undef) (λk u f=>?_) (λk u f=>?_);·simpa using this
     ·obtain⟨v,a,r⟩:=p i z s k u f;have a:l[i*C.τ.aC c+k]?=some v:=a;rw[a];exact w b l y _ _ a
     ·obtain⟨v,a,r⟩:=p i z s k u f;have a:l[i*C.τ.aC c+k]?=some v:=a;rw[a];exact r
    ·cases h
   ·cases h
  ·cases h
 ·cases h
theorem avZ{t:TypeId}{x e:Operand}(d:GT G p g)(h:YD C s p g t x e K=some y):∃v,K v=some y/\Ev C s G p (.indexAddr t x e) v:=by
 unfold YD at h;split at h
 ·rename_i b;split at h
  ·rename_i q k i u A;obtain⟨h1,h2⟩:=uz d h;obtain⟨z,l,n⟩:=BI d h1;refine⟨_,l,λM ρ H w a O c=>?_⟩;have r:0<=i/\i<(q.1:Int):=by simpa using h2 c.hold
   obtain⟨_,_,B⟩:=wX (n c.hold);obtain⟨f,j⟩:=awF (ρ:=ρ) u c.env.gm;refine⟨_,.v (j _ z B),λw' _ dst ty pos aM D=>?_⟩;show (Instr.indexAt t (.pointer (some ⟨b,0,none⟩)) (a.eval e) >>= λv=>pure (Next.value v)).run C.P w'=_;rw[c.i A];have:=bQ (apY (P:=C.P) (b:=b) (o:=0) (m:=q.1) (sz:=C.τ.aC q.2.1) (k:=k) f r w');simpa using this
  ·cases h
 ·exact avY d h
end
end Go.R
namespace Go.R
open Go.RowKit Go.Dc
section
variable {β:Type}(C:Cf)(s:Sg C.τ.S)(p:List (Nat×Bool))(g:Option Bool)(G:List (Nat×Bool))(ops:List Oper)(wr:Bool)
def alW(P:Program)(t:TypeId):Bool:=match P.underlying t with|some (.interface _)=>false|some _=>true|none=>false
def wz(o:Op)(K:SV C.τ.S->Option β):Option β:=match o with
 | .move x=>match s.gets p x with|some v=>K v|none=>none
 | .assign x=>match s.gets p x with|some v=>K v|none=>none
 | .binOp op t x y _=>Yr C s p g wr op t x y K
 | .unOp op _ x=>YN C s p g op x K
 | .pick c x y=>YJ C s p G ops c x y K
 | .load t x=>YG C s p g t x K
 | .fieldAddr t x f=>Yw C s p t x f K
 | .indexAddr t x y=>YD C s p g t x y K
 | .index t x y=>Yy C s p g t x y K
 | .slice t x e b none=>YM C s p g t x e b K
 | .extract x i=>Yv C s p x i K
 | .convert a d x=>Yu C s p a d x K
 | .nilCheck x=>YI C s p x K
 | .build t ⟨ps⟩=>Yt C s p t ps K
 | .makeInterface t x=>match alW C.P t with|true=>Yz C s p t x K|false=>none
 | .makeFunc (.func f) ⟨[]⟩ ⟨xs⟩=>Yx C s p f xs K
 | .typeAssert x _ t true=>Yp C s p x t K
 | .lookup t x y false=>YH C s p t x y K
 | .call ⟨.builtin .len,⟨[x]⟩,⟨[t]⟩⟩=>YE C s p t x K
 | .call ⟨.builtin .unsafeSliceData,⟨[x]⟩,⟨[_]⟩⟩=>YL C s p g x K
 | .call ⟨.builtin .max,⟨xs⟩,_⟩=>Pj C s p true xs K
 | .call ⟨.builtin .min,⟨xs⟩,_⟩=>Pj C s p false xs K
 |_=>none
end
section
variable {β:Type}{C:Cf}{s:Sg C.τ.S}{G p:List (Nat×Bool)}{g:Option Bool}{y:β}{K:SV C.τ.S->Option β}{ops:List Oper}{wr:Bool}
theorem yU{o:Op}(a:GT G p g)(j:eG (C:=C) ops G s)(h:wz C s p g G ops wr o K=some y):∃v,K v=some y/\Ev C s G p o v:=by
 unfold wz at h;split at h
 ·split at h;·rename_i v f;exact⟨v,h,av4 f⟩
  ·cases h
 ·split at h;·rename_i v f;exact⟨v,h,avM f⟩
  ·cases h
 ·exact avO a h
 ·exact av9 a h
 ·exact av6 j h
 ·exact av2 a h
 ·exact avS h
 ·exact avZ a h
 ·exact avU a h
 ·exact av8 a h
 ·exact avR h
 ·exact avQ h
 ·exact av5 h
 ·exact avP h
 ·split at h
  ·rename_i b;unfold alW at b;split at b;·cases b
   ·rename_i d c i;exact avV (λq e=>c q (Option.some.inj (i.symm.trans e))) (by rw[i];rfl) h
   ·cases b
  ·cases h
 ·exact avT h
 ·exact avL h
 ·exact av3 h
 ·exact av0 h
 ·exact av7 a h
 ·exact ait (mx:=true) h
 ·exact ait (mx:=false) h
 ·cases h
end
section
variable {β:Type}(C:Cf)
def PO(G:List (Nat×Bool))(ops:List Oper)(s:Sg C.τ.S)(j:Nat)(w:Bool):Option (List (Nat×Bool)×List (Nat×Bool)):=match ops[j]? with
 |some o=>match o.dst with
  |some d=>match s.lk 0 d with
   |some (.b x)=>match look G j with|none=>some ((j,x)::G,[(j,w)])|some _=>some (G,[(j,w)])
   |some (.g q (.b x))=>match look G j with|none=>some ((j,x)::G,(j,w)::q)|some _=>some (G,(j,w)::q)
   |_=>none
  |none=>none
 |none=>none
def jv(G:List (Nat×Bool))(ops:List Oper)(d:Nat):Bool:=match G with
 |[]=>true
 |q::r=>match ops[q.1]? with
  |some o=>match o.dst with
   |some a=>match Nat.beq a d with|true=>false|false=>jv r ops d
   |none=>false
  |none=>false
def nT{S:Nat->Type}:Env S->Env S|[]=>[]|q::r=>match q.2.2 with| .g _ _=>(q.1,q.2.1,.u)::nT r|_=>q::nT r
def nL:Op->Bool
 | .box .. | .alloc .. | .store .. | .buildSlice .. | .makeSlice .. | .makeMap .. | .mapUpdate .. =>true
 | .call ⟨.builtin b,_,_⟩=>match b with| .len| .max| .min| .unsafeSliceData=>false|_=>true
 | .call _=>true
 |_=>false
end
end Go.R
namespace Go.R
open Go.RowKit Go.Dc
section
variable {β:Type}{C:Cf}{s s':Sg C.τ.S}{G G' p:List (Nat×Bool)}{M:Mem}{ρ ρ' ρ0:List Loc}{H:Heap C.τ.S}{w w':World}{a:Act}{O O1 O2:List Nat}{y:β}{n nx:Nat}{κ:Ctx C.τ}{Γ:Env C.τ.S}{Q:Exit->Act->World->Prop}{ops:List Oper}
theorem aok{j i:Nat}{x b:Bool}(h:look ((j,x)::G) i=some b):(i=j/\b=x)\/(i≠j/\look G i=some b):=by
 unfold look at h;split at h;·rename_i e;cases h;exact .inl ⟨(Nat.eq_of_beq_eq_true e).symm,rfl⟩
 ·rename_i e;exact .inr ⟨λa=>by subst a;simp at e,h⟩
theorem aol{j i:Nat}{x b:Bool}(c:look G j=none)(h:look G i=some b):look ((j,x)::G) i=some b:=by
 have a:j≠i:=λe=>by rw[e,h] at c;cases c
 unfold look;rw[ED a];exact h
theorem aiv{j:Nat}{x:Bool}(c:look G j=none):∀{p:List (Nat×Bool)}{e:Bool},dM G p=some e->dM ((j,x)::G) p=some e
 |[],e,h=>by simp[dM] at h
 |[q],e,h=>by
  unfold dM at h |-
  split at h
  ·rename_i b a;rw[aol c a];exact h
  ·cases h
 |q::r::t,e,h=>by
  unfold dM at h |-
  split at h
  ·rename_i b a
   rw[aol c a]
   simp only at h |-
   split at h
   ·rename_i f d
    rw[aiv c d]
    exact h
   ·cases h
  ·cases h
theorem RG.ext{j:Nat}{x:Bool}(a:look G j=none){τ:Tb}{v:SV τ.S}{z:Value}(h:RG τ M ρ G v z):RG τ M ρ ((j,x)::G) v z:=by induction h with|v h=>exact .v h|c h=>exact .c h|t h1 h2=>exact .t h1 h2|g h0 _ h2 b=>exact .g (aiv a h0) b h2|u=>exact .u
theorem RE.aiP{j:Nat}{x:Bool}(c:look G j=none){τ:Tb}{H:Heap τ.S}{Γ:Env τ.S}(h:RE τ M ρ G H w a Γ):RE τ M ρ ((j,x)::G) H w a Γ:=⟨h.gm,λt v b=>let ⟨z,h1,h2⟩:=h.tm t v b;⟨z,h1,h2.ext c⟩,h.cl⟩
theorem Zb{j:Nat}{wt:Bool}(D:eG (C:=C) ops G s)(h:PO C G ops s j wt=some (G',p)):eG (C:=C) ops G' s/\(∀{M ρ H w a},RE C.τ M ρ G H w a (s.T++s.B)->RE C.τ M ρ G' H w a (s.T++s.B))/\p≠[]/\∀e,dM G' p=some e->∀{M ρ H w a},RE C.τ M ρ G' H w a (s.T++s.B)->∀o:Oper,o.guard=some (j,wt)->Region.wanted o (yielded ops.toArray a.tmps)=e:=by
 unfold PO at h;split at h
 ·rename_i L m;split at h
  ·rename_i d E
   have l:∀{x:Bool}{q:List (Nat×Bool)}{A:List (Nat×Bool)},(s.lk 0 d=some (.b x)/\q=[]\/s.lk 0 d=some (.g q (.b x)))->look A j=some x->∀e,dM A ((j,wt)::q)=some e->
     ∀{M ρ H w a},RE C.τ M ρ A H w a (s.T++s.B)->∀o:Oper,o.guard=some (j,wt)->Region.wanted o (yielded ops.toArray a.tmps)=e:=by
    intro x q A c u e F M ρ H w a y o ho
    have r:ops.toArray[j]?=some L:=by simpa using m
    rcases c with ⟨c,rfl⟩|c
    ·obtain⟨z,h1,h2⟩:=y.tm d _ (by rw[<-Sg.bS];exact c)
     have I:z= .bool x:=by cases h2 with|v h2=>cases h2;rfl
     subst I
     simp[dM,u] at F
     subst F
     simp only[Region.wanted,ho,yielded,r,Option.bind_some,E,h1]
     cases wt<;>cases x<;>rfl
    ·obtain⟨z,h1,h2⟩:=y.tm d _ (by rw[<-Sg.bS];exact c)
     cases h2 with
     |v h2=>cases h2
     | @g _ _ _ N h0 P O=>
      cases q with
      |nil=>simp[dM] at h0
      |cons S U=>
       simp[dM,u,h0] at F
       subst F
       simp only[Region.wanted,ho,yielded,r,Option.bind_some,E,h1]
       cases N with
       |true=>
        have I:z= .bool x:=by cases P rfl with|v h2=>cases h2;rfl
        subst I
        cases wt<;>cases x<;>rfl
       |false=>rw[O rfl];rfl
   have f:∀{x:Bool},look G j=none->(s.lk 0 d=some (.b x)\/∃q,s.lk 0 d=some (.g q (.b x)))->eG (C:=C) ops ((j,x)::G) s:=by
    intro x n c i b k;rcases aok k with ⟨rfl,rfl⟩|⟨_,k⟩;·exact⟨L,d,m,E,c⟩
    ·exact D i b k
   have same:∀{x b:Bool},look G j=some b->(s.lk 0 d=some (.b x)\/∃q,s.lk 0 d=some (.g q (.b x)))->b=x:=by intro x b k c;obtain⟨R,Q,J,K,t⟩:=D j b k;rw[m] at J;cases J;rw[E] at K;cases K;rcases c with c|⟨q,c⟩<;>rcases t with t|⟨q',t⟩<;>rw[c] at t<;>cases t<;>rfl
   split at h
   ·rename_i x c;split at h;·rename_i n;cases h;exact⟨f n (.inl c),λh=>h.aiP n,sm,l (.inl ⟨c,rfl⟩) (by simp[look])⟩
    ·rename_i b k;cases h;have:=same k (.inl c);subst this;exact⟨D,λh=>h,sm,l (.inl ⟨c,rfl⟩) k⟩
   ·rename_i q x c;split at h;·rename_i n;cases h;exact⟨f n (.inr ⟨q,c⟩),λh=>h.aiP n,sm,l (.inr c) (by simp[look])⟩
    ·rename_i b k;cases h;have:=same k (.inr ⟨q,c⟩);subst this;exact⟨D,λh=>h,sm,l (.inr c) k⟩
   ·cases h
  ·cases h
 ·cases h
theorem apF{d:Nat}:∀{G:List (Nat×Bool)},jv G ops d=true->∀j b,look G j=some b->∀o a,ops[j]?=some o->o.dst=some a->a≠d
 |[],_,j,b,h,_,_,_,_=>by simp[look] at h
 |q::r,h,j,b,g,o,a,ho,c=>by
  unfold jv at h
  split at h
  ·rename_i m k
   split at h
   ·rename_i l f
    split at h
    ·cases h
    ·rename_i i
     rcases aok (j:=q.1) (x:=q.2) g with ⟨rfl,_⟩|⟨_,g⟩
     ·rw[k] at ho;cases ho
      rw[f] at c;cases c
      exact λe=>by subst e;simp at i
     ·exact apF h j b g o a ho c
   ·cases h
  ·cases h
theorem eG.put{d:Nat}{v:SV C.τ.S}(i:eG (C:=C) ops G s)(k:jv G ops d=true):eG (C:=C) ops G (s.put d v):=by
 intro j b g;obtain⟨o,a,e,f,h⟩:=i j b g;have c:=apF k j b g o a e f;refine⟨o,a,e,f,?_⟩;have:(s.put d v).lk 0 a=s.lk 0 a:=by rw[Sg.bS,Sg.bS];exact bX (by simp[c])
 rw[this];exact h
theorem acG{S:Nat->Type}{a b:Nat}:∀{Γ:Env S},(lk (nT Γ) a b=none/\lk Γ a b=none)\/∃v d,lk Γ a b=some v/\lk (nT Γ) a b=some d/\(d= .u\/(d=v/\∀p u,v≠ .g p u))
 |[]=> .inl ⟨rfl,rfl⟩
 |(f,h,c)::r=>by
  by_cases e:(a,b)=(f,h)
  ·cases e
   right
   unfold nT
   split
   ·exact⟨c,.u,jf,jf,.inl rfl⟩
   ·rename_i i
    exact⟨c,c,jf,jf,.inr ⟨rfl,λp u e=>i p u e⟩⟩
  ·rw[bX e]
   have h2:lk (nT ((f,h,c)::r)) a b=lk (nT r) a b:=by
    conv=>lhs;unfold nT
    split<;>exact bX e
   rw[h2]
   exact acG
theorem RG.weak{τ:Tb}{v:SV τ.S}{z:Value}(h:RG τ M ρ G v z)(a:∀p u,v≠ .g p u):RG τ M ρ G' v z:=by cases h with|v h=>exact .v h|c h=>exact .c h|t h1 h2=>exact .t h1 h2|g _ _ _=>exact absurd rfl (a _ _)|u=>exact .u
theorem RE.nT{τ:Tb}{H:Heap τ.S}{T B:Env τ.S}(h:RE τ M ρ G H w a (T++B))(x:∀t v,lk B 0 t=some v->∀p u,v≠ .g p u):RE τ M ρ [] H w a (R.nT T++B):=by
 refine⟨h.gm,λt v c=>?_,λm o v c q k s ho=>?_⟩
 ·rw[cu] at c;rcases acG (Γ:=T) (a:=0) (b:=t) with ⟨d,e⟩|⟨n,y,d,e,i⟩;·rw[d] at c;obtain⟨z,f,j⟩:=h.tm t v (by rw[cu,e];exact c);exact⟨z,f,j.weak (x t v c)⟩
  ·rw[e] at c;cases c;obtain⟨z,f,j⟩:=h.tm t n (by rw[cu,d]);rcases i with rfl|⟨rfl,i⟩;·exact⟨z,f,.u⟩
   ·exact⟨z,f,j.weak i⟩
 ·rw[cu] at c;rcases acG (Γ:=T) (a:=m+1) (b:=o) with ⟨d,e⟩|⟨n,y,d,e,i⟩;·rw[d] at c;exact h.cl m o v (by rw[cu,e];exact c) q k s ho
  ·rw[e] at c;cases c;obtain⟨l,z,r,f,j⟩:=h.cl m o n (by rw[cu,d]) q k s ho;rcases i with rfl|⟨rfl,i⟩;·exact⟨l,z,r,f,.inl rfl⟩
   ·exact⟨l,z,r,f,j⟩
end
end Go.R
namespace Go.R
open Go.RowKit Go.Dc
structure aN(S:Nat->Type) where
 ins:List Cd
 outs:List Cd
 sP:aK S ins->Option (aK S outs)
def DS(τ:Tb):(cs:List Cd)->List (SV τ.S)->Option (aK τ.S cs)
 |[],[]=>some ()
 |[c],[v]=>D τ c v
 |c::d::r,v::vs=>match D τ c v with
  |some x=>match DS τ (d::r) vs with|some y=>some (x,y)|none=>none
  |none=>none
 |_,_=>none
def ES(τ:Tb):(cs:List Cd)->aK τ.S cs->List (SV τ.S)|[],_=>[]|[c],x=>[E τ c x]|c::d::r,x=>E τ c x.1::ES τ (d::r) x.2
def gV{S:Nat->Type}:List (SV S)->SV S|[v]=>v|vs=> .t vs
inductive Fr {S:Nat->Type}:SV S->Prop
 |i {k:IntKind}{p:Int}:Fr (.i k p)
 |b {x:Bool}:Fr (.b x)
 |st {s:Str}:Fr (.st s)
 |l {c:Cd}{xs:List (c.ty S)}:Fr (.l c xs)
 |n {T:TypeId}{v:SV S}:Fr v->Fr (.n T v)
 |ay {z:Any}:Fr (.y z)
 |u:Fr .u
theorem Fr.E1{τ:Tb}:∀(c:Cd) (x:c.ty τ.S),Fr (E1 τ c x)| .int _,_=> .i| .bool,_=> .b| .str,_=> .st| .list _,_=> .l| .any,_=> .ay| .st _,_=> .u
theorem Fr.EL{τ:Tb}:∀(cs:List Cd) (x:aK τ.S cs),∀y∈EL τ cs x,Fr y
 |[],_,y,h=>by cases h
 |[c],x,y,h=>by simp only[R.EL,List.mem_singleton] at h;subst h;exact Fr.E1 c x
 |c::d::r,x,y,h=>by
  rcases List.mem_cons.1 h with rfl|h
  ·exact Fr.E1 c x.1
  ·exact Fr.EL (d::r) x.2 y h
theorem Fr.E{τ:Tb}(c:Cd)(x:c.ty τ.S):∀y∈(R.E τ c x).cs,Fr y:=by
 intro y h;by_cases a:∃i,c= .st i;·obtain⟨i,rfl⟩:=a;exact Fr.EL (τ.cs i) (τ.un i x) y h
 ·have a:∀i,c≠ .st i:=λi e=>a ⟨i,e⟩;have:(R.E τ c x).cs=[R.E1 τ c x]:=by cases c with|st i=>exact absurd rfl (a i)|any=>rfl|_=>rfl
  rw[this] at h;simp at h;subst h;exact Fr.E1 c x
theorem RV.free{τ:Tb}{M:Mem}{ρ ρ':List Loc}{v:SV τ.S}{x:Value}(h:RV τ M ρ v x)(c:Fr v):RV τ M ρ' v x:=by
 induction h with
 |i=>exact .i
 |b=>exact .b
 |st=>exact .st
 |nl=>cases c
 |z _=>cases c
 |l vs h0 h1 h2 k _ d=>exact .l vs h0 h1 h2 k λi x s j y g=>d i x s j y g (Fr.E _ x y (List.mem_of_getElem? g))
 |le=>exact .le
 |q vs h1 _ d=>cases c
 |o _=>cases c
 |a _ _=>cases c
 |r _=>cases c
 |e _=>cases c
 |f _ _ _=>cases c
 |n _ d=>cases c with|n c=>exact .n (d c)
 |ys=>exact .ys
 |yi=>exact .yi
 |x _ _ _ _ _=>cases c
 |m _=>cases c
 |p _ _=>cases c
theorem aZ.free{τ:Tb}{M:Mem}{ρ ρ':List Loc}:∀{vs:List (SV τ.S)}{xs:List Value},aZ τ M ρ vs xs->(∀y∈vs,Fr y)->aZ τ M ρ' vs xs|_,_,.nil,_=> .nil|_,_,.cons h1 h2,a=> .cons (h1.free (a _ List.mem_cons_self)) (h2.free λy b=>a y (List.mem_cons_of_mem _ b))
theorem RG.plain{τ:Tb}{M:Mem}{ρ ρ':List Loc}{G:List (Nat×Bool)}{c:Cd}{z:c.ty τ.S}{x:Value}(h:RG τ M ρ G (E τ c z) x):RA τ M ρ' (E τ c z) x:=by
 by_cases a:∃i,c= .st i;·obtain⟨i,rfl⟩:=a;cases h with|v h=>cases h|c h=>exact .c (h.free (Fr.EL _ _))
 ·have a:∀i,c≠ .st i:=λi e=>a ⟨i,e⟩;have e:R.E τ c z=R.E1 τ c z:=by cases c with|st i=>exact absurd rfl (a i)|_=>rfl
  rw[e] at h |-;have b:=Fr.E1 (τ:=τ) c z
  cases c with
  |st i=>exact absurd rfl (a i)
  |any=>cases h with|v h=>exact .v (h.free b)
  |_=>cases h with|v h=>exact .v (h.free b)
inductive og (τ:Tb) (M:Mem) (ρ:List Loc):List (SV τ.S)->List Value->Prop
 |nil:og τ M ρ [] []
 |cons {v:SV τ.S}{x:Value}{vs:List (SV τ.S)}{xs:List Value}:RA τ M ρ v x->og τ M ρ vs xs->og τ M ρ (v::vs) (x::xs)
theorem og.len{τ:Tb}{M:Mem}{ρ:List Loc}:∀{vs:List (SV τ.S)}{xs:List Value},og τ M ρ vs xs->xs.length=vs.length|_,_,.nil=>rfl|_,_,.cons _ h=>by simp[h.len]
theorem og.get{τ:Tb}{M:Mem}{ρ:List Loc}:∀{vs:List (SV τ.S)}{xs:List Value}{i:Nat}{v:SV τ.S}{x:Value},og τ M ρ vs xs->vs[i]?=some v->xs[i]?=some x->RA τ M ρ v x|_,_,0,_,_,.cons h _,e,a=>by simp at e a;subst e a;exact h|_,_,i+1,_,_,.cons _ h,e,a=>h.get (i:=i) (by simpa using e) (by simpa using a)
theorem D9{τ:Tb}{M:Mem}{ρ ρ':List Loc}{G:List (Nat×Bool)}:∀{cs:List Cd}{vs:List (SV τ.S)}{p:aK τ.S cs}{xs:List Value},DS τ cs vs=some p->xs.length=vs.length->(∀(i:Nat) v x,vs[i]?=some v->xs[i]?=some x->RG τ M ρ G v x)->og τ M ρ' (ES τ cs p) xs
 |[],[],_,[],_,_,_=> .nil
 |[],[],_,_::_,_,h,_=>by simp at h
 |[],_::_,_,_,h,_,_=>by simp[DS] at h
 |[c],[],_,_,h,_,_=>by simp[DS] at h
 |[c],[v],p,[x],h,_,a=> .cons (Ap h (a 0 v x rfl rfl)).plain .nil
 |[c],[v],p,[],_,h,_=>by simp at h
 |[c],[v],p,_::_::_,_,h,_=>by simp at h
 |[c],_::_::_,_,_,h,_,_=>by simp[DS] at h
 |_::_::_,[],_,_,h,_,_=>by simp[DS] at h
 |c::d::r,v::vs,p,[],_,h,_=>by simp at h
 |c::d::r,v::vs,p,x::xs,h,b,a=>by
  unfold DS at h
  split at h
  ·rename_i z f
   split at h
   ·rename_i y e
    cases h
    exact .cons (Ap f (a 0 v x rfl rfl)).plain (D9 e (by simpa using b) λi g j h1 h2=>a (i+1) g j (by simpa using h1) (by simpa using h2))
   ·cases h
  ·cases h
def FZ(P:Program)(τ:Tb)(f:FuncId)(a:aN τ.S):Prop:=∀ps r,a.sP ps=some r->∀(w:World) (M:Mem) (xs:List Value),og τ M [] (ES τ a.ins ps) xs->Sat M w->GM τ M->nX τ w->Calls P f xs.toArray w (λe w'=>∃x M',e= .returned x/\RG τ M' [] [] (gV (ES τ a.outs r)) x/\Sat M' w'/\M.le M'/\Frame [] w w'/\∀b j v,M' b j=some v->M b j=some v\/w.heap.size<=b)
section
variable {β:Type}(C:Cf)(T:FuncId->Option (aN C.τ.S))(s:Sg C.τ.S)(p:List (Nat×Bool))
def EA:List Operand->Option (List (SV C.τ.S))
 |[]=>some []
 |x::r=>match s.gets p x with
  |some v=>match EA r with|some vs=>some (gG s v::vs)|none=>none
  |none=>none
def Yc(x:Operand)(b:List Operand)(K:SV C.τ.S->Sg C.τ.S->Option β):Option β:=match s.gets p x with
 |some (.f f c)=>match T f,callable C.P f,EA C s p b with
  |some a,true,some vs=>match DS C.τ a.ins (vs++yZ s c) with
   |some ps=>(a.sP ps).bind λr=>K (gV (ES C.τ a.outs r)) s
   |none=>none
  |_,_,_=>none
 |_=>none
end
section
variable {β:Type}{C:Cf}{T:FuncId->Option (aN C.τ.S)}{s s':Sg C.τ.S}{G p:List (Nat×Bool)}{M M':Mem}{ρ ρ' ρ0:List Loc}{H R:Heap C.τ.S}{w w':World}{a:Act}{O O' O1 O2:List Nat}{y:β}{n nx:Nat}{κ:Ctx C.τ}{Q:Exit->Act->World->Prop}
theorem NK(d:Rd C s G p M ρ H w a O):∀{xs:List Operand}{vs:List (SV C.τ.S)},EA C s p xs=some vs->vs.length=xs.length/\∀(i:Nat) v x,vs[i]?=some v->(xs.map a.eval)[i]?=some x->RG C.τ M ρ G v x
 |[],vs,h=>by simp[EA] at h;subst h;exact⟨rfl,λi v x h=>by simp at h⟩
 |z::r,vs,h=>by
  unfold EA at h
  split at h
  ·rename_i v f
   split at h
   ·rename_i us e
    cases h
    obtain⟨h1,h2⟩:=NK d e
    refine⟨by simp[h1],λi g j b c=>?_⟩
    cases i with
    |zero=>simp at b c;subst b c;exact wE d (d.gets f)
    |succ i=>exact h2 i g j (by simpa using b) (by simpa using c)
   ·cases h
  ·cases h
theorem Lm{P:Program}{f:Nat}{x:Operand}{xs:List Operand}{vs cap:List Value}{ts:Array TypeId}{dst:Option Tmp}{ty:TypeId}{pos:String}{aM:Array Edge}{gd:Option (Nat×Bool)}(c:a.eval x= .func (.func f) #[] cap.toArray)(e:xs.map a.eval=vs)(b:callable P f=true)(w:World):(execOp a.eval ⟨dst,.call {callee:= .value x,args:=xs.toArray,argTypes:=ts},ty,pos,aM,gd⟩).run P w= .ok (.enter f (vs++cap).toArray) w:=by simp only[execOp,resolve,List.map_toArray,e,c];show (callFunc f ((#[]++vs.toArray)++cap.toArray)).run P w=_;rw[Array.empty_append,<-List.append_toArray];exact apV b
theorem SM.call(h:SM κ M w O1 O2)(hs:Sat M' w')(c:M.le M')(f:Frame [] w w')(g:∀b j v,M' b j=some v->M b j=some v\/w.heap.size<=b):SM κ M' w' O1 O2/\Ext (O1++O2) M M' w w':=by
 have i:∀b,b<w.heap.size->w'.heap[b]?=w.heap[b]?:=λb a=>f.block b a sm;refine⟨⟨h.tab,h.frame.trans f (λ_ h=>by cases h),hs,h.le.trans c,λb j v e=>?_,h.nodup,λb a=>⟨Nat.lt_of_lt_of_le (h.own b a).1 f.size,(h.own b a).2⟩,λb a=>Nat.lt_of_lt_of_le (h.red b a) f.size⟩,⟨c,λb a=>i b (h.lt a),λb a=>?_⟩⟩
 ·rcases g b j v e with e|e;·exact h.new b j v e
  ·exact .inr (.inr (Nat.le_trans h.frame.size e))
 ·funext j;have k:=h.lt a
  cases e:M' b j with
  |none=>cases d:M b j with|none=>rfl|some v=>rw[c b j v d] at e;cases e
  |some v=>
   rcases g b j v e with d|d;·exact d.symm
   ·omega
theorem aIB{x:Operand}{xs:List Operand}{ts:Array TypeId}{K:SV C.τ.S->Sg C.τ.S->Option β}(hT:∀f d,T f=some d->FZ C.P C.τ f d)(h:Yc C T s [] x xs K=some y):∃v s',K v s'=some y/\Keep s s'/\Step C n κ ρ0 G s (.call ⟨.value x,xs.toArray,ts⟩) (some v) s':=by
 unfold Yc at h;split at h
 ·rename_i f t hx;split at h
  ·rename_i d vs A hf R;split at h
   ·rename_i ps O;obtain⟨r,hr,h⟩:=bind_some h;refine⟨_,_,h,Keep.rfl,λK Q M w a dst ty pos aM gd ⟨h0,ρ,O1,O2,hn,hl,L,h1,h2,F⟩ hk=>?_⟩;have k:=fQ L h1 h2 F;have B:=k.rv hx;generalize I:a.eval x=ax at B;cases B with| @f _ _ X Y Z=>
    obtain⟨V,g2⟩:=NK k R;have W:aZ C.τ M ρ (yZ s t) X:=Ju k (aZ.of Y Z);unfold Oper.wp;rw[Lm I rfl hf w]
    have j:og C.τ M [] (ES C.τ d.ins ps) (xs.map a.eval++X):=D9 (G:=G) O (by simp[V,W.len]) λi v z D o=>by
     rw[List.getElem?_append] at D o;simp only[List.length_map] at o;rw[V] at D;split at D;·rename_i N;rw[if_pos N] at o;exact g2 i v z D o
     ·rename_i N;rw[if_neg N] at o;exact .v (W.at D o)
    refine (hT f d A ps r hr w M _ j F.sat L.gm F.gt).mono ?_;rintro e w' ⟨z,M',rfl,i1,i2,i3,i4,i5⟩;obtain⟨h4,H⟩:=F.call i2 i3 i4 i5;refine hk M' w' z ρ O1 O2 hn hl (L.ext Names.rfl (h1.app h2) H) (h1.ext Names.rfl (H.sub λb J=>List.mem_append_left _ J)) (h2.ext Names.rfl (H.sub λb J=>List.mem_append_right _ J)) h4 λu e=>?_;cases e;have:RG C.τ M' ρ [] (gV (ES C.τ d.outs r)) z:=i1.mono .rfl λm l h=>by simp at h
    refine this.weak λp u e=>?_
    have U:∀{cs:List Cd}{q:aK C.τ.S cs},gV (ES C.τ cs q)≠ .g p u:=by
     intro cs q e
     match cs,q,e with
     |[],_,e=>cases e
     |[c],q,e=>have e:E C.τ c q= .g p u:=e;cases c with|any=>cases e|_=>cases e
     |_::_::[],_,e=>cases e
     |_::_::_::[],_,e=>cases e
     |_::_::_::_::_,_,e=>cases e
    exact U e
   ·cases h
  ·cases h
 ·cases h
end
end Go.R
namespace Go.R
open Go.RowKit Go.Dc
def bG{S:Nat->Type}:Env S->Env S|[]=>[]|q::r=>match q.1 with|0=>bG r|_+1=>q::bG r
theorem kD{S:Nat->Type}{m o:Nat}:∀{Γ:Env S},lk (bG Γ) (m+1) o=lk Γ (m+1) o
 |[]=>rfl
 |(q,b,v)::r=>by
  cases q with
  |zero=>
   show lk (bG r) (m+1) o=_
   rw[bX sm];exact kD
  |succ q=>
   show lk ((q+1,b,v)::bG r) (m+1) o=_
   by_cases e:(q+1,b)=(m+1,o)
   ·cases e;rw[jf,jf]
   ·rw[bX (Ne.symm e),bX (Ne.symm e)];exact kD
theorem nQ{S:Nat->Type}{t:Nat}:∀{Γ:Env S},lk (bG Γ) 0 t=none
 |[]=>rfl
 |(q,b,v)::r=>by
  cases q with
  |zero=>exact nQ (Γ:=r)
  |succ q=>
   show lk ((q+1,b,v)::bG r) 0 t=_
   rw[bX sm];exact nQ
structure aL(S:Nat->Type) where
 ev:∀{β:Type},List (SV S)->Sg S->(SV S->Sg S->Option β)->Option β
 ro:Bool
def aL.rd{S:Nat->Type}(i:aL S):aL S:=⟨i.ev,true⟩
def AB(τ:Tb)(M:Mem)(ρ:List Loc)(vs:List (SV τ.S))(xs:List Value):Prop:=xs.length=vs.length/\∀(i:Nat) v x,vs[i]?=some v->xs[i]?=some x->RG τ M ρ [] v x
structure CS(C:Cf)(κ:Ctx C.τ)(ρ0:List Loc)(s:Sg C.τ.S)(M:Mem)(w:World)(ρ:List Loc):Prop where
 names:Names ρ0 ρ
 len:ρ.length=s.nx
 gm:GM C.τ M
 cl:∀m o v,lk (s.T++s.B) (m+1) o=some v->∀T n,(m,.bx T n)∈s.Th++s.Bh->o<n->∃l x,ρ[m]?=some l/\w.cell? ⟨l.b,o,none⟩=some x/\(v= .u\/RV C.τ M ρ v x)
 mem:∃O1 O2,RH C.τ M ρ w s.Th O1/\RH C.τ M ρ w s.Bh O2/\SM κ M w O1 O2
def aF(C:Cf)(f:FuncId)(I:aL C.τ.S):Prop:=∀{β:Type}{y:β}(vs:List (SV C.τ.S)) (s:Sg C.τ.S) (K:SV C.τ.S->Sg C.τ.S->Option β),I.ev vs s K=some y->∀κ M w ρ xs,CS C κ ρ s M w ρ->AB C.τ M ρ vs xs->
 Calls C.P f xs.toArray w (λe w'=>∃x v s' M' a,e= .returned x/\K v s'=some y/\Keep s s'/\M.le M'/\CS C κ ρ s' M' w' a/\RG C.τ M' a [] v x)
theorem aF.rd{C:Cf}{f:FuncId}{I:aL C.τ.S}(h:aF C f I):aF C f I.rd:=h
section
variable {β:Type}(C:Cf)(I:FuncId->Option (aL C.τ.S))(s:Sg C.τ.S)(p:List (Nat×Bool))
def ng{S:Nat->Type}:SV S->Bool| .g _ _=>false|_=>true
def IJ:List Operand->Option (List (SV C.τ.S))
 |[]=>some []
 |x::r=>match s.gets p x with
  |some v=>match ng v,IJ r with|true,some vs=>some (v::vs)|_,_=>none
  |none=>none
def O6(x:Operand)(a:List Operand)(K:SV C.τ.S->Sg C.τ.S->Option β):Option β:=match s.gets p x with
 |some (.f f b)=>match I f,callable C.P f,IJ C s p a with
  |some i,true,some vs=>i.ev (vs++b) s K
  |_,_,_=>none
 |_=>none
end
section
variable {β:Type}{C:Cf}{I:FuncId->Option (aL C.τ.S)}{s s':Sg C.τ.S}{G p:List (Nat×Bool)}{M M':Mem}{ρ ρ' ρ0:List Loc}{H R:Heap C.τ.S}{w w':World}{a:Act}{O O' O1 O2:List Nat}{y:β}{n nx:Nat}{κ:Ctx C.τ}{Q:Exit->Act->World->Prop}
theorem afJ(f:Rd C s G p M ρ H w a O):∀{xs:List Operand}{vs:List (SV C.τ.S)},IJ C s p xs=some vs->AB C.τ M ρ vs (xs.map a.eval)
 |[],vs,h=>by simp[IJ] at h;subst h;exact⟨rfl,λi v x h=>by simp at h⟩
 |z::r,vs,h=>by
  unfold IJ at h
  split at h
  ·rename_i v j
   split at h
   ·rename_i us d g
    cases h
    obtain⟨h1,h2⟩:=afJ f g
    refine⟨by simpa using h1,λi k l b c=>?_⟩
    cases i with
    |zero=>
     simp at b c;subst b c
     exact (f.gets j).weak λp u e=>by subst e;cases d
    |succ i=>exact h2 i k l (by simpa using b) (by simpa using c)
   ·cases h
  ·cases h
def tY(C:Cf)(n:Nat)(κ:Ctx C.τ)(ρ0:List Loc)(G:List (Nat×Bool))(s:Sg C.τ.S)(op:Op)(K':Option (SV C.τ.S)->Sg C.τ.S->Option β)(y:β):Prop:=∀(K:Act->World->Prop) (Q:Exit->Act->World->Prop) (M:Mem) (w:World) (a:Act) (dst:Option Nat) (ty:TypeId) (pos:String) (aM:Array Edge) (b:Option (Nat×Bool)),SS C n κ ρ0 G s M w a->(∀v s' M' w' x ρ O1 O2,K' v s'=some y->Keep s s'->Names ρ0 ρ->ρ.length=s'.nx->RE C.τ M' ρ G (s'.Th++s'.Bh) w' a (s'.T++s'.B)->RH C.τ M' ρ w' s'.Th O1->RH C.τ M' ρ w' s'.Bh O2->SM κ M' w' O1 O2->(∀u,v=some u->RG C.τ M' ρ G u x)->K (a.put dst x) w')->(⟨dst,op,ty,pos,aM,b⟩:Oper).wp C.P a w K Q
theorem Step.k{op:Op}{v:Option (SV C.τ.S)}{K':Option (SV C.τ.S)->Sg C.τ.S->Option β}(h:Step C n κ ρ0 G s op v s')(h1:K' v s'=some y)(h2:Keep s s'):tY C n κ ρ0 G s op K' y:=λK Q M w a dst ty pos aM j hs l=>h K Q M w a dst ty pos aM j hs λM' w' x ρ O1 O2 b c d e f g i=>l v s' M' w' x ρ O1 O2 h1 h2 b c d e f g i
theorem tY.kg{xs:List Operand}{op:Op}{K':Option (SV C.τ.S)->Sg C.τ.S->Option β}(h:tY C n κ ρ0 G (s.mE xs) op K' y):tY C n κ ρ0 G s op K' y:=by intro K Q M w a dst ty pos aM c hs d;obtain⟨b,h1⟩:=Jq (xs:=xs) hs;exact h K Q b w a dst ty pos aM c h1 λv s' M' w' x ρ O1 O2 e k=>d v s' M' w' x ρ O1 O2 e (Kr.trans k)
theorem aei{x:Operand}{xs:List Operand}{ts:Array TypeId}{K:SV C.τ.S->Sg C.τ.S->Option β}(hI:∀f i,I f=some i->aF C f i)(hp:p≠[]->dM G p=some true)(h:O6 C I s p x xs K=some y):tY C n κ ρ0 G s (.call ⟨.value x,xs.toArray,ts⟩) (λv s'=>match v with|some v=>K v s'|none=>none) y:=by
 unfold O6 at h;split at h
 ·rename_i f j hx;split at h
  ·rename_i i vs A hf L;intro K1 Q M w a dst ty pos aM gd ⟨h0,ρ,O1,O2,hn,hl,E,h1,h2,P⟩ hk;have D:=Rd.of E h1 h2 P.sat hp;have o:=D.rv hx;generalize F:a.eval x=ax at o;cases o with| @f _ _ U W X=>
   obtain⟨O,Y⟩:=afJ D L;have R:aZ C.τ M ρ j U:=aZ.of W X;unfold Oper.wp;rw[Lm F rfl hf w]
   have k:AB C.τ M ρ (vs++j) (xs.map a.eval++U):=⟨by simp only[List.length_append,O,R.len],λi v z l m=>by
    rw[List.getElem?_append] at l m;rw[O] at m;split at l;·rename_i A;rw[if_pos A] at m;exact Y i v z l m
    ·rename_i A;rw[if_neg A] at m;exact .v (R.at l m)⟩
   refine (hI f i A _ s K h κ M w ρ _ ⟨Names.rfl,hl,E.gm,E.cl,O1,O2,h1,h2,P⟩ k).mono ?_;rintro e w' ⟨z,v,s',M',N,rfl,hK,d,H,b,l⟩;obtain⟨V,Z,j1,j2,j3⟩:=b.mem;refine hk (some v) s' M' w' z N V Z hK d (hn.trans b.names) b.len ⟨b.gm,λt u ht=>?_,b.cl⟩ j1 j2 j3 λu e=>?_
   ·have J:lk (s.T++s.B) 0 t=some u:=by have:=d.tm t;rw[Sg.bS,Sg.bS] at this;rw[<-this];exact ht
    obtain⟨x',k1,k2⟩:=E.tm t u J;exact⟨x',k1,k2.mono H b.names⟩
   ·cases e
    cases l with
    |v h=>exact .v h
    |c h=>exact .c h
    |t h1 h2=>exact .t h1 h2
    | @g pp _ _ _ h1 _ _=>cases pp with|nil=>simp[dM] at h1|cons q r=>cases r<;>simp[dM,look] at h1
    |u=>exact .u
  ·cases h
 ·cases h
end
end Go.R
namespace Go.R
open Go.RowKit Go.Dc
section
variable {β:Type}{C:Cf}{τ:Tb}{s s':Sg τ.S}{G p:List (Nat×Bool)}{M M' M0:Mem}{ρ ρ' ρ0 ρe:List Loc}{H H' R:Heap τ.S}{w w' w0:World}{a a' a0:Act}{O O' O1 O2 On:List Nat}{y:β}{n nx:Nat}{κ:Ctx C.τ}{Γ Γ0:Env τ.S}{Q:Exit->Act->World->Prop}
theorem RV.back{v:SV τ.S}{x B:Value}(h0:RV τ M0 ρe v B)(L:Names ρe ρ')(h:RV τ M' ρ' v x):RV τ M' ρe v x:=by
 have same:∀{m:Nat}{l:Loc},(∃l0,ρe[m]?=some l0)->ρ'[m]?=some l->ρe[m]?=some l:=λ⟨l0,w⟩ A=>by rw[L _ _ w] at A;cases A;exact w
 induction h generalizing B with
 |i=>exact .i
 |b=>exact .b
 |st=>exact .st
 |nl=>exact .nl
 |z h=>exact .z h
 |l vs I d g J K _=>exact (RV.l (ρ:=ρ') vs I d g J K).free .l
 |le=>exact .le
 |q vs d g _=>refine .q vs d λk y u=>(g k y u).free (Fr.E _ _ y (List.mem_of_getElem? u))
 |o e=>cases h0 with|o c=>exact .o (same ⟨_,c⟩ e)
 |a e N=>cases h0 with|a c _=>exact .a (same ⟨_,c⟩ e) N
 |r e=>cases h0 with|r c=>exact .r (same ⟨_,c⟩ e)
 |e e=>cases h0 with|e c=>exact .e (same ⟨_,c⟩ e)
 |f d g s=>
  cases h0 with
  | @f _ _ us t P=>
   refine .f d λi x v j O=>?_;have M:i<us.length:=by rw[t];exact (List.getElem?_eq_some_iff.1 j).1
   exact s i x v j O (P i x _ j (List.getElem?_eq_getElem M))
 |n d s=>cases h0 with|n h0=>exact .n (s h0)
 |ys=>exact .ys
 |yi=>exact .yi
 |x D F G H _=>cases h0 with|x t _ _ _=>exact .x (same ⟨_,t⟩ D) F G (H.free .l)
 |m e=>cases h0 with|m c=>exact .m (same ⟨_,c⟩ e)
 |p e C=>cases h0 with|p c _=>exact .p (same ⟨_,c⟩ e) C
theorem aZ.back:∀{vs:List (SV τ.S)}{xs d:List Value},aZ τ M0 ρe vs d->Names ρe ρ'->aZ τ M' ρ' vs xs->aZ τ M' ρe vs xs|_,_,_,.nil,_,.nil=> .nil|_,_,_,.cons h1 h2,a,.cons b c=> .cons (h1.back a b) (h2.back a c)
theorem RG.back{v:SV τ.S}{x n:Value}(h0:RG τ M0 ρe [] v n)(b:Names ρe ρ')(h:RG τ M' ρ' [] v x):RG τ M' ρe [] v x:=by
 have e:∀{u:SV τ.S}{z f:Value},RA τ M0 ρe u f->RA τ M' ρ' u z->RA τ M' ρe u z:=by
  intro u z f a g
  cases a with
  |v a=>cases g with
   |v g=>exact .v (a.back b g)
   |c _=>cases a
  |c a=>cases g with
   |v g=>cases g
   |c g=>exact .c (a.back b g)
 cases h0 with
 |v h0=>cases h with
  |v h=>exact .v (h0.back b h)
  |c _=>cases h0
  |t _ _=>cases h0
  |g _ _ _=>cases h0
  |u=>cases h0
 |c h0=>cases h with
  |v h=>cases h
  |c h=>exact .c (h0.back b h)
 | @t _ zs h1 h2=>cases h with
  |v h=>cases h
  |t l m=>
   refine .t l λi u z d k=>?_
   have j:i<zs.length:=by rw[h1];exact (List.getElem?_eq_some_iff.1 d).1
   exact e (h2 i u _ d (List.getElem?_eq_getElem j)) (m i u z d k)
 |g h0 _ _=>exact absurd h0 (by rename_i p _ _ _ _;cases p with|nil=>simp[dM]|cons q r=>cases r<;>simp[dM,look])
 |u=>exact .u
theorem Row.free{c:Cd}{xs:List (c.ty τ.S)}{cell:Nat->Option Value}(h:Row τ M ρ c xs cell):Row τ M ρ' c xs cell:=λi x b j y a=>let ⟨v,h1,h2⟩:=h i x b j y a;⟨v,h1,h2.free (Fr.E _ _ y (List.mem_of_getElem? a))⟩
def xn{S:Nat->Type}:SO S->List Nat| .rr _ _ _ h _=>[h]|_=>[]
theorem jY.ren{c:Cd}{ys:List (c.ty τ.S)}{v:Value}{O:List Nat}(h:jY τ M ρ w c ys v O):jY τ M ρ' w c ys v O:=by cases h with|nil=>exact .nil|own h1 h2 a b d e f g=>exact .own h1 h2 a b d e.free (f.free .l) g
theorem dh.ren{c:Cd}{jj:Nat}{ho:Option Int}{i:Nat}{xs:List (c.ty τ.S)}{vs:List Value}{O:List Nat}(h:dh τ M ρ w c jj ho i xs vs O):dh τ M ρ' w c jj ho i xs vs O:=by induction h with|nil=>exact .nil|own h0 h1 h2 _ a=>exact .own h0 h1 h2.ren a|hole h1 _ a=>exact .hole h1 a
theorem RO.ren{m:Nat}{x:SO τ.S}(h:RO τ M ρ w m x O):∃l,ρ[m]?=some l/\∀(f:List Loc) (r:Nat),f[r]?=some l->(∀i∈xn x,f[i]?=ρ[i]?)->RO τ M f w r x O:=by cases h with|bx h1 h2 b c=>exact⟨_,h1,λ_ _ e _=> .bx e h2 b c⟩|iR h1 h2=>exact⟨_,h1,λ_ _ e _=> .iR e h2⟩|ls h1 h2 b c g j k n o d a=>exact⟨_,h1,λ_ _ e _=> .ls e h2 b c g j k n o.free (d.free .l) a⟩|ig h1 h2=>exact⟨_,h1,λ_ _ e _=> .ig e h2⟩|ar h1 h2 b c g j k n o a=>exact⟨_,h1,λ_ _ e _=> .ar e h2 b c g j k n o.free a⟩|se h1 h2 b c=>exact⟨_,h1,λ_ _ e _=> .se e h2 b c⟩|rr h1 h2 b c g j k n o d a p s=>exact⟨_,h1,λ_ _ e q=> .rr e h2 b c g j k n o.free d (by rw[q _ (List.mem_singleton.2 rfl)];exact a) p s.ren⟩|jg h1 h2 b c=>exact⟨_,h1,λ_ _ e q=> .jg e h2 (by rw[q _ (List.mem_singleton.2 rfl)];exact b) c⟩
theorem RO.TN{m n:Nat}{c:Cd}{jj:Nat}{xs:List (c.ty τ.S)}{ho:Option Int}(h:RO τ M ρ w m (.rr c jj xs n ho) O):∃l lh,ρ[m]?=some l/\ρ[n]?=some lh/\∀(a:List Loc) (o k:Nat),a[o]?=some l->a[k]?=some lh->RO τ M a w o (.rr c jj xs k ho) O:=by cases h with|rr h1 h2 i j p q r s t d f g u=>exact⟨_,_,h1,f,λ_ _ _ e b=> .rr e h2 i j p q r s t.free d b g u.ren⟩|jg h1 h2 i j=>exact⟨_,_,h1,i,λ_ _ _ e b=> .jg e h2 b j⟩
theorem jY.same{c:Cd}{ys:List (c.ty τ.S)}{v:Value}{O O':List Nat}(h:jY τ M ρ w c ys v O)(a:jY τ M' ρ' w' c ys v O'):O=O':=by
 cases h with
 |nil=>generalize e:(Value.slice none 0 0)=z at a;cases a with|nil=>rfl|own=>cases e
 | @own _ b _ cap=>generalize e:(Value.slice (some ⟨b,0,none⟩) ys.length cap)=z at a;cases a with|nil=>cases e|own=>cases e;rfl
theorem dh.same{c:Cd}{jj:Nat}{ho:Option Int}{i:Nat}{xs:List (c.ty τ.S)}{vs:List Value}{O:List Nat}(h:dh τ M ρ w c jj ho i xs vs O):∀{a:List Nat},dh τ M' ρ' w' c jj ho i xs vs a->O=a:=by
 induction h with
 |nil=>intro a b;cases b;rfl
 |own h0 h1 h2 _ e=>intro a b;cases b with|own f d g j=>rw[h1] at d;cases d;rw[h2.same g,e j]|hole d _=>exact absurd d h0
 |hole h1 _ e=>intro a b;cases b with|own f _ _ _=>exact absurd h1 f|hole _ k=>exact e k
theorem RO.xns{m:Nat}{x:SO τ.S}(h:RO τ M ρ w m x O):∀i∈xn x,∃l,ρ[i]?=some l:=by intro i a;cases h with|rr _ _ _ _ _ _ _ _ _ _ b _ _=>simp only[xn,List.mem_singleton] at a;subst a;exact⟨_,b⟩|jg _ _ c _=>simp only[xn,List.mem_singleton] at a;subst a;exact⟨_,c⟩|_=>cases a
theorem RO.same{m:Nat}{x:SO τ.S}(h:RO τ M ρ w m x O)(d:RO τ M' ρ' w' m x O')(c:Names ρ ρ'):O=O':=by
 cases h with
 |bx h1 h2 j k=>cases d with|bx a _ _ _=>rw[c _ _ h1] at a;cases a;rfl
 |iR h1 h2=>cases d with
  |iR _ _=>rfl
  |ls a b=>rw[c _ _ h1] at a;cases a;rw[h2] at b;cases b
 |ls h1 h2=>cases d with
  |iR a b=>rw[c _ _ h1] at a;cases a;rw[h2] at b;cases b
  |ls a b=>rw[c _ _ h1] at a;cases a;rfl
 |ig h1 h2=>cases d with
  |ig _ _=>rfl
  |ar a b=>rw[c _ _ h1] at a;cases a;rw[h2] at b;cases b
 |ar h1 h2=>cases d with
  |ig a b=>rw[c _ _ h1] at a;cases a;rw[h2] at b;cases b
  |ar a b=>rw[c _ _ h1] at a;cases a;rfl
 |se h1 _ _ _=>cases d with|se a _ _ _=>rw[c _ _ h1] at a;cases a;rfl
 |jg h1 h2 _ _=>cases d with
  |jg _ _ _ _=>rfl
  |rr a b=>rw[c _ _ h1] at a;cases a;rw[h2] at b;cases b
 |rr h1 h2 _ _ _ _ _ _ _ _ f _ i=>cases d with
  |jg a b _ _=>rw[c _ _ h1] at a;cases a;rw[h2] at b;cases b
  |rr a _ _ _ _ _ _ _ _ _ e _ g=>
   rw[c _ _ h1] at a;cases a
   rw[c _ _ f] at e;cases e
   rw[i.same g]
theorem RH.qO(b:Names ρe ρ'):∀{H:Heap τ.S}{O c:List Nat},RH τ M0 ρe w0 H O->RH τ M' ρ' w' H c->RH τ M' ρe w' H c/\O=c
 |_,_,_,.nil,.nil=>⟨.nil,rfl⟩
 |_,_,_,.cons h1 h2,.cons g n=>by
  obtain⟨h,j⟩:=RH.qO b h2 n
  have e:=h1.same g b
  obtain⟨l0,d,_⟩:=h1.ren
  obtain⟨l,f,m⟩:=g.ren
  have:ρe[‹Nat›]?=some l:=by rw[b _ _ d] at f;cases f;exact d
  exact⟨.cons (m _ _ this λi k=>by obtain⟨o,a⟩:=h1.xns i k;rw[a,b _ _ a]) h,by rw[e,j]⟩
theorem RH.names(a:Names ρ ρ'){H:Heap τ.S}{O:List Nat}(h:RH τ M ρ w H O):RH τ M ρ' w H O:=h.ext a Ext.refl
theorem RE.names(b:Names ρ ρ')(h:RE τ M ρ G H w a Γ):RE τ M ρ' G H w a Γ:=⟨h.gm,λt v c=>let ⟨x,h1,h2⟩:=h.tm t v c;⟨x,h1,h2.mono .rfl b⟩,λm o v c T k e ho=>let ⟨l,x,h1,h2,d⟩:=h.cl m o v c T k e ho;⟨l,x,b _ _ h1,h2,d.imp id (·.mono .rfl b)⟩⟩
theorem SM.back{f:List Nat}(h:SM κ M w (f++O1) O2)(d:SM (⟨w,f,M⟩:Ctx C.τ) M' w' On (O1++O2)):SM κ M' w' (On++O1) O2:=by
 have c:∀b,b∈f\/w.heap.size<=b->b∈κ.F\/κ.w0.heap.size<=b:=λb c=>by
  rcases c with c|c;·exact (h.own b (List.mem_append_left _ c)).2
  ·exact .inr (Nat.le_trans h.frame.size c)
 refine⟨h.tab,h.frame.trans d.frame (λb a=>c b (.inl a)),d.sat,h.le.trans d.le,λb j v e=>?_,by rw[List.append_assoc];exact d.nodup,λb a=>?_,λb c=>d.red b (List.mem_append_right _ c)⟩
 ·rcases d.new b j v e with e|e;·exact h.new b j v e
  ·exact .inr (c b e)
 ·rcases List.mem_append.1 a with a|a;·exact⟨(d.own b a).1,c b (d.own b a).2⟩
  ·exact⟨d.red b (List.mem_append_left _ a),(h.own b (List.mem_append_right _ a)).2⟩
end
section
variable {β:Type}{C:Cf}{s s':Sg C.τ.S}{G p:List (Nat×Bool)}{M M':Mem}{ρ ρ' ρ0:List Loc}{w w':World}{a:Act}{O O1 O2:List Nat}{y:β}{n nx:Nat}{κ:Ctx C.τ}{Q:Exit->Act->World->Prop}
theorem aIJ{t:TypeId}{x z:Operand}{K:SV C.τ.S->Sg C.τ.S->Option β}(h:X6 C s t x z K=some y):tY C n κ ρ0 G s (.call ⟨.builtin .append, #[x,z], #[t,t]⟩) (λv s'=>match v with|some v=>K v s'|none=>none) y:=by
 have plain:EM C s t x z K=some y->tY C n κ ρ0 G s (.call ⟨.builtin .append, #[x,z], #[t,t]⟩) (λv s'=>match v with|some v=>K v s'|none=>none) y:=λh=>by obtain⟨v,s',h1,h2,g⟩:=aqr (n:=n) (κ:=κ) (ρ0:=ρ0) (G:=G) h;exact g.k h1 h2
 unfold X6 at h;split at h
 ·rename_i tx;split at h
  ·rename_i hh i d0 f W;split at h
   ·rename_i m hf;split at h
    ·rename_i c jj xs r hm;split at h
     ·rename_i o;have o:=Nat.eq_of_beq_eq_true o;subst o;obtain⟨q,hq,h⟩:=bind_some h;split at h
      ·rename_i d ys hE;intro K1 Q M w a dst ty pos aM gd hs hk;obtain⟨h0,ρ,O1,O2,hn,hl,he,h1,h2,g⟩:=hs;have O:SS C n ⟨w,O1,M⟩ ρ G s M w a:=⟨h0,ρ,O1,O2,Names.rfl,hl,he,h1,h2,⟨g.tK (by first|exact λ_ h=>h|exact λ_ h=>List.mem_append_left _ h|simp),Frame.refl _ _,g.sat,Mem.le.rfl,λ_ _ _ e=> .inl e,g.nodup,λb o=>⟨(g.own b o).1,.inl o⟩,g.red⟩⟩;have P:=aDj W hm hq hE O;obtain⟨v,s',k1,E,k3⟩:=aqr (n:=n) (κ:=⟨w,O1,M⟩) (ρ0:=ρ) (G:=G) h;obtain⟨v0,U,V⟩:=he.tm tx _ (by rw[<-Sg.bS];exact W);refine k3 K1 Q M w a dst ty pos aM gd P λM' w' xv D F Oz I g2 J g4 L Z g7=>?_;have ko:s'.Bh=s.Bh:=E.Bh
       have j:Keep s (s'.put tx (.x r i d0 f)):=⟨E.B,E.Bh,λp=>by
        by_cases e:tx=p;·subst e;rw[W,Sg.bS];exact jf
        ·have:=E.tm p;rw[Sg.bS,Sg.bS] at this;rw[Sg.bS,Sg.bS];have e1:lk ((s'.put tx (.x r i d0 f)).T++(s'.put tx (.x r i d0 f)).B) 0 p=lk (s'.T++s'.B) 0 p:=bX (λH=>e (by cases H;rfl));rw[e1,this];exact bX (λH=>e (by cases H;rfl))⟩
       rw[ko] at L;obtain⟨_,e⟩:=RH.qO I h2 L;subst e;have N:SM κ M w (O1++[]) O2:=by simpa using g
       have A:=N.back (On:=F) (O1:=[]) (by simpa using Z);rw[List.append_nil] at A;refine hk (some v) (s'.put tx (.x r i d0 f)) M' w' xv D F O2 k1 j (hn.trans I) g2 ⟨J.gm,λp u l=>?_,λX Y u R=>?_⟩ g4 (by show RH C.τ M' D w' s'.Bh O2;rw[ko];exact L) A g7
       ·rcases kN l with ⟨_,rfl,rfl⟩|⟨_,l⟩;·exact⟨v0,U,V.mono Z.le I⟩
        ·exact J.tm p u l
       ·have R:lk (s'.T++s'.B) (X+1) Y=some u:=by have:lk ((0,tx,SV.x r i d0 f)::(s'.T++s'.B)) (X+1) Y=some u:=R;rwa [bX sm] at this
        exact J.cl X Y u R
      ·cases h
     ·cases h
    ·cases h
   ·cases h
  ·exact plain h
 ·exact plain h
end
end Go.R
namespace Go.R
open Go.RowKit Go.Dc
def flatK:Cd->Bool| .int _| .bool| .str=>true|_=>false
def wB:List Cd->Bool|[]=>true|c::r=>flatK c&&wB r
section
variable {β:Type}(C:Cf)(T:FuncId->Option (aN C.τ.S))(I:FuncId->Option (aL C.τ.S))(s:Sg C.τ.S)
def PD(v:SV C.τ.S):SV C.τ.S:=match v with
 | .o m=>match s.bq m with
  |some (.ar c xs)=> .l c xs
  |some (.rr c _ xs _ none)=> .l c xs
  |_=>fz s (.o m)
 |v=>fz s v
def Jt:List (SV C.τ.S)->List (SV C.τ.S)|[]=>[]|v::r=>PD C s v::Jt r
def Y5(v:SV C.τ.S):SV C.τ.S:=match v with| .c vs=> .c (Jt C s vs)|v=>PD C s v
def II:List Operand->Option (List (SV C.τ.S))
 |[]=>some []
 |x::r=>match s.gets [] x with
  |some v=>match II r with|some vs=>some (Y5 C s v::vs)|none=>none
  |none=>none
def aiD(o:Op):Bool:=match o with
 | .call ⟨.value x,⟨_⟩,_⟩=>match s.gets [] x with
  |some (.f f _)=>match T f,I f with|some a,none=>wB a.outs|_,_=>false
  |_=>false
 |_=>false
def Yd(x:Operand)(b:List Operand)(K:SV C.τ.S->Option β):Option β:=match s.gets [] x with
 |some (.f f c)=>match T f,callable C.P f,II C s b with
  |some a,true,some vs=>match DS C.τ a.ins (vs++Jt C s c),wB a.outs with
   |some ps,true=>(a.sP ps).bind λr=>K (gV (ES C.τ a.outs r))
   |_,_=>none
  |_,_,_=>none
 |_=>none
end
def Mw(w:World):Mem:=λb j=>w.cell? ⟨b,j,none⟩
section
variable {β:Type}{C:Cf}{T:FuncId->Option (aN C.τ.S)}{s s':Sg C.τ.S}{G p:List (Nat×Bool)}{M M':Mem}{ρ ρ' ρ0:List Loc}{H R:Heap C.τ.S}{w w':World}{a:Act}{O O' O1 O2:List Nat}{y:β}{n nx:Nat}{κ:Ctx C.τ}{Q:Exit->Act->World->Prop}
theorem Ic(h:Sat M w):M.le (Mw w):=λb j v e=>h b j v e
theorem apQ{c:Cd}{xs:List (c.ty C.τ.S)}{b T cap:Nat}{arr:Array Value}(hs:Sat M w)(h0:0<C.τ.aC c)(f:xs.length<=cap)(a:xs.length<=140737488355328)(k:w.heap[b]?=some (.cells arr T (0,0)))(o:cap*C.τ.aC c<=arr.size)(n:Row C.τ M ρ c xs (λj=>arr[j]?)):RV C.τ (Mw w) ρ (.l c xs) (.slice (some ⟨b,0,none⟩) xs.length cap):=by
 refine .l (λi j=>(arr[i*C.τ.aC c+j]?).getD undef) h0 f a (λi x d j r=>?_) λi x d j u p=>?_
 ·have m:=(List.getElem?_eq_some_iff.1 d).1;have h2:(i+1)*C.τ.aC c<=xs.length*C.τ.aC c:=Nat.mul_le_mul_right _ m;rw[Nat.succ_mul] at h2;have q:xs.length*C.τ.aC c<=cap*C.τ.aC c:=Nat.mul_le_mul_right _ f;have:i*C.τ.aC c+j<arr.size:=by omega
  show w.cell? ⟨b,0+i*C.τ.aC c+j,none⟩=_;rw[Nat.zero_add];simp[World.cell?,k,this]
 ·obtain⟨v,e,g⟩:=n i x d j u p;simp only at e;simp only[e,Option.getD_some];exact g.mono (Ic hs) λ_ _ h=>h
theorem aiM(h:Rd C s G p M ρ H w a O){v:SV C.τ.S}{x:Value}(g:RV C.τ M ρ v x):RV C.τ (Mw w) ρ (PD C s v) x:=by
 have d:∀{u:SV C.τ.S},RV C.τ M ρ u x->RV C.τ (Mw w) ρ (fz s u) x:=λA=>(BH h A).mono (Ic h.sat) λ_ _ h=>h;unfold PD;split
 ·rename_i m;split
  ·rename_i c xs i;obtain⟨_,o,ho,_⟩:=h.obj _ _ i
   cases g with
   | @o _ l h1=>
    cases ho with
    |ig e z=>rw[e] at h1;cases h1;unfold Loc.sl;rw[z];exact .le
    |ar e f j k n q r t y _=>
     rw[e] at h1;cases h1;have:l.sl= .slice (some ⟨l.b,0,none⟩) xs.length l.cap:=by simp[Loc.sl,f,j]
     rw[this];exact apQ h.sat k.1 n q r t y
  ·rename_i c jj xs B i;obtain⟨_,o,ho,_⟩:=h.obj _ _ i
   cases g with
   | @o _ l h1=>
    cases ho with
    |jg e f=>
     rw[e] at h1;cases h1;have:l.sl= .slice none 0 0:=by simp[Loc.sl,f]
     rw[this];exact .le
    |rr e f j k n q r t y=>
     rw[e] at h1;cases h1;have:l.sl= .slice (some ⟨l.b,0,none⟩) xs.length l.cap:=by simp[Loc.sl,f,j]
     rw[this];exact apQ h.sat k.1 n q r t y
  ·exact d g
 ·exact d g
theorem Y6(h:Rd C s G p M ρ H w a O):∀{vs:List (SV C.τ.S)}{xs:List Value},aZ C.τ M ρ vs xs->aZ C.τ (Mw w) ρ (Jt C s vs) xs|_,_,.nil=> .nil|_,_,.cons h1 h2=> .cons (aiM h h1) (Y6 h h2)
theorem awv(h:Rd C s G p M ρ H w a O){v:SV C.τ.S}{x:Value}(b:RG C.τ M ρ G v x):RG C.τ (Mw w) ρ G (Y5 C s v) x:=by
 have d:=b.mono (Ic h.sat) (ρ':=ρ) λ_ _ h=>h
 cases b with
 |v b=>
  unfold Y5;split;·cases b
  ·exact .v (aiM h b)
 |c b=>exact .c (Y6 h b)
 |t _ _=>exact d
 |g _ _ _=>exact d
 |u=>exact .u
theorem afI(d:Rd C s G [] M ρ H w a O):∀{xs:List Operand}{vs:List (SV C.τ.S)},II C s xs=some vs->vs.length=xs.length/\∀(i:Nat) v x,vs[i]?=some v->(xs.map a.eval)[i]?=some x->RG C.τ (Mw w) ρ G v x
 |[],vs,h=>by simp[II] at h;subst h;exact⟨rfl,λi v x h=>by simp at h⟩
 |z::r,vs,h=>by
  unfold II at h
  split at h
  ·rename_i v f
   split at h
   ·rename_i us e
    cases h
    obtain⟨h1,h2⟩:=afI d e
    refine⟨by simp[h1],λi g j b c=>?_⟩
    cases i with
    |zero=>simp at b c;subst b c;exact awv d (d.gets f)
    |succ i=>exact h2 i g j (by simpa using b) (by simpa using c)
   ·cases h
  ·cases h
theorem aiF{c:Cd}(a:flatK c=true){z:c.ty C.τ.S}{x:Value}(h:RA C.τ M ρ (E C.τ c z) x):RV C.τ M' ρ' (E C.τ c z) x:=by
 cases c with
 |int k=>cases h with|v h=>cases h;exact .i
 |bool=>cases h with|v h=>cases h;exact .b
 |str=>cases h with|v h=>cases h;exact .st
 |_=>cases a
theorem aiE{τ:Tb}:∀{cs:List Cd}{q:aK τ.S cs}{i:Nat}{v:SV τ.S},wB cs=true->(ES τ cs q)[i]?=some v->∃c z,flatK c=true/\v=E τ c z
 |[],_,i,v,_,h=>by simp[ES] at h
 |[c],q,i,v,a,h=>by
  simp only[wB,Bool.and_eq_true] at a
  cases i with
  |zero=>simp[ES] at h;exact⟨c,q,a.1,h.symm⟩
  |succ i=>simp[ES] at h
 |c::d::r,q,i,v,a,h=>by
  simp only[wB,Bool.and_eq_true] at a
  cases i with
  |zero=>simp[ES] at h;exact⟨c,q.1,a.1,h.symm⟩
  |succ i=>exact aiE (cs:=d::r) (by simp only[wB,Bool.and_eq_true];exact a.2) (by simpa [ES] using h)
theorem awf{cs:List Cd}{q:aK C.τ.S cs}{z:Value}(a:wB cs=true)(h:RG C.τ M ρ [] (gV (ES C.τ cs q)) z):RG C.τ M' ρ' G (gV (ES C.τ cs q)) z:=by
 match cs,q,a,h with
 |[],_,_,h=>have h:RG C.τ M ρ [] (.t []) z:=h;cases h with|v h=>cases h|t h1 h2=>exact .t (vs:=[]) h1 λi v x h=>by simp at h
 |[c],q,a,h=>simp only[wB,Bool.and_eq_true] at a;exact .v (aiF a.1 (RG.plain (G:=[]) (ρ':=ρ) h))
 |c::d::r,q,a,h=>
  have e:gV (ES C.τ (c::d::r) q)= .t (ES C.τ (c::d::r) q):=by cases r<;>rfl
  rw[e] at h |-;generalize b:ES C.τ (c::d::r) q=vs at h |-;cases h with|v h=>cases h|t h1 h2=>refine .t h1 λi v x f g=>?_;obtain⟨k,l,j,rfl⟩:=aiE (i:=i) a (by rw[b];exact f);exact .v (aiF j (h2 i _ x f g))
theorem aIC{x:Operand}{xs:List Operand}{ts:Array TypeId}{K:SV C.τ.S->Option β}(W:∀f c,T f=some c->FZ C.P C.τ f c)(h:Yd C T s x xs K=some y):∃v,K v=some y/\Step C n κ ρ0 G s (.call ⟨.value x,xs.toArray,ts⟩) (some v) s:=by
 unfold Yd at h;split at h
 ·rename_i f l hx;split at h
  ·rename_i c vs o X I;split at h
   ·rename_i ps H E;obtain⟨r,hr,h⟩:=bind_some h;refine⟨_,h,λK Q M w a dst ty pos aM gd ⟨h0,ρ,O1,O2,hn,Z,D,h1,h2,m⟩ Y=>?_⟩;have g:=fQ D h1 h2 m;have p:=g.rv hx;generalize A:a.eval x=ax at p;cases p with| @f _ _ N O R=>
    obtain⟨J,U⟩:=afI g I;have L:aZ C.τ (Mw w) ρ (Jt C s l) N:=Y6 g (aZ.of O R);unfold Oper.wp;rw[Lm A rfl X w]
    have d:og C.τ (Mw w) [] (ES C.τ c.ins ps) (xs.map a.eval++N):=D9 (G:=G) H (by simp[J,L.len]) λi v z q k=>by
     rw[List.getElem?_append] at q k;simp only[List.length_map] at k;rw[J] at q;split at q;·rename_i F;rw[if_pos F] at k;exact U i v z q k
     ·rename_i F;rw[if_neg F] at k;exact .v (L.at q k)
    refine (W f c o ps r hr w (Mw w) _ d (λb j v e=>e) (D.gm.mono (Ic m.sat)) m.gt).mono ?_;rintro e w' ⟨z,M',rfl,i1,i2,i3,i4,i5⟩;obtain⟨V,t⟩:=m.call (M':=M) (w':=w') (λb j v e=>i2 b j v (i3 b j v (Ic m.sat b j v e))) .rfl i4 λb j v e=> .inl e;refine Y M w' z ρ O1 O2 hn Z (D.ext Names.rfl (h1.app h2) t) (h1.ext Names.rfl (t.sub λb B=>List.mem_append_left _ B)) (h2.ext Names.rfl (t.sub λb B=>List.mem_append_right _ B)) V λu e=>?_;cases e;exact awf E i1
   ·cases h
  ·cases h
 ·cases h
end
end Go.R
