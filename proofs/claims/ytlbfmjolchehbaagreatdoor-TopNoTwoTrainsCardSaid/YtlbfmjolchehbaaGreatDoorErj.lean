/- Several parts of the engine, one behind the other. -/
import Derived.Test.YtlbfmjolchehbaaGreatDoorEri
set_option linter.all false
namespace Go.R
open Go.RowKit Go.Dc
section
variable {β:Type}{C:Cf}{F:Fn C}{s s':Sg C.τ.S}{M M' M0:Mem}{ρ ρ' ρ0 ρe:List Loc}{H H' R:Heap C.τ.S}{w w' w0:World}{a a' a0:Act}{O O' O1 O2:List Nat}{y:β}{n nx:Nat}{κ:Ctx C.τ}{Q:Exit->Act->World->Prop}{its:List aY}{A:List Nat}{Fe:Fence}
theorem kP{S:Nat->Type}{a b:Nat}{X Y:Env S}(h:lk X a b=none):lk (X++Y) a b=lk Y a b:=by rw[cu,h]
theorem R9{Y:Env C.τ.S}{t:Nat}(h:iN t A=false):lk (kill s A its++Y) 0 t=lk Y 0 t:=by
 refine kP ?_;unfold kill;rcases F8 (s:=s) (t:=t) (A:=A) with ⟨_,h2,_⟩|⟨h1,_⟩;·rw[h] at h2;cases h2
 ·rw[kP h1];exact CW
theorem anY{Y:Env C.τ.S}{m o:Nat}(h:dX (m+1) o its=false):lk (kill s A its++Y) (m+1) o=lk Y (m+1) o:=by
 refine kP ?_;unfold kill;rw[kP R8];rcases Ku (S:=C.τ.S) (m:=m) (o:=o) (its:=its) with ⟨_,h2⟩|⟨h1,_⟩;·rw[h] at h2;cases h2
 ·exact h1
theorem SM.give{e d c:List Nat}(h:SM κ M w (e++d) c):SM κ M w e (d++c):=
 ⟨h.tab,h.frame,h.sat,h.le,h.new,by rw[<-List.append_assoc];exact h.nodup,λb a=>h.own b (List.mem_append_left _ a),λb a=>by
  rcases List.mem_append.1 a with a|a
  ·exact (h.own b (List.mem_append_right _ a)).1
  ·exact h.red b a⟩
theorem anZ{Y:Env C.τ.S}(h:jh Y):jh (kill s A its++Y):=by
 intro t v a p u e;subst e;by_cases b:lk (kill s A its) 0 t=none;·rw[kP b] at a;exact h t _ a p u rfl
 ·unfold kill at b;rcases F8 (s:=s) (t:=t) (A:=A) with ⟨h1,_,_⟩|⟨h1,_⟩;·unfold kill at a;rw[List.append_assoc,cu,h1] at a;cases a
  ·rw[kP h1] at b;exact b CW
def ou(b:Fence)(C:Cf)(F:Fn C)(κ:Ctx C.τ)(c:Code):Prop:=∀{β:Type}{y:β}(s:Sg C.τ.S) (k:KK β C.τ.S) (ρ0:List Loc) (Q:Exit->Act->World->Prop),run C F c s k=some y->jh s.B->
 (∀e T Th nx,k e T Th nx=some y->KU C.τ F.n κ ρ0 (λa w=>Q e a w) nx (T++s.B) Th s.Bh)->CU b C.P C.τ F.n κ ρ0 c Q s.nx (s.T++s.B) s.Th s.Bh
theorem run_seq{x z:Code}{k:KK β C.τ.S}:run C F (.seq x z) s k=match (match lead z with|some i=>F.sp (2*i)|none=>none) with
 |none=>run C F x s λe T Th nx=>match e with| .normal=>run C F z ⟨s.B,T,s.Bh,Th,nx⟩ k|e=>k e T Th nx
 |some its=>Db s its λs=>match qQ s its with
  |some ri=>
   au (λ(q:aK C.τ.S (ri.map (·.sh.cd)))=>rT s.B (dI C.τ ri (bD C.τ.S ri q) s.nx (kill s (gF x) ri++s.T)) s.Bh (fG C.τ ri (bD C.τ.S ri q) s.nx (boxes s.Th++bT (bR s ri) s.Th)) (lQ ri s.nx) λs'=>run C F z s' k)
    λa=>rT (s.T++s.B) [] (bT (bR s ri) s.Th++s.Bh) (lZ (bR s ri) s.Th) s.nx λs'=>run C F x s' λe T Th nx=>match e with
     | .normal=>meet C (gF x) ri s.nx s.Th (wC ⟨s.T++s.B,T,bT (bR s ri) s.Th++s.Bh,Th,nx⟩ ri) a
     |e=>k e (T++s.T) (Th++bT (bR s ri) s.Th) nx
  |none=>none:=rfl
theorem aDZ{b:Code}{k:KK β C.τ.S}:run C F (.loop b) s k=match (match lead b with|some i=>F.sp (2*i+1)|none=>none) with
 |none=>none
 |some its=>match isU its with
  |some m=>UH C (run C F b) m s k
  |none=>Db s its λs=>match qQ s its with
   |some ri=>
    meet C (gF b) ri s.nx s.Th ⟨s.T++s.B,[],bT (bR s ri) s.Th++s.Bh,lZ (bR s ri) s.Th,s.nx⟩
     (iter (λK (x:aK C.τ.S (ri.map (·.sh.cd)))=>rT (kill s (gF b) ri++(s.T++s.B)) (dI C.τ ri (bD C.τ.S ri x) s.nx []) (bT (bR s ri) s.Th++s.Bh) (fG C.τ ri (bD C.τ.S ri x) s.nx (boxes s.Th)) (lQ ri s.nx) λs'=>run C F b s' λe T Th nx=>match e with
      | .normal=>meet C (gF b) ri s.nx s.Th ⟨kill s (gF b) ri++(s.T++s.B),T,bT (bR s ri) s.Th++s.Bh,Th,nx⟩ K
      |e=>k e (T++(kill s (gF b) ri++s.T)) (Th++bT (bR s ri) s.Th) nx) FUEL)
   |none=>none:=rfl
theorem aDv{i:Item}(h:SS C n κ ρ0 [] s M w a):SS C n κ ρ0 [] (xL s i) M w a/\(xL s i).B=s.B/\(xL s i).Bh=s.Bh:=by
 unfold xL;split
 ·rename_i c jj _;split;·exact⟨h,rfl,rfl⟩
  ·split
   ·rename_i q _;split;·exact⟨h,rfl,rfl⟩
    ·rename_i m _;split
     ·split
      ·rename_i u;refine⟨?_,rfl,rfl⟩;obtain⟨h0,ρ,O1,O2,J,d,A,h1,h2,I⟩:=h;have r:Names ρ (ρ++[⟨0,0,0,true,[]⟩,⟨0,0,0,true,[]⟩]):=λm l e=>by rw[List.getElem?_append_left (List.getElem?_eq_some_iff.1 e).1];exact e
       have z:(ρ++[⟨0,0,0,true,[]⟩,⟨0,0,0,true,[]⟩])[s.nx]?=some (⟨0,0,0,true,[]⟩:Loc):=by rw[<-d];simp
       have D:(ρ++[⟨0,0,0,true,[]⟩,⟨0,0,0,true,[]⟩])[s.nx+1]?=some (⟨0,0,0,true,[]⟩:Loc):=by rw[<-d];simp
       have f:=A.names r;refine⟨h0,_,O1,O2,J.trans r,by simp[d],⟨A.gm,λt v K=>?_,λy o v b T k j ho=>?_⟩,.cons (o:=[]) (.jg z rfl D rfl) (h1.ext r Ext.refl),h2.ext r Ext.refl,I⟩;·refine f.tm t v ?_;rw[<-K];exact (bX sm).symm
       ·have p:(y,SO.bx T k)∈s.Th++s.Bh:=by
         rcases List.mem_cons.1 j with j|j;·cases j
         ·exact j
        have b:lk ((m+1,q.2,.o s.nx)::(s.T++s.B)) (y+1) o=some v:=b;rcases kN b with ⟨E,F,ev⟩|⟨_,b⟩
        ·cases E;subst F;subst ev;have u:lk (s.T++s.B) (m+1) q.2=some .nl:=by rw[cu];exact u
         obtain⟨l,x,G,H,g⟩:=f.cl m q.2 _ u T k p ho;refine⟨l,x,G,H,.inr ?_⟩;rcases g with g|g;·cases g
         ·cases g;exact RV.o (l:=⟨0,0,0,true,[]⟩) z
        ·exact f.cl y o v b T k p ho
      ·exact⟨h,rfl,rfl⟩
     ·exact⟨h,rfl,rfl⟩
   ·exact⟨h,rfl,rfl⟩
 ·exact⟨h,rfl,rfl⟩
theorem apy{i:Item}:(xL s i).B=s.B/\(xL s i).Bh=s.Bh:=by
 unfold xL;repeat' split
 all_goals exact⟨rfl,rfl⟩
theorem apz:∀{its:List Item}{s:Sg C.τ.S},(uZ s its).B=s.B/\(uZ s its).Bh=s.Bh/\∀{M:Mem}{w:World}{a:Act},SS C n κ ρ0 [] s M w a->SS C n κ ρ0 [] (uZ s its) M w a
 |[],s=>⟨rfl,rfl,id⟩
 |i::r,s=>by
  obtain⟨h1,h2,b⟩:=apz (its:=r) (s:=xL s i)
  exact⟨h1.trans apy.1,h2.trans apy.2,λh=>b (aDv h).1⟩
theorem aDw{its:List Item}{s:Sg C.τ.S}{k:Sg C.τ.S->Option β}:∃b,Db s its k=k b/\b.B=s.B/\b.Bh=s.Bh/\∀{M:Mem}{w:World}{a:Act},SS C n κ ρ0 [] s M w a->SS C n κ ρ0 [] b M w a:=by
 unfold Db;split;·exact⟨s,rfl,rfl,rfl,id⟩
 ·exact⟨uZ s its,Pn ..,apz⟩
theorem ahK{c:Code}{its:List Item}{k:KK β C.τ.S}{f:Sg C.τ.S->Option β}(h:Db s its f=some y)(i:jh s.B)(l:∀e T Th nx,k e T Th nx=some y->KU C.τ F.n κ ρ0 (λa w=>Q e a w) nx (T++s.B) Th s.Bh)(j:∀s,f s=some y->jh s.B->(∀e T Th nx,k e T Th nx=some y->KU C.τ F.n κ ρ0 (λa w=>Q e a w) nx (T++s.B) Th s.Bh)->CU Fe C.P C.τ F.n κ ρ0 c Q s.nx (s.T++s.B) s.Th s.Bh):CU Fe C.P C.τ F.n κ ρ0 c Q s.nx (s.T++s.B) s.Th s.Bh:=by obtain⟨m,e,b,d,g⟩:=aDw (n:=F.n) (κ:=κ) (ρ0:=ρ0) (its:=its) (s:=s) (k:=f);intro M w a hs;exact j m (e▸h) (b▸i) (by rw[b,d];exact l) M w a (g hs)
theorem aiK{s:Sg C.τ.S}{M:Mem}{w:World}{a:Act}(h:SS C n κ ρ0 [] s M w a):∀{its:List aY},∃M',SS C n κ ρ0 [] (wC s its) M' w a/\(wC s its).B=s.B/\(wC s its).Bh=s.Bh
 |[]=>⟨M,h,rfl,rfl⟩
 |i::r=>by
  obtain⟨d,h1,b,c⟩:=aiK h (its:=r)
  unfold wC
  split
  ·split
   ·obtain⟨e,h2⟩:=Y3 h1
    exact⟨e,h2,b,c⟩
   ·exact⟨d,h1,b,c⟩
  ·exact⟨d,h1,b,c⟩
theorem aDM{x z:Code}(u:ou Fe C F κ x)(v:ou Fe C F κ z):ou Fe C F κ (.seq x z):=by
 intro β y s k ρ0 Q h j i;rw[run_seq] at h;simp only[Pn] at h;split at h;·refine avt (u s _ ρ0 _ h j λe T Th nx d=>?_);cases e with|normal=>exact v ⟨s.B,T,s.Bh,Th,nx⟩ k ρ0 Q d j i|_=>exact i _ _ _ _ d
 ·refine ahK h j i λs h j i=>?_;split at h
  ·rename_i its _ _ ri D;obtain⟨O,o,h⟩:=am0 h;intro M w a ⟨h0,ρe,O1,O2,p,c,d,h1,h2,m⟩;have E:=Gu d D;refine wpIn_seq (u _ _ ρe _ h (acS d) (λe T Th nx t=>?_) M w a (NP p h0 c d h1 h2 m));intro M' w' l b
   cases e with
   |normal=>
    obtain⟨M',b,f1,f2⟩:=aiK (its:=ri) (s:=⟨s.T++s.B,T,bT (bR s ri) s.Th++s.Bh,Th,nx⟩) b;obtain⟨σ,f,g,r,q,A,G,H,I,J,K,L,N⟩:=SG h0 c d h1 h2 m E f2 b (λ_ _=>by rw[f1]) (λ_ _ _ _=>by rw[f1]) t;subst o;dsimp only at f;rw[xW] at f;refine v _ k ρ0 Q f j i M' w' l ⟨b.1,g,r++q,A,p.trans G,H,?_,?_,L,N⟩;·show RE C.τ M' g [] (fG C.τ ri σ s.nx (boxes s.Th++bT (bR s ri) s.Th)++s.Bh) w' l (dI C.τ ri σ s.nx (kill s (gF x) ri++s.T)++s.B);rw[yS,List.append_assoc,kL,List.append_assoc,List.append_assoc,<-kL];exact I
    ·show RH C.τ M' g w' (fG C.τ ri σ s.nx (boxes s.Th++bT (bR s ri) s.Th)) (r++q);rw[kL,<-List.append_assoc,<-kL];exact J.app K
   |_=>have b:St C.τ F.n κ ρe [] nx (T++(s.T++s.B)) Th (bT (bR s ri) s.Th++s.Bh) M' w' l:=b;exact i _ _ _ _ t M' w' l (by rw[List.append_assoc];exact aiR (B:=s.B) (X:=s.T) p h1 h2 m b)
  ·cases h
theorem aDK{b:Code}(H:ou Fe C F κ b):ou Fe C F κ (.loop b):=by
 intro β y s k ρ0 Q h A j;rw[aDZ] at h;simp only[Pn] at h;split at h;·cases h
 ·split at h;·rename_i m _;intro M w a hs;refine wpIn_loop_ghost (λm a w=>∃s' M,UH C (run C F b) m s' k=some y/\s'.B=s.B/\s'.Bh=s.Bh/\SS C F.n κ ρ0 [] s' M w a) m ⟨s,M,h,rfl,rfl,hs⟩ ?_;rintro m a w ⟨s',M,h,l,u,hs⟩;cases m with|zero=>cases h|succ m=>refine H s' _ ρ0 _ h (by rw[l];exact A) (λe T Th nx p=>?_) M w a hs;intro M' w' g c;cases e with|normal=>exact⟨m,Nat.lt_succ_self m,⟨s'.B,T,s'.Bh,Th,nx⟩,M',p,l,u,c⟩|_=>exact j _ _ _ _ p M' w' g (by rw[<-l,<-u];exact c)
  refine ahK h A j λs h A j=>?_;split at h
  ·rename_i its _ _ _ ri O;intro M w a ⟨h0,ρe,O1,O2,I,i,v,h1,h2,z⟩;have Y:=Gu v O;let body:HL C.τ.S ri->Sg C.τ.S:=λσ=>⟨kill s (gF b) ri++(s.T++s.B),dI C.τ ri σ s.nx [],bT (bR s ri) s.Th++s.Bh,fG C.τ ri σ s.nx (boxes s.Th),lQ ri s.nx⟩;let K:(aK C.τ.S (ri.map (·.sh.cd))->Option β)->aK C.τ.S (ri.map (·.sh.cd))->Option β:=λK x=>run C F b ⟨kill s (gF b) ri++(s.T++s.B),dI C.τ ri (bD C.τ.S ri x) s.nx [],bT (bR s ri) s.Th++s.Bh,fG C.τ ri (bD C.τ.S ri x) s.nx (boxes s.Th),lQ ri s.nx⟩ λe T Th nx=>match e with| .normal=>meet C (gF b) ri s.nx s.Th ⟨kill s (gF b) ri++(s.T++s.B),T,bT (bR s ri) s.Th++s.Bh,Th,nx⟩ K|e=>k e (T++(kill s (gF b) ri++s.T)) (Th++bT (bR s ri) s.Th) nx
   have f:∀{m:Nat}{s':Sg C.τ.S}{M':Mem}{w':World}{g:Act},s'.Bh=bT (bR s ri) s.Th++s.Bh->SS C F.n κ ρe [] s' M' w' g->(∀t,iN t (gF b)=false->lk s'.B 0 t=lk (s.T++s.B) 0 t)->(∀m o,m<s.nx->dX (m+1) o ri=false->lk s'.B (m+1) o=lk (s.T++s.B) (m+1) o)->
     meet C (gF b) ri s.nx s.Th s' (iter K m)=some y->∃σ,iter K m (pR C.τ.S ri σ)=some y/\SS C F.n κ ρe [] (body σ) M' w' g:=by
    intro m s' M' w' g l c u P V
    obtain⟨σ,d,r,N,L,J,Z,z2,z3,z4,z5,z6,z7⟩:=SG h0 i v h1 h2 z Y l c u P V
    refine⟨σ,d,c.1,r,N,L++J,Z,z2,?_,z4,z5.app z6,z7.give⟩
    show RE C.τ M' r [] (fG C.τ ri σ s.nx (boxes s.Th)++(bT (bR s ri) s.Th++s.Bh)) w' g (dI C.τ ri σ s.nx []++(kill s (gF b) ri++(s.T++s.B)))
    rw[yS,kL,List.append_assoc,<-kL]
    exact z3
   obtain⟨G,q,D⟩:=f rfl (NP I h0 i v h1 h2 z) (λ_ _=>rfl) (λ_ _ _ _=>rfl) h;refine wpIn_loop_ghost (λm a w=>∃σ M,iter K m (pR C.τ.S ri σ)=some y/\SS C F.n κ ρe [] (body σ) M w a) FUEL ⟨G,M,q,D⟩ ?_;rintro m a w ⟨σ,M,d,hs⟩;cases m with|zero=>cases d|succ m=>have d:K (iter K m) (pR C.τ.S ri σ)=some y:=d;simp only[K,xW] at d;refine H (body σ) _ ρe _ d (anZ (acS v)) (λe T Th nx p=>?_) M w a hs;intro M' w' g c;cases e with|normal=>obtain⟨E,R,U⟩:=f (s':=⟨kill s (gF b) ri++(s.T++s.B),T,bT (bR s ri) s.Th++s.Bh,Th,nx⟩) rfl c (λt W=>R9 W) (λm o _ j=>anY j) p;exact⟨m,Nat.lt_succ_self m,E,M',R,U⟩|_=>have c:St C.τ F.n κ ρe [] nx (T++(kill s (gF b) ri++(s.T++s.B))) Th (bT (bR s ri) s.Th++s.Bh) M' w' g:=c;exact j _ _ _ _ p M' w' g (by simp only[List.append_assoc];exact aiR (B:=s.B) (X:=s.T) I h1 h2 z c)
  ·cases h
theorem aDJ{c:Operand}{x z:Code}(n:ou Fe C F κ x)(o:ou Fe C F κ z):ou Fe C F κ (.cond c x z):=by
 intro β y s k ρ0 Q h g i M w a hs;have h:(match s.sW c with|some (.b t)=>cnd t (run C F x s k) (run C F z s k)|_=>none)=some y:=h;split at h;·rename_i t m;obtain⟨h0,ρ,O1,O2,q,p,l,h1,h2,j⟩:=id hs;have d:=(fQ l h1 h2 j).sW m;generalize e:a.eval c=v at d;cases d with|v d=>cases d;exact wpIn_cond_split e (λf=>n s k ρ0 Q ((aB5 f).symm.trans h) g i M w a hs) (λf=>o s k ρ0 Q ((aB4 f).symm.trans h) g i M w a hs)
 ·cases h
theorem aDI{id:Nat}{b:Code}(g:ou Fe C F κ b):ou Fe C F κ (.block id b):=by
 intro β y s k ρ0 Q h f d;refine avp (g s _ ρ0 _ h f λe T Th nx c=>?_)
 cases e with
 |exit j=>
  simp only at c;split at c;·rename_i a;have a:=Nat.eq_of_beq_eq_true a;subst a;have:=d _ _ _ _ c;simpa [Exit.inBlock] using this
  ·rename_i a;have a:j≠id:=λe=>by subst e;simp at a
   have:=d _ _ _ _ c;simpa [Exit.inBlock,a] using this
 |_=>exact d _ _ _ _ c
theorem aDL{i:Nat}{ops:Array Oper}(r:Wd Fe)(u:∀f c,F.T f=some c->FZ C.P C.τ f c)(t:∀f i,F.I f=some i->aF C f i):ou Fe C F κ (.region i ops false):=by
 intro β y s k ρ0 Q h q d M w a hs;have h:(match kR ops.toList with|false=>none|true=>ord C F.T F.I F.n F.wr ops.toList ops.toList [] s (λs'=>k .normal s'.T s'.Th s'.nx))=some y:=h;split at h;·cases h
 rename_i g;obtain⟨_,ρ,O1,O2,D,B,A,h1,h2,z⟩:=id hs;have:=sZ (Q:=jU λa w=>Q .normal a w) (κ:=κ) (ρ0:=ρ0) u t ops.toList [] s h (λj b v=>by cases v) q λs' m o p=>by have:=d _ _ _ _ m;rw[o,p];exact λM w a hs=>⟨rfl,this M w a hs⟩
 exact wpIn_mono (wpIn_region_lit (l:=ops.toList) (KD r g (this M w a hs))) (λe a w x=>by obtain⟨rfl,d⟩:=x;exact d)
theorem SS.drawn(h:SS C n κ ρ0 [] s M w a)(m:Nat):SS C n κ ρ0 [] s M {w with drawn:=m} a:=by obtain⟨h0,ρ,O1,O2,f,d,c,h1,h2,b⟩:=h;have e:∀O,Ext O M M w {w with drawn:=m}:=λO=>⟨Mem.le.rfl,λ_ _=>rfl,λ_ _=>rfl⟩;exact⟨h0,ρ,O1,O2,f,d,c.ext Names.rfl (h1.app h2) (e _),h1.ext Names.rfl (e _),h2.ext Names.rfl (e _),⟨b.tab,b.frame.trans (F1:=[]) ⟨rfl,rfl,rfl,Nat.le_refl _,λ_ _ _=>rfl⟩ (λ_ h=>by cases h),b.sat,b.le,b.new,b.nodup,b.own,b.red⟩⟩
theorem Sc{q:Nat×Nat}:∀{l:List Oper}{i:Nat},q∈mP C s i l->∃t o,s.lk 0 t=some (.r q.2 o)
 |[],i,h=>by cases h
 |o::r,i,h=>by
  unfold mP at h
  split at h
  ·split at h
   ·rename_i a
    rcases List.mem_cons.1 h with rfl|h
    ·exact⟨_,_,a⟩
    ·exact Sc h
   ·exact Sc h
  ·exact Sc h
theorem NV{S:Nat->Type}{m:Nat}:∀{H:Heap S},m∈vW H->∃T k,(m,SO.bx T k)∈H
 |[],h=>by cases h
 |(q,x)::r,h=>by
  unfold vW at h
  split at h
  ·rename_i a
   rcases List.mem_cons.1 h with rfl|h
   ·cases x with
    |bx T k=>exact⟨T,k,List.mem_cons_self⟩
    |_=>cases a
   ·obtain⟨T,k,h⟩:=NV h;exact⟨T,k,List.mem_cons_of_mem _ h⟩
  ·obtain⟨T,k,h⟩:=NV h;exact⟨T,k,List.mem_cons_of_mem _ h⟩
theorem asQ{C:Cf}{I:FuncId->Option (aL C.τ.S)}{ops:Array Oper}{j:Nat}{o:Oper}(h:eY j (WL ops)=true)(ho:ops[j]?=some o):jr C I ops.toList o=true:=by
 have:=(List.mem_filter.1 (mG.1 h)).2;rw[ho] at this;simp only[Bool.and_eq_true] at this;rcases (Bool.or_eq_true _ _).mp this.1 with h1|h1
 ·unfold isApp at h1;split at h1
  ·rename_i a _;have:yO ops.toList o=false:=by simp[yO,a]
   unfold jr;rw[a,this];rfl
  ·cases h1
 ·unfold al3 at h1;split at h1
  ·rename_i a _ _;have:yO ops.toList o=false:=by simp[yO,a]
   unfold jr;rw[a,this];rfl
  ·cases h1
theorem avd{C:Cf}{I:FuncId->Option (aL C.τ.S)}{s:Sg C.τ.S}{ρ:List Loc}{O1:List Nat}{G:List (Nat×Bool)}{ops:Array Oper}{q:Nat×Nat×Nat}(i:RE C.τ M ρ G (s.Th++s.Bh) w a (s.T++s.B))(h1:RH C.τ M ρ w s.Th O1)(h:q∈Jb C I s ops):(∃l,ρ[q.1]?=some l)/\∃v,Oy ρ q.2.2=some v:=by
 have bx:∀{m T k:Nat},bq s.Th m=some (.bx T k)->∃l,ρ[m]?=some l:=λb=>by obtain⟨o,ho,_⟩:=h1.look (pz b);cases ho with|bx e _ _ _=>exact⟨_,e⟩
 unfold Jb at h;split at h;·cases h
 ·obtain⟨o,_,h⟩:=List.mem_filterMap.1 h;split at h
  ·split at h
   ·split at h;·rename_i b;cases h;exact⟨bx b,_,rfl⟩
    ·rename_i j _ k f b;split at h
     ·rename_i d;cases h;refine⟨bx b,?_⟩;rw[Sg.bS] at f;obtain⟨l,x,p,r,c⟩:=i.cl _ _ _ f _ k (List.mem_append_left _ (pz b)) (by simpa [Nat.blt_eq] using d);rcases c with c|c;·cases c
      ·cases c with| @o _ n g=>exact⟨n.sl,by show (ρ[j]?).map Loc.sl=_;rw[g];rfl⟩
     ·cases h
    ·cases h
   ·cases h
  ·cases h
theorem aDH{i:Nat}{ops:Array Oper}(hF:Wd Fe)(hT:∀f A,F.T f=some A->FZ C.P C.τ f A)(hI:∀f i,F.I f=some i->aF C f i):ou Fe C F κ (.region i ops true):=by
 intro β y s k ρ0 Q h hB hk M w a hs
 have h:(match kR ops.toList with
  |false=>none
  |true=>match C.P.follows .mixedOrders&&Region.noSelect ops with
    |true=>match F.sp (100000+i) with
     |none=>iE C F.T F.I F.n F.wr ops ((mP C s 0 ops.toList).map (·.2)) ((mP C s 0 ops.toList).map (·.1)) (Me ops) (WL ops) (λ_=>vW s.Th) (Jb C F.I s ops) ops.size (Array.replicate ops.size false) [] true [] s λs'=>k .normal s'.T s'.Th s'.nx
     |some its=>iE C F.T F.I F.n F.wr ops ((mP C s 0 ops.toList).map (·.2)) (((mP C s 0 ops.toList).map (·.1)).filter λz=> !eY z (IG C F.I ops (its.map (·.path)))) (Me ops) (IG C F.I ops (its.map (·.path))) (WX C s (its.map (·.path)) (vW s.Th)) [] ops.size (Array.replicate ops.size false) [] true [] s λs'=>k .normal s'.T s'.Th s'.nx
    |false=>none)=some y:=h
 split at h;·cases h
 rename_i aa;split at h
 ·rename_i G;simp only[Bool.and_eq_true] at G
  obtain⟨XO,R,p,S,U,u,V,h⟩:∃XO R p S,(∀j o,eY j R=true->ops[j]?=some o->jr C F.I ops.toList o=true)/\(∀z,∀m∈p z,m∈vW s.Th)/\(∀q∈S,q∈Jb C F.I s ops)/\iE C F.T F.I F.n F.wr ops ((mP C s 0 ops.toList).map (·.2)) XO (Me ops) R p S ops.size (Array.replicate ops.size false) [] true [] s (λs'=>k .normal s'.T s'.Th s'.nx)=some y:=by
   split at h;·exact⟨_,_,_,_,λj o h1 h2=>asQ h1 h2,λ_ _ h=>h,λ_ h=>h,h⟩
   ·refine⟨_,_,_,_,λj o h1 h2=>?_,λz m c=>?_,(λ_ h=>by cases h),h⟩
    ·have h1:=mG.1 h1;unfold IG at h1;split at h1;·cases h1
     ·have:=(List.mem_filter.1 h1).2;rw[h2] at this;exact this
    ·unfold WX at c;split at c;·cases c
     ·split at c;·exact c
      ·exact (List.mem_filter.1 c).1
  obtain⟨h0,ρ,O1,O2,hn,O,g,h1,h2,N⟩:=SS.drawn hs (w.drawn+1);have inv:HeadInv .any ops ops.size (Array.replicate ops.size false):=⟨sm,λj oj J O=>(by rw[getD_replicate_false] at O;cases O),λt h1 h2=>om⟩;have hX:∀m∈(mP C s 0 ops.toList).map (·.2),∃l,ρ[m]?=some l:=λm c=>by obtain⟨q,L,rfl⟩:=List.mem_map.1 c;obtain⟨t,o,ht⟩:=Sc L;rw[Sg.bS] at ht;obtain⟨x,_,X⟩:=g.tm _ _ ht;cases X with|v X=>cases X with|r e=>exact⟨_,e⟩
  have Z:∀z,∀m∈p z,∃l,ρ[m]?=some l:=λz m c=>by have c:=u z m c;obtain⟨T,k,d⟩:=NV c;obtain⟨o,ho,_⟩:=h1.look d;cases ho with|bx e _ _ _=>exact⟨_,e⟩
  have Y:∀z,∀b∈blk ρ (p z),b<w.heap.size:=λz b E=>by obtain⟨m,c,e⟩:=List.mem_filterMap.1 E;have c:=u z m c;obtain⟨T,k,d⟩:=NV c;obtain⟨o,ho,ab⟩:=h1.look d;cases ho with|bx W _ _ _=>rw[W] at e;simp at e;subst e;exact N.lt (List.mem_append_left _ (ab _ sm))
  have D:∀b j v,M b j=some v->b<w.heap.size:=λb j v e=>by
   rcases Nat.lt_or_ge b w.heap.size with h|h;·exact h
   ·have:=N.sat.kE (b:=b) (j:=j) h;rw[this] at e;cases e
  have:=any_ok (κ:=κ) (ρ0:=ρ) (N0:=w.heap.size) (Ms:=M) (Kc:=λa w=>Q .normal a w) (B0:=s.B) (U8:=s.Bh) hT hI G.2 hX Z (λq L=>avd g h1 (V q L)) U Y D (λs' W e2 e3=>by
   have:=hk _ _ _ _ W;rw[e2,e3];rintro M' w' a' ⟨q0,ae,q1,q2,q3,q4⟩;exact this M' w' a' ⟨q0,ae,q1,q2,hn.trans q3,q4⟩) ops.size _ [] true [] s _ [] M _ a 0 0 h rfl rfl
   ⟨λj b E=>(by cases E),hB,inv,sm,λj J=>⟨λh=>⟨h,λG=>(by cases G)⟩,λh=>h.1⟩,λi H=>(by cases H),λi H=>(by cases H),λt _=>⟨λJ=>(by cases J),λJ=>(by cases J)⟩,λi H=>(by cases H),List.Pairwise.nil,λe g=>(by cases g),Nat.le_refl _,⟨h0,ρ,O1,O2,Names.rfl,O,g,h1,h2,N,λe g=>(by cases g),List.Pairwise.nil,Nat.le_refl _,λm l c K=>(by rw[List.getElem?_eq_none om] at K;cases K),Mem.le.rfl,λ_=>⟨λb E=>N.lt E,D,Mem.le.rfl⟩⟩⟩
  have:=wpIn_region_any (id:=i) (P:=C.P) (F:=Fe) (n:=0) (Q:=jU λa w=>Q .normal a w) G.1 (NI hF aa _ (ard _ _ _ _ this));exact wpIn_mono this (λe a w L=>by obtain⟨rfl,hk⟩:=L;exact hk)
 ·cases h
theorem ap0(o:Wd Fe)(q:∀f e,F.T f=some e->FZ C.P C.τ f e)(p:∀f i,F.I f=some i->aF C f i):∀c:Code,ou Fe C F κ c:=by
 intro c
 induction c with
 |skip=>exact λs k ρ0 Q h g a=>avu (a .normal s.T s.Th s.nx h)
 |region i ops d=>cases d with|false=>exact aDL o q p|true=>exact aDH o q p
 |seq x z m n=>exact aDM m n
 |cond c x z m n=>exact aDJ m n
 |block i b j=>exact aDI j
 |loop b j=>exact aDK j
 |rangeFunc=>intro β y s k ρ0 Q h;cases h
 |exit i=>exact λs k ρ0 Q h g a=>avq (a (.exit i) s.T s.Th s.nx h)
 |scope=>intro β y s k ρ0 Q h;cases h
 |label l=>exact λs k ρ0 Q h g a=>avr (a .normal s.T s.Th s.nx h)
 |goto=>intro β y s k ρ0 Q h;cases h
 |ret=>exact λs k ρ0 Q h g a=>avs (a .ret s.T s.Th s.nx h)
 |refuse=>intro β y s k ρ0 Q h;cases h
end
end Go.R
namespace Go.R
open Go.RowKit Go.Dc
section
variable {β:Type}(C:Cf)
def ra{S:Nat->Type}:SV S->Bool| .t _| .g _ _| .u=>false|_=>true
def xM(s:Sg C.τ.S):List ResultVar->Option (List (SV C.τ.S))
 |[]=>some []
 | .tmp t::r=>match s.lk 0 t with
  |some v=>match ra v,xM s r with|true,some vs=>some (v::vs)|_,_=>none
  |none=>none
 | .cell t T::r=>match zO C.P T,s.lk 0 t with
  |some (n,a),some (.r m o)=>match s.bq m with
   |some (.bx _ k)=>match Nat.ble (o+n) k,cells C s m o n with
    |true,some cs=>match yK C n a cs with
     |some v=>match ra v,xM s r with|true,some vs=>some (v::vs)|_,_=>none
     |none=>none
    |_,_=>none
   |_=>none
  |_,_=>none
noncomputable def DY(wr:Bool)(T:FuncId->Option (aN C.τ.S))(I:FuncId->Option (aL C.τ.S))(sp:Nat->Option (List Item))(f:FuncId)(vs:List (SV C.τ.S))(s:Sg C.τ.S)(K:List (SV C.τ.S)->Sg C.τ.S->Option β):Option β:=
 match C.P.funcs.toList[f]? with
 |some fn=>match fn.body,Nat.ble vs.length fn.ntmps,Nat.ble fn.results.toList.length 4 with
  |some c,true,true=>run C ⟨fn.ntmps,wr,T,I,sp⟩ c ⟨bG (s.T++s.B),dx 0 vs,s.Bh,s.Th,s.nx⟩ λe Γ Th nx=>match (match e with| .normal| .ret=>true|_=>false) with
   |true=>match xM C ⟨bG (s.T++s.B),Γ,s.Bh,Th,nx⟩ fn.results.toList with
    |some us=>K us ⟨s.B,bG Γ++s.T,s.Bh,Th,nx⟩
    |none=>none
   |false=>none
  |_,_,_=>none
 |none=>none
noncomputable def inl(wr:Bool)(T:FuncId->Option (aN C.τ.S))(I:FuncId->Option (aL C.τ.S))(sp:Nat->Option (List Item))(f:FuncId):aL C.τ.S:=⟨λvs s K=>DY C wr T I sp f vs s λus s'=>K (gV us) s',false⟩
noncomputable def fnv(wr:Bool)(T:FuncId->Option (aN C.τ.S))(I:FuncId->Option (aL C.τ.S))(sp:Nat->Option (List Item))(f:FuncId)(ins outs:List Cd)(ps:aK C.τ.S ins):Option (aK C.τ.S outs):=DY C wr T I sp f (ES C.τ ins ps) ⟨[],[],[],[],0⟩ λus s=>DS C.τ outs (us.map (gG ⟨s.B,s.T,s.Bh,nI s.Th,s.nx⟩))
end
section
variable {β:Type}{C:Cf}{T:FuncId->Option (aN C.τ.S)}{I:FuncId->Option (aL C.τ.S)}{s s':Sg C.τ.S}{M M' M0:Mem}{ρ ρ' ρ0 ρe:List Loc}{H H' R:Heap C.τ.S}{w w' w0:World}{a a' a0:Act}{O O' O1 O2 bN gB:List Nat}{y:β}{n nx:Nat}{κ:Ctx C.τ}{wr:Bool}{sp:Nat->Option (List Item)}{f:FuncId}
theorem CX{t:Nat}{v:SV C.τ.S}:∀{vs:List (SV C.τ.S)}{i:Nat},lk (dx i vs) 0 t=some v->i<=t/\vs[t-i]?=some v
 |[],i,h=>by simp[dx,lk] at h
 |x::r,i,h=>by
  rcases kN h with ⟨_,rfl,rfl⟩|⟨a,h⟩
  ·simp
  ·obtain⟨h1,h2⟩:=CX h
   refine⟨om,?_⟩
   rw[show t-i=(t-(i+1))+1 by omega]
   simpa using h2
theorem uX{m o:Nat}:∀{vs:List (SV C.τ.S)}{i:Nat},lk (dx i vs) (m+1) o=none
 |[],i=>rfl
 |x::r,i=>by
  show lk ((0,i,x)::dx (i+1) r) (m+1) o=none
  rw[bX sm];exact uX
theorem RG.ra{v:SV C.τ.S}{x:Value}(h:RG C.τ M ρ [] v x)(a:ra v=true):RA C.τ M ρ v x:=by cases h with|v h=>exact .v h|c h=>exact .c h|t _ _=>cases a|g _ _ _=>cases a|u=>cases a
theorem TU(f:Rd C s [] [] M ρ H w a O):∀{y:List ResultVar}{vs:List (SV C.τ.S)},xM C s y=some vs->∃xs:List Value,xs.length=y.length/\vs.length=y.length/\(∀(i:Nat) r x,y[i]?=some r->xs[i]?=some x->(gW a.tmps r).run C.P w= .ok x w)/\∀(i:Nat) v x,vs[i]?=some v->xs[i]?=some x->RA C.τ M ρ v x
 |[],vs,h=>by simp[xM] at h;subst h;exact⟨[],rfl,rfl,λi r x h=>by simp at h,λi v x h=>by simp at h⟩
 | .tmp t::r,vs,h=>by
  unfold xM at h
  split at h
  ·rename_i v l
   split at h
   ·rename_i us d A
    cases h
    obtain⟨xs,h1,h2,D,E⟩:=TU f A
    rw[Sg.bS] at l
    obtain⟨x,B,g⟩:=f.env.tm _ _ l
    refine⟨x::xs,by simp[h1],by simp[h2],λi q z c b=>?_,λi u z e b=>?_⟩
    ·cases i with
     |zero=>
      simp at c b;subst c b
      show Result.ok (a.tmps.getD t undef) w=_
      rw[Array.getD_eq_getD_getElem?,B];rfl
     |succ i=>exact D i q z (by simpa using c) (by simpa using b)
    ·cases i with
     |zero=>simp at e b;subst e b;exact g.ra d
     |succ i=>exact E i u z (by simpa using e) (by simpa using b)
   ·cases h
  ·cases h
 | .cell t ty::r,vs,h=>by
  unfold xM at h
  split at h
  ·rename_i n Z m o T N
   split at h
   ·rename_i Y k R
    split at h
    ·rename_i cs I F
     split at h
     ·rename_i v l
      split at h
      ·rename_i us d A
       cases h
       obtain⟨xs,h1,h2,D,E⟩:=TU f A
       rw[Sg.bS] at N
       obtain⟨x,B,g⟩:=f.env.tm _ _ N
       obtain⟨j,ob,ho,Q⟩:=f.obj _ _ R
       cases ho with
       |bx L g2 _ _=>
        obtain⟨zs,U,k2,V⟩:=cells_ok f j L F (Nat.le_of_ble_eq_true I)
        obtain⟨z,W,X⟩:=Ey (G:=[]) T l U
        refine⟨z::xs,by simp[h1],by simp[h2],λi q J c b=>?_,λi u J e b=>?_⟩
        ·cases i with
         |zero=>
          simp at c b;subst c b
          cases g with
          |v g=>
           cases g with
           |r K=>
            rw[L] at K;cases K
            show (asAddr (a.tmps.getD t undef) >>= λp=>loadVar ty p).run C.P w=_
            rw[Array.getD_eq_getD_getElem?,B]
            exact X w _ o V
         |succ i=>exact D i q J (by simpa using c) (by simpa using b)
        ·cases i with
         |zero=>simp at e b;subst e b;exact W.ra d
         |succ i=>exact E i u J (by simpa using e) (by simpa using b)
      ·cases h
     ·cases h
    ·cases h
   ·cases h
  ·cases h
theorem apH{fn:Func}{vs:List (SV C.τ.S)}{xs:List Value}{tmps:Array Value}(n:Nat.ble fn.results.toList.length 4=true)(h1:xs.length=fn.results.toList.length)(h2:vs.length=fn.results.toList.length)(a:∀(i:Nat) r x,fn.results.toList[i]?=some r->xs[i]?=some x->(gW tmps r).run C.P w= .ok x w)(m:∀(i:Nat) v x,vs[i]?=some v->xs[i]?=some x->RA C.τ M ρ v x):∃x,(results fn tmps).run C.P w= .ok x w/\RG C.τ M ρ [] (gV vs) x:=by
 have n:=Nat.le_of_ble_eq_true n;have q:∀{o:List ResultVar},fn.results.toList=o->fn.results=o.toArray:=λh=>by rw[<-h]
 generalize p:fn.results.toList=o at n h1 h2 a;have d:=q p;match o,xs,vs,h1,h2 with|[],[],[],_,_=>exact⟨_,results_none d _ _ _,.t (vs:=[]) (xs:=[]) rfl λi v x h=>by simp at h⟩|[r],[x],[v],_,_=>exact⟨x,aD0 d (a 0 r x rfl rfl),(m 0 v x rfl rfl).g⟩|[e,f],[b,c],[j,k],_,_=>exact⟨_,aD1 d (a 0 e b rfl rfl) (a 1 f c rfl rfl),.t (vs:=[j,k]) (xs:=[b,c]) rfl m⟩|[e,f,s],[b,c,l],[j,k,u],_,_=>exact⟨_,aD2 d (a 0 e b rfl rfl) (a 1 f c rfl rfl) (a 2 s l rfl rfl),.t (vs:=[j,k,u]) (xs:=[b,c,l]) rfl m⟩|[e,f,s,z],[b,c,l,y],[j,k,u,A],_,_=>exact⟨_,aD3 d (a 0 e b rfl rfl) (a 1 f c rfl rfl) (a 2 s l rfl rfl) (a 3 z y rfl rfl),.t (vs:=[j,k,u,A]) (xs:=[b,c,l,y]) rfl m⟩|_::_::_::_::_::_,_,_,_,_=>simp at n
theorem SM.lift(h:SM κ M w O1 O2)(d:SM (⟨w,O1,M⟩:Ctx C.τ) M' w' bN gB):SM κ M' w' bN gB:=by
 have a:∀b,b∈O1\/w.heap.size<=b->b∈κ.F\/κ.w0.heap.size<=b:=λb a=>by
  rcases a with a|a;·exact (h.own b a).2
  ·exact .inr (Nat.le_trans h.frame.size a)
 refine⟨h.tab,h.frame.trans d.frame λb c=>a b (.inl c),d.sat,h.le.trans d.le,λb j v e=>?_,d.nodup,λb c=>⟨(d.own b c).1,a b (d.own b c).2⟩,d.red⟩;rcases d.new b j v e with e|e;·exact h.new b j v e
 ·exact .inr (a b e)
theorem UY(Y:∀f r,T f=some r->FZ C.P C.τ f r)(X:∀f i,I f=some i->aF C f i){vs:List (SV C.τ.S)}{K:List (SV C.τ.S)->Sg C.τ.S->Option β}(h:DY C wr T I sp f vs s K=some y){xs:List Value}(hs:CS C κ ρ s M w ρ)(G:AB C.τ M ρ vs xs):Calls C.P f xs.toArray w (λe w'=>∃x us s' M' d,e= .returned x/\K us s'=some y/\Keep s s'/\M.le M'/\CS C κ ρ s' M' w' d/\RG C.τ M' d [] (gV us) x):=by
 unfold DY at h;split at h
 ·rename_i fn H;have H:C.P.funcs[f]?=some fn:=by rw[<-Array.getElem?_toList];exact H
  split at h
  ·rename_i c g A J;have A:xs.length<=fn.ntmps:=by rw[G.1];exact Nat.le_of_ble_eq_true A
   obtain⟨O1,O2,U,V,q⟩:=hs.mem;refine calls_of_wp H g ?_;have W:SM ⟨w,O1,M⟩ M w O1 O2:=⟨q.tK (by first|exact λ_ h=>h|exact λ_ h=>List.mem_append_left _ h|simp),Frame.refl _ _,q.sat,Mem.le.rfl,λb j v e=> .inl e,q.nodup,λb g=>⟨(q.own b g).1,.inl g⟩,q.red⟩;have l:jh (bG (s.T++s.B)):=λt v a=>by rw[nQ] at a;cases a
   refine wpIn_wide.1 (ap0 .plain (F:=⟨fn.ntmps,wr,T,I,sp⟩) (κ:=⟨w,O1,M⟩) Y X c ⟨bG (s.T++s.B),dx 0 vs,s.Bh,s.Th,s.nx⟩ _ ρ _ h l (λe Γ Th nx z=>?_) M w _ ⟨⟨by simp;omega,rfl⟩,ρ,O1,O2,Names.rfl,hs.len,⟨hs.gm,λt v a=>?_,λm o v a T k g ho=>?_⟩,U,V,W⟩)
   ·split at z
    ·rename_i Z;split at z
     ·rename_i us R;rintro M' w' D ⟨h0,d,N,O,hn,hl,p,h1,h2,E⟩;have L:Rd C ⟨bG (s.T++s.B),Γ,s.Bh,Th,nx⟩ [] [] M' d (Th++s.Bh) w' D (N++O):=fQ (s:=⟨bG (s.T++s.B),Γ,s.Bh,Th,nx⟩) p h1 h2 E;obtain⟨zs,k1,k2,k3,k4⟩:=TU L R;obtain⟨x,k5,k6⟩:=apH J k1 k2 k3 k4;have fin:∃x us s' M'' d,Ending.returned x=Ending.returned x/\True:=⟨x,us,s,M,ρ,rfl,trivial⟩
      have fin:D.defers=[]/\∃v,(results fn D.tmps).run C.P w'= .ok v w'/\∃x us s' M' d,Ending.returned v= .returned x/\K us s'=some y/\Keep s s'/\M.le M'/\CS C κ ρ s' M' w' d/\RG C.τ M' d [] (gV us) x:=by
       refine⟨h0.zS,x,k5,x,us,_,M',d,rfl,z,⟨rfl,rfl,λt=>?_⟩,E.le,⟨hn,hl,p.gm,λm o v a Q k g ho=>?_,N,O,h1,h2,q.lift E⟩,k6⟩;·rw[Sg.bS,Sg.bS];show lk (bG Γ++s.T++s.B) 0 t=_;rw[List.append_assoc,kP nQ]
       ·refine p.cl m o v ?_ Q k g ho;have a:lk (bG Γ++s.T++s.B) (m+1) o=some v:=a;rw[List.append_assoc,cu,kD] at a;rw[cu,kD];exact a
      cases e with|normal=>exact fin|ret=>exact fin|_=>cases Z
     ·cases z
    ·cases z
   ·rw[cu] at a;split at a
    ·rename_i u hu;cases a;obtain⟨_,a⟩:=CX hu;have hi:=(List.getElem?_eq_some_iff.1 a).1;have n:t<xs.length:=by rw[G.1];omega
     refine⟨xs[t],?_,G.2 t v _ (by simpa using a) (by simp[n])⟩;rw[Array.getElem?_append_left (by simpa using n)];simp[n]
    ·rw[nQ] at a;cases a
   ·rw[kP uX,kD] at a;exact hs.cl m o v a T k g ho
  ·cases h
 ·cases h
theorem bf(n:∀f a,T f=some a->FZ C.P C.τ f a)(m:∀f i,I f=some i->aF C f i):aF C f (inl C wr T I sp f):=by intro β y vs s K h κ M w ρ xs hs o;refine (UY n m h hs o).mono ?_;rintro e w' ⟨x,us,s',M',b,c,d,g,j,k,l⟩;exact⟨x,gV us,s',M',b,c,d,g,j,k,l⟩
theorem TP{cs:List Cd}{p:aK C.τ.S cs}{us:List (SV C.τ.S)}{x:Value}(k:Rd C s [] [] M ρ H w a O)(h:DS C.τ cs (us.map (gG s))=some p)(b:RG C.τ M ρ [] (gV us) x):RG C.τ M ρ' [] (gV (ES C.τ cs p)) x:=by
 match us,b with
 |[],b=>
  match cs,p,h with
  |[],p,_=>have b:RG C.τ M ρ [] (.t []) x:=b;cases b with|t h1 h2=>exact .t (vs:=[]) h1 λi v x h=>by simp at h|v h=>cases h
  |[_],_,h=>simp[DS] at h
  |_::_::_,_,h=>simp[DS] at h
 |[v],b=>have b:RG C.τ M ρ [] v x:=b;match cs,p,h with|[],_,h=>simp[DS] at h|[c],p,h=>exact (Ap h (wE k b)).plain.g|c::d::[],_,h=>simp[DS] at h;split at h<;>cases h|c::d::e::r,_,h=>simp[DS] at h;split at h<;>cases h
 |v::u::us,b=>
  have b:RG C.τ M ρ [] (.t (v::u::us)) x:=b
  cases b with
  |v h=>cases h
  | @t _ xs h1 h2=>
   have:=D9 (ρ':=ρ') (G:=[]) (xs:=xs) h (by simpa using h1) λi z l f j=>by rw[List.getElem?_map] at f;cases e:(v::u::us)[i]? with|none=>rw[e] at f;cases f|some q=>rw[e] at f;cases f;exact wE k (h2 i q l e j).g
   match cs,p,h,this with
   |[],_,h,_=>simp[DS] at h
   |[c],_,h,_=>simp[DS] at h
   |c::d::r,p,h,this=>
    have e:gV (ES C.τ (c::d::r) p)= .t (ES C.τ (c::d::r) p):=by cases r with|nil=>rfl|cons _ _=>rfl
    rw[e];exact .t this.len λi z l f j=>this.get f j
theorem aT{a:aN C.τ.S}(R:∀f a,T f=some a->FZ C.P C.τ f a)(O:∀f i,I f=some i->aF C f i)(h:∀ps,fnv C wr T I sp f a.ins a.outs ps=a.sP ps):FZ C.P C.τ f a:=by
 intro ps r F w M xs c W y z;rw[<-h] at F;have u:CS C ⟨w,[],M⟩ [] ⟨[],[],[],[],0⟩ M w []:=⟨Names.rfl,rfl,y,λm o v G T k l=>(by cases l),⟨[],[],.nil,.nil,⟨z,Frame.refl _ _,W,Mem.le.rfl,λb j v e=> .inl e,List.nodup_nil,λb l=>(by cases l),λb l=>(by cases l)⟩⟩⟩;refine (UY R O F u ⟨c.len,λi v x h1 h2=>(c.get h1 h2).g⟩).mono ?_;rintro e w' ⟨x,us,s',M',q,rfl,Q,n,U,d,V⟩;obtain⟨O1,O2,K,L,N⟩:=d.mem;obtain⟨E,H,_,f1,f2,J⟩:=YZ (O1:=[]) K (by rw[List.append_nil];exact N);rw[List.append_nil] at f1;have D:RE C.τ M' q [] (s'.Th++s'.Bh) w' ⟨#[],[]⟩ (s'.T++s'.B):=⟨d.gm,λt v G=>?_,d.cl⟩
 ·have A:Rd C ⟨s'.B,s'.T,s'.Bh,nI s'.Th,s'.nx⟩ [] [] E q (nI s'.Th++s'.Bh) w' ⟨#[],[]⟩ (H++O2):=fQ (s:=⟨s'.B,s'.T,s'.Bh,nI s'.Th,s'.nx⟩) (D.kg f2.le λX T k p=>by
   rcases List.mem_append.1 p with p|p;·exact List.mem_append_left _ (YX p)
   ·exact List.mem_append_right _ p) J (L.ext (λ_ _ h=>h) (f2.sub λb l=>by simpa using l)) f1
  refine⟨x,E,rfl,TP A Q (V.mono f2.le λ_ _ h=>h),f1.sat,f1.le,f1.frame,λb j v e=>?_⟩;rcases f1.new b j v e with e|e|e;·exact .inl e
  ·cases e
  ·exact .inr e
 ·have:=n.tm t;rw[Sg.bS,Sg.bS,G] at this;cases this
end
end Go.R
namespace Go.R
open Go.RowKit Go.Dc
def aJ{α:Type 1}:List (Nat×α)->FuncId->Option α|[],_=>none|q::r,f=>match Nat.beq q.1 f with|true=>some q.2|false=>aJ r f
def aI{α:Type}:List (Nat×α)->FuncId->Option α|[],_=>none|q::r,f=>match Nat.beq q.1 f with|true=>some q.2|false=>aI r f
inductive aG (P:Program) (τ:Tb):List (Nat×aN τ.S)->Prop
 |nil:aG P τ []
 |cons {f:Nat}{c:aN τ.S}{r:List (Nat×aN τ.S)}:FZ P τ f c->aG P τ r->aG P τ ((f,c)::r)
inductive aH (C:Cf):List (Nat×aL C.τ.S)->Prop
 |nil:aH C []
 |cons {f:Nat}{c:aL C.τ.S}{r:List (Nat×aL C.τ.S)}:aF C f c->aH C r->aH C ((f,c)::r)
theorem aG.get{P:Program}{τ:Tb}:∀{l:List (Nat×aN τ.S)},aG P τ l->∀f a,aI l f=some a->FZ P τ f a
 |_,.nil,_,_,h=>by cases h
 |_,.cons h1 h2,f,a,h=>by
  unfold aI at h
  split at h
  ·rename_i e
   have:=Nat.eq_of_beq_eq_true e
   subst this
   cases h;exact h1
  ·exact h2.get f a h
theorem aH.get{C:Cf}:∀{l:List (Nat×aL C.τ.S)},aH C l->∀f i,aJ l f=some i->aF C f i
 |_,.nil,_,_,h=>by cases h
 |_,.cons h1 h2,f,a,h=>by
  unfold aJ at h
  split at h
  ·rename_i e
   have:=Nat.eq_of_beq_eq_true e
   subst this
   cases h;exact h1
  ·exact h2.get f a h
theorem aF.am{P:Program}{τ:Tb}{cd:TypeId->Option Cd}{a b:Bool}{rj:Nat->Option Nat}{f:FuncId}{I:aL τ.S}(h:aF ⟨P,τ,cd,a,rj⟩ f I):aF ⟨P,τ,cd,b,rj⟩ f I:=by intro β y vs s K m κ M w ρ xs c i;refine (h vs s K m κ M w ρ xs ⟨c.names,c.len,c.gm,c.cl,c.mem⟩ i).mono ?_;rintro e w' ⟨x,v,s',M',j,h1,h2,g,k,d,l⟩;exact⟨x,v,s',M',j,h1,h2,⟨g.B,g.Bh,g.tm⟩,k,⟨d.names,d.len,d.gm,d.cl,d.mem⟩,l⟩
end Go.R
