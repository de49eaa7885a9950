/- words.Lines: a range over strings.SplitSeq; its contract, by hand over the engine (R23). -/
import Derived.Test.YtlbfmjolchehbaaGreatDoorM146
set_option linter.all false
namespace Go.Z
open Go Go.Proofs Go.Dc Go.R
set_option maxRecDepth 100000
noncomputable section
noncomputable def cO(i:Nat):Code:=match Tryz.prog.funcs.toList[i]? with|some f=>(match f.body with|some c=>c|none=> .skip)|none=> .skip
noncomputable def adZ(i:Nat):List ResultVar:=match Tryz.prog.funcs.toList[i]? with|some f=>f.results.toList|none=>[]
noncomputable def bA:Code->Code| .seq a _=>a| .block _ b=>b| .loop b=>b| .cond _ a _=>a| .rangeFunc _ _ a _=>a|c=>c
noncomputable def aQ:Code->Code| .seq _ b=>b| .cond _ _ b=>b| .rangeFunc _ _ _ b=>b|c=>c
noncomputable def dP:Code->List Oper| .region _ ops _=>ops.toList|_=>[]
abbrev iL:List Cd:=[.list (.list (.st 24)),.int .i64,.int .i64]
noncomputable def nk:R.Fn Z:=⟨42,false,aI [(146,c146)],aJ [(145,i145)],λ_=>none⟩
noncomputable def eX:R.Fn Z:=⟨52,false,aI [(267,Xu)],aJ [],λ_=>none⟩
noncomputable def aB6:List R.Item:=[⟨[5,0],.o (.list (.st 24))⟩,⟨[6,0],.v (.int .i64)⟩,⟨[14,1089537,0],.v .str⟩]
noncomputable def uy(s:Sg Zτ.S):Option (aK Zτ.S iL):=match xM Z s (adZ 63) with|some us=>DS Zτ iL (us.map (gG ⟨s.B,s.T,s.Bh,nI s.Th,s.nx⟩))|none=>none
section
variable (s:Sg Zτ.S)(ri:List aY)(us:List (SV Zτ.S))
noncomputable abbrev jS(σ:HL Zτ.S ri):Sg Zτ.S:=⟨kill s [] ri++(s.T++s.B),dI Zτ ri σ s.nx [],bT (bR s ri) s.Th++s.Bh,fG Zτ ri σ s.nx (boxes s.Th),lQ ri s.nx⟩
abbrev KX:Type:=aK Zτ.S (ri.map (·.sh.cd))->Option (aK Zτ.S iL)
noncomputable def acK(T:Env Zτ.S)(Th:Heap Zτ.S)(nx:Nat)(K:KX ri):Option (aK Zτ.S iL):=meet Z [] ri s.nx s.Th ⟨kill s [] ri++(s.T++s.B),T,bT (bR s ri) s.Th++s.Bh,Th,nx⟩ K
noncomputable def pK(σ:HL Zτ.S ri)(T:Env Zτ.S):Sg Zτ.S:=⟨bG ((jS s ri σ).T++(jS s ri σ).B),T,(jS s ri σ).Bh,(jS s ri σ).Th,(jS s ri σ).nx⟩
noncomputable def uh(σ:HL Zτ.S ri)(T:Env Zτ.S)(Th:Heap Zτ.S)(nx:Nat)(K:KX ri):Option (aK Zτ.S iL):=acK s ri (bG T++(jS s ri σ).T) Th nx K
noncomputable def KE(t:Str)(x:aK Zτ.S (ri.map (·.sh.cd)))(K:KX ri):Option (aK Zτ.S iL):=
 run Z nk (bA (bA (aQ (bA (aQ (aQ (aQ (aQ (cO 63))))))))) ⟨(jS s ri (bD Zτ.S ri x)).B,(0,15,.st t)::(jS s ri (bD Zτ.S ri x)).T,(jS s ri (bD Zτ.S ri x)).Bh,(jS s ri (bD Zτ.S ri x)).Th,(jS s ri (bD Zτ.S ri x)).nx⟩ λe T Th nx=>match e with
  | .normal=>run Z nk (aQ (bA (aQ (bA (aQ (aQ (aQ (aQ (cO 63))))))))) ⟨(jS s ri (bD Zτ.S ri x)).B,T,(jS s ri (bD Zτ.S ri x)).Bh,Th,nx⟩ λe T Th nx=>match e with
   | .normal=>acK s ri (bG T) Th nx K
   | .ret=>uy ⟨(jS s ri (bD Zτ.S ri x)).B,bG T,(jS s ri (bD Zτ.S ri x)).Bh,Th,nx⟩
   |_=>none
  |_=>none
noncomputable def aeo(x:aK Zτ.S (ri.map (·.sh.cd))):Option (aK Zτ.S iL):=ord Z nk.T nk.I nk.n nk.wr (dP (bA (aQ (aQ (aQ (aQ (aQ (cO 63)))))))) (dP (bA (aQ (aQ (aQ (aQ (aQ (cO 63)))))))) [] (jS s ri (bD Zτ.S ri x)) λs'=>uy s'
noncomputable abbrev iy:Code:=bA (bA (bA (bA (aQ (cO 265)))))
noncomputable def Pb(x:aK Zτ.S (ri.map (·.sh.cd))):Option (aK Zτ.S iL):=
 ord Z eX.T eX.I eX.n eX.wr ((dP (aQ (aQ (cO 265)))).drop 1 |>.take 1) ((dP (aQ (aQ (cO 265)))).drop 1 |>.take 1) [] (pK s ri (bD Zτ.S ri x) (dx 0 (.u::us))) λs'=>match lk s'.T 0 50 with
  |some (.st t)=>uh s ri (bD Zτ.S ri x) s'.T s'.Th s'.nx λb=>KE s ri t b λa=>aeo s ri a
  |_=>none
noncomputable def zo(K:KX ri)(x:aK Zτ.S (ri.map (·.sh.cd))):Option (aK Zτ.S iL):=
 ord Z eX.T eX.I eX.n eX.wr (dP (bA iy)) (dP (bA iy)) [] (pK s ri (bD Zτ.S ri x) (dx 0 (.u::us))) λf=>
 ord Z eX.T eX.I eX.n eX.wr (dP (bA (bA (aQ iy)))) (dP (bA (bA (aQ iy)))) [] f λa=>match lk a.T 0 33 with
  |some (.b b)=>cnd b (uh s ri (bD Zτ.S ri x) a.T a.Th a.nx λe=>Pb s ri us e)
   (ord Z eX.T eX.I eX.n eX.wr (dP (bA (aQ (aQ iy)))) (dP (bA (aQ (aQ iy)))) [] a λc=>match lk c.T 0 7,lk c.T 0 8 with
    |some (.i .i64 i),some (.st t)=>uh s ri (bD Zτ.S ri x) c.T c.Th c.nx λe=>KE s ri t e λd=>
     ord Z eX.T eX.I eX.n eX.wr (dP (aQ (aQ (aQ (aQ iy))))) (dP (aQ (aQ (aQ (aQ iy))))) [] (pK s ri (bD Zτ.S ri d) ((0,7,.i .i64 i)::dx 0 (.u::us))) λs4=>uh s ri (bD Zτ.S ri d) s4.T s4.Th s4.nx K
    |_,_=>none)
  |_=>none
noncomputable def adI(x:aK Zτ.S (ri.map (·.sh.cd))):Option (aK Zτ.S iL):=
 ord Z eX.T eX.I eX.n eX.wr (dP (bA (bA (cO 265)))) (dP (bA (bA (cO 265)))) [] (pK s ri (bD Zτ.S ri x) (dx 0 (.u::us))) λa=>match lk a.T 0 11 with
  |some (.b b)=>cnd b none (uh s ri (bD Zτ.S ri x) a.T a.Th a.nx λx=>iter (zo s ri us) FUEL x)
  |_=>none
end
noncomputable def aeh(s:Sg Zτ.S):Option (aK Zτ.S iL):=match lk (s.T++s.B) 0 14 with
 |some (.f g us)=>match Nat.beq g 265,us.length,qQ s aB6 with
  |true,3,some ri=>match ri.all (λi=>Nat.blt 0 i.a) with
   |true=>meet Z [] ri s.nx s.Th ⟨s.T++s.B,[],bT (bR s ri) s.Th++s.Bh,lZ (bR s ri) s.Th,s.nx⟩ (adI s ri us)
   |false=>none
  |_,_,_=>none
 |_=>none
noncomputable def Yo(p:Str):Option (aK Zτ.S iL):=
 run Z nk (bA (cO 63)) ⟨[],dx 0 [.st p],[],[],0⟩ λe T Th nx=>match e with
 | .normal=>run Z nk (bA (aQ (cO 63))) ⟨[],T,[],Th,nx⟩ λe T Th nx=>match e with
  | .ret=>uy ⟨[],T,[],Th,nx⟩
  | .normal=>run Z nk (bA (aQ (aQ (cO 63)))) ⟨[],T,[],Th,nx⟩ λe T Th nx=>match e with
   | .normal=>run Z nk (bA (aQ (aQ (aQ (cO 63))))) ⟨[],T,[],Th,nx⟩ λe T Th nx=>match e with
    | .normal=>run Z nk (bA (bA (aQ (aQ (aQ (aQ (cO 63))))))) ⟨[],T,[],Th,nx⟩ λe T Th nx=>match e with
     | .normal=>aeh ⟨[],T,[],Th,nx⟩
     |_=>none
    |_=>none
   |_=>none
  |_=>none
 |_=>none
def aq8(e:List (List Word)×Int×Str->Option (List (List Word)×Int×Int))(a:List (List Word)×Int×Str):Option (List (List Word)×Int×Int):=(Uy (a.2.2,Str.mk [10])).bind λb=>if decide (b<0) then ah (aj (a.2.1+1))<|(L9 (a.2.2,a.2.1+1)).bind λc=>if !c.2 then some ([],a.2.1+1,2) else if decide (64<(↑(List.length c.1):Int)) then some ([],a.2.1+1,7) else if decide (0<(↑(List.length c.1):Int)) then ah (aS 24 (a.1++[c.1]).length)<|some (a.1++[c.1],0,0) else some (a.1,0,0) else ah (aj (b+0))<|(mX a.2.2 0 (b+0)).bind λf=>ah (aj (a.2.1+1))<|(L9 (f,a.2.1+1)).bind λd=>if !d.2 then some ([],a.2.1+1,2) else if decide (64<(↑(List.length d.1):Int)) then some ([],a.2.1+1,7) else if decide (0<(↑(List.length d.1):Int)) then ah (aS 24 (a.1++[d.1]).length)<|ah (aj (b+(↑1:Int)))<|(mX a.2.2 (b+(↑1:Int)) (↑a.2.2.1.length:Int)).bind λg=>e (a.1++[d.1],a.2.1+1,g) else ah (aj (b+(↑1:Int)))<|(mX a.2.2 (b+(↑1:Int)) (↑a.2.2.1.length:Int)).bind λh=>e (a.1,a.2.1+1,h)
def GY(p:Str):Option (List (List Word)×Int×Int):=if decide (65536<(↑p.1.length:Int)) then some ([],0,7) else iter aq8 FUEL ([],0,p)
structure Bs(s:Sg Zτ.S)(ri:List aY)(κ:Ctx Zτ)(ρe:List R.Loc)(M0:Mem)(w0:World)(a0:Act)(O1 O2:List Nat):Prop where
 sa:SA 42 a0
 len:ρe.length=s.nx
 re:RE Zτ M0 ρe [] (s.Th++s.Bh) w0 a0 (s.T++s.B)
 h1:RH Zτ M0 ρe w0 s.Th O1
 h2:RH Zτ M0 ρe w0 s.Bh O2
 sm:SM κ M0 w0 O1 O2
 vld:Iz (C:=Z) s ρe ri
 pos:ri.all (λi=>Nat.blt 0 i.a)=true
section
variable {s:Sg Zτ.S}{ri:List aY}{us:List (SV Zτ.S)}{κ:Ctx Zτ}{ρe ρ:List R.Loc}{M0 M:Mem}{w0 w:World}{a0 a:Act}{O1 O2:List Nat}{y:aK Zτ.S iL}{K:KX ri}{L D fn:Nat}
theorem Bs.noG(b:Bs s ri κ ρe M0 w0 a0 O1 O2):jh (kill s [] ri++(s.T++s.B)):=anZ (C:=Z) (acS (C:=Z) b.re)
theorem Bs.tm(b:Bs s ri κ ρe M0 w0 a0 O1 O2)(c:M0.le M)(d:Names ρe ρ):TM Z M ρ (kill s [] ri++(s.T++s.B)) a0:=λt v a=>by
 rw[R9 (C:=Z) rfl] at a
 obtain⟨x,h1,h2⟩:=b.re.tm t v a
 exact⟨x,h1,h2.mono c d⟩
theorem avD{a b nx:Nat}{t:Nat}{Γ:Env Zτ.S}(d:Nat.blt 0 a=true):∀(sh:Sh) (x:sh.cd.ty Zτ.S),lk (ER Zτ a b nx sh x Γ) 0 t=lk Γ 0 t:=by
 have d:0<a:=by simpa [Nat.blt_eq] using d
 have c:∀{v:SV Zτ.S},lk ((a,b,v)::Γ) 0 t=lk Γ 0 t:=bX (by simp;omega);intro sh x;cases sh<;>first|exact c|rfl
theorem wo{t:Nat}:∀{ri:List aY}{σ:HL Zτ.S ri}{nx:Nat},ri.all (λi=>Nat.blt 0 i.a)=true->lk (dI Zτ ri σ nx []) 0 t=none
 |[],_,_,_=>rfl
 |i::r,σ,nx,h=>by
  rw[List.all_cons,Bool.and_eq_true] at h
  show lk (ER Zτ i.a i.b nx i.sh σ.1 (dI Zτ r σ.2 (Jj nx i.sh) [])) 0 t=none
  rw[avD h.1]
  exact wo h.2
theorem aos{T:Env Zτ.S}{Th:Heap Zτ.S}{nx:Nat}(b:Bs s ri κ ρe M0 w0 a0 O1 O2)(h:acK s ri T Th nx K=some y)(hs:CS Z κ ρe ⟨kill s [] ri++(s.T++s.B),T,bT (bR s ri) s.Th++s.Bh,Th,nx⟩ M w ρ)(c:M0.le M):∃x a,K x=some y/\CS Z κ ρe (jS s ri (bD Zτ.S ri x)) M w a:=by obtain⟨σ,a,h1,h2⟩:=CS.meet (C:=Z) (n:=42) b.sa b.len b.re b.h1 b.h2 b.sm b.vld c hs rfl (λt=>R9 (C:=Z) rfl) (λm o _ d=>anY (C:=Z) d) h;exact⟨_,a,h1,by rw[xW];exact h2⟩
theorem IL{σ:HL Zτ.S ri}{T:Env Zτ.S}{Th:Heap Zτ.S}{nx:Nat}(b:Bs s ri κ ρe M0 w0 a0 O1 O2)(h:uh s ri σ T Th nx K=some y)(hs:CS Z κ ρe ⟨bG ((jS s ri σ).T++(jS s ri σ).B),T,(jS s ri σ).Bh,Th,nx⟩ M w ρ)(c:M0.le M):∃x a,K x=some y/\CS Z κ ρe (jS s ri (bD Zτ.S ri x)) M w a:=
 aos b h (hs.cells (λm o=>by
  show lk (((bG T)++(jS s ri σ).T)++(jS s ri σ).B) (m+1) o=lk (T++bG ((jS s ri σ).T++(jS s ri σ).B)) (m+1) o
  rw[List.append_assoc,cu (bG T),kD,cu T,kD]) rfl rfl rfl) c
structure Rec(κ:Ctx Zτ)(a0:Act)(L D fn:Nat)(st:LoopState)(pe:Option Code)(w:World):Prop where
 ne:L≠D
 rl:w.heap[L]?=some (.loop {state:=st,pending:=pe,fn:=fn,tmps:=a0.tmps,params:= #[15],assign:=bA (bA (aQ (bA (aQ (aQ (aQ (aQ (cO 63)))))))),body:=aQ (bA (aQ (bA (aQ (aQ (aQ (aQ (cO 63)))))))),defers:=D})
 rd:w.heap[D]?=some (.deferred (some []))
 l0:κ.w0.heap.size<=L
 d0:κ.w0.heap.size<=D
theorem Rec.al{st:LoopState}{pe:Option Code}(h:Rec κ a0 L D fn st pe w):R.Aside (C:=Z) κ w L:=⟨h.l0,_,h.rl,trivial⟩
theorem Rec.ad{st:LoopState}{pe:Option Code}(h:Rec κ a0 L D fn st pe w):R.Aside (C:=Z) κ w D:=⟨h.d0,_,h.rd,trivial⟩
theorem Rec.to{st:LoopState}{pe:Option Code}{w':World}(h:Rec κ a0 L D fn st pe w)(hw:∀b,R.Aside (C:=Z) κ w b->w'.heap[b]?=w.heap[b]?):Rec κ a0 L D fn st pe w':=⟨h.ne,(hw _ h.al).trans h.rl,(hw _ h.ad).trans h.rd,h.l0,h.d0⟩
theorem Rec.put{st st':LoopState}{pe KW:Option Code}(h:Rec κ a0 L D fn st pe w):Rec κ a0 L D fn st' KW (w.putObj L (.loop {state:=st',pending:=KW,fn:=fn,tmps:=a0.tmps,params:= #[15],assign:=bA (bA (aQ (bA (aQ (aQ (aQ (aQ (cO 63)))))))),body:=aQ (bA (aQ (bA (aQ (aQ (aQ (aQ (cO 63)))))))),defers:=D})):=⟨h.ne,World.putObj_heap_same h.al.lt,(World.putObj_heap_other (λe=>h.ne e.symm)).trans h.rd,h.l0,h.d0⟩
theorem yY:∀f a,nk.T f=some a->FZ Z.P Zτ f a:=aG.get (.cons atD .nil)
theorem yX:∀f i,nk.I f=some i->aF Z f i:=aH.get (.cons aAA .nil)
theorem EU:∀f a,eX.T f=some a->FZ Z.P Zτ f a:=aG.get (.cons agR .nil)
theorem ET:∀f i,eX.I f=some i->aF Z f i:=aH.get .nil
theorem aoj{t:Str}{x:aK Zτ.S (ri.map (·.sh.cd))}{R:Ending->World->Prop}(b:Bs s ri κ ρe M0 w0 a0 O1 O2)(h:KE s ri t x K=some y)(hs:CS Z κ ρe (jS s ri (bD Zτ.S ri x)) M w ρ)(X:M0.le M)(hr:Rec κ a0 L D fn .ready none w)(kn:∀u M' w' c,K u=some y->CS Z κ ρe (jS s ri (bD Zτ.S ri u)) M' w' c->M0.le M'->Rec κ a0 L D fn .ready none w'->R (.returned (.bool true)) w')(kr:∀s' M' w' c,uy s'=some y->CS Z κ ρe s' M' w' c->TM Z M' c (s'.T++s'.B) a0->M0.le M'->Rec κ a0 L D fn .done (some .ret) w'->R (.returned (.bool false)) w'):RoundIn Fence.wide 0 Z.P L fn (a0.tmps.setIfInBounds 15 (.string t.ba)) (bA (bA (aQ (bA (aQ (aQ (aQ (aQ (cO 63))))))))) (aQ (bA (aQ (bA (aQ (aQ (aQ (aQ (cO 63))))))))) w R:=by
 refine roundIn_of_wpIn trivial ?_;unfold KE at h;have uE:15<a0.tmps.size:=by rw[b.sa.size];decide
 have I:∀t,lk (jS s ri (bD Zτ.S ri x)).T 0 t=none:=λt=>wo b.pos;have J:CS Z κ ρe ⟨(jS s ri (bD Zτ.S ri x)).B,(0,15,.st t)::(jS s ri (bD Zτ.S ri x)).T,(jS s ri (bD Zτ.S ri x)).Bh,(jS s ri (bD Zτ.S ri x)).Th,(jS s ri (bD Zτ.S ri x)).nx⟩ M w ρ:=hs.cells (λm o=>by show lk ((0,15,.st t)::((jS s ri (bD Zτ.S ri x)).T++(jS s ri (bD Zτ.S ri x)).B)) (m+1) o=_;exact bX sm) rfl rfl rfl;refine CS.run (.round L) yY yX h b.noG J ⟨(Array.size_setIfInBounds ..).trans b.sa.size,rfl⟩ (λq v i=>?_) ?_
 ·rcases kN i with ⟨_,rfl,rfl⟩|⟨H,i⟩;·exact⟨.string t.ba,by simp[uE],.v .st⟩
  ·have i:lk ((jS s ri (bD Zτ.S ri x)).T++(jS s ri (bD Zτ.S ri x)).B) 0 q=some v:=i;rw[cu,I] at i;obtain⟨z,A,C⟩:=b.tm X hs.names q v i;exact⟨z,by rw[<-A];exact Array.getElem?_setIfInBounds_ne (λe=>H (by rw[e])),C⟩
 ·intro e T Th nx M1 w1 a1 af g N E aa G O Q
  cases e with
  |normal=>have d:=hr.to Q;refine⟨_,run_beginRound d.rl rfl,?_⟩;refine CS.run (s:=⟨(jS s ri (bD Zτ.S ri x)).B,T,(jS s ri (bD Zτ.S ri x)).Bh,Th,nx⟩) (.round L) yY yX g b.noG (N.put (x:=_) d.al) G O ?_;intro e f Y V n w2 a2 l g k F P5 ab ae U;have a:=(d.put (st':= .busy) (KW:=none)).to U;have p:M0.le n:=X.trans (E.trans F);have j:CS Z κ ρe ⟨(jS s ri (bD Zτ.S ri x)).B,bG f,(jS s ri (bD Zτ.S ri x)).Bh,Y,V⟩ n w2 l:=k.cells (λm o=>by show lk (bG f++(jS s ri (bD Zτ.S ri x)).B) (m+1) o=lk (f++(jS s ri (bD Zτ.S ri x)).B) (m+1) o;rw[cu (bG f),cu f,kD]) rfl rfl rfl;cases e with|normal=>obtain⟨u,W,A,C⟩:=aos b g j p;exact⟨_,_,run_endRound none a.rl,kn u n _ W A (C.put a.al) p a.put⟩|ret=>refine⟨_,_,run_endRound (some .ret) a.rl,kr _ n _ l g (j.put a.al) (λt v r=>?_) p a.put⟩;have r:lk (bG f++(jS s ri (bD Zτ.S ri x)).B) 0 t=some v:=r;rw[cu,nQ] at r;exact b.tm p k.names t v r|_=>cases g
  |_=>cases g
end
section
variable {s:Sg Zτ.S}{ri:List aY}{us:List (SV Zτ.S)}{κ:Ctx Zτ}{ρe ρ:List R.Loc}{M0 M:Mem}{w0 w:World}{a0 a a':Act}{O1 O2:List Nat}{y:aK Zτ.S iL}{K:KX ri}{L D fn:Nat}
structure Ha(us:List (SV Zτ.S))(ρe:List R.Loc)(M0:Mem)(L:Nat)(a:Act):Prop where
 sa:SA 52 a
 y0:a.tmps[0]?=some (.func (.yield L) #[] #[])
 tm:TM Z M0 ρe (dx 0 (.u::us)) a
theorem Ha.to(h:Ha us ρe M0 L a)(d:us.length=3)(e:SA 52 a')(b:∀t,t<4->a'.tmps[t]?=a.tmps[t]?):Ha us ρe M0 L a':=
 ⟨e,(b 0 dc).trans h.y0,λt v c=>by
  obtain⟨_,h2⟩:=CX (C:=Z) c
  have:=(List.getElem?_eq_some_iff.1 h2).1
  rw[b t (by simp[d] at this;omega)]
  exact h.tm t v c⟩
theorem Uk{σ:HL Zτ.S ri}{T:Env Zτ.S}(hs:CS Z κ ρe (jS s ri σ) M w ρ)(a:∀m o,lk T (m+1) o=none):CS Z κ ρe (pK s ri σ T) M w ρ:=hs.cells (λm o=>by
 show lk (T++bG ((jS s ri σ).T++(jS s ri σ).B)) (m+1) o=_
 rw[cu T,a,kD]) rfl rfl rfl
theorem Ul{σ:HL Zτ.S ri}{T:Env Zτ.S}(h:TM Z M ρ T a):TM Z M ρ ((pK s ri σ T).T++(pK s ri σ T).B) a:=λt v b=>by
 have b:lk (T++bG ((jS s ri σ).T++(jS s ri σ).B)) 0 t=some v:=b
 rw[cu T,nQ] at b
 exact h t v (by split at b<;>first|(rename_i e;rw[e];exact b)|cases b)
theorem Gv{σ:HL Zτ.S ri}{T:Env Zτ.S}:jh (pK s ri σ T).B:=λt v a=>by
 have a:lk (bG ((jS s ri σ).T++(jS s ri σ).B)) 0 t=some v:=a
 rw[nQ] at a;cases a
theorem NJ{m o:Nat}{vs:List (SV Zτ.S)}{i:Nat}:lk (dx i vs) (m+1) o=none:=uX (C:=Z)
theorem arh{t:Str}{x z d:Nat}{ts:Array TypeId}{ty:TypeId}{pos:String}{aM:Array Edge}{e:Act->World->Prop}{Q:Exit->Act->World->Prop}{st:LoopState}{pe:Option Code}(j:a.eval (.tmp x)= .func (.yield L) #[] #[])(k:a.eval (.tmp z)= .string t.ba)(i:Rec κ a0 L D fn st pe w)(h:RoundIn Fence.wide 0 Z.P L fn (a0.tmps.setIfInBounds 15 (.string t.ba)) (bA (bA (aQ (bA (aQ (aQ (aQ (aQ (cO 63))))))))) (aQ (bA (aQ (bA (aQ (aQ (aQ (aQ (cO 63))))))))) w fun
   | .returned v,b=>e (a.put (some d) v) b
   | .panicked c,b=>Q (.panic c) a b
   | .outgrown,_=>LetsOut Q):
  Oper.wpIn Fence.wide 0 Z.P ⟨some d,.call ⟨.value (.tmp x), #[.tmp z],ts⟩,ty,pos,aM,none⟩ a w e Q:=by
 refine⟨λf _=>trivial,?_⟩
 show Oper.uponIn _ _ _ _ _ _ _ ((execOp a.eval ⟨some d,.call {callee:= .value (.tmp x),args:=[Operand.tmp z].toArray,argTypes:=ts},ty,pos,aM,none⟩).run Z.P w)
 rw[aDW j (vs:=[.string t.ba]) (by simp[k]),run_yield i.rl rfl]
 refine⟨λh=>(Wd.plain.depth h).elim,?_⟩
 have g:(#[15].zip [Value.string t.ba].toArray).foldl (λ(tmps:Array Value) (x:Tmp×Value)=>match x with|(t,a)=>tmps.setIfInBounds t a) a0.tmps=a0.tmps.setIfInBounds 15 (.string t.ba):=by simp
 rw[g]
 exact h
def Mh(s:Sg Zτ.S)(ri:List aY)(κ:Ctx Zτ)(ρe:List R.Loc)(M0:Mem)(a0:Act)(L D fn:Nat)(y:aK Zτ.S iL)(w:World):Prop:=(∃x M ρ,aeo s ri x=some y/\CS Z κ ρe (jS s ri (bD Zτ.S ri x)) M w ρ/\M0.le M/\Rec κ a0 L D fn .ready none w)\/∃s' M ρ,uy s'=some y/\CS Z κ ρe s' M w ρ/\TM Z M ρ (s'.T++s'.B) a0/\M0.le M/\Rec κ a0 L D fn .done (some .ret) w
end
noncomputable def p8:String:=((dP (bA (bA (aQ (aQ (aQ iy)))))).head?.map (·.pos)).getD ""
noncomputable def Tf:String:=((dP (aQ (aQ (cO 265)))).head?.map (·.pos)).getD ""
noncomputable abbrev o8:List Oper:=[⟨some 39,.move (.tmp 0),240,p8, #[],none⟩,⟨some 40,.move (.tmp 8),9,p8, #[],none⟩,⟨some 41,.call ⟨.value (.tmp 39), #[.tmp 40], #[9]⟩,4,p8, #[⟨0,Ground.data⟩,⟨1,Ground.data⟩],none⟩,⟨some 42,.unOp .not 4 (.tmp 41),4,p8, #[⟨2,Ground.data⟩],none⟩]
noncomputable abbrev o10:List Oper:=[⟨some 49,.move (.tmp 0),240,Tf, #[],none⟩,⟨some 50,.load 9 (.tmp 2),9,Tf, #[],none⟩,⟨some 51,.call ⟨.value (.tmp 49), #[.tmp 50], #[9]⟩,4,Tf, #[⟨0,Ground.data⟩,⟨1,Ground.data⟩],none⟩]
theorem aD7:cO 265= .seq (.seq (.region 0 (dP (bA (bA (cO 265)))).toArray false) (.cond (.tmp 11) (bA (aQ (bA (cO 265)))) .skip)) (.seq (.block 2 (.loop (.block 3 (.seq (.region 5 (dP (bA iy)).toArray false) (.seq (.seq (.region 6 (dP (bA (bA (aQ iy)))).toArray false) (.cond (.tmp 33) (.exit 2) .skip)) (.seq (.region 7 (dP (bA (aQ (aQ iy)))).toArray false) (.seq (.seq (.region 8 o8.toArray false) (.cond (.tmp 42) .ret .skip)) (.region 9 (dP (aQ (aQ (aQ (aQ iy))))).toArray false)))))))) (.region 10 o10.toArray false)):=by kernel_rfl
theorem aDb:((dP (aQ (aQ (cO 265)))).drop 1 |>.take 1)=[⟨some 50,.load 9 (.tmp 2),9,Tf, #[],none⟩]:=by kernel_rfl
theorem nd5:kR (dP (bA iy))=true:=by kernel_rfl
theorem nd6:kR (dP (bA (bA (aQ iy))))=true:=by kernel_rfl
theorem nd7:kR (dP (bA (aQ (aQ iy))))=true:=by kernel_rfl
theorem nd9:kR (dP (aQ (aQ (aQ (aQ iy)))))=true:=by kernel_rfl
theorem nd0:kR (dP (bA (bA (cO 265))))=true:=by kernel_rfl
def low(ts:List Nat)(l:List Oper):Bool:=ts.all λt=> !iN t (l.filterMap (·.dst))
theorem KF{ts:List Nat}{l:List Oper}(h:low ts l=true){t:Nat}(a:t∈ts):iN t (l.filterMap (·.dst))=false:=by have:=List.all_eq_true.1 h t a;simpa using this
theorem lw5:low [0,1,2,3] (dP (bA iy))=true:=by kernel_rfl
theorem lw6:low [0,1,2,3] (dP (bA (bA (aQ iy))))=true:=by kernel_rfl
theorem lw7:low [0,1,2,3] (dP (bA (aQ (aQ iy))))=true:=by kernel_rfl
theorem lw9:low [0,1,2,3] (dP (aQ (aQ (aQ (aQ iy)))))=true:=by kernel_rfl
theorem lw0:low [0,1,2,3] (dP (bA (bA (cO 265))))=true:=by kernel_rfl
theorem m4{t:Nat}(h:t<4):t∈[0,1,2,3]:=by match t,h with|0,_|1,_|2,_|3,_=>simp
section
variable {s:Sg Zτ.S}{ri:List aY}{us:List (SV Zτ.S)}{κ:Ctx Zτ}{ρe ρ:List R.Loc}{M0 M:Mem}{w0 w:World}{a0 a a':Act}{O1 O2:List Nat}{y:aK Zτ.S iL}{K:KX ri}{L D fn:Nat}
theorem LK{Γ B:Env Zτ.S}{t:Nat}{v:SV Zτ.S}(h:TM Z M ρ (Γ++B) a)(b:lk Γ 0 t=some v):∃x,a.tmps[t]?=some x/\RG Zτ M ρ [] v x:=h t v (by rw[cu Γ,b])
theorem avC{x:aK Zτ.S (ri.map (·.sh.cd))}(b:Bs s ri κ ρe M0 w0 a0 O1 O2)(h:Pb s ri us x=some y)(hs:CS Z κ ρe (jS s ri (bD Zτ.S ri x)) M w ρ)(F:M0.le M)(V:Rec κ a0 L D fn .ready none w)(p:Ha us ρe M0 L a)(dn:us.length=3):(Code.region 10 o10.toArray false).wpIn Fence.wide 0 Z.P (λe a w=>e= .normal/\a.defers=[]/\Mh s ri κ ρe M0 a0 L D fn y w) a w:=by
 refine wpIn_region_lit ?_;refine wpListIn_plain rfl λX C=>⟨λf _=>trivial,?_⟩;show X (a.put (some 49) (a.eval (.tmp 0))) w;refine C _ _ ?_;rw[oJ p.y0];have K:49<a.tmps.size:=by rw[p.sa.size];decide
 have c:Ha us ρe M0 L (a.put (some 49) (.func (.yield L) #[] #[])):=p.to dn p.sa.put λt ht=>fT (λe=>by cases e;exact absurd ht dc);have j:(a.put (some 49) (.func (.yield L) #[] #[])).tmps[49]?=some (.func (.yield L) #[] #[]):=by simp[Act.put,K]
 generalize a.put (some 49) (.func (.yield L) #[] #[])=a1 at c j;refine wpListIn_plain rfl λK2 E=>Ma .plain rfl ?_;unfold Pb at h;rw[aDb] at h;refine CS.one EU ET h rfl Gv (Uk hs λ_ _=>NJ) c.sa (Ul (c.tm.mono F hs.names)) ?_;intro s' Y w1 a2 U h A W I l aa m N o G;refine E _ _ ?_;split at h
 ·rename_i t hl;obtain⟨v,z,n⟩:=LK N hl;have n:v= .string t.ba:=by cases n with|v n=>cases n;rfl
  subst n;have r:CS Z κ ρe ⟨(pK s ri (bD Zτ.S ri x) (dx 0 (.u::us))).B,s'.T,(pK s ri (bD Zτ.S ri x) (dx 0 (.u::us))).Bh,s'.Th,s'.nx⟩ Y w1 U:=by rw[<-A,<-W];exact I
  obtain⟨x',ab,h,J⟩:=IL b h r (F.trans l);refine wpListIn_plain rfl λK3 k=>arh (oJ ((G 49 sm).trans j)) (oJ z) (V.to o) ?_;refine aoj b h J (F.trans l) (V.to o) (λR M' w' i H g q d=>k _ _ ⟨rfl,m.put.zS,.inl ⟨R,M',i,H,g,q,d⟩⟩) λQ M' w' i H g O q d=>k _ _ ⟨rfl,m.put.zS,.inr ⟨Q,M',i,H,g,O,q,d⟩⟩
 ·cases h
end
section
variable {s:Sg Zτ.S}{ri:List aY}{us:List (SV Zτ.S)}{κ:Ctx Zτ}{ρe ρ:List R.Loc}{M0 M:Mem}{w0 w:World}{a0 a a':Act}{O1 O2:List Nat}{y:aK Zτ.S iL}{K:KX ri}{L D fn:Nat}
theorem OE{σ:HL Zτ.S ri}{T:Env Zτ.S}{s':Sg Zτ.S}(hs:CS Z κ ρe s' M w ρ)(h1:s'.B=(pK s ri σ T).B)(h2:s'.Bh=(pK s ri σ T).Bh):CS Z κ ρe ⟨bG ((jS s ri σ).T++(jS s ri σ).B),s'.T,(jS s ri σ).Bh,s'.Th,s'.nx⟩ M w ρ:=by have h1:s'.B=bG ((jS s ri σ).T++(jS s ri σ).B):=h1;have h2:s'.Bh=(jS s ri σ).Bh:=h2;rw[<-h1,<-h2];exact hs
theorem aoZ{P:Program}{a:Act}{w:World}{c:Bool}{t d:Nat}{T ty:TypeId}{pos:String}{aM:Array Edge}(h:a.tmps[t]?=some (.bool c)):(execOp a.eval ⟨some d,.unOp .not T (.tmp t),ty,pos,aM,none⟩).run P w= .ok (.value (.bool (!c))) w:=by simp only[execOp,oJ h];rfl
theorem aB3{x:aK Zτ.S (ri.map (·.sh.cd))}(b:Bs s ri κ ρe M0 w0 a0 O1 O2)(H:us.length=3)(h:iter (zo s ri us) FUEL x=some y)(hs:CS Z κ ρe (jS s ri (bD Zτ.S ri x)) M w ρ)(hM:M0.le M)(hr:Rec κ a0 L D fn .ready none w)(J:Ha us ρe M0 L a):(aQ (cO 265)).wpIn Fence.wide 0 Z.P (λe a w=>(e= .normal\/e= .ret)/\a.defers=[]/\Mh s ri κ ρe M0 a0 L D fn y w) a w:=by
 rw[aD7];refine wpIn_seq (wpIn_block (wpIn_loop_ghost (λm a w=>∃x M ρ,iter (zo s ri us) m x=some y/\CS Z κ ρe (jS s ri (bD Zτ.S ri x)) M w ρ/\M0.le M/\Rec κ a0 L D fn .ready none w/\Ha us ρe M0 L a) FUEL ⟨x,M,ρ,h,hs,hM,hr,J⟩ ?_));clear h hs hM hr J;rintro m a w ⟨x,M,ρ,h,hs,hM,hr,J⟩;cases m with|zero=>cases h|succ m=>
 have h:zo s ri us (iter (zo s ri us) m) x=some y:=h;unfold zo at h;refine wpIn_block (wpIn_seq (CS.reg .plain EU ET h nd5 Gv (Uk hs λ_ _=>NJ) J.sa (Ul (J.tm.mono hM hs.names)) ?_));intro s1 M1 w1 a1 b5 h g Fa aq bo b1 br ax az af;refine wpIn_seq (wpIn_seq (CS.reg .plain EU ET h nd6 (by rw[g];exact Gv) aq br ax ?_));intro s2 M2 w2 a2 b6 h p R B bp P5 ae C aE ag;have U:Ha us ρe M0 L a2:=J.to H ae λt ht=>(ag t (KF lw6 (m4 ht))).trans (af t (KF lw5 (m4 ht)));have ao:Rec κ a0 L D fn .ready none w2:=(hr.to az).to aE;have Zq:=hM.trans (bo.trans bp);split at h
 ·rename_i bb bu;obtain⟨v,W,l⟩:=LK C bu;have l:v= .bool bb:=by cases l with|v l=>cases l;rfl
  subst l;refine wpIn_cond_split (oJ W) (λz=>?_) (λz=>?_);·subst z;have h:uh s ri (bD Zτ.S ri x) s2.T s2.Th s2.nx (λx'=>Pb s ri us x')=some y:=h;obtain⟨x',b0,h,j⟩:=IL b h (OE B (p.trans g) (R.trans Fa)) Zq;refine wpIn_exit ?_;exact wpIn_mono (avC b h j Zq ao U H) λe a w c=>⟨.inl c.1,c.2⟩
  ·subst z;refine wpIn_skip ?_;have h:ord Z eX.T eX.I eX.n eX.wr (dP (bA (aQ (aQ iy)))) (dP (bA (aQ (aQ iy)))) [] s2 (λK=>match lk K.T 0 7,lk K.T 0 8 with|some (.i .i64 i),some (.st t)=>uh s ri (bD Zτ.S ri x) K.T K.Th K.nx λx'=>KE s ri t x' λG=>ord Z eX.T eX.I eX.n eX.wr (dP (aQ (aQ (aQ (aQ iy))))) (dP (aQ (aQ (aQ (aQ iy))))) [] (pK s ri (bD Zτ.S ri G) ((0,7,.i .i64 i)::dx 0 (.u::us))) λs4=>uh s ri (bD Zτ.S ri G) s4.T s4.Th s4.nx (iter (zo s ri us) m)|_,_=>none)=some y:=h;refine wpIn_seq (CS.reg .plain EU ET h nd7 (by rw[p,g];exact Gv) B ae C ?_);intro K M3 w3 d b7 h bj be j Fb b2 JC E a7 an;have V:Ha us ρe M0 L d:=U.to H JC λt ht=>an t (KF lw7 (m4 ht));have ap:=ao.to a7;have Q:=Zq.trans Fb;split at h
   ·rename_i i t h7 h8;obtain⟨v7,e7,F⟩:=LK E h7;have F:v7= .int .i64 i:=by cases F with|v l=>cases l;rfl
    subst F;obtain⟨v8,e8,wQ⟩:=LK E h8;have wQ:v8= .string t.ba:=by cases wQ with|v l=>cases l;rfl
    subst wQ;obtain⟨x',b0,h,bw⟩:=IL b h (OE j (bj.trans (p.trans g)) (be.trans (R.trans Fa))) Q;clear ax C E af ag an aq B j az aE a7 W;refine wpIn_seq (wpIn_seq (wpIn_region_lit ?_));refine wpListIn_plain rfl λK1 bm=>⟨λf _=>trivial,?_⟩;show K1 (d.put (some 39) (d.eval (.tmp 0))) w3;refine bm _ _ ?_;rw[oJ V.y0];refine wpListIn_plain rfl λK2 bn=>⟨λf _=>trivial,?_⟩;show K2 ((d.put (some 39) (.func (.yield L) #[] #[])).put (some 40) ((d.put (some 39) (.func (.yield L) #[] #[])).eval (.tmp 8))) w3;refine bn _ _ ?_;have aw:d.tmps.size=52:=JC.size;have bi:(d.put (some 39) (.func (.yield L) #[] #[])).tmps[8]?=some (.string t.ba):=by rw[fT sm];exact e8
    rw[oJ bi];have O:Ha us ρe M0 L ((d.put (some 39) (.func (.yield L) #[] #[])).put (some 40) (.string t.ba)):=V.to H JC.put.put λq c=>by rw[fT (λe=>by cases e;exact absurd c dc),fT (λe=>by cases e;exact absurd c dc)]
    have X:((d.put (some 39) (.func (.yield L) #[] #[])).put (some 40) (.string t.ba)).tmps[39]?=some (.func (.yield L) #[] #[]):=by rw[fT sm];simp[Act.put,aw]
    have Y:((d.put (some 39) (.func (.yield L) #[] #[])).put (some 40) (.string t.ba)).tmps[40]?=some (.string t.ba):=by simp[Act.put,aw]
    have f7:((d.put (some 39) (.func (.yield L) #[] #[])).put (some 40) (.string t.ba)).tmps[7]?=some (.int .i64 i):=by rw[fT sm,fT sm];exact e7
    generalize (d.put (some 39) (.func (.yield L) #[] #[])).put (some 40) (.string t.ba)=a4 at O X Y f7;have QF:a4.tmps.size=52:=O.sa.size;refine wpListIn_plain rfl λK3 aa=>arh (oJ X) (oJ Y) ap ?_;refine aoj b h bw Q ap (λG M' w' a8 h k N A=>aa _ _ ?_) λbY M' w' a8 hk k bL N A=>aa _ _ ?_
    ·have Y7:(a4.put (some 41) (.bool true)).tmps[41]?=some (.bool true):=by simp[Act.put,QF]
     refine wpListIn_plain rfl λK4 r=>Ma .plain rfl ?_;unfold Oper.wp;rw[aoZ Y7];refine r _ _ ?_;have PG:((a4.put (some 41) (.bool true)).put (some 42) (.bool (!true))).tmps[42]?=some (.bool false):=by simp[Act.put,QF]
     have PY:Ha us ρe M0 L ((a4.put (some 41) (.bool true)).put (some 42) (.bool (!true))):=O.to H O.sa.put.put λq c=>by rw[fT (λe=>by cases e;exact absurd c dc),fT (λe=>by cases e;exact absurd c dc)]
     have g7:((a4.put (some 41) (.bool true)).put (some 42) (.bool (!true))).tmps[7]?=some (.int .i64 i):=by rw[fT sm,fT sm];exact f7
     show Code.wpIn _ _ _ (Code.cond _ _ _) _ _ _;generalize (a4.put (some 41) (.bool true)).put (some 42) (.bool (!true))=a5 at PG PY g7;refine wpIn_cond_split (t:=false) (oJ PG) (λz=>by cases z) (λ_=>wpIn_skip ?_);refine CS.reg .plain EU ET h nd9 Gv (Uk k λq o=>by rw[bX sm];exact NJ) PY.sa (Ul λq v c=>?_) ?_
     ·rcases kN c with ⟨_,rfl,rfl⟩|⟨_,c⟩;·exact⟨_,g7,.v .i⟩
      ·exact (PY.tm.mono N k.names) q v c
     ·intro s6 M6 w6 a6 b8 h bk bh bz ab b3 bt b4 bN bv;obtain⟨x6,a9,h,bH⟩:=IL b h (OE bz bk bh) (N.trans ab);exact⟨m,Nat.lt_succ_self m,x6,M6,a9,h,bH,N.trans ab,A.to bN,PY.to H bt λq c=>bv q (KF lw9 (m4 c))⟩
    ·have Y7:(a4.put (some 41) (.bool false)).tmps[41]?=some (.bool false):=by simp[Act.put,QF]
     refine wpListIn_plain rfl λK4 r=>Ma .plain rfl ?_;unfold Oper.wp;rw[aoZ Y7];refine r _ _ ?_;have PG:((a4.put (some 41) (.bool false)).put (some 42) (.bool (!false))).tmps[42]?=some (.bool true):=by simp[Act.put,QF]
     refine wpIn_cond_split (t:=true) (oJ PG) (λ_=>wpIn_ret ?_) (λz=>by cases z);exact⟨.inr rfl,O.sa.put.put.zS,.inr ⟨bY,M',a8,hk,k,bL,N,A⟩⟩
   ·cases h
 ·cases h
end
noncomputable def kX(i:Nat):Func:=match Tryz.prog.funcs.toList[i]? with|some f=>f|none=>default
theorem awi:Z.P.funcs[265]?=some (kX 265):=by rw[<-Array.getElem?_toList];exact (by kernel_rfl:Tryz.prog.funcs.toList[265]?=some (kX 265))
theorem awj:(kX 265).body=some (cO 265):=by kernel_rfl
theorem awk:(kX 265).ntmps=52:=by kernel_rfl
theorem awl:(kX 265).results= #[]:=by kernel_rfl
theorem awm:Z.P.funcs[63]?=some (kX 63):=by rw[<-Array.getElem?_toList];exact (by kernel_rfl:Tryz.prog.funcs.toList[63]?=some (kX 63))
theorem awn:(kX 63).body=some (cO 63):=by kernel_rfl
theorem awo:(kX 63).ntmps=42:=by kernel_rfl
theorem aiI:(kX 63).results.toList=adZ 63:=by kernel_rfl
theorem aD8:cO 265= .seq (.seq (.region 0 (dP (bA (bA (cO 265)))).toArray false) (.cond (.tmp 11) (bA (aQ (bA (cO 265)))) .skip)) (aQ (cO 265)):=by kernel_rfl
abbrev I8:Code:=bA (bA (aQ (bA (aQ (aQ (aQ (aQ (cO 63))))))))
abbrev I9:Code:=aQ (bA (aQ (bA (aQ (aQ (aQ (aQ (cO 63))))))))
def zQ(D:Nat):List Deferred:=[{target:= .collected D,args:= #[]}]
section
variable {s:Sg Zτ.S}{ri:List aY}{us:List (SV Zτ.S)}{κ:Ctx Zτ}{ρe ρ ρ0:List R.Loc}{M0 M:Mem}{w0 w:World}{a0 a a':Act}{O1 O2:List Nat}{y:aK Zτ.S iL}{K:KX ri}{L D fn:Nat}
theorem aDC{x:aK Zτ.S (ri.map (·.sh.cd))}{vs:List Value}(b:Bs s ri κ ρe M0 w0 a0 O1 O2)(g:us.length=3)(h:adI s ri us x=some y)(hs:CS Z κ ρe (jS s ri (bD Zτ.S ri x)) M w ρ)(q:M0.le M)(hr:Rec κ a0 L D fn .ready none w)(l:aZ Zτ M0 ρe us vs):Calls Z.P 265 (#[.func (.yield L) #[] #[]]++vs.toArray) w (λe f=>(∃v,e= .returned v)/\Mh s ri κ ρe M0 a0 L D fn y f):=by
 have d:vs.length=3:=l.len.trans g;refine calls_of_wp awi awj ?_;rw[awk]
 have j:Ha us ρe M0 L {tmps:=(#[.func (.yield L) #[] #[]]++vs.toArray)++Array.replicate (52-(#[Value.func (.yield L) #[] #[]]++vs.toArray).size) undef,defers:=[]}:=by
  refine⟨⟨by simp[d],rfl⟩,(by rw[Array.getElem?_append_left sm,Array.getElem?_append_left sm];rfl),λt v I=>?_⟩;obtain⟨_,h2⟩:=CX (C:=Z) I;rw[Nat.sub_zero] at h2;have k:=(List.getElem?_eq_some_iff.1 h2).1;have k:t<4:=by simpa [g] using k
  show ∃x,((#[.func (.yield L) #[] #[]]++vs.toArray)++Array.replicate (52-(#[Value.func (.yield L) #[] #[]]++vs.toArray).size) undef)[t]?=some x/\_;rw[Array.getElem?_append_left (by simp[d];omega)];cases t with|zero=>cases h2;exact⟨_,(by rw[Array.getElem?_append_left sm];rfl),.u⟩|succ t=>obtain⟨z,U,V⟩:=l.get (i:=t) (by simpa using h2);refine⟨z,?_,.v V⟩;rw[Array.getElem?_append_right sm];simpa using U
 generalize ({tmps:=(#[.func (.yield L) #[] #[]]++vs.toArray)++Array.replicate (52-(#[Value.func (.yield L) #[] #[]]++vs.toArray).size) undef,defers:=[]}:Act)=a at j;refine (wpIn_wide (n:=0)).1 ?_;rw[aD8];unfold adI at h;refine wpIn_seq (wpIn_seq (CS.reg .plain EU ET h nd0 Gv (Uk hs λ_ _=>NJ) j.sa (Ul (j.tm.mono q hs.names)) ?_));intro K M1 w1 a1 aa h p O F c W r H J E;split at h
 ·rename_i R B;obtain⟨v,o,m⟩:=LK H B;have m:v= .bool R:=by cases m with|v l=>cases l;rfl
  subst m;refine wpIn_cond_split (oJ o) (λA=>?_) (λA=>?_);·subst A;have h:(none:Option (aK Zτ.S iL))=some y:=h;cases h
  ·subst A;have h:uh s ri (bD Zτ.S ri x) K.T K.Th K.nx (λx=>iter (zo s ri us) FUEL x)=some y:=h;obtain⟨x',ab,h,G⟩:=IL b h (OE F p O) (q.trans c);refine wpIn_skip ?_;refine wpIn_mono (aB3 b g h G (q.trans c) (hr.to J) (j.to g r λt k=>E t (KF lw0 (m4 k)))) ?_;rintro e Q f ⟨X,N,Y⟩;have:∃v,(results (kX 265) Q.tmps).run Z.P f= .ok v f/\(∃v',Ending.returned v= .returned v')/\Mh s ri κ ρe M0 a0 L D fn y f:=⟨_,results_none awl _ _ _,⟨_,rfl⟩,Y⟩;rcases X with rfl|rfl;·exact⟨N,this⟩
   ·exact⟨N,this⟩
 ·cases h
theorem au7:callable Z.P 265=true:=by kernel_rfl
theorem aIp{Q:Exit->Act->World->Prop}(h:aeh s=some y)(hs:CS Z κ ρ0 s M w ρ)(r:SA 42 a)(N:TM Z M ρ (s.T++s.B) a)(hn:∀ri O1 O2 x D M' w' c,Bs s ri κ ρ M w a O1 O2->aeo s ri x=some y->CS Z κ ρ (jS s ri (bD Zτ.S ri x)) M' w' c->M.le M'->R.Aside (C:=Z) κ w' D->w'.heap[D]?=some (.deferred (some []))->Q .normal {a with defers:=zQ D} w')(hr:∀s' D M' w' c,uy s'=some y->CS Z κ ρ s' M' w' c->TM Z M' c (s'.T++s'.B) a->R.Aside (C:=Z) κ w' D->w'.heap[D]?=some (.deferred (some []))->Q .ret {a with defers:=zQ D} w'):(Code.block 0 (.rangeFunc (.tmp 14) #[15] I8 I9)).wpIn Fence.wide 1 Z.P Q a w:=by
 unfold aeh at h;split at h
 ·rename_i g us hf;split at h
  ·rename_i ri A dn dz;have A:=Nat.eq_of_beq_eq_true A;subst A;split at h
   ·rename_i m;obtain⟨n1,n2,n3,n4,O1,O2,O,U,H⟩:=id hs;have k:RE Zτ M ρ [] (s.Th++s.Bh) w a (s.T++s.B):=⟨n3,N,n4⟩;have b:Bs s ri κ ρ M w a O1 O2:=⟨r,n2,k,O,U,H,Gu k dz,m⟩;obtain⟨_,aa,V,W,X,Y,L,a4,a5,a6⟩:=NP (C:=Z) (l:=bR s ri) (n:=42) Names.rfl r n2 k O U H;obtain⟨σ,K,h,E⟩:=CS.meet (C:=Z) (s':=⟨s.T++s.B,[],bT (bR s ri) s.Th++s.Bh,lZ (bR s ri) s.Th,s.nx⟩) (n:=42) b.sa b.len b.re b.h1 b.h2 b.sm b.vld .rfl ⟨X,Y,L.gm,L.cl,V,W,a4,a5,a6⟩ rfl (λ_=>rfl) (λ_ _ _ _=>rfl) h;obtain⟨fv,z,u⟩:=N 14 _ hf
    have u:∃vs,fv= .func (.func 265) #[] vs.toArray/\aZ Zτ M ρ us vs:=by
     cases u with
     |v hv=>cases hv with
      | @f _ _ vs p q=>exact⟨vs,rfl,aZ.of p q⟩
    obtain⟨vs,rfl,G⟩:=u;refine wpIn_block (wpIn_rangeFunc ?_);intro fn _;have j:κ.w0.heap.size<=w.heap.size:=H.frame.size;obtain⟨d,i⟩:∃d,(w.alloc (.deferred (some []))).alloc (.loop {state:= .ready,pending:=none,fn:=fn,tmps:=a.tmps,params:= #[15],assign:=I8,body:=I9,defers:=w.heap.size})=d:=⟨_,rfl⟩;have F:CS Z κ ρ (jS s ri (bD Zτ.S ri (pR Zτ.S ri σ))) M d K:=by rw[<-i,xW];exact (E.more _).more _
    have hL:d.heap[w.heap.size+1]?=some (.loop {state:= .ready,pending:=none,fn:=fn,tmps:=a.tmps,params:= #[15],assign:=I8,body:=I9,defers:=w.heap.size}):=by rw[<-i];have:=World.alloc_heap_new (w.alloc (.deferred (some []))) (.loop {state:= .ready,pending:=none,fn:=fn,tmps:=a.tmps,params:= #[15],assign:=I8,body:=I9,defers:=w.heap.size});rwa [World.size_alloc] at this
    have hD:d.heap[w.heap.size]?=some (.deferred (some [])):=by rw[<-i];exact (alloc_old sm).trans (World.alloc_heap_new w _)
    have o:Rec κ a (w.heap.size+1) w.heap.size fn .ready none d:=⟨om,hL,hD,om,j⟩;refine⟨w.heap.size+1,zQ w.heap.size,d,{target:= .fn (.func 265) vs.toArray,args:= #[.func (.yield (w.heap.size+1)) #[] #[]]},d,265, #[.func (.yield (w.heap.size+1)) #[] #[]]++vs.toArray,d,?_,?_,λ_ _=>trivial,?_,λ_=>Nat.le_refl _,?_⟩;·rw[<-i];exact run_enterLoop_outer _ _ _ _ _
    ·simp only[resolve,oJ z];simp[go_sem]
    ·show (callFunc 265 _).run Z.P d=_;exact apV au7
    ·refine callsIn_wide.2 ((aDC b dn h F .rfl o G).mono ?_);rintro e w3 ⟨⟨v,rfl⟩,⟨x,M',c,p,q,I,t⟩|⟨s',M',c,p,q,I,t,J⟩⟩;·refine⟨none,_,run_endLoop t.rl sm,?_⟩;have hp:=t.put (st':= .exhausted) (KW:=none);have ed:a.defers=[]:=r.zS;show Exit.inBlock 0 Q .normal {a with defers:=zQ w.heap.size++a.defers} _;rw[ed];exact hn ri O1 O2 x w.heap.size M' _ c b p (q.put t.al) I hp.ad hp.rd
     ·refine⟨some .ret,_,run_endLoop J.rl sm,?_⟩;have hp:=J.put (st':= .exhausted) (KW:=some .ret);have ed:a.defers=[]:=r.zS;refine wpIn_ret ?_;show Exit.inBlock 0 Q .ret {a with defers:=zQ w.heap.size++a.defers} _;rw[ed];exact hr s' w.heap.size M' _ c p (q.put J.al) I hp.ad hp.rd
   ·cases h
  ·cases h
 ·cases h
end
theorem aD9:cO 63= .seq (bA (cO 63)) (.seq (bA (aQ (cO 63))) (.seq (bA (aQ (aQ (cO 63)))) (.seq (bA (aQ (aQ (aQ (cO 63))))) (.seq (.seq (bA (bA (aQ (aQ (aQ (aQ (cO 63))))))) (.block 0 (.rangeFunc (.tmp 14) #[15] I8 I9))) (.seq (.region 15 (dP (bA (aQ (aQ (aQ (aQ (aQ (cO 63)))))))).toArray false) .ret))))):=by kernel_rfl
theorem aCW:kR (dP (bA (aQ (aQ (aQ (aQ (aQ (cO 63))))))))=true:=by kernel_rfl
theorem aCO:(dP (bA (aQ (aQ (aQ (aQ (aQ (cO 63)))))))).all SE=true:=by kernel_rfl
theorem aDx:Nat.ble (adZ 63).length 4=true:=by kernel_rfl
noncomputable def XE:aN Zτ.S:=⟨[.str],iL,GY⟩
theorem avK(p:Str):Yo p=GY p:=by kernel_rfl
section
variable {s:Sg Zτ.S}{ρ ρ0:List R.Loc}{M0 M:Mem}{w0 w:World}{a:Act}{y:aK Zτ.S iL}
def Ei(w0:World)(M0:Mem)(y:aK Zτ.S iL)(e:Ending)(w':World):Prop:=∃x M',e= .returned x/\RG Zτ M' [] [] (gV (ES Zτ iL y)) x/\Sat M' w'/\M0.le M'/\R.Frame [] w0 w'/\∀b j v,M' b j=some v->M0 b j=some v\/w0.heap.size<=b
theorem aiA(h:uy s=some y)(hs:CS Z ⟨w0,[],M0⟩ ρ0 s M w ρ)(g:TM Z M ρ (s.T++s.B) a):∃x,(results (kX 63) a.tmps).run Z.P w= .ok x w/\Ei w0 M0 y (.returned x) w:=by
 unfold uy at h;split at h;·rename_i us b;rw[<-aiI] at b;obtain⟨x,M',h1,h2,c,d,e,f⟩:=aDB (C:=Z) (by rw[aiI];exact aDx) b h hs g;exact⟨x,h1,x,M',rfl,h2,c,d,e,f⟩
 ·cases h
theorem aDz(h:uy s=some y)(hs:CS Z ⟨w0,[],M0⟩ ρ0 s M w ρ)(c:TM Z M ρ (s.T++s.B) a)(b:a.defers=[]):bodyPostM Fence.wide 1 Z.P (kX 63) (Ei w0 M0 y) .ret a w:=by obtain⟨x,h1,h2⟩:=aiA h hs c;show LeavesInM _ _ _ _ _ _ a.defers _ _;rw[b];exact⟨x,h1,h2⟩
theorem apO{D:Nat}(h:uy s=some y)(hs:CS Z ⟨w0,[],M0⟩ ρ0 s M w ρ)(d:TM Z M ρ (s.T++s.B) a)(b:R.Aside (C:=Z) ⟨w0,[],M0⟩ w D)(c:w.heap[D]?=some (.deferred (some []))):bodyPostM Fence.wide 1 Z.P (kX 63) (Ei w0 M0 y) .ret {a with defers:=zQ D} w:=by obtain⟨x,h1,h2⟩:=aiA h (hs.put (x:= .deferred none) b) d;exact⟨sm,.inl ⟨D,_,rfl,run_takeDeferred c,x,h1,h2⟩⟩
theorem ahm:FZ Z.P Zτ 63 XE:=by
 intro ps y hr w M xs f lT L N;have h:Yo ps=some y:=(avK ps).trans hr;have af:xs=[.string ps.ba]:=by match xs,f with|_,.cons h1 .nil=>cases h1 with|v h1=>cases h1;rfl
 subst af;refine (callsIn_wide (n:=1)).1 (callsIn_of_wp_marks awm awn trivial ?_);rw[awo];show Code.wpIn _ _ _ (cO 63) (bodyPostM Fence.wide 1 Z.P (kX 63) (Ei w M y)) _ _;have K:CS Z ⟨w,[],M⟩ [] ⟨[],dx 0 [.st ps],[],[],0⟩ M w []:=⟨Names.rfl,rfl,L,λm o v d T k q=>(by cases q),⟨[],[],.nil,.nil,⟨N,R.Frame.refl _ _,lT,Mem.le.rfl,λb j v e=> .inl e,List.nodup_nil,λb q=>(by cases q),λb q=>(by cases q)⟩⟩⟩;have ng:∀{T:Env Zτ.S}{Th:Heap Zτ.S}{nx:Nat},jh (⟨[],T,[],Th,nx⟩:Sg Zτ.S).B:=λt v d=>by cases d
 have ha:SA 42 {tmps:= #[Value.string ps.ba]++Array.replicate (42-(#[Value.string ps.ba]:Array Value).size) undef,defers:=[]}:=⟨sm,rfl⟩;have ht:TM Z M [] ((⟨[],dx 0 [.st ps],[],[],0⟩:Sg Zτ.S).T++(⟨[],dx 0 [.st ps],[],[],0⟩:Sg Zτ.S).B) {tmps:= #[Value.string ps.ba]++Array.replicate (42-(#[Value.string ps.ba]:Array Value).size) undef,defers:=[]}:=λt v d=>by have d:lk (dx 0 [.st ps]++[]) 0 t=some v:=d;rw[List.append_nil] at d;obtain⟨_,h2⟩:=CX (C:=Z) d;have h2:[SV.st ps][t]?=some v:=h2;match t,h2 with|0,h2=>cases h2;exact⟨_,(by rw[Array.getElem?_append_left sm];rfl),.v .st⟩
 have eL:([Value.string ps.ba].toArray++Array.replicate (42-[Value.string ps.ba].toArray.size) undef)= #[Value.string ps.ba]++Array.replicate (42-(#[Value.string ps.ba]:Array Value).size) undef:=rfl;rw[eL];generalize ({tmps:= #[Value.string ps.ba]++Array.replicate (42-(#[Value.string ps.ba]:Array Value).size) undef,defers:=[]}:Act)=a at ha ht;rw[aD9];unfold Yo at h;have cv:∀{c:Code}{Q:Exit->Act->World->Prop}{a:Act}{w:World},c.wpIn Fence.wide 0 Z.P Q a w->c.wpIn Fence.wide 1 Z.P Q a w:=λh=>wpIn_wide.2 (wpIn_wide.1 h);refine wpIn_seq (cv (CS.run .plain yY yX h ng K ha ht ?_));intro e T Th nx M1 w1 a1 bj h U aq az I Y a9
 cases e with
 |normal=>
  refine wpIn_seq (cv (CS.run (s:=⟨[],T,[],Th,nx⟩) .plain yY yX h ng U I Y ?_));intro e T2 WI ag M2 w2 a2 bk h r aw P5 l u bb
  cases e with
  |ret=>exact aDz h r u l.zS
  |normal=>
   refine wpIn_seq (cv (CS.run (s:=⟨[],T2,[],WI,ag⟩) .plain yY yX h ng r l u ?_));intro e T3 A an M3 w3 a3 bm h V Fb aE JC aa be
   cases e with
   |normal=>
    refine wpIn_seq (cv (CS.run (s:=⟨[],T3,[],A,an⟩) .plain yY yX h ng V JC aa ?_));intro e T4 E ao M4 w4 a4 bn h W ax a7 J ab bh
    cases e with
    |normal=>
     refine wpIn_seq (wpIn_seq (cv (CS.run (s:=⟨[],T4,[],E,ao⟩) .plain yY yX h ng W J ab ?_)));intro e T5 i z M5 w5 a5 bo h X Fg a8 p ae bi
     cases e with
     |normal=>
      refine aIp h X p ae ?_ λs' D M' w' ap h1 h2 G g H=>apO h1 h2 G g H;intro ri O1 O2 x D M' w' ap b h1 h2 G g H;have hx:=CS.aCI (F:=nk) (K':=λa6 w6=>Code.wpIn Fence.wide 1 Z.P .ret (bodyPostM Fence.wide 1 Z.P (kX 63) (Ei w M y)) {a6 with defers:=zQ D} w6) yY yX h1 b.noG h2 p (λt v d=>?_) λs' M6 w6 a6 bp g1 _ _ g2 g3 g4 g5 g6 g7=>wpIn_ret (apO g1 g2 g6 ⟨g.1,by rw[g7 _ g];exact g.2⟩ ((g7 _ g).trans H));·refine wpIn_seq (wpIn_mono (wpIn_region_lit (KD .plain aCW (arf (Q2:=jU λa w'=>Code.wpIn Fence.wide 1 Z.P .ret (bodyPostM Fence.wide 1 Z.P (kX 63) (Ei w M y)) a w') (zQ D) aCO hx λa w h=>⟨rfl,h⟩))) ?_);intro e a w O;obtain⟨rfl,O⟩:=O;exact O
      ·have d:lk ((jS ⟨[],T5,[],i,z⟩ ri (bD Zτ.S ri x)).T++(jS ⟨[],T5,[],i,z⟩ ri (bD Zτ.S ri x)).B) 0 t=some v:=d;rw[cu,wo b.pos] at d;exact b.tm G h2.names t v d
     |_=>cases h
    |_=>cases h
   |_=>cases h
  |_=>cases h
 |_=>cases h
end
end
end Go.Z
