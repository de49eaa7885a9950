/- Several parts of the engine, one behind the other. -/
import Derived.Test.YtlbfmjolchehbaaGreatDoorMoc
set_option linter.all false
namespace Go.Z
open Go Go.Proofs Go.Dc Go.R
set_option maxRecDepth 100000
noncomputable section
abbrev Ii:=List aV×List aV×List Span
abbrev Nf:=List Span×Int->Option (List Window×Int)
abbrev Wm:=Int×List aV×List aV
abbrev Nl:=List Span->Option (List Window×Int)
abbrev asD:=Int->Option (List Window×Int)
abbrev qg:=Option (List Window×Int)
abbrev AZ:=List Span×Int
def aFj:Nat->Option (List R.Item):=λi=>match i with|20=>some [⟨[8],.v (.list (.st 40))⟩]|25=>some [⟨[11],.n (.st 35)⟩,⟨[67],.v (.int .i64)⟩]|32=>some [⟨[11],.n (.st 35)⟩]|_=>none
def axv(e:List Span)(f:Nl)(j:Nf)(a:AZ):qg:=if decide (a.2<(↑(iW (λb=>b.1) e).length:Int)) then au (λ(k:List Span)=>ah (aj (a.2+1))<|j (k,a.2+1)) λd=>(idx (iW (λb=>b.1) e) a.2).bind λl=>(idx (iW (λb=>b.1) e) a.2).bind λc=>ah (aj ((a.1.length:Int)-1))<|(bC (decide (0<=(a.1.length:Int)-1)) (Span.mk 0 0) (idx a.1 ((a.1.length:Int)-1))).bind λm=>(bC (decide (0<=(a.1.length:Int)-1)) (Span.mk 0 0) (idx a.1 ((a.1.length:Int)-1))).bind λg=>if decide (0<=(a.1.length:Int)-1)&&decide (c.1<=g.2) then (idx a.1 ((a.1.length:Int)-1)).bind λn=>(idx a.1 ((a.1.length:Int)-1)).bind λh=>(idx a.1 ((a.1.length:Int)-1)).bind λo=>(idx a.1 ((a.1.length:Int)-1)).bind λi=>d (List.set a.1 ((a.1.length:Int)-1).toNat (Span.mk i.1 (max h.2 c.2))) else ah (aS 16 (a.1++[c]).length)<|d (a.1++[c]) else f a.1
def axw(d:Ii)(b:AZ)(f:Nl)(e:Nf)(a:AZ):qg:=if decide (a.2<(↑[d.2.2,b.1].length:Int)) then (idx [d.2.2,b.1] a.2).bind λc=>ah (aS 16 (a.1++c).length)<|ah (aj (a.2+1))<|e (a.1++c,a.2+1) else f a.1
def axx(f:List Span)(j:Nl)(i:Nf)(dL:AZ):qg:=if decide (dL.2<(↑(iW (λa=>a.1) f).length:Int)) then au (λ(h:List Span)=>ah (aj (dL.2+1))<|i (h,dL.2+1)) λg=>(idx (iW (λa=>a.1) f) dL.2).bind λk=>(idx (iW (λa=>a.1) f) dL.2).bind λb=>ah (aj ((dL.1.length:Int)-1))<|(bC (decide (0<=(dL.1.length:Int)-1)) (Span.mk 0 0) (idx dL.1 ((dL.1.length:Int)-1))).bind λl=>(bC (decide (0<=(dL.1.length:Int)-1)) (Span.mk 0 0) (idx dL.1 ((dL.1.length:Int)-1))).bind λc=>if decide (0<=(dL.1.length:Int)-1)&&decide (b.1<=c.2) then (idx dL.1 ((dL.1.length:Int)-1)).bind λm=>(idx dL.1 ((dL.1.length:Int)-1)).bind λd=>(idx dL.1 ((dL.1.length:Int)-1)).bind λn=>(idx dL.1 ((dL.1.length:Int)-1)).bind λe=>g (List.set dL.1 ((dL.1.length:Int)-1).toNat (Span.mk e.1 (max d.2 b.2))) else ah (aS 16 (dL.1++[b]).length)<|g (dL.1++[b]) else j dL.1
def axy(c:Ii)(a:AZ)(d:Nl)(e:Nf)(gX:AZ):qg:=if decide (gX.2<(↑[c.2.2,a.1].length:Int)) then (idx [c.2.2,a.1] gX.2).bind λb=>ah (aS 16 (gX.1++b).length)<|ah (aj (gX.2+1))<|e (gX.1++b,gX.2+1) else d gX.1
def ajb(c:Ii)(b:AZ)(g:asD)(f:Int×Int->qg)(kH:Int×Int):qg:=if decide (kH.2<(↑[c.2.2,b.1].length:Int)) then au (λ(e:Int)=>ah (aj (kH.2+1))<|f (e,kH.2+1)) λd=>(idx [c.2.2,b.1] kH.2).bind λa=>ah (aj (kH.1+(a.length:Int)))<|if decide (kH.1+(a.length:Int)<0) then none else d (kH.1+(a.length:Int)) else g kH.1
def Zx(p:Wm)(d:List Span)(e:List Window->qg)(c:List Window×Int->qg)(b:List Window×Int):qg:=if decide (b.2<(d.length:Int)) then (idx d b.2).bind λa=>ah (aj (a.1+p.1))<|ah (aj (a.1+p.1-1))<|ah (aS 16 (b.1++[Window.mk a.2 (a.1+p.1-1)]).length)<|ah (aj (b.2+1))<|c (b.1++[Window.mk a.2 (a.1+p.1-1)],b.2+1) else e b.1
def aja(p:Wm)(s:Ii->qg)(a:Ii):qg:=if decide (0<(a.1.length:Int))&&decide (0<(a.2.1.length:Int)) then (idx a.1 0).bind λb=>(idx a.2.1 0).bind λc=>au (λ(t:List Span)=>au (λ(u:List aV)=>if decide (c.1<=b.1) then (sub a.2.1 1 (a.2.1.length:Int)).bind λK=>s (u,K,t) else s (u,a.2.1,t)) λv=>if decide (b.1<=c.1) then (sub a.1 1 (a.1.length:Int)).bind λm=>v m else v a.1) λd=>if decide (b.1=c.1) then ah (aj (b.2-c.3))<|ah (aj (b.2-c.3+1))<|ah (aj (b.3-c.2))<|ah (aj (b.3-c.2-1))<|ah (aj (b.3-c.2-1-(b.2-c.3+1)))<|ah (aj (b.3-c.2-1-(b.2-c.3+1)+1))<|(TR (p.1,b.2-c.3+1,b.3-c.2-1-(b.2-c.3+1)+1)).bind λe=>(Li (p.1,[a.2.2,e.1])).bind λn=>if !decide (n=0) then d ([]) else au (λ(j:Int)=>ah (decide (0<=j/\j*16<=140737488355328))<|if decide (j=0) then au (λ(A:List Span)=>au (λ(C:List Span)=>d C) λl=>iter (axv A l) FUEL ([],0)) λF=>iter (axw a e F) FUEL ([],0) else au (λ(M:List Span)=>au (λ(E:List Span)=>d E) λD=>iter (axx M D) FUEL ([],0)) λx=>iter (axy a e x) FUEL ([],0)) λB=>iter (ajb a e B) FUEL (0,0) else d a.2.2 else (TQ (p.1,a.2.2)).bind λo=>if decide (o=p.1) then some ([],13) else au (λ(z:List Span)=>au (λ(k:List Window)=>some (k,0)) λy=>iter (Zx p z y) FUEL ([],0)) λw=>(bC (decide (1<(a.2.2.length:Int))) (Span.mk 0 0) (idx a.2.2 0)).bind λG=>(bC (decide (1<(a.2.2.length:Int))) (Span.mk 0 0) (idx a.2.2 0)).bind λf=>ah (!(decide (1<(a.2.2.length:Int))&&decide (f.1=0))||aj ((a.2.2.length:Int)-1))<|(bC (decide (1<(a.2.2.length:Int))&&decide (f.1=0)) (Span.mk 0 0) (idx a.2.2 ((a.2.2.length:Int)-1))).bind λH=>(bC (decide (1<(a.2.2.length:Int))&&decide (f.1=0)) (Span.mk 0 0) (idx a.2.2 ((a.2.2.length:Int)-1))).bind λq=>if decide (1<(a.2.2.length:Int))&&decide (f.1=0)&&decide (q.2=p.1) then ah (aj ((a.2.2.length:Int)-1))<|(idx a.2.2 ((a.2.2.length:Int)-1)).bind λI=>(idx a.2.2 ((a.2.2.length:Int)-1)).bind λg=>(idx a.2.2 0).bind λJ=>(idx a.2.2 0).bind λh=>ah (aj (g.2+h.2))<|(idx a.2.2 ((a.2.2.length:Int)-1)).bind λL=>(idx a.2.2 ((a.2.2.length:Int)-1)).bind λi=>(sub (List.set a.2.2 ((a.2.2.length:Int)-1).toNat (Span.mk i.1 (g.2+h.2))) 1 (↑(List.set a.2.2 ((a.2.2.length:Int)-1).toNat (Span.mk i.1 (g.2+h.2))).length:Int)).bind λr=>w r else w a.2.2
def Qe(p:Wm):qg:=au (λ(f:Unit)=>iter (aja p) FUEL (p.2.1,p.2.2,[])) λc=>if decide (p.1<1) then if decide (p.1<1) then some ([],4) else (y9 p.2.1).bind λa=>if !a then if !a then some ([],1) else c PUnit.unit else (y9 p.2.2).bind λd=>if !d then some ([],1) else c PUnit.unit else if decide (7200<p.1) then some ([],4) else (y9 p.2.1).bind λb=>if !b then if !b then some ([],1) else c PUnit.unit else (y9 p.2.2).bind λe=>if !e then some ([],1) else c PUnit.unit
def c171:aN Zτ.S:=⟨[.int .i64,.list (.st 26),.list (.st 26)],[.list (.st 35),.int .i64],Qe⟩
theorem atL:FZ Z.P Zτ 171 c171:=aT (C:=ZA) (wr:=false) (T:=(aI [(237,agG)])) (I:=(aJ [(236,i236)])) (sp:=aFj) (aG.get (.cons at0 .nil)) (aH.get (.cons (aF.am aA4) .nil)) λp=>by kernel_rfl
def aFa:Nat->Option (List R.Item):=λi=>match i with|9=>some [⟨[20],.v (.int .i64)⟩]|18=>some []|_=>none
def ai8(p:Int×List aV)(d:Unit->Option Bool)(c:Int->Option (Bool))(a:Int):Option (Bool):=if decide (a<(p.2.length:Int)) then (idx p.2 a).bind λb=>ah (aj (b.3-b.2))<|if decide (p.1<b.3-b.2) then some false else ah (aj (a+1))<|c (a+1) else d PUnit.unit
def Qd(p:Int×List aV):Option Bool:=(bC (!(decide (p.1<1)||decide (7200<p.1))) false (y9 p.2)).bind λb=>if decide (p.1<1)||decide (7200<p.1)|| !b then some false else au (λ(c:Unit)=>some true) λa=>iter (ai8 p a) FUEL 0
def c164:aN Zτ.S:=⟨[.int .i64,.list (.st 26)],[.bool],Qd⟩
theorem atI:FZ Z.P Zτ 164 c164:=aT (C:=Z) (wr:=false) (T:=(aI [(234,c234)])) (I:=(aJ [])) (sp:=aFa) (aG.get (.cons agF .nil)) (aH.get .nil) λp=>by kernel_rfl
def aFr:Nat->Option (List R.Item):=λi=>match i with|3=>some [⟨[1],.v (.int .i64)⟩]|6=>some [⟨[1],.v (.int .i64)⟩]|_=>none
def XV(p:List Int×Int)(b:Int->Option Int)(a:Int->Option (Int))(s4:Int):Option (Int):=(idx p.1 s4).bind λc=>if !decide (c=s4) then (idx p.1 s4).bind λd=>a d else b s4
def nG(p:List Int×Int):Option Int:=au (λ(a:Int)=>some a) λb=>iter (XV p b) FUEL p.2
def N7:aN Zτ.S:=⟨[.list (.int .i64),.int .i64],[.int .i64],nG⟩
theorem Xb:FZ Z.P Zτ 178 N7:=aT (C:=Z) (wr:=false) (T:=(aI [])) (I:=(aJ [])) (sp:=aFr) (aG.get .nil) (aH.get .nil) λp=>by kernel_rfl
def aFo:Nat->Option (List R.Item):=λ_=>none
def SK(p:Network×Int):Option Bool:=some (decide (0<=p.2)&&decide (p.2<(p.1.2.length:Int)))
def c175:aN Zτ.S:=⟨[.st 19,.int .i64],[.bool],SK⟩
theorem atM:FZ Z.P Zτ 175 c175:=aT (C:=Z) (wr:=false) (T:=(aI [])) (I:=(aJ [])) (sp:=aFo) (aG.get .nil) (aH.get .nil) λp=>by kernel_rfl
def aHX:Nat->Option (List R.Item):=λi=>match i with|9=>some [⟨[28],.v (.int .i64)⟩]|26=>some []|_=>none
def aoP(p:Network)(d:Unit->Option Bool)(c:Int->Option (Bool))(s4:Int):Option (Bool):=if decide (s4<(p.3.length:Int)) then (idx p.3 s4).bind λa=>(SK (p,a.2)).bind λb=>(bC (!!b) false (SK (p,a.3))).bind λe=>if !b|| !e||decide (a.2=a.3) then some false else ah (!!(decide (a.4< -65536)||decide (a.5<a.4)||decide (65536<a.5))||aj (a.5-a.4))<|if decide (a.4< -65536)||decide (a.5<a.4)||decide (65536<a.5)||decide (p.1<=a.5-a.4) then some false else if decide (a.6<0)||decide (1048576<a.6) then some false else ah (aj (s4+1))<|c (s4+1) else d PUnit.unit
def kQ(p:Network):Option Bool:=if decide (p.1<2)||decide (7200<p.1)||decide (48<(p.2.length:Int))||decide (512<(p.3.length:Int)) then some false else au (λ(b:Unit)=>some true) λa=>iter (aoP p a) FUEL 0
def vX:aN Zτ.S:=⟨[.st 19],[.bool],kQ⟩
theorem yL:FZ Z.P Zτ 73 vX:=aT (C:=Z) (wr:=false) (T:=(aI [(175,c175)])) (I:=(aJ [])) (sp:=aHX) (aG.get (.cons atM .nil)) (aH.get .nil) λp=>by kernel_rfl
def aH9:Nat->Option (List R.Item):=λi=>match i with|7=>some [⟨[9],.v (.int .i64)⟩,⟨[3],.k (.int .i64)⟩]|14=>some [⟨[3],.k (.int .i64)⟩]|_=>none
def i85:aL Zτ.S:=aL.rd<|inl Z false (aI []) (aJ []) aH9 85
theorem aaQ:aF Z 85 i85:=aF.rd (C:=Z)<|bf (aG.get .nil) (aH.get .nil)
def aIa:Nat->Option (List R.Item):=λ_=>none
def i86:aL Zτ.S:=inl Z false (aI [(178,N7)]) (aJ []) aIa 86
theorem aaR:aF Z 86 i86:=bf (aG.get (.cons Xb .nil)) (aH.get .nil)
abbrev afi:=Int×List Int->Option (List Int)
abbrev V4:=List Int->Option (List Int)
abbrev Io:=Option (List Int)
def aGm:Nat->Option (List R.Item):=λi=>match i with|11=>some [⟨[20],.v (.int .i64)⟩,⟨[3],.k (.int .i64)⟩]|18=>some [⟨[3],.k (.int .i64)⟩]|25=>some [⟨[7],.v (.int .i64)⟩,⟨[37],.v (.int .i64)⟩,⟨[6],.k (.int .i64)⟩]|38=>some [⟨[7],.v (.int .i64)⟩,⟨[6],.k (.int .i64)⟩]|40=>some [⟨[6],.k (.int .i64)⟩]|_=>none
def ahQ(p:Network)(g:List Int)(h:V4)(f:Int×Int×List Int->Io)(a:Int×Int×List Int):Io:=if decide (a.2.1<(↑(List.replicate (p.2.length:Int).toNat (0:Int)).length:Int)) then au (λ(d:Int×List Int)=>ah (aj (a.2.1+1))<|f (d.1,a.2.1+1,d.2)) λe=>(nG (g,a.2.1)).bind λb=>if decide (b<a.2.1) then (idx a.2.2 b).bind λi=>(idx a.2.2 b).bind λc=>(idx a.2.2 a.2.1).bind λj=>(idx a.2.2 a.2.1).bind λk=>e (a.1,List.set a.2.2 (Int.toNat a.2.1) c) else (idx a.2.2 a.2.1).bind λl=>(idx a.2.2 a.2.1).bind λm=>ah (aj (a.1+1))<|e (a.1+1,List.set a.2.2 (Int.toNat a.2.1) a.1) else h a.2.2
def ahO(p:Network)(e:V4)(f:afi)(a:Int×List Int):Io:=if decide (a.1<(p.3.length:Int)) then (idx p.3 a.1).bind λd=>(nG (a.2,d.2)).bind λb=>(nG (a.2,d.3)).bind λc=>(idx a.2 (max b c)).bind λg=>(idx a.2 (max b c)).bind λh=>ah (aj (a.1+1))<|f (a.1+1,List.set a.2 (max b c).toNat (min b c)) else e a.2
def ahP(p:Network)(a:V4)(d:afi)(bP:Int×List Int):Io:=if decide (bP.1<(↑(List.replicate (p.2.length:Int).toNat (0:Int)).length:Int)) then (idx bP.2 bP.1).bind λb=>(idx bP.2 bP.1).bind λc=>ah (aj (bP.1+1))<|d (bP.1+1,List.set bP.2 (Int.toNat bP.1) bP.1) else a bP.2
def OJ(p:Network):Io:=(kQ p).bind λg=>if !g then some ([]) else ah (fE 8 (p.2.length:Int) (p.2.length:Int))<|au (λ(c:List Int)=>au (λ(d:List Int)=>ah (fE 8 (p.2.length:Int) (p.2.length:Int))<|au (λ(e:List Int)=>some e) λf=>iter (ahQ p d f) FUEL ((0:Int),(0:Int),List.replicate (p.2.length:Int).toNat (0:Int))) λa=>iter (ahO p a) FUEL (0,c)) λb=>iter (ahP p b) FUEL ((0:Int),List.replicate (p.2.length:Int).toNat (0:Int))
def agH:aN Zτ.S:=⟨[.st 19],[.list (.int .i64)],OJ⟩
theorem at1:FZ Z.P Zτ 238 agH:=aT (C:=Z) (wr:=false) (T:=(aI [(73,vX),(178,N7)])) (I:=(aJ [(85,i85),(86,i86)])) (sp:=aGm) (aG.get (.cons yL (.cons Xb .nil))) (aH.get (.cons aaQ (.cons aaR .nil))) λp=>by kernel_rfl
def aFl:Nat->Option (List R.Item):=λi=>match i with|19=>some [⟨[46],.v (.int .i64)⟩,⟨[28,4],.w (.list (.int .i64)) 0⟩]|28=>some [⟨[28,4],.w (.list (.int .i64)) 0⟩]|33=>some [⟨[12],.v (.int .i64)⟩,⟨[76],.v (.int .i64)⟩,⟨[28,3],.o (.int .i64)⟩]|44=>some [⟨[12],.v (.int .i64)⟩,⟨[28,3],.o (.int .i64)⟩]|46=>some [⟨[28,3],.o (.int .i64)⟩]|_=>none
def i173:aL Zτ.S:=aL.rd<|inl Z false (aI [(73,vX),(238,agH)]) (aJ []) aFl 173
theorem aAO:aF Z 173 i173:=aF.rd (C:=Z)<|bf (aG.get (.cons yL (.cons at1 .nil))) (aH.get .nil)
def aGR:Nat->Option (List R.Item):=λi=>match i with|5=>some [⟨[2],.v (.int .i64)⟩,⟨[20],.v (.int .i64)⟩]|20=>some [⟨[2],.v (.int .i64)⟩]|_=>none
def alK:aL Zτ.S:=aL.rd<|inl Z false (aI [(19,c19)]) (aJ []) aGR 279
theorem aBf:aF Z 279 alK:=aF.rd (C:=Z)<|bf (aG.get (.cons EG .nil)) (aH.get .nil)
end
noncomputable def i89:aL Zτ.S:=⟨fun vs s K=>match vs with
 |[v]=>match Uv Z s (.int .i64) v with
  |some xs=>ah (aS 8 (List.length (α:=Int) xs)) (K (.o s.nx) (s.newL Z none (.int .i64) xs))
  |none=>none
 |_=>none,true⟩
theorem alT:aF Z 89 i89:=by
 intro β y vs s K h κ M w ρ J d n;unfold i89 at h;simp only at h;split at h
 ·rename_i v;split at h
  ·rename_i xs H;obtain⟨f,P⟩:=jZ h;have f:xs.length*8<=140737488355328:=by simpa [aS] using f
   obtain⟨x,rfl⟩:∃x,J=[x]:=by match J,n.1 with|[x],_=>exact⟨x,rfl⟩
   obtain⟨ad,cap,us,rfl,m,h2,N⟩:=aqj d H (n.2 0 v x rfl rfl);have O:∀(i:Nat) (z:Int),xs[i]?=some z->us i 0= .int .i64 z:=λi z F=>by have:=N i z F 0 (.i .i64 z) rfl;generalize us i 0=q at this;cases this;rfl
   have p:∀(zs:List Int),zs=xs->Row Zτ M ρ (.int .i64) xs (λj=>(zs.map (Value.int .i64))[j]?):=by
    rintro zs rfl i z F j u D;have B:j=0:=by have:=(List.getElem?_eq_some_iff.1 D).1;have:j<1:=this;omega
    subst B;have D:some (SV.i .i64 z)=some u:=D;cases D;refine⟨.int .i64 z,?_,.i⟩;show (zs.map (Value.int .i64))[i*1+0]?=_;rw[Nat.mul_one,Nat.add_zero,List.getElem?_map,F];rfl
   have fin:∀(e:Ending) (w':World),(∃r,e= .returned r/\w'.ownsRow w.heap.size 3 1 r xs.length (xs.map (Value.int .i64))/\RowKit.Below w.heap.size w w')->
     ∃x v s' M' A,e= .returned x/\K v s'=some y/\Keep s s'/\M.le M'/\CS Z κ ρ s' M' w' A/\RG Zτ M' A [] v x:=by
    rintro e w' ⟨r,rfl,b,g⟩
    obtain⟨M',l,rfl,G,k⟩:=ahH (C:=Z) (c:= .int .i64) (xs:=xs) d g ⟨dc,rfl⟩ b (p xs rfl) om
    refine⟨_,_,_,M',ρ++[l],rfl,P,⟨rfl,rfl,λt=>rfl⟩,G,k,.v (.o ?_)⟩
    rw[<-d.len];simp
   cases ad with
   |none=>have:=m rfl;subst this;refine (Tryz.slices_Clone_int_nil 0 cap w).mono ?_;rintro e w' ⟨rfl,rfl⟩;exact fin _ _ ⟨_,rfl,World.ownsRow_nil _ _ _ _,RowKit.Below.refl _ _⟩
   |some a=>
    by_cases h0:xs=[];·subst h0;refine (Tryz.slices_Clone_int_zero a cap w).mono ?_;rintro e w' ⟨r,rfl,b,_,g⟩;exact fin _ _ ⟨_,rfl,b,g⟩
    ·obtain⟨Q,I⟩:∃z,xs[0]?=some z:=⟨xs[0]'(List.length_pos_iff.2 h0),by simp[List.length_pos_iff.2 h0]⟩;have E:=(h2 0 Q I 0 dc).1;have E:a=⟨sb (some a),so (some a),none⟩:=Option.some.inj E;rw[E];refine (Tryz.slices_Clone_int (sb (some a)) (so (some a)) xs.length cap xs w (Nat.le_refl _) f λj B=>?_).mono ?_
     ·have L:xs[j]?=some xs[j]:=by simp[B]
      have:=(h2 j _ L 0 dc).2;rw[O j _ L] at this;have e:so (some a)+(j*Zτ.aC (.int .i64)+0)=so (some a)+j:=by show so (some a)+(j*1+0)=_;omega
      rw[e] at this;rw[this];simp[B]
     ·rintro e w' ⟨r,rfl,b,_,g⟩;rw[List.take_length] at b;exact fin _ _ ⟨_,rfl,b,g⟩
  ·cases h
 ·cases h
end Go.Z
namespace Go.Z
open Go Go.Proofs Go.Dc Go.R
set_option maxRecDepth 100000
noncomputable section
def aGn:Nat->Option (List R.Item):=λi=>match i with|11=>some [⟨[43],.v (.int .i64)⟩,⟨[0,9],.v .bool⟩,⟨[0,8],.v (.int .i64)⟩,⟨[0,10],.v (.list (.int .i64))⟩,⟨[0,11],.v (.int .i64)⟩,⟨[0,12],.v .bool⟩,⟨[0,5],.k (.int .i64)⟩]|32=>some [⟨[0,9],.v .bool⟩,⟨[0,8],.v (.int .i64)⟩,⟨[0,10],.v (.list (.int .i64))⟩,⟨[0,11],.v (.int .i64)⟩,⟨[0,12],.v .bool⟩,⟨[0,5],.k (.int .i64)⟩]|34=>some [⟨[0,9],.v .bool⟩,⟨[0,8],.v (.int .i64)⟩,⟨[0,10],.v (.list (.int .i64))⟩,⟨[0,11],.v (.int .i64)⟩,⟨[0,12],.v .bool⟩,⟨[0,5],.k (.int .i64)⟩]|_=>none
def al4:List aY:=[⟨0,1,0,.v (.int .i64)⟩,⟨0,2,0,.v (.int .i64)⟩,⟨1,0,0,.v (.int .i64)⟩,⟨1,1,0,.v (.list (.st 17))⟩,⟨1,2,0,.v (.list (.st 18))⟩,⟨1,3,0,.v (.list (.int .i64))⟩,⟨1,4,0,.v (.list (.list (.int .i64)))⟩,⟨1,5,1,.k (.int .i64)⟩,⟨1,6,0,.v .bool⟩,⟨1,7,0,.v (.int .i64)⟩,⟨1,8,0,.v (.int .i64)⟩,⟨1,9,0,.v .bool⟩,⟨1,10,0,.v (.list (.int .i64))⟩,⟨1,11,0,.v (.int .i64)⟩,⟨1,12,0,.v .bool⟩]
def apc:List aY:=[⟨1,5,1,.k (.int .i64)⟩,⟨1,8,0,.v (.int .i64)⟩,⟨1,9,0,.v .bool⟩,⟨1,10,0,.v (.list (.int .i64))⟩,⟨1,11,0,.v (.int .i64)⟩,⟨1,12,0,.v .bool⟩]
abbrev Al:=aK Zτ.S (al4.map (·.sh.cd))
abbrev Ao:=aK Zτ.S [.bool]×aK Zτ.S (apc.map (·.sh.cd))
def Mx(R:Al->Option Ao):LC Zτ.S:=⟨2,3,[(0,0,.r 0 0),(1,5,.o 1)],[(0,.bx 314 13)],al4,apc,[.bool],R⟩
def ap7(n:Al->Option Ao)(p:Int×Int×Int×List Event×List bE×List Int×List (List Int)×List Int×Bool×Int×Int×Bool×List Int×Int×Bool)(c:Int×Bool×Int×List Int×Int×Bool×List Int)(j:Bool×Int×List Int×Int×Bool×List Int->Option (Bool×List Int×Int×Bool×List Int×Int×Bool))(h:Int->Option (Bool×List Int×Int×Bool×List Int×Int×Bool))(g:List Int)(m:Int×Int->Option (Bool×List Int×Int×Bool×List Int×Int×Bool))(b:Int×Int):Option (Bool×List Int×Int×Bool×List Int×Int×Bool):=if decide (b.2<(↑g.length:Int)) then (idx g b.2).bind λi=>(idx p.2.2.2.2.1 i).bind λa=>(idx (List.set c.2.2.2.2.2.2 p.1.toNat c.1) a.3).bind λk=>(idx (List.set c.2.2.2.2.2.2 p.1.toNat c.1) a.3).bind λe=>(idx (List.set c.2.2.2.2.2.2 p.1.toNat c.1) a.2).bind λl=>(idx (List.set c.2.2.2.2.2.2 p.1.toNat c.1) a.2).bind λf=>ah (aj (e-f))<|ah (aj (e-f-a.4))<|(jo (e-f-a.4,p.2.2.1)).bind λd=>ah (aj (a.5-a.4))<|if decide (a.5-a.4<d) then j (c.2.1,c.2.2.1+1,c.2.2.2.1,c.2.2.2.2.1,c.2.2.2.2.2.1,List.set c.2.2.2.2.2.2 p.1.toNat c.1) else ah (aj (a.6*d))<|ah (aj (b.1+a.6*d))<|ah (aj (b.2+1))<|m (b.1+a.6*d,b.2+1) else h b.1
def ap6(h:Al->Option Ao)(p:Int×Int×Int×List Event×List bE×List Int×List (List Int)×List Int×Bool×Int×Int×Bool×List Int×Int×Bool)(j:Bool×Int×List Int×Int×Bool×List Int->Option (Bool×List Int×Int×Bool×List Int×Int×Bool))(k:Int)(i:Int×Bool×Int×List Int×Int×Bool×List Int->Option (Bool×List Int×Int×Bool×List Int×Int×Bool))(a:Int×Bool×Int×List Int×Int×Bool×List Int):Option (Bool×List Int×Int×Bool×List Int×Int×Bool):=if decide (a.1<k) then au (λ(c:Bool×Int×List Int×Int×Bool×List Int)=>(ah (aj (a.1+1))<|i (a.1+1,c.1,c.2.1,c.2.2.1,c.2.2.2.1,c.2.2.2.2.1,c.2.2.2.2.2):Option (Bool×List Int×Int×Bool×List Int×Int×Bool))) λf=>if decide (a.2.2.1=p.2.2.2.2.2.2.2.2.2.1) then some (false,a.2.2.2.2.2.2,a.2.2.1,true,a.2.2.2.1,a.2.2.2.2.1,a.2.2.2.2.2.1) else ah (aj (a.2.2.1+1))<|(idx a.2.2.2.2.2.2 p.1).bind λl=>(idx a.2.2.2.2.2.2 p.1).bind λm=>au (λ(d:Int)=>(if !true||p.2.2.2.2.2.2.2.2.1&&a.2.2.2.2.2.1&&decide (a.2.2.2.2.1<=d) then f (a.2.1,a.2.2.1+1,a.2.2.2.1,a.2.2.2.2.1,a.2.2.2.2.2.1,List.set a.2.2.2.2.2.2 p.1.toNat a.1) else ah (aj (p.1+1))<|(h (p.1+1,d,p.2.2.1,p.2.2.2.1,p.2.2.2.2.1,p.2.2.2.2.2.1,p.2.2.2.2.2.2.1,List.set a.2.2.2.2.2.2 p.1.toNat a.1,p.2.2.2.2.2.2.2.2.1,p.2.2.2.2.2.2.2.2.2.1,a.2.2.1+1,a.2.1,a.2.2.2.1,a.2.2.2.2.1,a.2.2.2.2.2.1)).bind λb=>if !b.1 then some (false,b.2.1,b.2.2.1,b.2.2.2.1,b.2.2.2.2.1,b.2.2.2.2.2.1,b.2.2.2.2.2.2) else f (b.2.2.2.1,b.2.2.1,b.2.2.2.2.1,b.2.2.2.2.2.1,b.2.2.2.2.2.2,b.2.1):Option (Bool×List Int×Int×Bool×List Int×Int×Bool))) λe=>(idx p.2.2.2.2.2.2.1 p.1).bind λg=>iter ((ap7 h) p a f e g) FUEL (p.2.1,0) else j (a.2.1,a.2.2.1,a.2.2.2.1,a.2.2.2.2.1,a.2.2.2.2.2.1,a.2.2.2.2.2.2)
def ap5(b:Al->Option Ao)(p:Int×Int×Int×List Event×List bE×List Int×List (List Int)×List Int×Bool×Int×Int×Bool×List Int×Int×Bool):Option (Bool×List Int×Int×Bool×List Int×Int×Bool):=if decide (p.1=(↑p.2.2.2.2.2.2.2.1.length:Int)) then ah (aS 8 p.2.2.2.2.2.2.2.1.length)<|some (p.2.2.2.2.2.2.2.2.1,p.2.2.2.2.2.2.2.1,p.2.2.2.2.2.2.2.2.2.2.1,p.2.2.2.2.2.2.2.2.2.2.2.1,p.2.2.2.2.2.2.2.1,p.2.1,true) else au (λ(a:Bool×Int×List Int×Int×Bool×List Int)=>(some (true,a.2.2.2.2.2,a.2.1,a.1,a.2.2.1,a.2.2.2.1,a.2.2.2.2.1):Option (Bool×List Int×Int×Bool×List Int×Int×Bool))) λc=>(idx p.2.2.2.2.2.1 p.1).bind λd=>iter ((ap6 b) p c d) FUEL (0,p.2.2.2.2.2.2.2.2.2.2.2.1,p.2.2.2.2.2.2.2.2.2.2.1,p.2.2.2.2.2.2.2.2.2.2.2.2.1,p.2.2.2.2.2.2.2.2.2.2.2.2.2.1,p.2.2.2.2.2.2.2.2.2.2.2.2.2.2,p.2.2.2.2.2.2.2.1)
def Df:Nat->Al->Option Ao|0=>λ_=>none|n+1=>ap5 (Df n)
def ap8:Al->Option Ao:=Df FUEL
theorem aeN(R:Al->Option Ao):(Mx R).wf=true:=by rfl
theorem an0:∀n,LS Z.P Zτ 239 (Mx (Df n))|0=>λp y h=>by have h:none=some y:=h;cases h|n+1=>aom (C:=Z) (wr:=false) (T:=(aI [])) (I:=(aJ [(239,(Mx (Df n)).inl Z),(89,i89),(279,alK)])) (sp:=aGn) (aG.get .nil) (aH.get (.cons (LC.bf (aeN _) (an0 n)) (.cons alT (.cons aBf .nil)))) (aeN _) λp=>by kernel_rfl
def alz:aL Zτ.S:=(Mx ap8).inl Z
theorem aA5:aF Z 239 alz:=LC.bf (aeN _) (an0 FUEL)
def aFm:Nat->Option (List R.Item):=λi=>match i with|7=>some [⟨[3],.v (.int .i64)⟩,⟨[12],.v (.int .i64)⟩]|14=>some [⟨[3],.v (.int .i64)⟩]|_=>none
def ale:aL Zτ.S:=inl Z false (aI []) (aJ [(239,alz)]) aFm 174
theorem aAP:aF Z 174 ale:=bf (aG.get .nil) (aH.get (.cons aA5 .nil))
abbrev asu:=Int->Option (List Int×Int×Int×Int)
abbrev vN:=Option (List Int×Int×Int×Int)
abbrev Nk:=Network×Int×Bool
abbrev afw:=List (List Int)
def aHW:Nat->Option (List R.Item):=λ_=>none
def ap4(p:Nk)(c:asu)(b:Int×Int->vN)(s8:Int×Int):vN:=if decide (s8.2<(p.1.3.length:Int)) then (idx p.1.3 s8.2).bind λa=>ah (aj (a.6*a.4))<|ah (aj (s8.1+a.6*a.4))<|ah (aj (s8.2+1))<|b (s8.1+a.6*a.4,s8.2+1) else c s8.1
def ap2(p:Nk)(c:List Int->vN)(b:List Int)(f:Int×Int×List Int->vN)(bH:Int×Int×List Int):vN:=if decide (bH.2.1<(b.length:Int)) then au (λ(e:Int×List Int)=>ah (aj (bH.2.1+1))<|f (e.1,bH.2.1+1,e.2)) λa=>(idx b bH.2.1).bind λd=>if decide (d=bH.1) then ah (aS 8 (bH.2.2++[1]).length)<|ah (aj (bH.1+1))<|a (bH.1+1,bH.2.2++[1]) else ah (aS 8 (bH.2.2++[p.1.1]).length)<|a (bH.1,bH.2.2++[p.1.1]) else c bH.2.2
def ap3(p:Nk)(d:afw->vN)(e:Int×List (List Int)->vN)(b:Int×List (List Int)):vN:=if decide (b.1<(p.1.3.length:Int)) then (idx p.1.3 b.1).bind λa=>(idx b.2 (max a.2 a.3)).bind λf=>(idx b.2 (max a.2 a.3)).bind λg=>(idx b.2 (max a.2 a.3)).bind λc=>ah (aS 8 (c++[b.1]).length)<|(idx b.2 (max a.2 a.3)).bind λh=>ah (decide (max a.2 a.3=max a.2 a.3))<|(idx b.2 (max a.2 a.3)).bind λi=>ah (aj (b.1+1))<|e (b.1+1,List.set b.2 (max a.2 a.3).toNat (c++[b.1])) else d b.2
def Gy(p:Nk):vN:=(kQ p.1).bind λi=>if !i then some ([],0,0,1) else if decide (p.2.1<1)||decide (1048576<p.2.1) then some ([],0,0,4) else ah (fE 8 (p.1.2.length:Int) (p.1.2.length:Int))<|ah (fE 24 (p.1.2.length:Int) (p.1.2.length:Int))<|au (λ(e:afw)=>au (λ(f:List Int)=>au (λ(g:Int)=>(ap8 ((0:Int),g,p.1.1,p.1.2,p.1.3,f,e,List.replicate (p.1.2.length:Int).toNat (0:Int),p.2.2,p.2.1,(0:Int),false,[],(0:Int),false)).bind λa=>if a.2.2.2.1 then some ([],0,0,15) else if !a.2.2.2.2.2.2 then some ([],0,a.2.2.1,14) else some (a.2.2.2.2.1,a.2.2.2.2.2.1,a.2.2.1,0)) λh=>iter (ap4 p h) FUEL (0,0)) λb=>(OJ p.1).bind λd=>iter (ap2 p b d) FUEL (0,0,[])) λc=>iter (ap3 p c) FUEL ((0:Int),List.replicate (p.1.2.length:Int).toNat [])
def c72:aN Zτ.S:=⟨[.st 19,.int .i64,.bool],[.list (.int .i64),.int .i64,.int .i64,.int .i64],Gy⟩
theorem ahn:FZ Z.P Zτ 72 c72:=aT (C:=Z) (wr:=false) (T:=(aI [])) (I:=(aJ [(173,i173),(174,ale)])) (sp:=aHW) (aG.get .nil) (aH.get (.cons aAO (.cons aAP .nil))) λp=>by kernel_rfl
def aGS:Nat->Option (List R.Item):=λ_=>none
def Gx(p:Network×Int):Option (List Int×Int×Int×Int):=(Gy (p.1,p.2,true)).bind λa=>some (a.1,a.2.1,a.2.2.1,a.2.2.2)
def c28:aN Zτ.S:=⟨[.st 19,.int .i64],[.list (.int .i64),.int .i64,.int .i64,.int .i64],Gx⟩
theorem auq:FZ Z.P Zτ 28 c28:=aT (C:=Z) (wr:=false) (T:=(aI [(72,c72)])) (I:=(aJ [])) (sp:=aGS) (aG.get (.cons ahn .nil)) (aH.get .nil) λp=>by kernel_rfl
def aHv:Nat->Option (List R.Item):=λi=>match i with|9=>some [⟨[20],.v (.int .i64)⟩]|18=>some []|_=>none
def acP(p:Network×List Int)(d:Unit->Option Bool)(c:Int->Option (Bool))(a:Int):Option (Bool):=if decide (a<(p.2.length:Int)) then (idx p.2 a).bind λb=>if decide (b<0)||decide (p.1.1<=b) then some false else ah (aj (a+1))<|c (a+1) else d PUnit.unit
def sU(p:Network×List Int):Option Bool:=(kQ p.1).bind λb=>if !b|| !decide ((p.2.length:Int)=(p.1.2.length:Int)) then some false else au (λ(c:Unit)=>some true) λa=>iter (acP p a) FUEL 0
def I5:aN Zτ.S:=⟨[.st 19,.list (.int .i64)],[.bool],sU⟩
theorem Oo:FZ Z.P Zτ 41 I5:=aT (C:=Z) (wr:=false) (T:=(aI [(73,vX)])) (I:=(aJ [])) (sp:=aHv) (aG.get (.cons yL .nil)) (aH.get .nil) λp=>by kernel_rfl
def aIm:Nat->Option (List R.Item):=λ_=>none
def KL(p:Network×List Int×bE):Option Int:=(idx p.2.1 p.2.2.3).bind λa=>(idx p.2.1 p.2.2.2).bind λb=>ah (aj (a-b))<|ah (aj (a-b-p.2.2.4))<|(jo (a-b-p.2.2.4,p.1.1)).bind λc=>ah (aj (p.2.2.4+c))<|some (p.2.2.4+c)
def XH:aN Zτ.S:=⟨[.st 19,.list (.int .i64),.st 18],[.int .i64],KL⟩
theorem ahs:FZ Z.P Zτ 99 XH:=aT (C:=Z) (wr:=false) (T:=(aI [(19,c19)])) (I:=(aJ [])) (sp:=aIm) (aG.get (.cons EG .nil)) (aH.get .nil) λp=>by kernel_rfl
abbrev Nc:=Option (Int×Bool)
def aIl:Nat->Option (List R.Item):=λi=>match i with|9=>some [⟨[15],.v (.int .i64)⟩]|18=>some []|_=>none
def aoR(p:Network×List Int)(d:Unit->Nc)(c:Int->Nc)(a:Int):Nc:=if decide (a<(p.1.3.length:Int)) then (idx p.1.3 a).bind λb=>(KL (p.1,p.2,b)).bind λe=>if decide (b.5<e) then some (a,true) else ah (aj (a+1))<|c (a+1) else d PUnit.unit
def SI(p:Network×List Int):Nc:=(sU (p.1,p.2)).bind λb=>if !b then some (0,false) else au (λ(c:Unit)=>some (0,false)) λa=>iter (aoR p a) FUEL 0
def c98:aN Zτ.S:=⟨[.st 19,.list (.int .i64)],[.int .i64,.bool],SI⟩
theorem au5:FZ Z.P Zτ 98 c98:=aT (C:=Z) (wr:=false) (T:=(aI [(41,I5),(99,XH)])) (I:=(aJ [])) (sp:=aIl) (aG.get (.cons Oo (.cons ahs .nil))) (aH.get .nil) λp=>by kernel_rfl
def aHs:Nat->Option (List R.Item):=λ_=>none
def KJ(p:Network×List Int):Option Bool:=(SI (p.1,p.2)).bind λa=>(bC (!a.2) false (sU (p.1,p.2))).bind λb=>some (!a.2&&b)
def Xy:aN Zτ.S:=⟨[.st 19,.list (.int .i64)],[.bool],KJ⟩
theorem ahh:FZ Z.P Zτ 38 Xy:=aT (C:=Z) (wr:=false) (T:=(aI [(98,c98),(41,I5)])) (I:=(aJ [])) (sp:=aHs) (aG.get (.cons au5 (.cons Oo .nil))) (aH.get .nil) λp=>by kernel_rfl
abbrev MX:=Option (Int×Int)
def aHt:Nat->Option (List R.Item):=λi=>match i with|11=>some [⟨[6],.v (.int .i64)⟩,⟨[16],.v (.int .i64)⟩]|18=>some [⟨[6],.v (.int .i64)⟩]|_=>none
def aCX(p:Network×List Int)(e:Int->MX)(d:Int×Int->MX)(a:Int×Int):MX:=if decide (a.2<(p.1.3.length:Int)) then (idx p.1.3 a.2).bind λb=>(KL (p.1,p.2,b)).bind λc=>ah (aj (b.6*c))<|ah (aj (a.1+b.6*c))<|ah (aj (a.2+1))<|d (a.1+b.6*c,a.2+1) else e a.1
def aoQ(p:Network×List Int):MX:=(sU (p.1,p.2)).bind λc=>if !c then some (0,1) else au (λ(a:Int)=>some (a,0)) λb=>iter (aCX p b) FUEL (0,0)
def c39:aN Zτ.S:=⟨[.st 19,.list (.int .i64)],[.int .i64,.int .i64],aoQ⟩
theorem auM:FZ Z.P Zτ 39 c39:=aT (C:=Z) (wr:=false) (T:=(aI [(41,I5),(99,XH)])) (I:=(aJ [])) (sp:=aHt) (aG.get (.cons Oo (.cons ahs .nil))) (aH.get .nil) λp=>by kernel_rfl
def aHQ:Nat->Option (List R.Item):=λi=>match i with|3=>some [⟨[11],.v (.int .i64)⟩,⟨[0,12],.o (.int .i64)⟩,⟨[0,17],.o (.st 17)⟩]|11=>some [⟨[35],.v (.int .i64)⟩,⟨[0,17],.o (.st 17)⟩]|18=>some [⟨[0,12],.o (.int .i64)⟩,⟨[0,17],.o (.st 17)⟩]|_=>none
def i66:aL Zτ.S:=inl Z false (aI []) (aJ []) aHQ 66
theorem aBD:aF Z 66 i66:=bf (aG.get .nil) (aH.get .nil)
def aE7:Nat->Option (List R.Item):=λ_=>none
def ak6:aL Zτ.S:=inl Z false (aI []) (aJ []) aE7 161
theorem aAJ:aF Z 161 ak6:=bf (aG.get .nil) (aH.get .nil)
def aE8:Nat->Option (List R.Item):=λ_=>none
def i162:aL Zτ.S:=aL.rd<|inl Z false (aI []) (aJ []) aE8 162
theorem aaw:aF Z 162 i162:=aF.rd (C:=Z)<|bf (aG.get .nil) (aH.get .nil)
def aE9:Nat->Option (List R.Item):=λ_=>none
def aax:aL Zτ.S:=aL.rd<|inl Z false (aI []) (aJ [(162,i162)]) aE9 163
theorem ak7:aF Z 163 aax:=aF.rd (C:=Z)<|bf (aG.get .nil) (aH.get (.cons aaw .nil))
def aHS:Nat->Option (List R.Item):=λi=>match i with|3=>some [⟨[15],.v (.int .i64)⟩,⟨[0,15],.o (.st 27)⟩]|9=>some [⟨[28],.v (.int .i64)⟩,⟨[0,15],.o (.st 27)⟩]|16=>some [⟨[0,15],.o (.st 27)⟩]|18=>some [⟨[0,15],.o (.st 27)⟩]|21=>some [⟨[58],.v (.int .i64)⟩,⟨[0,15],.o (.st 27)⟩]|_=>none
def i68:aL Zτ.S:=inl Z false (aI []) (aJ [(162,i162),(161,ak6),(163,aax)]) aHS 68
theorem aBE:aF Z 68 i68:=bf (aG.get .nil) (aH.get (.cons aaw (.cons aAJ (.cons ak7 .nil))))
end
end Go.Z
