/- Several parts of the engine, one behind the other. -/
import Derived.Test.YtlbfmjolchehbaaGreatDoorMoe
set_option linter.all false
namespace Go.Z
open Go Go.Proofs Go.Dc Go.R
set_option maxRecDepth 100000
noncomputable section
abbrev ML:=Int×Int×List Use->Option (List Use×Int)
abbrev AV:=Int×List Use->Option (List Use×Int)
abbrev Wj:=List Use->Option (List Use×Int)
abbrev vO:=Layout×Plan×List Int×Bool
abbrev afx:=Int->Option (List Use×Int)
abbrev mD:=Option (List Use×Int)
abbrev yI:=Int×Int×List Use
def aE5:Nat->Option (List R.Item):=λi=>match i with|19=>some [⟨[13],.v (.int .i64)⟩,⟨[43],.v (.int .i64)⟩,⟨[39,18],.o (.int .i64)⟩]|28=>some [⟨[13],.v (.int .i64)⟩,⟨[39,18],.o (.int .i64)⟩]|33=>some [⟨[70],.v (.int .i64)⟩,⟨[39,20],.o (.st 16)⟩]|40=>some [⟨[39,20],.o (.st 16)⟩]|_=>none
def acZ(d:Int×List Use)(aX:yI)(b:List aV×Int×Int)(e:Wj)(c:AV)(gY:Int×List Use):mD:=if decide (gY.1<(b.1.length:Int)) then (idx b.1 gY.1).bind λa=>ah (aj (aX.1+a.2))<|ah (aj (a.3-a.2))<|if decide (0<a.3-a.2) then ah (aS 40 (gY.2++[Use.mk a.1 d.1 (aX.1+a.2) (a.3-a.2) 0]).length)<|ah (aj (gY.1+1))<|c (gY.1+1,gY.2++[Use.mk a.1 d.1 (aX.1+a.2) (a.3-a.2) 0]) else ah (aj (gY.1+1))<|c (gY.1+1,gY.2) else e gY.2
def acY(p:vO)(u:Network×Int)(O:List Int)(j:Int×List Int)(x:Int×List Use)(H:dO)(G:yI)(E:AV)(a:Int)(I:bO)(y:Line)(P:ML)(aX:yI):mD:=if decide (aX.2.1<(y.4.length:Int)) then au (λ(M:Int×List Use)=>ah (aj (aX.2.1+1))<|P (M.1,aX.2.1+1,M.2)) λv=>(idx y.4 aX.2.1).bind λJ=>(idx p.2.1.3 J.1).bind λc=>au (λ(L:List Use)=>(vV (p.1,c,I)).bind λd=>au (λ(D:List Use)=>(idx j.2 a).bind λi=>ah (aj (2*i))<|ah (aj (2*i-a))<|ah (aj (2*aX.2.1))<|ah (aj (2*i-a+2*aX.2.1))<|(idx u.1.3 (2*i-a+2*aX.2.1)).bind λb=>(idx p.2.2.1 b.3).bind λl=>(idx p.2.2.1 b.2).bind λm=>ah (aj (l-m))<|ah (aj (l-m-b.4))<|(jo (l-m-b.4,u.1.1)).bind λe=>ah (aj (b.4+e))<|ah (aj (aX.1+(b.4+e)))<|au (λ(k:Int)=>ah (aj ((c.1.length:Int)-c.2))<|ah (aj ((c.1.length:Int)-c.2-1))<|(idx c.1 ((c.1.length:Int)-c.2-1)).bind λz=>ah (aj (aX.1+d.2.1))<|ah (aj (k-aX.1))<|ah (aj (k-aX.1-d.2.1))<|if decide (0<k-aX.1-d.2.1) then ah (aS 40 (D++[Use.mk z.1 x.1 (aX.1+d.2.1) (k-aX.1-d.2.1) 0]).length)<|v (k,D++[Use.mk z.1 x.1 (aX.1+d.2.1) (k-aX.1-d.2.1) 0]) else v (k,D)) λF=>(idx p.2.1.4 a).bind λA=>ah (aj ((A.4.length:Int)-1))<|if decide (aX.2.1<(A.4.length:Int)-1) then (idx j.2 a).bind λh=>ah (aj (2*h))<|ah (aj (2*h-a))<|ah (aj (2*aX.2.1))<|ah (aj (2*h-a+2*aX.2.1))<|ah (aj (2*h-a+2*aX.2.1+1))<|(idx u.1.3 (2*h-a+2*aX.2.1+1)).bind λf=>(idx p.2.2.1 f.3).bind λn=>(idx p.2.2.1 f.2).bind λo=>ah (aj (n-o))<|ah (aj (n-o-f.4))<|(jo (n-o-f.4,u.1.1)).bind λq=>ah (aj (f.4+q))<|ah (aj (aX.1+(b.4+e)+(f.4+q)))<|F (aX.1+(b.4+e)+(f.4+q)) else (idx O a).bind λK=>if decide (0<=K) then ah (aj (2*j.1))<|ah (aj (2*j.1-(p.2.1.4.length:Int)))<|ah (aj (2*j.1-(p.2.1.4.length:Int)+(p.2.1.5.length:Int)))<|(idx O a).bind λB=>ah (aj (2*j.1-(p.2.1.4.length:Int)+(p.2.1.5.length:Int)+B))<|(idx u.1.3 (2*j.1-(p.2.1.4.length:Int)+(p.2.1.5.length:Int)+B)).bind λg=>(idx p.2.2.1 g.3).bind λr=>(idx p.2.2.1 g.2).bind λs=>ah (aj (r-s))<|ah (aj (r-s-g.4))<|(jo (r-s-g.4,u.1.1)).bind λt=>ah (aj (g.4+t))<|ah (aj (aX.1+(b.4+e)+(g.4+t)))<|F (aX.1+(b.4+e)+(g.4+t)) else ah (aj (aX.1+(b.4+e)+60))<|F (aX.1+(b.4+e)+60)) λN=>if p.2.2.2 then iter (acZ x aX d N) FUEL (0,L) else N L) λw=>if !H.2&&decide (G.2.1=0)&&decide (aX.2.1=0) then (idx c.1 0).bind λC=>ah (aj (aX.1-60))<|ah (aS 40 (aX.2.2++[Use.mk C.1 x.1 (aX.1-60) 60 0]).length)<|w (aX.2.2++[Use.mk C.1 x.1 (aX.1-60) 60 0]) else w aX.2.2 else E (aX.1,aX.2.2)
def acX(p:vO)(l:Network×Int)(m:List Int)(k:Int×List Int)(j:AV)(e:Int×List Use)(b:dO)(n:ML)(a:yI):mD:=if decide (a.2.1<(b.1.length:Int)) then au (λ(i:Int×List Use)=>ah (aj (a.2.1+1))<|n (i.1,a.2.1+1,i.2)) λd=>(idx b.1 a.2.1).bind λc=>(idx p.2.1.4 c).bind λf=>(idx p.2.1.2 f.2).bind λg=>(idx p.2.1.4 c).bind λh=>iter (acY p l m k e b a d c g h) FUEL (a.1,0,a.2.2) else ah (aj (e.1+1))<|j (e.1+1,a.2.2)
def KR(g:Network×Int)(f:Int×List Use)(e:Int)(bM:yI)(d:List aV×Int×Int)(h:Wj)(c:AV)(b:Int×List Use):mD:=if decide (b.1<(d.1.length:Int)) then (idx d.1 b.1).bind λa=>ah (aj (bM.1+a.2))<|ah (aj (a.3-a.2))<|if decide (0<a.3-a.2) then ah (aS 40 (b.2++[Use.mk a.1 f.1 (bM.1+a.2) (a.3-a.2) (IntKind.i64.wrap (Int.tdiv e g.1.1))]).length)<|ah (aj (b.1+1))<|c (b.1+1,b.2++[Use.mk a.1 f.1 (bM.1+a.2) (a.3-a.2) (IntKind.i64.wrap (Int.tdiv e g.1.1))]) else ah (aj (b.1+1))<|c (b.1+1,b.2) else h b.2
def KQ(p:vO)(g:Network×Int)(M:List Int)(j:Int×List Int)(r:Int×List Use)(B:dO)(o:Int)(P:yI)(Q:AV)(a:Int)(C:bO)(s:Line)(O:ML)(bM:yI):mD:=if decide (bM.2.1<(s.4.length:Int)) then au (λ(K:Int×List Use)=>ah (aj (bM.2.1+1))<|O (K.1,bM.2.1+1,K.2)) λJ=>(idx s.4 bM.2.1).bind λD=>(idx p.2.1.3 D.1).bind λc=>au (λ(H:List Use)=>(vV (p.1,c,C)).bind λd=>au (λ(x:List Use)=>(idx j.2 a).bind λh=>ah (aj (2*h))<|ah (aj (2*h-a))<|ah (aj (2*bM.2.1))<|ah (aj (2*h-a+2*bM.2.1))<|(idx g.1.3 (2*h-a+2*bM.2.1)).bind λb=>(idx p.2.2.1 b.3).bind λm=>(idx p.2.2.1 b.2).bind λn=>ah (aj (m-n))<|ah (aj (m-n-b.4))<|(jo (m-n-b.4,g.1.1)).bind λe=>ah (aj (b.4+e))<|ah (aj (bM.1+(b.4+e)))<|au (λ(k:Int)=>ah (aj ((c.1.length:Int)-c.2))<|ah (aj ((c.1.length:Int)-c.2-1))<|(idx c.1 ((c.1.length:Int)-c.2-1)).bind λt=>ah (aj (bM.1+d.2.1))<|ah (aj (k-bM.1))<|ah (aj (k-bM.1-d.2.1))<|if decide (0<k-bM.1-d.2.1) then ah (aS 40 (x++[Use.mk t.1 r.1 (bM.1+d.2.1) (k-bM.1-d.2.1) (IntKind.i64.wrap (Int.tdiv o g.1.1))]).length)<|J (k,x++[Use.mk t.1 r.1 (bM.1+d.2.1) (k-bM.1-d.2.1) (IntKind.i64.wrap (Int.tdiv o g.1.1))]) else J (k,x)) λv=>(idx p.2.1.4 a).bind λu=>ah (aj ((u.4.length:Int)-1))<|if decide (bM.2.1<(u.4.length:Int)-1) then (idx j.2 a).bind λq=>ah (aj (2*q))<|ah (aj (2*q-a))<|ah (aj (2*bM.2.1))<|ah (aj (2*q-a+2*bM.2.1))<|ah (aj (2*q-a+2*bM.2.1+1))<|(idx g.1.3 (2*q-a+2*bM.2.1+1)).bind λf=>(idx p.2.2.1 f.3).bind λw=>(idx p.2.2.1 f.2).bind λz=>ah (aj (w-z))<|ah (aj (w-z-f.4))<|(jo (w-z-f.4,g.1.1)).bind λA=>ah (aj (f.4+A))<|ah (aj (bM.1+(b.4+e)+(f.4+A)))<|v (bM.1+(b.4+e)+(f.4+A)) else (idx M a).bind λN=>if decide (0<=N) then ah (aj (2*j.1))<|ah (aj (2*j.1-(p.2.1.4.length:Int)))<|ah (aj (2*j.1-(p.2.1.4.length:Int)+(p.2.1.5.length:Int)))<|(idx M a).bind λI=>ah (aj (2*j.1-(p.2.1.4.length:Int)+(p.2.1.5.length:Int)+I))<|(idx g.1.3 (2*j.1-(p.2.1.4.length:Int)+(p.2.1.5.length:Int)+I)).bind λl=>(idx p.2.2.1 l.3).bind λy=>(idx p.2.2.1 l.2).bind λF=>ah (aj (y-F))<|ah (aj (y-F-l.4))<|(jo (y-F-l.4,g.1.1)).bind λE=>ah (aj (l.4+E))<|ah (aj (bM.1+(b.4+e)+(l.4+E)))<|v (bM.1+(b.4+e)+(l.4+E)) else ah (aj (bM.1+(b.4+e)+60))<|v (bM.1+(b.4+e)+60)) λL=>if p.2.2.2 then iter (KR g r o bM d L) FUEL (0,H) else L H) λG=>if !B.2&&decide (P.2.1=0)&&decide (bM.2.1=0) then (idx c.1 0).bind λi=>ah (aj (bM.1-60))<|ah (aS 40 (bM.2.2++[Use.mk i.1 r.1 (bM.1-60) 60 (IntKind.i64.wrap (Int.tdiv o g.1.1))]).length)<|G (bM.2.2++[Use.mk i.1 r.1 (bM.1-60) 60 (IntKind.i64.wrap (Int.tdiv o g.1.1))]) else G bM.2.2 else Q (bM.1,bM.2.2)
def KP(p:vO)(n:Network×Int)(o:List Int)(l:Int×List Int)(i:AV)(d:Int×List Use)(b:dO)(k:Int)(j:ML)(a:yI):mD:=if decide (a.2.1<(b.1.length:Int)) then au (λ(h:Int×List Use)=>ah (aj (a.2.1+1))<|j (h.1,a.2.1+1,h.2)) λm=>(idx b.1 a.2.1).bind λc=>(idx p.2.1.4 c).bind λe=>(idx p.2.1.2 e.2).bind λf=>(idx p.2.1.4 c).bind λg=>iter (KQ p n o l d b k a m c f g) FUEL (a.1,0,a.2.2) else ah (aj (d.1+1))<|i (d.1+1,a.2.2)
def acW(p:vO)(m:Network×Int)(I:List Int)(n:Int×List Int)(J:afx)(c:Int)(w:Line)(E:Int×Int->mD)(a:Int×Int):mD:=if decide (a.2<(w.4.length:Int)) then (idx p.2.1.4 c).bind λu=>ah (aj ((u.4.length:Int)-1))<|if decide (a.2<(u.4.length:Int)-1) then (idx n.2 c).bind λv=>ah (aj (2*v))<|ah (aj (2*v-c))<|ah (aj (2*a.2))<|ah (aj (2*v-c+2*a.2))<|ah (aj (2*v-c+2*a.2+1))<|(idx m.1.3 (2*v-c+2*a.2+1)).bind λo=>(idx p.2.2.1 o.3).bind λh=>(idx p.2.2.1 o.2).bind λH=>ah (aj (h-H))<|ah (aj (h-H-o.4))<|(jo (h-H-o.4,m.1.1)).bind λA=>ah (aj (o.4+A))<|(idx n.2 c).bind λd=>ah (aj (2*d))<|ah (aj (2*d-c))<|ah (aj (2*a.2))<|ah (aj (2*d-c+2*a.2))<|(idx m.1.3 (2*d-c+2*a.2)).bind λr=>(idx p.2.2.1 r.3).bind λB=>(idx p.2.2.1 r.2).bind λi=>ah (aj (B-i))<|ah (aj (B-i-r.4))<|(jo (B-i-r.4,m.1.1)).bind λe=>ah (aj (r.4+e))<|ah (aj (r.4+e+(o.4+A)))<|ah (aj (a.1+(r.4+e+(o.4+A))))<|ah (aj (a.2+1))<|E (a.1+(r.4+e+(o.4+A)),a.2+1) else (idx I c).bind λF=>if decide (0<=F) then ah (aj (2*n.1))<|ah (aj (2*n.1-(p.2.1.4.length:Int)))<|ah (aj (2*n.1-(p.2.1.4.length:Int)+(p.2.1.5.length:Int)))<|(idx I c).bind λt=>ah (aj (2*n.1-(p.2.1.4.length:Int)+(p.2.1.5.length:Int)+t))<|(idx m.1.3 (2*n.1-(p.2.1.4.length:Int)+(p.2.1.5.length:Int)+t)).bind λs=>(idx p.2.2.1 s.3).bind λD=>(idx p.2.2.1 s.2).bind λG=>ah (aj (D-G))<|ah (aj (D-G-s.4))<|(jo (D-G-s.4,m.1.1)).bind λz=>ah (aj (s.4+z))<|(idx n.2 c).bind λf=>ah (aj (2*f))<|ah (aj (2*f-c))<|ah (aj (2*a.2))<|ah (aj (2*f-c+2*a.2))<|(idx m.1.3 (2*f-c+2*a.2)).bind λb=>(idx p.2.2.1 b.3).bind λC=>(idx p.2.2.1 b.2).bind λj=>ah (aj (C-j))<|ah (aj (C-j-b.4))<|(jo (C-j-b.4,m.1.1)).bind λy=>ah (aj (b.4+y))<|ah (aj (b.4+y+(s.4+z)))<|ah (aj (a.1+(b.4+y+(s.4+z))))<|ah (aj (a.2+1))<|E (a.1+(b.4+y+(s.4+z)),a.2+1) else (idx n.2 c).bind λg=>ah (aj (2*g))<|ah (aj (2*g-c))<|ah (aj (2*a.2))<|ah (aj (2*g-c+2*a.2))<|(idx m.1.3 (2*g-c+2*a.2)).bind λq=>(idx p.2.2.1 q.3).bind λk=>(idx p.2.2.1 q.2).bind λl=>ah (aj (k-l))<|ah (aj (k-l-q.4))<|(jo (k-l-q.4,m.1.1)).bind λx=>ah (aj (q.4+x))<|ah (aj (q.4+x+0))<|ah (aj (a.1+(q.4+x+0)))<|ah (aj (a.2+1))<|E (a.1+(q.4+x+0),a.2+1) else J a.1
def acV(p:vO)(h:Network×Int)(i:List Int)(g:Int×List Int)(a:dO)(f:afx)(d:Int×Int->mD)(Dt:Int×Int):mD:=if decide (Dt.2<(a.1.length:Int)) then au (λ(c:Int)=>ah (aj (Dt.2+1))<|d (c,Dt.2+1)) λj=>(idx a.1 Dt.2).bind λe=>(idx p.2.1.4 e).bind λb=>iter (acW p h i g j e b) FUEL (Dt.1,0) else f Dt.1
def ao5(p:vO)(f:Network×Int)(i:List Int)(c:Int×List Int)(q:Wj)(m:List dO)(l:AV)(b:Int×List Use):mD:=if decide (b.1<(m.length:Int)) then (idx m b.1).bind λa=>if !a.2 then (idx a.1 0).bind λg=>(idx c.2 g).bind λd=>ah (aj (2*d))<|(idx p.2.2.1 (2*d)).bind λh=>iter (acX p f i c l b a) FUEL (h,0,b.2) else au (λ(o:Int)=>ah (!decide (f.1.1=0))<|(idx a.1 0).bind λj=>(idx c.2 j).bind λe=>ah (aj (2*e))<|(idx p.2.2.1 (2*e)).bind λk=>iter (KP p f i c l b a o) FUEL (k,0,b.2)) λn=>iter (acV p f i c a n) FUEL (0,0) else q b.2
def ao4(p:vO)(d:Int×List Int->mD)(c:Int×Int×List Int->mD)(a:Int×Int×List Int):mD:=if decide (a.2.1<(p.2.1.4.length:Int)) then (idx p.2.1.4 a.2.1).bind λb=>ah (aS 8 (a.2.2++[a.1]).length)<|ah (aj (a.1+(b.4.length:Int)))<|ah (aj (a.2.1+1))<|c (a.1+(b.4.length:Int),a.2.1+1,a.2.2++[a.1]) else d (a.1,a.2.2)
def acU(p:vO):mD:=(sS (p.1,p.2.1)).bind λa=>if !decide (a.2=0) then some ([],a.2) else (sU (a.1,p.2.2.1)).bind λf=>if !f then some ([],1) else (KS p.2.1).bind λg=>au (λ(b:Int×List Int)=>au (λ(c:List Use)=>some (c,0)) λd=>(Td p.2.1).bind λh=>iter (ao5 p a g b d h) FUEL (0,[])) λe=>iter (ao4 p e) FUEL (0,0,[])
def c16:aN Zτ.S:=⟨[.st 2,.st 12,.list (.int .i64),.bool],[.list (.st 16),.int .i64],acU⟩
theorem atK:FZ Z.P Zτ 16 c16:=aT (C:=Z) (wr:=false) (T:=(aI [(27,I4),(41,I5),(42,Xz),(43,c43)])) (I:=(aJ [(44,i44)])) (sp:=aE5) (aG.get (.cons Oj (.cons Oo (.cons ahi (.cons auP .nil))))) (aH.get (.cons aBt .nil)) λp=>by kernel_rfl
def sp6:Nat->Option (List R.Item):=λ_=>none
def Ta(p:Layout×Plan×List Int):Option (List Use×Int):=(acU (p.1,p.2.1,p.2.2,true)).bind λa=>some (a.1,a.2)
def c6:aN Zτ.S:=⟨[.st 2,.st 12,.list (.int .i64)],[.list (.st 16),.int .i64],Ta⟩
theorem auW:FZ Z.P Zτ 6 c6:=aT (C:=Z) (wr:=false) (T:=(aI [(16,c16)])) (I:=(aJ [])) (sp:=sp6) (aG.get (.cons atK .nil)) (aH.get .nil) λp=>by kernel_rfl
def aFt:Nat->Option (List R.Item):=λi=>match i with|9=>some [⟨[15],.v (.int .i64)⟩]|22=>some []|_=>none
def ao3(p:Int×List Use)(c:Unit->Option Bool)(b:Int->Option (Bool))(s4:Int):Option (Bool):=if decide (s4<(p.2.length:Int)) then (idx p.2 s4).bind λa=>if decide (a.1<0)||decide (a.2<0)||decide (a.3< -1099511627776)||decide (1099511627776<a.3) then some false else if decide (a.4<1)||decide (1099511627776<a.4)||decide (a.5<0)||decide (1099511627776<a.5) then some false else ah (aj (s4+1))<|b (s4+1) else c PUnit.unit
def Tc(p:Int×List Use):Option Bool:=if decide (p.1<2)||decide (7200<p.1) then some false else au (λ(b:Unit)=>some true) λa=>iter (ao3 p a) FUEL 0
def c18:aN Zτ.S:=⟨[.int .i64,.list (.st 16)],[.bool],Tc⟩
theorem atU:FZ Z.P Zτ 18 c18:=aT (C:=Z) (wr:=false) (T:=(aI [])) (I:=(aJ [])) (sp:=aFt) (aG.get .nil) (aH.get .nil) λp=>by kernel_rfl
end
def Cb(x:Int):List Int->List Int|[]=>[x]|y::r=>if decide (x<=y) then x::y::r else y::Cb x r
def l8:List Int->List Int|[]=>[]|x::r=>Cb x (l8 r)
theorem aaU(x:Int):∀l,(Cb x l).Perm (x::l)
 |[]=> .rfl
 |y::r=>by
  unfold Cb
  split
  ·exact .rfl
  ·exact ((aaU x r).cons y).trans (.swap _ _ _)
theorem GA:∀l,(l8 l).Perm l|[]=> .rfl|x::r=>(aaU x _).trans ((GA r).cons x)
theorem alZ(x:Int):∀l,l.Pairwise (· <= ·)->(Cb x l).Pairwise (· <= ·)
 |[],_=>by simp[Cb]
 |y::r,h=>by
  unfold Cb
  split
  ·rename_i a
   have a:=of_decide_eq_true a
   refine List.pairwise_cons.2 ⟨λz b=>?_,h⟩
   rcases List.mem_cons.1 b with rfl|b
   ·exact a
   ·exact Int.le_trans a ((List.pairwise_cons.1 h).1 z b)
  ·rename_i a
   have a:¬x<=y:=by simpa using a
   refine List.pairwise_cons.2 ⟨λz b=>?_,alZ x r (List.pairwise_cons.1 h).2⟩
   rcases List.mem_cons.1 ((aaU x r).mem_iff.1 b) with rfl|b
   ·omega
   ·exact (List.pairwise_cons.1 h).1 z b
theorem aql:∀l,(l8 l).Pairwise (· <= ·)|[]=> .nil|x::r=>alZ x _ (aql r)
theorem aIn(l:List Int):(l.mergeSort λx y=>decide (x<=y))=l8 l:=by
 refine List.Perm.eq_of_pairwise (le:=(· <= ·)) (λa b _ _ h1 h2=>Int.le_antisymm h1 h2) ?_ (aql l) ((List.mergeSort_perm _ _).trans (GA l).symm);refine (List.pairwise_mergeSort (le:=λx y:Int=>decide (x<=y)) (λa b c h1 h2=>?_) (λa b=>?_) l).imp λh=>of_decide_eq_true h;·exact decide_eq_true (Int.le_trans (of_decide_eq_true h1) (of_decide_eq_true h2))
 ·rcases Int.le_total a b with h|h<;>simp[h]
theorem aqk(l:List Int):(l8 l).length=l.length:=(GA l).length_eq
def i20:aL Zτ.S:=⟨λvs s K=>match vs with
 |[.o m]=>match bq s.Th m with
  |some (.ar (.int .i64) xs)=>K (.t []) ⟨s.B,s.T,s.Bh,setH m (.ar (.int .i64) (l8 xs)) s.Th,s.nx⟩
  |_=>none
 |[.nl]=>K (.t []) s
 |_=>none,false⟩
theorem alj:aF Z 20 i20:=by
 intro β y vs s K h κ M w ρ E g d;have h0:∀(M:Mem) (ρ:List R.Loc),RG Zτ M ρ [] (.t []) (.tuple #[]):=λM ρ=> .t (vs:=[]) (xs:=[]) rfl λi v x h=>by simp at h
 unfold i20 at h;simp only at h;split at h
 ·rename_i m;split at h
  ·rename_i xs O;obtain⟨x,rfl⟩:∃x,E=[x]:=by match E,d.1 with|[x],_=>exact⟨x,rfl⟩
   have p:=d.2 0 (.o m) x rfl rfl
   cases p with
   |v p=>cases p with
    | @o _ l N=>
    rcases OD (C:=Z) g O with ⟨W,q,P,rfl⟩|⟨W,arr,T,q,n,a,D,X,Q,_,A,r⟩
    ·rw[N] at q;cases q
     have n:l.sl= .slice none 0 0:=by simp[R.Loc.sl,P]
     rw[n]
     refine (Tryz.slices_Sort_int_none none 0 w).mono ?_
     rintro e w' ⟨rfl,rfl⟩
     have hs:(⟨s.B,s.T,s.Bh,setH m (.ar (.int .i64) (l8 [])) s.Th,s.nx⟩:Sg Z.τ.S)=s:=by
      have:setH m (.ar (.int .i64) (l8 [])) s.Th=s.Th:=ad3 O
      rw[this]
     rw[hs] at h
     exact⟨_,_,s,M,ρ,rfl,h,⟨rfl,rfl,λt=>rfl⟩,.rfl,g,h0 _ _⟩
    ·rw[N] at q;cases q
     rw[n]
     have D:l.cap*1<=arr.size:=D
     have f:∀j (c:j<xs.length),arr[j]?=some (.int .i64 xs[j]):=λj c=>by
      obtain⟨v,f1,f2⟩:=A j xs[j] (by simp[c]) 0 (.i .i64 xs[j]) rfl
      cases f2
      have f1:arr[j*1+0]?=_:=f1
      rwa [Nat.mul_one,Nat.add_zero] at f1
     refine (Tryz.slices_Sort_int l.b 0 l.cap xs w (λj c=>?_) ?_ om).mono ?_
     ·have c:j<xs.length:=by simpa using c
      refine⟨?_,by simp[World.frozen?,a]⟩
      rw[Nat.zero_add]
      simp only[World.cell?,a]
      have:xs.toArray[j]! =xs[j]:=by rw[getElem!_pos _ j (by simpa using c)];simp
      rw[this]
      simpa using f j c
     ·exact (Array.getElem?_eq_some_iff.1 a).1
     ·rintro e w' ⟨rfl,k,os,rfl⟩
      rw[aIn]
      have U:(Go.Sort.grow (Go.Sort.putRow (Value.int .i64) (Go.Sort.ahead w k) l.b 0 (l8 xs).toArray) os).heap[l.b]?=some (.cells (Go.Sort.putCells (Value.int .i64) 0 (l8 xs).toArray arr) T (0,0)):=by
       have I:l.b<w.heap.size:=(Array.getElem?_eq_some_iff.1 a).1
       have:(Go.Sort.putRow (Value.int .i64) (Go.Sort.ahead w k) l.b 0 (l8 xs).toArray).heap[l.b]?=some (.cells (Go.Sort.putCells (Value.int .i64) 0 (l8 xs).toArray arr) T (0,0)):=by
        show (w.heap.modify l.b _)[l.b]?=_
        rw[Array.getElem?_modify,if_pos rfl,a]
        rfl
       show ((w.heap.modify l.b _)++os)[l.b]?=_
       rw[Array.getElem?_append_left (by simpa using I)]
       exact this
      refine⟨_,_,_,M,ρ,rfl,h,⟨rfl,rfl,λt=>rfl⟩,.rfl,r _ _ (l8 xs) ⟨rfl,rfl,rfl,?_,λj c J=>?_⟩ U (by simp[Go.Sort.putCells]) (aqk xs) ?_,h0 _ _⟩
      ·show w.heap.size<=((w.heap.modify l.b _)++os).size
       simp
      ·have J:j≠l.b:=by simpa using J
       show ((w.heap.modify l.b _)++os)[j]?=_
       rw[Array.getElem?_append_left (by simpa using c),Array.getElem?_modify,if_neg (λe=>J e.symm)]
      ·intro i z V j u F
       have c:j=0:=by
        have:=(List.getElem?_eq_some_iff.1 F).1
        have:j<1:=this
        omega
       subst c
       have F:some (SV.i .i64 z)=some u:=F
       cases F
       obtain⟨G,L⟩:=List.getElem?_eq_some_iff.1 V
       refine⟨.int .i64 z,?_,.i⟩
       show (Go.Sort.putCells (Value.int .i64) 0 (l8 xs).toArray arr)[i*1+0]?=_
       rw[Nat.mul_one,Nat.add_zero]
       have H:i<arr.size:=by rw[aqk] at G;omega
       simp only[Go.Sort.putCells,Array.getElem?_mapIdx,Array.getElem?_eq_getElem H,Option.map_some,Nat.zero_le,true_and,Nat.zero_add,Nat.sub_zero,List.size_toArray,G,if_true]
       rw[getElem!_pos _ i (by simpa using G)]
       simp[L]
  ·cases h
 ·obtain⟨x,rfl⟩:∃x,E=[x]:=by match E,d.1 with|[x],_=>exact⟨x,rfl⟩
  have p:=d.2 0 .nl x rfl rfl
  cases p with
  |v p=>cases p with
   |nl=>
    refine (Tryz.slices_Sort_int_none none 0 w).mono ?_
    rintro e w' ⟨rfl,rfl⟩
    exact⟨_,_,s,M,ρ,rfl,h,⟨rfl,rfl,λt=>rfl⟩,.rfl,g,h0 _ _⟩
 ·cases h
end Go.Z
namespace Go.R
open Go Go.RowKit Go.Dc
section
variable {C:Cf}{s:Sg C.τ.S}{M:Mem}{ρ ρ0:List Loc}{w:World}{κ:Ctx C.τ}
theorem ahG{m k:Nat}{c:Cd}{xs:List (c.ty C.τ.S)}{l:Loc}(h:CS C κ ρ0 s M w ρ)(I:bq s.Th m=some (.ar c xs))(r:ρ[m]?=some l)(J:l.nil=false)(U:k<=xs.length):CS C κ ρ0 ⟨s.B,s.T,s.Bh,(s.nx,.ar c (xs.take k))::dK m s.Th,s.nx+1⟩ M w (ρ++[⟨l.b,k,l.cap,false,[]⟩]):=by
 obtain⟨O1,O2,h1,h2,H⟩:=h.mem;obtain⟨A,z,E,F,G⟩:=h1.Ad I;have f:Names ρ (ρ++[(⟨l.b,k,l.cap,false,[]⟩:Loc)]):=fF;have d:∀O,Ext O M M w w:=λO=>⟨.rfl,λ_ _=>rfl,λ_ _=>rfl⟩;refine⟨h.names.trans f,by simp[h.len],h.gm,λu o v K T q a ho=>?_,A++z,O2,.cons ?_ (F.ext f (d _)),h2.ext f (d _),H.perm G⟩
 ·have a:(u,SO.bx T q)∈s.Th++s.Bh:=by
   rcases List.mem_cons.1 a with e|a;·cases e
   ·rcases List.mem_append.1 a with a|a;·exact List.mem_append_left _ (Bu a)
    ·exact List.mem_append_right _ a
  obtain⟨t,x,D,g,n⟩:=h.cl u o v K T q a ho;exact⟨t,x,f _ _ D,g,n.imp id λh=>h.mono .rfl f⟩
 ·cases E with|ig g n=>rw[r] at g;cases g;rw[J] at n;cases n| @ar _ _ T t arr f1 V W N X Y P Q R p=>rw[r] at f1;cases f1;refine .ar (l:=⟨l.b,k,l.cap,false,[]⟩) (by rw[<-h.len];simp) rfl (by simp;omega) N (by simp;omega) (by simp;omega) P Q ?_ p;exact Row.mono .rfl f λi x d j y L=>R i x (by rw[List.getElem?_take] at d;split at d<;>first|exact d|cases d) j y L
theorem avl{m:Nat}{c:Cd}{l:Loc}(h:CS C κ ρ0 s M w ρ)(t:bq s.Th m=some (.ar c []))(E:ρ[m]?=some l)(u:l.nil=true):CS C κ ρ0 ⟨s.B,s.T,s.Bh,(s.nx,.ar c [])::dK m s.Th,s.nx+1⟩ M w (ρ++[l]):=by
 obtain⟨O1,O2,h1,h2,r⟩:=h.mem;obtain⟨A,g,D,n,p⟩:=h1.Ad t;have b:Names ρ (ρ++[l]):=fF;have d:∀O,Ext O M M w w:=λO=>⟨.rfl,λ_ _=>rfl,λ_ _=>rfl⟩;refine⟨h.names.trans b,by simp[h.len],h.gm,λf o v y T q a ho=>?_,[]++g,O2,.cons (.ig (l:=l) (by rw[<-h.len];simp) u) (n.ext b (d _)),h2.ext b (d _),(r.perm p).GD (List.sublist_append_right _ _)⟩
 have a:(f,SO.bx T q)∈s.Th++s.Bh:=by
  rcases List.mem_cons.1 a with e|a;·cases e
  ·rcases List.mem_append.1 a with a|a;·exact List.mem_append_left _ (Bu a)
   ·exact List.mem_append_right _ a
 obtain⟨z,x,i,j,k⟩:=h.cl f o v y T q a ho;exact⟨z,x,b _ _ i,j,k.imp id λh=>h.mono .rfl b⟩
theorem ah7{S:Nat->Type}{m:Nat}{x:SO S}:∀{H:Heap S},dK m (setH m x H)=dK m H
 |[]=>rfl
 |q::r=>by
  unfold setH
  split
  ·rename_i h
   simp only[dK,h,show Nat.beq m m=true from Nat.beq_refl m]
  ·rename_i h
   simp only[dK,h,ah7]
theorem aoh{S:Nat->Type}{m:Nat}{x y:SO S}:∀{H:Heap S},bq H m=some y->bq (setH m x H) m=some x
 |[],h=>by cases h
 |q::r,h=>by
  unfold setH
  unfold bq at h
  split at h
  ·rename_i e
   simp only[e,bq,show Nat.beq m m=true from Nat.beq_refl m]
  ·rename_i e
   simp only[e,bq,aoh h]
end
end Go.R
namespace Go.Z
open Go Go.Proofs Go.Dc Go.R
theorem ahz(xs:List Int):(Lib.compact xs).length<=xs.length:=by unfold Lib.compact Lib.compactUpTo;rw[List.length_map];exact Nat.le_trans (List.length_filter_le _ _) sm
def i21:aL Zτ.S:=⟨λvs s K=>match vs with
 |[.o m]=>match bq s.Th m with
  |some (.ar (.int .i64) xs)=>K (.o s.nx) ⟨s.B,s.T,s.Bh,(s.nx,.ar (.int .i64) (Lib.compact xs))::dK m s.Th,s.nx+1⟩
  |_=>none
 |[.nl]=>K .nl s
 |_=>none,false⟩
theorem aAW:aF Z 21 i21:=by
 intro β y vs s K h κ M w ρ N a p;unfold i21 at h;simp only at h;split at h
 ·rename_i m;split at h
  ·rename_i xs H;obtain⟨x,rfl⟩:∃x,N=[x]:=by match N,p.1 with|[x],_=>exact⟨x,rfl⟩
   have r:=p.2 0 (.o m) x rfl rfl
   cases r with
   |v r=>cases r with
    | @o _ l A=>
    have r:RG Zτ M ρ [] (.o m) l.sl:= .v (.o A)
    by_cases L:xs=[]
    ·subst L
     rw[show Lib.compact ([]:List Int)=[] from rfl] at h
     rcases OD (C:=Z) a H with ⟨W,n,P,_⟩|⟨W,arr,T,n,c,_⟩
     ·rw[A] at n;cases n
      have c:l.sl= .slice none 0 0:=by simp[R.Loc.sl,P]
      rw[c]
      refine (Tryz.slices_Compact_int_empty none 0 w).mono ?_
      rintro e w' ⟨rfl,rfl⟩
      exact⟨_,_,_,M,_,rfl,h,⟨rfl,rfl,λt=>rfl⟩,.rfl,avl a H A P,c▸ .v (.o (l:=l) (by rw[<-a.len];simp))⟩
     ·rw[A] at n;cases n
      have D:l.nil=false:=by
       cases U:l.nil with
       |false=>rfl
       |true=>simp[R.Loc.sl,U] at c
      rw[c]
      refine (Tryz.slices_Compact_int_empty _ l.cap w).mono ?_
      rintro e w' ⟨rfl,rfl⟩
      exact⟨_,_,_,M,_,rfl,h,⟨rfl,rfl,λt=>rfl⟩,.rfl,ahG (k:=0) a H A D (Nat.zero_le _),.v (.o (l:=⟨l.b,0,l.cap,false,[]⟩) (by rw[<-a.len];simp))⟩
    ·rcases OD (C:=Z) a H with ⟨W,n,P,Y⟩|⟨W,arr,T,n,c,d,J,hc,aa,_,I,F⟩
     ·exact absurd Y L
     ·rw[A] at n;cases n
      have D:l.nil=false:=by
       cases U:l.nil with
       |false=>rfl
       |true=>simp[R.Loc.sl,U] at c
      rw[c]
      have J:l.cap*1<=arr.size:=J
      have B:∀j (g:j<xs.length),arr[j]?=some (.int .i64 xs[j]):=λj g=>by
       obtain⟨v,f1,f2⟩:=I j xs[j] (by simp[g]) 0 (.i .i64 xs[j]) rfl
       cases f2
       have f1:arr[j*1+0]?=_:=f1
       rwa [Nat.mul_one,Nat.add_zero] at f1
      let ys:=Lib.compact xs++List.replicate (xs.length-(Lib.compact xs).length) 0
      have E:ys.length=xs.length:=by
       have:=ahz xs
       simp[ys];omega
      refine (Tryz.slices_Compact_int l.b 0 l.cap xs w (λj g=>?_) om hc).mono ?_
      ·have g:j<xs.length:=by simpa using g
       refine⟨?_,by simp[World.frozen?,d]⟩
       rw[Nat.zero_add]
       simp only[World.cell?,d]
       have:xs.toArray[j]! =xs[j]:=by rw[getElem!_pos _ j (by simpa using g)];simp
       rw[this]
       simpa using B j g
      ·rintro e w' ⟨rfl,q,rfl⟩
       have hh:(Go.Sort.putRow (Value.int .i64) (Go.Sort.ahead w q) l.b 0 ys.toArray).heap[l.b]?=some (.cells (Go.Sort.putCells (Value.int .i64) 0 ys.toArray arr) T (0,0)):=by
        show (w.heap.modify l.b _)[l.b]?=_
        rw[Array.getElem?_modify,if_pos rfl,d]
        rfl
       have G:=F (Go.Sort.putRow (Value.int .i64) (Go.Sort.ahead w q) l.b 0 ys.toArray) (Go.Sort.putCells (Value.int .i64) 0 ys.toArray arr) ys ⟨rfl,rfl,rfl,by show w.heap.size<=(w.heap.modify l.b _).size;simp,λj g S=>?_⟩ hh (by simp[Go.Sort.putCells]) E ?_
       ·have f:=ahG (k:=(Lib.compact xs).length) G (aoh H) A D (by rw[E];exact ahz xs)
        rw[show ys.take (Lib.compact xs).length=Lib.compact xs by simp[ys]] at f
        simp only[ah7] at f
        refine⟨_,_,_,M,_,rfl,h,⟨rfl,rfl,λt=>rfl⟩,.rfl,f,?_⟩
        exact .v (.o (l:=⟨l.b,(Lib.compact xs).length,l.cap,false,[]⟩) (by rw[<-a.len];simp))
       ·have S:j≠l.b:=by simpa using S
        show (w.heap.modify l.b _)[j]?=_
        rw[Array.getElem?_modify,if_neg (λe=>S e.symm)]
       ·intro i z hz j u O
        have g:j=0:=by
         have:=(List.getElem?_eq_some_iff.1 O).1
         have:j<1:=this
         omega
        subst g
        have O:some (SV.i .i64 z)=some u:=O
        cases O
        obtain⟨X,V⟩:=List.getElem?_eq_some_iff.1 hz
        refine⟨.int .i64 z,?_,.i⟩
        show (Go.Sort.putCells (Value.int .i64) 0 ys.toArray arr)[i*1+0]?=_
        rw[Nat.mul_one,Nat.add_zero]
        have Q:i<arr.size:=by omega
        simp only[Go.Sort.putCells,Array.getElem?_mapIdx,Array.getElem?_eq_getElem Q,Option.map_some,Nat.zero_le,true_and,Nat.zero_add,Nat.sub_zero,List.size_toArray,X,if_true]
        rw[getElem!_pos _ i (by simpa using X)]
        simp[V]
  ·cases h
 ·obtain⟨x,rfl⟩:∃x,N=[x]:=by match N,p.1 with|[x],_=>exact⟨x,rfl⟩
  have r:=p.2 0 .nl x rfl rfl
  cases r with
  |v r=>cases r with
   |nl=>
    refine (Tryz.slices_Compact_int_empty none 0 w).mono ?_
    rintro e w' ⟨rfl,rfl⟩
    exact⟨_,_,s,M,ρ,rfl,h,⟨rfl,rfl,λt=>rfl⟩,.rfl,a,.v .nl⟩
 ·cases h
end Go.Z
namespace Go.Z
open Go Go.Proofs Go.Dc Go.R
set_option maxRecDepth 100000
noncomputable section
abbrev Na:=Option (List Int)
def sp9:Nat->Option (List R.Item):=λi=>match i with|13=>some [⟨[9],.n (.int .i64)⟩,⟨[22],.v (.int .i64)⟩]|20=>some [⟨[9],.n (.int .i64)⟩]|22=>some [⟨[9],.n (.int .i64)⟩]|_=>none
def ao2(p:Int×List Use×Int×Int)(e:Int)(h:List Int->Na)(f:List Int×Int->Na)(a:List Int×Int):Na:=if decide (a.2<(p.2.1.length:Int)) then au (λ(g:List Int)=>ah (aj (a.2+1))<|f (g,a.2+1)) λd=>(idx p.2.1 a.2).bind λb=>ah (!decide (b.1=p.2.2.1)||aj (e-b.3))<|(bC (decide (b.1=p.2.2.1)) 0 (jo (e-b.3,p.1))).bind λc=>if decide (b.1=p.2.2.1)&&decide (c<b.4) then ah (aS 8 (a.1++[b.2]).length)<|d (a.1++[b.2]) else d a.1 else h a.1
def S9(p:Int×List Use×Int×Int):Na:=(Tc (p.1,p.2.1)).bind λc=>if !c then some ([]) else (jo (p.2.2.2,p.1)).bind λd=>au (λ(a:List Int)=>some (Lib.compact (l8 a))) λb=>iter (ao2 p d b) FUEL ([],0)
def c9:aN Zτ.S:=⟨[.int .i64,.list (.st 16),.int .i64,.int .i64],[.list (.int .i64)],S9⟩
theorem au6:FZ Z.P Zτ 9 c9:=aT (C:=ZA) (wr:=false) (T:=(aI [(18,c18),(19,c19)])) (I:=(aJ [(20,i20),(21,i21)])) (sp:=sp9) (aG.get (.cons atU (.cons EG .nil))) (aH.get (.cons (aF.am alj) (.cons (aF.am aAW) .nil))) λp=>by kernel_rfl
def sp8:Nat->Option (List R.Item):=λ_=>none
def Sl(p:Layout):Option Int:=(uW p).bind λa=>if !decide (a=0) then some 0 else ah (aj ((p.3.length:Int)+(p.2.length:Int)))<|some ((p.3.length:Int)+(p.2.length:Int))
def c8:aN Zτ.S:=⟨[.st 2],[.int .i64],Sl⟩
theorem au1:FZ Z.P Zτ 8 c8:=aT (C:=Z) (wr:=false) (T:=(aI [(17,c17)])) (I:=(aJ [])) (sp:=sp8) (aG.get (.cons Bo .nil)) (aH.get .nil) λp=>by kernel_rfl
def sp7:Nat->Option (List R.Item):=λ_=>none
def cZ(p:Int×Int):Option Int:=ah (!decide (IntKind.u64.wrap p.2=0))<|some (IntKind.i64.wrap ((IntKind.u64.wrap p.1).tmod (IntKind.u64.wrap p.2)))
def c7:aN Zτ.S:=⟨[.int .i64,.int .i64],[.int .i64],cZ⟩
theorem aho:FZ Z.P Zτ 7 c7:=aT (C:=Z) (wr:=false) (T:=(aI [])) (I:=(aJ [])) (sp:=sp7) (aG.get .nil) (aH.get .nil) λp=>by kernel_rfl
def aHC:Nat->Option (List R.Item):=λ_=>none
def i50:aL Zτ.S:=aL.rd<|inl Z false (aI []) (aJ []) aHC 50
theorem aBv:aF Z 50 i50:=aF.rd (C:=Z)<|bf (aG.get .nil) (aH.get .nil)
def aEu:Nat->Option (List R.Item):=λ_=>none
def tq(p:Str×Int):Option Str:=ah (!decide (10=0))<|ah (!decide (10=0))<|ah (aj (p.2.tmod 10+1))<|(mX (Str.mk [48,49,50,51,52,53,54,55,56,57]) (p.2.tmod 10) (p.2.tmod 10+1)).bind λa=>(DU p.1 a).bind λb=>some b
def NZ:aN Zτ.S:=⟨[.str,.int .i64],[.str],tq⟩
theorem Xa:FZ Z.P Zτ 125 NZ:=aT (C:=Z) (wr:=false) (T:=(aI [])) (I:=(aJ [])) (sp:=aEu) (aG.get .nil) (aH.get .nil) λp=>by kernel_rfl
def aHE:Nat->Option (List R.Item):=λ_=>none
def i52:aL Zτ.S:=nK Z false (aI [(7,c7)]) (aJ []) aHE 52 [.int .i64] [⟨[0,1],.v (.int .i64)⟩]
theorem JW:aF Z 52 i52:=oM (aG.get (.cons aho .nil)) (aH.get .nil)
def aEv:Nat->Option (List R.Item):=λ_=>none
def akX:aL Zτ.S:=inl Z false (aI []) (aJ [(52,i52)]) aEv 126
theorem aAt:aF Z 126 akX:=bf (aG.get .nil) (aH.get (.cons JW .nil))
def aEw:Nat->Option (List R.Item):=λ_=>none
def i127:aL Zτ.S:=inl Z false (aI []) (aJ []) aEw 127
theorem aAu:aF Z 127 i127:=bf (aG.get .nil) (aH.get .nil)
def aEx:Nat->Option (List R.Item):=λ_=>none
def aat:aL Zτ.S:=inl Z false (aI []) (aJ []) aEx 128
theorem akY:aF Z 128 aat:=bf (aG.get .nil) (aH.get .nil)
def aFJ:Nat->Option (List R.Item):=λ_=>none
def aaA:aL Zτ.S:=inl Z false (aI [(125,NZ)]) (aJ []) aFJ 200
theorem aAR:aF Z 200 aaA:=bf (aG.get (.cons Xa .nil)) (aH.get .nil)
def aEy:Nat->Option (List R.Item):=λi=>match i with|6=>some [⟨[8],.v (.int .i64)⟩,⟨[0,1],.o .str⟩]|9=>some [⟨[17],.v (.int .i64)⟩,⟨[0,3],.o (.st 1)⟩]|18=>some [⟨[0,3],.o (.st 1)⟩]|_=>none
def akZ:aL Zτ.S:=inl Z false (aI []) (aJ [(200,aaA),(128,aat)]) aEy 129
theorem aAv:aF Z 129 akZ:=bf (aG.get .nil) (aH.get (.cons aAR (.cons akY .nil)))
end
end Go.Z
