/- Several parts of the engine, one behind the other. -/
import Derived.Test.YtlbfmjolchehbaaGreatDoorMob
import Derived.Test.YtlbfmjolchehbaaGreatDoorHS
import Derived.Shelf.Spec.SlicesGrow
set_option linter.all false
namespace Go.Z
open Go Go.Proofs Go.Dc Go.R
set_option maxRecDepth 100000
noncomputable section
def aIh:Nat->Option (List R.Item):=λi=>match i with|6=>some [⟨[2],.v (.int .i64)⟩,⟨[3],.v (.int .i64)⟩]|_=>none
def i94:aL Zτ.S:=inl Z false (aI []) (aJ []) aIh 94
theorem aBN:aF Z 94 i94:=bf (aG.get .nil) (aH.get .nil)
def aGw:Nat->Option (List R.Item):=λ_=>none
def Si(p:Layout×Step):Option Bool:=(bC (decide (0<=p.2.1)&&decide (p.2.1<(p.1.3.length:Int))&&(decide (p.2.2=0)||decide (p.2.2=1))) 0 (uW p.1)).bind λa=>some (decide (0<=p.2.1)&&decide (p.2.1<(p.1.3.length:Int))&&(decide (p.2.2=0)||decide (p.2.2=1))&&decide (a=0))
def agN:aN Zτ.S:=⟨[.st 2,.st 4],[.bool],Si⟩
theorem auc:FZ Z.P Zτ 247 agN:=aT (C:=Z) (wr:=false) (T:=(aI [(17,c17)])) (I:=(aJ [])) (sp:=aGw) (aG.get (.cons Bo .nil)) (aH.get .nil) λp=>by kernel_rfl
def aGx:Nat->Option (List R.Item):=λ_=>none
def Kz(p:nZ):Option Step:=if decide (p.2=0) then some (Step.mk p.1 0) else some (Step.mk p.1 1)
def agO:aN Zτ.S:=⟨[.st 33],[.st 4],Kz⟩
theorem aud:FZ Z.P Zτ 248 agO:=aT (C:=Z) (wr:=false) (T:=(aI [])) (I:=(aJ [])) (sp:=aGx) (aG.get .nil) (aH.get .nil) λp=>by kernel_rfl
abbrev MP:=Option (List Hop)
def aFD:Nat->Option (List R.Item):=λi=>match i with|12=>some [⟨[5,1],.v (.int .i64)⟩]|17=>some [⟨[6],.o (.st 39)⟩,⟨[25],.v (.int .i64)⟩]|32=>some [⟨[6],.o (.st 39)⟩]|34=>some [⟨[6],.o (.st 39)⟩]|_=>none
def an9(p:Layout×Step)(g:Int)(j:List Hop->MP)(h:List Hop×Int->MP)(b:List Hop×Int):MP:=if decide (b.2<(p.1.4.length:Int)) then au (λ(i:List Hop)=>ah (aj (b.2+1))<|h (i,b.2+1)) λf=>(idx p.1.4 b.2).bind λe=>(Ky e).bind λa=>if decide (p.2.1=a.1.1)&&(decide (g=a.1.2)&&true) then (Kz a.2).bind λc=>ah (aS 32 (b.1++[Hop.mk c.1 c.2 e.5 e.6]).length)<|f (b.1++[Hop.mk c.1 c.2 e.5 e.6]) else if decide (p.2.1=a.2.1)&&(decide (g=a.2.2)&&true) then (Kz a.1).bind λd=>ah (aS 32 (b.1++[Hop.mk d.1 d.2 e.5 e.6]).length)<|f (b.1++[Hop.mk d.1 d.2 e.5 e.6]) else f b.1 else j b.1
def Sj(p:Layout×Step):MP:=(Si (p.1,p.2)).bind λe=>if !e then some ([]) else au (λ(b:Int)=>au (λ(c:List Hop)=>some c) λd=>iter (an9 p b d) FUEL ([],0)) λa=>if decide (p.2.2=1) then a 0 else a 1
def agt:aN Zτ.S:=⟨[.st 2,.st 4],[.list (.st 39)],Sj⟩
theorem atT:FZ Z.P Zτ 189 agt:=aT (C:=Z) (wr:=false) (T:=(aI [(247,agN),(110,NY),(248,agO)])) (I:=(aJ [])) (sp:=aFD) (aG.get (.cons auc (.cons W9 (.cons aud .nil)))) (aH.get .nil) λp=>by kernel_rfl
def aIi:Nat->Option (List R.Item):=λi=>match i with|5=>some [⟨[13],.v (.int .i64)⟩]|14=>some []|_=>none
def afR(p:Layout×Step×Step)(e:Unit->Option Int)(c:List Hop)(d:Int->Option (Int))(a:Int):Option (Int):=if decide (a<(c.length:Int)) then (idx c a).bind λb=>if decide (b.1=p.2.2.1)&&(decide (b.2=p.2.2.2)&&true) then some b.3 else ah (aj (a+1))<|d (a+1) else e PUnit.unit
def EF(p:Layout×Step×Step):Option Int:=au (λ(c:Unit)=>some (-1)) λa=>(Sj (p.1,p.2.1)).bind λb=>iter (afR p a b) FUEL 0
def c95:aN Zτ.S:=⟨[.st 2,.st 4,.st 4],[.int .i64],EF⟩
theorem au4:FZ Z.P Zτ 95 c95:=aT (C:=Z) (wr:=false) (T:=(aI [(189,agt)])) (I:=(aJ [])) (sp:=aIi) (aG.get (.cons atT .nil)) (aH.get .nil) λp=>by kernel_rfl
def aIj:Nat->Option (List R.Item):=λi=>match i with|7=>some [⟨[3],.o (.st 26)⟩,⟨[8],.v (.int .i64)⟩]|14=>some [⟨[3],.o (.st 26)⟩]|16=>some [⟨[3],.o (.st 26)⟩]|_=>none
def i96:aL Zτ.S:=aL.rd<|inl Z false (aI []) (aJ []) aIj 96
theorem aBO:aF Z 96 i96:=aF.rd (C:=Z)<|bf (aG.get .nil) (aH.get .nil)
abbrev afn:=List aV->Option (List aV×Int×Int)
abbrev yB:=Option (List aV×Int×Int)
abbrev Nj:=List aV×List aV
abbrev Np:=List aV×Int
abbrev Nr:=List aV
def aHn:Nat->Option (List R.Item):=λi=>match i with|15=>some [⟨[18],.o (.st 26)⟩,⟨[19],.v (.int .i64)⟩]|20=>some [⟨[18],.o (.st 26)⟩]|29=>some [⟨[18],.o (.st 26)⟩,⟨[99],.v (.int .i64)⟩,⟨[21],.k (.st 26)⟩]|36=>some [⟨[18],.o (.st 26)⟩]|50=>some [⟨[18],.o (.st 26)⟩,⟨[21],.k (.st 26)⟩]|52=>some [⟨[18],.o (.st 26)⟩,⟨[21],.k (.st 26)⟩]|_=>none
def afO(c:Nj)(d:afn)(f:Np->yB)(s13:Np):yB:=if decide (s13.2<(c.2.length:Int)) then au (λ(e:Nr)=>ah (aj (s13.2+1))<|f (e,s13.2+1)) λb=>(idx c.2 s13.2).bind λg=>(idx c.2 s13.2).bind λa=>if decide (a.2<a.3) then ah (aS 24 (s13.1++[a]).length)<|b (s13.1++[a]) else b s13.1 else d s13.1
def afP(p:Layout×bg×bO×Int×Int)(g:List Int×List Int×Int×Int)(l:Int)(m:Nj->yB)(I:List aV×Int×List aV->yB)(b:List aV×Int×List aV):yB:=if decide (b.2.1<(p.2.1.1.length:Int)) then au (λ(B:Nj)=>ah (aj (b.2.1+1))<|I (B.1,b.2.1+1,B.2)) λe=>(idx p.2.1.1 b.2.1).bind λa=>au (λ(f:Nr)=>(idx f b.2.1).bind λh=>(idx f b.2.1).bind λi=>(idx b.2.2 a.1).bind λJ=>au (λ(d:Int×Int)=>(idx b.2.2 a.1).bind λK=>if decide (b.2.1=0) then e (f,List.set b.2.2 a.1.toNat (aV.mk a.1 d.1 d.2)) else ah (aj (b.2.1-1))<|(idx p.2.1.1 (b.2.1-1)).bind λn=>(EF (p.1,n,a)).bind λc=>if decide (c<0) then e (f,List.set b.2.2 a.1.toNat (aV.mk a.1 d.1 d.2)) else if decide (b.2.1<=(g.1.length:Int)-1) then ah (aj ((p.1.3.length:Int)+c))<|(idx f b.2.1).bind λj=>ah (aj (b.2.1-1))<|(idx f (b.2.1-1)).bind λk=>(idx (List.set b.2.2 a.1.toNat (aV.mk a.1 d.1 d.2)) ((p.1.3.length:Int)+c)).bind λL=>au (λ(H:Int×Int)=>(idx (List.set b.2.2 a.1.toNat (aV.mk a.1 d.1 d.2)) ((p.1.3.length:Int)+c)).bind λM=>e (f,(List.set b.2.2 a.1.toNat (aV.mk a.1 d.1 d.2)).set ((p.1.3.length:Int)+c).toNat (aV.mk ((p.1.3.length:Int)+c) H.1 H.2))) λF=>(idx (List.set b.2.2 a.1.toNat (aV.mk a.1 d.1 d.2)) ((p.1.3.length:Int)+c)).bind λo=>(idx (List.set b.2.2 a.1.toNat (aV.mk a.1 d.1 d.2)) ((p.1.3.length:Int)+c)).bind λq=>if decide (o.2<q.3) then (idx (List.set b.2.2 a.1.toNat (aV.mk a.1 d.1 d.2)) ((p.1.3.length:Int)+c)).bind λr=>(idx (List.set b.2.2 a.1.toNat (aV.mk a.1 d.1 d.2)) ((p.1.3.length:Int)+c)).bind λs=>F (min j.2 r.2,max k.3 s.3) else F (j.2,k.3) else ah (aj ((p.1.3.length:Int)+c))<|(idx (List.set b.2.2 a.1.toNat (aV.mk a.1 d.1 d.2)) ((p.1.3.length:Int)+c)).bind λN=>au (λ(E:Int×Int)=>(idx (List.set b.2.2 a.1.toNat (aV.mk a.1 d.1 d.2)) ((p.1.3.length:Int)+c)).bind λO=>e (f,(List.set b.2.2 a.1.toNat (aV.mk a.1 d.1 d.2)).set ((p.1.3.length:Int)+c).toNat (aV.mk ((p.1.3.length:Int)+c) E.1 E.2))) λC=>(idx (List.set b.2.2 a.1.toNat (aV.mk a.1 d.1 d.2)) ((p.1.3.length:Int)+c)).bind λt=>(idx (List.set b.2.2 a.1.toNat (aV.mk a.1 d.1 d.2)) ((p.1.3.length:Int)+c)).bind λu=>if decide (t.2<u.3) then (idx (List.set b.2.2 a.1.toNat (aV.mk a.1 d.1 d.2)) ((p.1.3.length:Int)+c)).bind λv=>(idx (List.set b.2.2 a.1.toNat (aV.mk a.1 d.1 d.2)) ((p.1.3.length:Int)+c)).bind λw=>C (min (l-16) v.2,max (g.2.2.1+20) w.3) else C (l-16,g.2.2.1+20)) λG=>(idx b.2.2 a.1).bind λx=>(idx b.2.2 a.1).bind λy=>if decide (x.2<y.3) then (idx b.2.2 a.1).bind λz=>(idx b.2.2 a.1).bind λA=>G (min h.2 z.2,max i.3 A.3) else G (h.2,i.3)) λD=>if decide ((g.1.length:Int)-1<b.2.1) then ah (aS 24 (b.1++[aV.mk 0 (l-16) (g.2.2.1+20)]).length)<|D (b.1++[aV.mk 0 (l-16) (g.2.2.1+20)]) else D b.1 else m (b.1,b.2.2)
def afQ(c:List Int×List Int×Int×Int)(g:afn)(f:Np->yB)(kH:Np):yB:=if decide (kH.2<(c.1.length:Int)-1) then ah (aj (kH.2-1))<|(idx c.1 (kH.2-1)).bind λd=>(idx c.2.1 kH.2).bind λe=>(Bj d).bind λa=>ah (aj (a-16))<|(Bn e).bind λb=>ah (aj (b+4))<|ah (aS 24 (kH.1++[aV.mk 0 (a-16) (b+4)]).length)<|ah (aj (kH.2+1))<|f (kH.1++[aV.mk 0 (a-16) (b+4)],kH.2+1) else g kH.1
def IV(p:Layout×bg×bO×Int×Int):yB:=(Bg (p.1,p.2.1,p.2.2.1)).bind λa=>if !decide (a.2.2.2=0) then some ([],0,a.2.2.2) else ah (aj ((a.1.length:Int)-1))<|ah (aj (-p.2.2.2.1))<|(idx a.2.1 0).bind λk=>(Bn k).bind λf=>ah (aj (f+4))<|au (λ(e:Nr)=>ah (aj ((a.1.length:Int)-1-1))<|(idx a.1 ((a.1.length:Int)-1-1)).bind λl=>(Bj l).bind λd=>ah (aj (d-16))<|ah (aj (a.2.2.1+p.2.2.2.2))<|ah (aS 24 (e++[aV.mk 0 (d-16) (a.2.2.1+p.2.2.2.2)]).length)<|(idx a.1 ((a.1.length:Int)-1)).bind λm=>(Bj m).bind λg=>ah (aj (g-16))<|ah (aj (a.2.2.1+20))<|ah (aj ((p.1.3.length:Int)+(p.1.2.length:Int)))<|ah (fE 24 ((p.1.3.length:Int)+(p.1.2.length:Int)) ((p.1.3.length:Int)+(p.1.2.length:Int)))<|au (λ(h:Nj)=>au (λ(i:Nr)=>some (i,a.2.2.1,0)) λb=>iter (afO h b) FUEL ([],0)) λc=>iter (afP p a g c) FUEL (e++[aV.mk (0:Int) (d-(16:Int)) (a.2.2.1+p.2.2.2.2)],(0:Int),List.replicate ((p.1.3.length:Int)+(p.1.2.length:Int)).toNat (aV.mk (0:Int) (0:Int) (0:Int)))) λj=>iter (afQ a j) FUEL ([aV.mk 0 (-p.2.2.2.1) (f+4)],1)
def Xx:aN Zτ.S:=⟨[.st 2,.st 5,.st 3,.int .i64,.int .i64],[.list (.st 26),.int .i64,.int .i64],IV⟩
theorem ahg:FZ Z.P Zτ 33 Xx:=aT (C:=Z) (wr:=false) (T:=(aI [(90,c90),(91,c91),(92,c92),(95,c95)])) (I:=(aJ [(93,i93),(94,i94),(96,i96)])) (sp:=aHn) (aG.get (.cons au2 (.cons ahr (.cons au3 (.cons au4 .nil))))) (aH.get (.cons aBM (.cons aBN (.cons aBO .nil)))) λp=>by kernel_rfl
def aE4:Nat->Option (List R.Item):=λi=>match i with|5=>some [⟨[10],.v (.int .i64)⟩]|14=>some []|_=>none
def aoU(p:Plan×Int)(c:Unit->Option Int)(b:Int->Option (Int))(s4:Int):Option (Int):=if decide (s4<(p.1.6.length:Int)) then (idx p.1.6 s4).bind λa=>if decide (a.1=p.2) then some (max 60 a.4) else ah (aj (s4+1))<|b (s4+1) else c PUnit.unit
def SL(p:Plan×Int):Option Int:=au (λ(b:Unit)=>some 60) λa=>iter (aoU p a) FUEL 0
def c159:aN Zτ.S:=⟨[.st 12,.int .i64],[.int .i64],SL⟩
theorem atF:FZ Z.P Zτ 159 c159:=aT (C:=Z) (wr:=false) (T:=(aI [])) (I:=(aJ [])) (sp:=aE4) (aG.get .nil) (aH.get .nil) λp=>by kernel_rfl
def aE6:Nat->Option (List R.Item):=λ_=>none
def NS(p:Layout×bg×bO×Int×Int):Option (List aV×Int×Int):=(IQ (p.1,p.2.1,p.2.2.1)).bind λb=>if !decide (b=0) then some ([],0,b) else if decide (p.2.2.2.1<0)||decide (65536<p.2.2.2.1)||decide (p.2.2.2.2<0)||decide (65536<p.2.2.2.2) then some ([],0,4) else (IV (p.1,p.2.1,p.2.2.1,p.2.2.2.1,p.2.2.2.2)).bind λa=>some (a.1,a.2.1,a.2.2)
def c160:aN Zτ.S:=⟨[.st 2,.st 5,.st 3,.int .i64,.int .i64],[.list (.st 26),.int .i64,.int .i64],NS⟩
theorem atH:FZ Z.P Zτ 160 c160:=aT (C:=Z) (wr:=false) (T:=(aI [(233,c233),(33,Xx)])) (I:=(aJ [])) (sp:=aE6) (aG.get (.cons agE (.cons ahg .nil))) (aH.get .nil) λp=>by kernel_rfl
abbrev AU:=Option (List (List aV)×List Int×Int)
abbrev Im:=List (List aV)×List Int×Int
abbrev Iq:=List (List aV)×List Int
def aHR:Nat->Option (List R.Item):=λi=>match i with|13=>some [⟨[7],.o (.list (.st 26))⟩,⟨[8],.o (.int .i64)⟩,⟨[25],.v (.int .i64)⟩]|19=>some [⟨[7],.o (.list (.st 26))⟩,⟨[8],.o (.int .i64)⟩,⟨[33],.v (.int .i64)⟩]|28=>some [⟨[13],.v (.int .i64)⟩]|32=>some [⟨[14],.v (.int .i64)⟩]|42=>some [⟨[7],.o (.list (.st 26))⟩,⟨[8],.o (.int .i64)⟩]|44=>some [⟨[7],.o (.list (.st 26))⟩,⟨[8],.o (.int .i64)⟩]|46=>some [⟨[7],.o (.list (.st 26))⟩,⟨[8],.o (.int .i64)⟩]|_=>none
def aoT(p:Layout×Plan)(o:Im)(m:Iq->AU)(g:Line)(k:Im->AU)(s11:Im):AU:=if decide (s11.2.2<(g.4.length:Int)) then au (λ(c:Iq)=>ah (aj (s11.2.2+1))<|k (c.1,c.2,s11.2.2+1)) λh=>(idx g.4 s11.2.2).bind λa=>ah (aj (a.2+a.4))<|au (λ(l:Int)=>au (λ(n:Int)=>(idx p.2.3 a.1).bind λi=>(idx p.2.2 g.2).bind λj=>(NS (p.1,i,j,l,n)).bind λb=>if !decide (b.2.2=0) then some ([],[],b.2.2) else ah (aS 24 (s11.1++[b.1]).length)<|ah (aS 8 (s11.2.1++[b.2.1]).length)<|h (s11.1++[b.1],s11.2.1++[b.2.1])) λd=>ah (aj ((g.4.length:Int)-1))<|if decide (s11.2.2=(g.4.length:Int)-1) then (SL (p.2,o.2.2)).bind λf=>ah (aj (a.2+f))<|d (a.2+f) else d (a.2+a.4)) λe=>if decide (s11.2.2=0) then e 60 else e 0 else m (s11.1,s11.2.1)
def aoS(p:Layout×Plan)(d:Iq->AU)(c:Im->AU)(a:Im):AU:=if decide (a.2.2<(p.2.4.length:Int)) then au (λ(b:Iq)=>ah (aj (a.2.2+1))<|c (b.1,b.2,a.2.2+1)) λe=>(idx p.2.4 a.2.2).bind λf=>iter (aoT p a e f) FUEL (a.1,a.2.1,0) else d (a.1,a.2.1)
def Gg(p:Layout×Plan):AU:=(C8 (p.1,p.2)).bind λc=>if !decide (c=0) then some ([],[],1) else au (λ(a:Iq)=>some (a.1,a.2,0)) λb=>iter (aoS p b) FUEL ([],[],0)
def c67:aN Zτ.S:=⟨[.st 2,.st 12],[.list (.list (.st 26)),.list (.int .i64),.int .i64],Gg⟩
theorem auV:FZ Z.P Zτ 67 c67:=aT (C:=Z) (wr:=false) (T:=(aI [(57,I6),(159,c159),(160,c160)])) (I:=(aJ [])) (sp:=aHR) (aG.get (.cons Ot (.cons atF (.cons atH .nil)))) (aH.get .nil) λp=>by kernel_rfl
def aEz:Nat->Option (List R.Item):=λ_=>none
def vV(p:Layout×bg×bO):Option (List aV×Int×Int):=(IV (p.1,p.2.1,p.2.2,0,0)).bind λa=>some (a.1,a.2.1,a.2.2)
def c13:aN Zτ.S:=⟨[.st 2,.st 5,.st 3],[.list (.st 26),.int .i64,.int .i64],vV⟩
theorem agf:FZ Z.P Zτ 13 c13:=aT (C:=Z) (wr:=false) (T:=(aI [(33,Xx)])) (I:=(aJ [])) (sp:=aEz) (aG.get (.cons ahg .nil)) (aH.get .nil) λp=>by kernel_rfl
def aGi:Nat->Option (List R.Item):=λi=>match i with|7=>some [⟨[3],.v (.int .i64)⟩,⟨[8],.v (.int .i64)⟩]|18=>some []|_=>none
def ai9(p:List aV)(c:Unit->Option Bool)(b:Int×Int->Option (Bool))(s4:Int×Int):Option (Bool):=if decide (s4.2<(p.length:Int)) then (idx p s4.2).bind λa=>if decide (a.1<=s4.1)||decide (a.2< -65536)||decide (a.3<=a.2)||decide (65536<a.3) then some false else ah (aj (s4.2+1))<|b (a.1,s4.2+1) else c PUnit.unit
def y9(p:List aV):Option Bool:=au (λ(b:Unit)=>some true) λa=>iter (ai9 p a) FUEL (-1,0)
def c234:aN Zτ.S:=⟨[.list (.st 26)],[.bool],y9⟩
theorem agF:FZ Z.P Zτ 234 c234:=aT (C:=Z) (wr:=false) (T:=(aI [])) (I:=(aJ [])) (sp:=aGi) (aG.get .nil) (aH.get .nil) λp=>by kernel_rfl
def aFE:Nat->Option (List R.Item):=λi=>match i with|12=>some [⟨[5],.v (.int .i64)⟩]|_=>none
def jo(p:Int×Int):Option Int:=if decide (p.2<1) then some 0 else ah (!decide (p.2=0))<|au (λ(b:Int)=>some b) λa=>if decide (p.1.tmod p.2<0) then ah (aj (p.1.tmod p.2+p.2))<|a (p.1.tmod p.2+p.2) else a (p.1.tmod p.2)
def c19:aN Zτ.S:=⟨[.int .i64,.int .i64],[.int .i64],jo⟩
theorem EG:FZ Z.P Zτ 19 c19:=aT (C:=Z) (wr:=false) (T:=(aI [])) (I:=(aJ [])) (sp:=aFE) (aG.get .nil) (aH.get .nil) λp=>by kernel_rfl
def aG3:Nat->Option (List R.Item):=λ_=>none
def Di(p:Int):Option Bool:=some (decide (1<=p)&&decide (p<=7200))
def Ol:aN Zτ.S:=⟨[.int .i64],[.bool],Di⟩
theorem Xw:FZ Z.P Zτ 297 Ol:=aT (C:=Z) (wr:=false) (T:=(aI [])) (I:=(aJ [])) (sp:=aG3) (aG.get .nil) (aH.get .nil) λp=>by kernel_rfl
def aG4:Nat->Option (List R.Item):=λ_=>none
def alM:aL Zτ.S:=inl Z false (aI []) (aJ []) aG4 298
theorem aBj:aF Z 298 alM:=bf (aG.get .nil) (aH.get .nil)
def aGN:Nat->Option (List R.Item):=λ_=>none
def TR(p:Int×Int×Int):Option (List Span×Int):=(Di p.1).bind λb=>if !b then some ([],4) else (jo (p.2.1,p.1)).bind λa=>if decide (p.2.2<1) then some ([],0) else if decide (p.1<=p.2.2) then ah (aS 16 1)<|some ([Span.mk 0 p.1],0) else ah (aj (a+p.2.2))<|if decide (a+p.2.2<=p.1) then ah (aj (a+p.2.2))<|ah (aS 16 1)<|some ([Span.mk a (a+p.2.2)],0) else ah (aj (a+p.2.2))<|ah (aj (a+p.2.2-p.1))<|ah (aS 16 [Span.mk 0 (a+p.2.2-p.1),Span.mk a p.1].length)<|some ([Span.mk 0 (a+p.2.2-p.1),Span.mk a p.1],0)
def agT:aN Zτ.S:=⟨[.int .i64,.int .i64,.int .i64],[.list (.st 40),.int .i64],TR⟩
theorem auk:FZ Z.P Zτ 275 agT:=aT (C:=Z) (wr:=false) (T:=(aI [(297,Ol),(19,c19)])) (I:=(aJ [(298,alM)])) (sp:=aGN) (aG.get (.cons Xw (.cons EG .nil))) (aH.get (.cons aBj .nil)) λp=>by kernel_rfl
def aGP:Nat->Option (List R.Item):=λi=>match i with|11=>some [⟨[5],.v (.int .i64)⟩,⟨[13],.v (.int .i64)⟩]|22=>some []|_=>none
def apI(p:Int×List Span)(d:Unit->Option Bool)(c:Int×Int->Option (Bool))(a:Int×Int):Option (Bool):=if decide (a.2<(p.2.length:Int)) then (idx p.2 a.2).bind λb=>if decide (b.1<=a.1)||decide (b.2<=b.1)||decide (p.1<b.2) then some false else ah (aj (a.2+1))<|c (b.2,a.2+1) else d PUnit.unit
def zV(p:Int×List Span):Option Bool:=(Di p.1).bind λb=>if !b then some false else au (λ(c:Unit)=>some true) λa=>iter (apI p a) FUEL (-1,0)
def Xv:aN Zτ.S:=⟨[.int .i64,.list (.st 40)],[.bool],zV⟩
theorem agU:FZ Z.P Zτ 277 Xv:=aT (C:=Z) (wr:=false) (T:=(aI [(297,Ol)])) (I:=(aJ [])) (sp:=aGP) (aG.get (.cons Xw .nil)) (aH.get .nil) λp=>by kernel_rfl
def aG5:Nat->Option (List R.Item):=λi=>match i with|9=>some [⟨[12],.v (.int .i64)⟩]|18=>some []|_=>none
def apJ(p:Int×List (List Span))(c:Unit->Option Int)(b:Int->Option (Int))(a:Int):Option (Int):=if decide (a<(p.2.length:Int)) then (idx p.2 a).bind λd=>(zV (p.1,d)).bind λe=>if !e then some 1 else ah (aj (a+1))<|b (a+1) else c PUnit.unit
def Li(p:Int×List (List Span)):Option Int:=(Di p.1).bind λb=>if !b then some 4 else au (λ(c:Unit)=>some 0) λa=>iter (apJ p a) FUEL 0
def ag3:aN Zτ.S:=⟨[.int .i64,.list (.list (.st 40))],[.int .i64],Li⟩
theorem auu:FZ Z.P Zτ 299 ag3:=aT (C:=Z) (wr:=false) (T:=(aI [(297,Ol),(277,Xv)])) (I:=(aJ [])) (sp:=aG5) (aG.get (.cons Xw (.cons agU .nil))) (aH.get .nil) λp=>by kernel_rfl
end
end Go.Z
namespace Go.Proofs
open Go Go.Shelf Go.RowKit Go.Lib Go.Sort
set_option maxHeartbeats 1000000 in
theorem Tryz.closure319(x d y f:Int)(W:World):Calls Tryz.prog 319 #[.agg #[.int .i64 x,.int .i64 d],.agg #[.int .i64 y,.int .i64 f]] W λe w'=>e= .returned (.int .i64 (Lib.compareInt x y))/\∃q b,w'=grow (W.drewN q) b:=by have a:=λc=>Tryz.cmp103 x y c;generalize Lib.compareInt x y=r at a |-;go_enter Tryz.func319,Tryz.ntmps319;go_wp2_with (go_at_call 103;refine (a _).mono ?_;rintro e w' ⟨rfl,rfl⟩);go_ret;exact⟨rfl,0,_,by rw[alloc_eq_grow,alloc_eq_grow,grow_grow];rfl⟩
end Go.Proofs
namespace Go.Z
open Go Go.Proofs Go.Dc Go.R
def aaN:aL Zτ.S:=⟨λvs s K=>match vs with
 |[.o m,.f 319 []]=>match bq s.Th m with
  |some (.ar (.st 40) xs)=>K (.t []) ⟨s.B,s.T,s.Bh,setH m (.ar (.st 40) (iW Span.From xs)) s.Th,s.nx⟩
  |_=>none
 |_=>none,false⟩
theorem aBn:aF Z 318 aaN:=by
 intro β y vs s K h κ M w ρ D t a;unfold aaN at h;simp only at h;split at h
 ·rename_i m;split at h
  ·rename_i xs J;obtain⟨x,z,rfl⟩:∃x z,D=[x,z]:=by match D,a.1 with|[x,z],_=>exact⟨x,z,rfl⟩
   have L:z= .func (.func 319) #[] #[]:=by
    have:=a.2 1 (.f 319 []) z rfl rfl
    cases this with
    |v h=>cases h with
     | @f _ _ us h1 h2=>
      cases us with
      |nil=>rfl
      |cons=>simp at h1
   subst L;refine aqh (C:=Z) (c:= .st 40) (g:=319) (f:=318) (key:=Span.From) (good:=λ_=>true) (λp cap w=>AnyF.slices_SortFunc_none Tryz.laysSort318 p cap _ w) ?_ ?_ t J (a.2 0 (.o m) x rfl rfl) sm h;·intro r I h1 F H blk off cap d w e G b u;exact AnyQ.slices_SortFunc_eq Tryz.laysSort318 2 Tryz.isAgg380 Tryz.sizeOf380 r I h1 F H 319 #[] blk off cap d w (enters_of Tryz.func319 (by kernel_rfl) rfl) e G b u
   ·intro x y N O W _ _ A B _;obtain⟨p,q⟩:=x;obtain⟨E,q'⟩:=y;have A:aZ Zτ M ρ [.i .i64 p,.i .i64 q] N:=A;have B:aZ Zτ M ρ [.i .i64 E,.i .i64 q'] O:=B
    cases A with
    |cons j k=>cases j;cases k with
     |cons j k=>
      cases j;cases k
      cases B with
      |cons l n=>cases l;cases n with
       |cons l n=>cases l;cases n;exact Tryz.closure319 p q E q' W
  ·cases h
 ·cases h
end Go.Z
namespace Go.Z
open Go Go.Proofs Go.Dc Go.R
set_option maxRecDepth 100000
noncomputable section
def aFF:Nat->Option (List R.Item):=λ_=>none
def EH(p:Int):Option Bool:=some (!decide (p=p))
def Xh:aN Zτ.S:=⟨[.int .i64],[.bool],EH⟩
theorem agu:FZ Z.P Zτ 191 Xh:=aT (C:=Z) (wr:=false) (T:=(aI [])) (I:=(aJ [])) (sp:=aFF) (aG.get .nil) (aH.get .nil) λp=>by kernel_rfl
def aEg:Nat->Option (List R.Item):=λ_=>none
def XI(p:Int×Int):Option Int:=(EH p.1).bind λb=>(EH p.2).bind λa=>if b then if a then some 0 else some (-1) else if a then some 1 else if decide (p.1<p.2) then some (-1) else if decide (p.2<p.1) then some 1 else some 0
def WY:aN Zτ.S:=⟨[.int .i64,.int .i64],[.int .i64],XI⟩
theorem af0:FZ Z.P Zτ 103 WY:=aT (C:=Z) (wr:=false) (T:=(aI [(191,Xh)])) (I:=(aJ [])) (sp:=aEg) (aG.get (.cons agu .nil)) (aH.get .nil) λp=>by kernel_rfl
def aHk:Nat->Option (List R.Item):=λ_=>none
def aDA(p:Span×Span):Option Int:=(XI (p.1.1,p.2.1)).bind λa=>some a
def ahe:aN Zτ.S:=⟨[.st 40,.st 40],[.int .i64],aDA⟩
theorem auI:FZ Z.P Zτ 319 ahe:=aT (C:=Z) (wr:=false) (T:=(aI [(103,WY)])) (I:=(aJ [])) (sp:=aHk) (aG.get (.cons af0 .nil)) (aH.get .nil) λp=>by kernel_rfl
def aG7:Nat->Option (List R.Item):=λi=>match i with|9=>some [⟨[3],.n (.st 40)⟩,⟨[11],.v (.int .i64)⟩]|20=>some [⟨[3],.n (.st 40)⟩]|22=>some [⟨[3],.n (.st 40)⟩]|_=>none
def alN:aL Zτ.S:=inl ZA false (aI [(319,ahe)]) (aJ [(318,aaN)]) aG7 300
theorem aBk:aF Z 300 alN:=aF.am (b:=false) (bf (C:=ZA) (aG.get (.cons auI .nil)) (aH.get (.cons (aF.am aBn) .nil)))
end
end Go.Z
namespace Go.R
open Go Go.RowKit Go.Dc
section
variable {C:Cf}{s:Sg C.τ.S}{M:Mem}{ρ ρ0:List Loc}{w:World}{κ:Ctx C.τ}
theorem avk{c:Cd}{T cap:Nat}{arr:Array Value}(h:CS C κ ρ0 s M w ρ)(H:Pos C.τ c T)(t:cap*C.τ.aC c<=arr.size):CS C κ ρ0 (s.xJ C c []) M (w.drew.alloc (.cells arr T)) (ρ++[⟨w.heap.size,0,cap,false,[]⟩]):=by
 obtain⟨O1,O2,h1,h2,f⟩:=h.mem;have m:(w.drew.alloc (.cells arr T)).heap[w.heap.size]?=some (.cells arr T (0,0)):=heap_alloc_new w.drew _;have hold:∀k,k<w.heap.size->(w.drew.alloc (.cells arr T)).heap[k]?=w.heap[k]?:=λk u=>Below.heap_alloc _ _ _ u;have E:Frame [] w (w.drew.alloc (.cells arr T)):=⟨rfl,rfl,rfl,sm,λk u _=>hold k u⟩
 have K:Sat M (w.drew.alloc (.cells arr T)):=λb j v e=>by
  have h1:=f.sat b j v e
  have y:b<w.heap.size:=by
   rcases Nat.lt_or_ge b w.heap.size with h|h;·exact h
   ·simp[World.cell?,Array.getElem?_eq_none h] at h1
  simp only[World.cell?,hold b y] at h1 |-;exact h1
 obtain⟨d,r⟩:=f.call K .rfl E (λb j v e=> .inl e);have g:Names ρ (ρ++[(⟨w.heap.size,0,cap,false,[]⟩:Loc)]):=fF;refine⟨h.names.trans g,by simp[Sg.xJ,h.len],h.gm,λB o v F z q a ho=>?_,[w.heap.size]++O1,O2,.cons ?_ (h1.ext g (r.sub λb a=>List.mem_append_left _ a)),h2.ext g (r.sub λb a=>List.mem_append_right _ a),?_⟩
 ·have a:(B,SO.bx z q)∈s.Th++s.Bh:=by
   rcases List.mem_cons.1 a with e|a;·cases e
   ·exact a
  obtain⟨J,x,p,A,D⟩:=h.cl B o v F z q a ho;obtain⟨ob,I,n⟩:=(h1.app h2).look a;refine⟨J,x,g _ _ p,?_,D.imp id λh=>h.mono .rfl g⟩;cases I with|bx f1 f2 L N=>rw[f1] at p;cases p;have:=r.heap _ (n _ (List.mem_singleton.2 rfl));unfold World.cell? at A |-;rw[this];exact A
 ·refine .ar (l:=⟨w.heap.size,0,cap,false,[]⟩) (by rw[<-h.len];simp) rfl rfl H sm sm m t (λi x G=>by simp at G) λj=>f.sat.kE (Nat.le_refl _)
 ·refine⟨d.tab,d.frame,d.sat,d.le,d.new,?_,λb a=>?_,d.red⟩;·show (w.heap.size::(O1++O2)).Nodup;refine List.nodup_cons.2 ⟨λt=>?_,d.nodup⟩;have:=f.lt t;omega
  ·rcases List.mem_append.1 a with a|a;·simp at a;subst a;exact⟨sm,.inr f.frame.size⟩
   ·exact d.own b a
end
end Go.R
namespace Go.Z
open Go Go.Proofs Go.Dc Go.R
noncomputable def aaO:aL Zτ.S:=⟨fun vs s K=>match vs with
 |[.nl,.i .i64 n]=>ah (decide (0≤n∧n*16≤140737488355328)) (cnd (decide (n=0)) (K .nl s) (K (.o s.nx) (s.xJ Z (.st 40) [])))
 |_=>none,false⟩
theorem aBo:aF Z 320 aaO:=by
 intro β y vs s K h κ M w ρ m b c;unfold aaO at h;simp only at h;split at h
 ·rename_i n;obtain⟨p,h⟩:=jZ h;have p:=of_decide_eq_true p;obtain⟨n,rfl⟩:∃k:Nat,n=k:=⟨n.toNat,om⟩;obtain⟨x,z,rfl⟩:∃x z,m=[x,z]:=by match m,c.1 with|[x,z],_=>exact⟨x,z,rfl⟩
  have r:x= .slice none 0 0:=by have:=c.2 0 .nl x rfl rfl;cases this with|v h=>cases h;rfl
  have u:z= .int .i64 n:=by have:=c.2 1 (.i .i64 n) z rfl rfl;cases this with|v h=>cases h;rfl
  subst r u;unfold cnd at h;split at h
  ·rename_i e;have e:n=0:=by have:=of_decide_eq_true e;omega
   subst e;refine (Any8.slices_Grow_room Tryz.laysGrow320 none 0 0 0 w (Nat.le_refl _) dc dc (Nat.le_refl _)).mono ?_;rintro e w' ⟨rfl,rfl⟩;exact⟨_,_,s,M,ρ,rfl,h,⟨rfl,rfl,λt=>rfl⟩,.rfl,b,.v .nl⟩
  ·rename_i e;have e:0<n:=by have:=of_decide_eq_false (by simpa using e);omega
   obtain⟨d,g,j,q,f⟩:∃d,Tryz.prog.info? 380=some d/\d.zero=some (.agg #[.int .i64 0,.int .i64 0])/\d.size=2/\d.bytes=16:=by
    have h:(Tryz.prog.info? 380).map (λi=>(i.zero,i.size,i.bytes))=some (some (.agg #[.int .i64 0,.int .i64 0]),2,16):=by kernel_rfl
    cases e:Tryz.prog.info? 380 with|none=>rw[e] at h;cases h|some i=>rw[e] at h;simp at h;exact⟨i,rfl,h⟩
   refine (Any8.slices_Grow_grow Tryz.laysGrow320 d _ g j om none 0 0 n [] w (Nat.le_refl _) om (by rw[f];omega) om sm (λ_=>rfl) (λa h=>by cases h)).mono ?_;rintro e w' ⟨rfl,rfl⟩;refine⟨_,_,_,M,_,rfl,h,⟨rfl,rfl,λt=>rfl⟩,.rfl,avk (cap:=grownCap w (0+n) 0 (Tryz.laysGrow320_ren.t 25)) b ⟨dc,by kernel_rfl⟩ ?_,.v (.o (l:=⟨w.heap.size,0,grownCap w (0+n) 0 (Tryz.laysGrow320_ren.t 25),false,[]⟩) (by rw[<-b.len];simp))⟩;have A:=grownCap_ge w (0+n) 0 (Tryz.laysGrow320_ren.t 25);show _*2<=_;simp only[Array.size_append,List.size_toArray,size_zeroCells,Value.cells,List.length_nil,List.length_cons];omega
 ·cases h
end Go.Z
namespace Go.Z
open Go Go.Proofs Go.Dc Go.R
set_option maxRecDepth 100000
noncomputable section
def aG8:Nat->Option (List R.Item):=λi=>match i with|7=>some [⟨[3],.v (.int .i64)⟩,⟨[11],.v (.int .i64)⟩]|16=>some [⟨[3],.v (.int .i64)⟩]|18=>some [⟨[3],.v (.int .i64)⟩]|23=>some [⟨[6],.n (.st 40)⟩,⟨[27],.v (.int .i64)⟩]|30=>some [⟨[6],.n (.st 40)⟩]|_=>none
def alO:aL Zτ.S:=inl ZA false (aI []) (aJ [(320,aaO)]) aG8 301
theorem aBl:aF Z 301 alO:=aF.am (b:=false) (bf (C:=ZA) (aG.get .nil) (aH.get (.cons (aF.am aBo) .nil)))
def aGO:Nat->Option (List R.Item):=λ_=>none
def aaK:aL Zτ.S:=inl ZA false (aI [(299,ag3)]) (aJ [(301,alO),(300,alN)]) aGO 276
theorem aBe:aF Z 276 aaK:=aF.am (b:=false) (bf (C:=ZA) (aG.get (.cons auu .nil)) (aH.get (.cons (aF.am aBl) (.cons (aF.am aBk) .nil))))
def aGM:Nat->Option (List R.Item):=λ_=>none
def aaJ:aL Zτ.S:=inl ZA false (aI [(275,agT)]) (aJ [(276,aaK)]) aGM 274
theorem alJ:aF Z 274 aaJ:=aF.am (b:=false) (bf (C:=ZA) (aG.get (.cons auk .nil)) (aH.get (.cons (aF.am aBe) .nil)))
def aGL:Nat->Option (List R.Item):=λi=>match i with|1=>some [⟨[0],.v (.list (.st 26))⟩,⟨[1],.v (.list (.st 26))⟩,⟨[2,1126401,0],.n (.st 40)⟩]|8=>some [⟨[2,1126401,0],.n (.st 40)⟩]|12=>some [⟨[0],.v (.list (.st 26))⟩]|_=>none
def alI:aL Zτ.S:=inl ZA false (aI []) (aJ [(274,aaJ)]) aGL 273
theorem aBd:aF Z 273 alI:=aF.am (b:=false) (bf (C:=ZA) (aG.get .nil) (aH.get (.cons (aF.am alJ) .nil)))
def aGk:Nat->Option (List R.Item):=λi=>match i with|14=>some []|_=>none
def i236:aL Zτ.S:=inl ZA false (aI [(234,c234)]) (aJ [(273,alI),(274,aaJ)]) aGk 236
theorem aA4:aF Z 236 i236:=aF.am (b:=false) (bf (C:=ZA) (aG.get (.cons agF .nil)) (aH.get (.cons (aF.am aBd) (.cons (aF.am alJ) .nil))))
def aG9:Nat->Option (List R.Item):=λ_=>none
def adH(p:Span):Option Int:=ah (aj (p.2-p.1))<|some (p.2-p.1)
def ag4:aN Zτ.S:=⟨[.st 40],[.int .i64],adH⟩
theorem auw:FZ Z.P Zτ 302 ag4:=aT (C:=Z) (wr:=false) (T:=(aI [])) (I:=(aJ [])) (sp:=aG9) (aG.get .nil) (aH.get .nil) λp=>by kernel_rfl
def aGQ:Nat->Option (List R.Item):=λi=>match i with|7=>some [⟨[3],.v (.int .i64)⟩,⟨[8],.v (.int .i64)⟩]|14=>some [⟨[3],.v (.int .i64)⟩]|_=>none
def apK(p:List Span)(c:Int->Option Int)(b:Int×Int->Option (Int))(s4:Int×Int):Option (Int):=if decide (s4.2<(p.length:Int)) then (idx p s4.2).bind λd=>(adH d).bind λa=>ah (aj (s4.1+a))<|ah (aj (s4.2+1))<|b (s4.1+a,s4.2+1) else c s4.1
def adG(p:List Span):Option Int:=au (λ(a:Int)=>some a) λb=>iter (apK p b) FUEL (0,0)
def agV:aN Zτ.S:=⟨[.list (.st 40)],[.int .i64],adG⟩
theorem aul:FZ Z.P Zτ 278 agV:=aT (C:=Z) (wr:=false) (T:=(aI [(302,ag4)])) (I:=(aJ [])) (sp:=aGQ) (aG.get (.cons auw .nil)) (aH.get .nil) λp=>by kernel_rfl
def aGl:Nat->Option (List R.Item):=λ_=>none
def TQ(p:Int×List Span):Option Int:=(zV (p.1,p.2)).bind λa=>if !a then some 0 else (adG p.2).bind λb=>some b
def agG:aN Zτ.S:=⟨[.int .i64,.list (.st 40)],[.int .i64],TQ⟩
theorem at0:FZ Z.P Zτ 237 agG:=aT (C:=Z) (wr:=false) (T:=(aI [(277,Xv),(278,agV)])) (I:=(aJ [])) (sp:=aGl) (aG.get (.cons agU (.cons aul .nil))) (aH.get .nil) λp=>by kernel_rfl
end
end Go.Z
