/- Several parts of the engine, one behind the other. -/
import Derived.Test.YtlbfmjolchehbaaGreatDoorMon
set_option linter.all false
namespace Go.Z
open Go Go.Proofs Go.Dc Go.R
set_option maxRecDepth 100000
noncomputable section
def sp4:Nat->Option (List R.Item):=λi=>match i with|100004=>some [⟨[3,4],.v .bool⟩,⟨[3,3],.v .bool⟩,⟨[3,4],.v .bool⟩,⟨[4,4],.v .bool⟩]|100006=>some [⟨[5,6],.v .bool⟩,⟨[5,3],.v .bool⟩,⟨[5,4],.v .bool⟩,⟨[6,4],.v .bool⟩]|_=>none
def TJ(p:List Int):Option (Layout×Plan×oG×Bool):=(TK p).bind λb=>(Lf (b.1,b.2)).bind λa=>if !a.2.2 then some (a.1,a.2.1,oG.mk (Int.ofNat 0) [] (Int.ofNat 0) (Int.ofNat 0) [],false) else (LH (a.1,a.2.1,3000)).bind λc=>some (a.1,a.2.1,c.1,decide (c.2.2.2=0))
def c4:aN Zτ.S:=⟨[.list (.int .i64)],[.st 2,.st 12,.st 14,.bool],TJ⟩
theorem auS:FZ Z.P Zτ 4 c4:=aT (C:=Z) (wr:=false) (T:=(aI [(10,c10),(11,c11),(12,c12)])) (I:=(aJ [])) (sp:=sp4) (aG.get (.cons atn (.cons af5 (.cons af7 .nil)))) (aH.get .nil) λp=>by kernel_rfl
def aHo:Nat->Option (List R.Item):=λi=>match i with|17=>some [⟨[42],.v (.int .i64)⟩,⟨[38,4],.o (.int .i64)⟩,⟨[38,3],.w (.list (.int .i64)) 0⟩]|26=>some [⟨[38,4],.o (.int .i64)⟩,⟨[38,3],.w (.list (.int .i64)) 0⟩]|28=>some [⟨[38,4],.o (.int .i64)⟩,⟨[38,3],.w (.list (.int .i64)) 0⟩]|31=>some [⟨[111],.v (.int .i64)⟩,⟨[38,5],.o (.int .i64)⟩,⟨[38,6],.o (.int .i64)⟩]|42=>some [⟨[38,5],.o (.int .i64)⟩,⟨[38,6],.o (.int .i64)⟩]|_=>none
def i34:aL Zτ.S:=aL.rd<|inl Z false (aI [(27,I4),(38,Xy),(19,c19)]) (aJ []) aHo 34
theorem aBp:aF Z 34 i34:=aF.rd (C:=Z)<|bf (aG.get (.cons Oj (.cons ahh (.cons EG .nil)))) (aH.get .nil)
def aHp:Nat->Option (List R.Item):=λi=>match i with|7=>some [⟨[7],.v (.int .i64)⟩,⟨[14],.v (.int .i64)⟩]|20=>some [⟨[7],.v (.int .i64)⟩]|22=>some [⟨[7],.v (.int .i64)⟩]|_=>none
def i35:aL Zτ.S:=aL.rd<|inl Z false (aI []) (aJ []) aHp 35
theorem aBq:aF Z 35 i35:=aF.rd (C:=Z)<|bf (aG.get .nil) (aH.get .nil)
def aIk:Nat->Option (List R.Item):=λ_=>none
def i97:aL Zτ.S:=aL.rd<|inl Z false (aI []) (aJ []) aIk 97
theorem aBP:aF Z 97 i97:=aF.rd (C:=Z)<|bf (aG.get .nil) (aH.get .nil)
def aHq:Nat->Option (List R.Item):=λi=>match i with|7=>some [⟨[22],.v (.int .i64)⟩,⟨[5],.k (.int .i64)⟩]|14=>some [⟨[5],.k (.int .i64)⟩]|16=>some [⟨[5],.k (.int .i64)⟩]|19=>some [⟨[7],.v .bool⟩,⟨[5],.k (.int .i64)⟩]|25=>some [⟨[7],.v .bool⟩,⟨[37],.v (.int .i64)⟩,⟨[5],.k (.int .i64)⟩]|31=>some [⟨[7],.v .bool⟩,⟨[48],.v (.int .i64)⟩,⟨[5],.k (.int .i64)⟩]|46=>some [⟨[7],.v .bool⟩,⟨[5],.k (.int .i64)⟩]|48=>some [⟨[7],.v .bool⟩,⟨[5],.k (.int .i64)⟩]|50=>some [⟨[5],.k (.int .i64)⟩]|_=>none
def i36:aL Zτ.S:=aL.rd<|inl Z false (aI []) (aJ [(97,i97)]) aHq 36
theorem aBr:aF Z 36 i36:=aF.rd (C:=Z)<|bf (aG.get .nil) (aH.get (.cons aBP .nil))
def aHr:Nat->Option (List R.Item):=λi=>match i with|7=>some [⟨[5],.o (.int .i64)⟩,⟨[14],.v (.int .i64)⟩]|14=>some [⟨[5],.o (.int .i64)⟩]|16=>some [⟨[5],.o (.int .i64)⟩]|_=>none
def i37:aL Zτ.S:=aL.rd<|inl Z false (aI []) (aJ []) aHr 37
theorem aBs:aF Z 37 i37:=aF.rd (C:=Z)<|bf (aG.get .nil) (aH.get .nil)
abbrev VU:=Bool×List Int->Option (Int×Int)
abbrev asv:=Int×List Int->Option (Int×Int)
abbrev Wi:=Int×Int->Option (Int×Int)
abbrev Wp:=List Int->Option (Int×Int)
abbrev yF:=List Int×List (List Int)
abbrev Ir:=Layout×Plan×List Int
abbrev Wz:=Int->Option (Int×Int)
abbrev Iu:=Bool×Int×List Int
abbrev Iy:=List Int×List Int
abbrev kI:=Option (Int×Int)
abbrev MF:=Bool×List Int
def aEK:Nat->Option (List R.Item):=λi=>match i with|13=>some [⟨[10],.v (.int .i64)⟩,⟨[27],.v (.int .i64)⟩]|26=>some [⟨[10],.v (.int .i64)⟩]|_=>none
def aCp(p:Ir)(b:Wz)(c:Wi)(a:Int×Int):kI:=if decide (a.2<(p.2.1.8.length:Int)) then (idx p.2.1.8 a.2).bind λd=>none else b a.1
def aCj(l:Network×Int)(k:yF)(g:List Int)(h:List Int)(f:Wz)(j:Wi)(kG:Int×Int):kI:=if decide (kG.2<(h.length:Int)) then au (λ(i:Int)=>ah (aj (kG.2+1))<|j (i,kG.2+1)) λb=>(idx h kG.2).bind λd=>(idx l.1.3 d).bind λe=>(idx g e.3).bind λm=>(idx g e.3).bind λa=>if decide (a= -1) then b kG.1 else (idx k.1 d).bind λc=>ah (aj (c+a))<|if decide (kG.1= -1)||decide (c+a<kG.1) then b (c+a) else b kG.1 else f kG.1
def aCk(f:Network×Int)(h:Iy)(c:dG)(i:Wp)(g:List Int×Int->kI)(a:List Int×Int):kI:=if decide (a.2<(f.1.3.length:Int)) then au (λ(j:List Int)=>ah (aj (a.2+1))<|g (j,a.2+1)) λe=>(idx f.1.3 a.2).bind λb=>(bC (decide (b.1=1)) 0 (idx h.1 b.2)).bind λd=>if decide (b.1=1)&&decide (d=c.1) then ah (aS 8 (a.1++[a.2]).length)<|e (a.1++[a.2]) else e a.1 else i a.1
def aCn(o:Network×Int)(n:yF)(c:Iu)(i:VU)(f:List Int)(m:Iu->kI)(a:Iu):kI:=if decide (a.2.1<(f.length:Int)) then au (λ(l:MF)=>ah (aj (a.2.1+1))<|m (l.1,a.2.1+1,l.2)) λj=>(idx f a.2.1).bind λg=>(idx o.1.3 g).bind λh=>(idx a.2.2 h.3).bind λp=>(idx a.2.2 h.3).bind λb=>if decide (b= -1) then j (a.1,a.2.2) else (idx n.1 g).bind λd=>ah (aj (d+b))<|(idx a.2.2 c.2.1).bind λq=>(idx a.2.2 c.2.1).bind λe=>(bC (!decide (e= -1)) 0 (idx a.2.2 c.2.1)).bind λr=>(bC (!decide (e= -1)) 0 (idx a.2.2 c.2.1)).bind λk=>if decide (e= -1)||decide (d+b<k) then (idx a.2.2 c.2.1).bind λs=>(idx a.2.2 c.2.1).bind λt=>j (true,List.set a.2.2 (Int.toNat c.2.1) (d+b)) else j (a.1,a.2.2) else i (a.1,a.2.2)
def aCm(h:Network×Int)(c:yF)(f:VU)(mU:MF)(g:Iu->kI)(a:Iu):kI:=if decide (a.2.1<(mU.2.length:Int)) then au (λ(b:MF)=>ah (aj (a.2.1+1))<|g (b.1,a.2.1+1,b.2)) λd=>(idx c.2 a.2.1).bind λi=>(idx c.2 a.2.1).bind λe=>iter (aCn h c a d e) FUEL (a.1,0,a.2.2) else f (a.1,a.2.2)
def aCl(c:Network×Int)(b:yF)(d:Wp)(a:VU)(mU:MF):kI:=if mU.1 then iter (aCm c b a mU) FUEL (false,0,mU.2) else d mU.2
def aCo(g:Network×Int)(i:Iy)(d:dG)(j:Wp)(h:asv)(a:Int×List Int):kI:=if decide (a.1<(↑(List.replicate (g.1.2.length:Int).toNat (0:Int)).length:Int)) then au (λ(c:List Int)=>ah (aj (a.1+1))<|h (a.1+1,c)) λf=>(idx g.1.2 a.1).bind λb=>(bC (decide (b.1=2)) 0 (idx i.2 a.1)).bind λe=>if !(decide (b.1=2)&&decide (e=d.2)) then (idx a.2 a.1).bind λk=>(idx a.2 a.1).bind λl=>f (List.set a.2 (Int.toNat a.1) (-1)) else f a.2 else j a.2
def aCi(p:Ir)(b:Network×Int)(f:yF)(g:Iy)(d:Wz)(l:Wi)(bH:Int×Int):kI:=if decide (bH.2<(p.2.1.8.length:Int)) then (idx p.2.1.8 bH.2).bind λa=>ah (fE 8 (b.1.2.length:Int) (b.1.2.length:Int))<|au (λ(k:List Int)=>au (λ(h:List Int)=>au (λ(j:List Int)=>au (λ(c:Int)=>if decide (c= -1) then some (0,6) else ah (aj (a.3*c))<|ah (aj (bH.1+a.3*c))<|ah (aj (bH.2+1))<|l (bH.1+a.3*c,bH.2+1)) λe=>iter (aCj b f h j e) FUEL (-1,0)) λm=>iter (aCk b g a m) FUEL ([],0)) λn=>iter (aCl b f n) FUEL (true,k)) λi=>iter (aCo b g a i) FUEL ((0:Int),List.replicate (b.1.2.length:Int).toNat (0:Int)) else d bH.1
def aCq(p:Ir)(i:Network×Int)(j:Iy->kI)(k:Int×List Int×List Int->kI)(fV:Int×List Int×List Int):kI:=if decide (fV.1<(i.1.2.length:Int)) then (idx i.1.2 fV.1).bind λb=>(idx p.2.1.4 b.2).bind λe=>(idx e.4 b.3).bind λf=>(idx p.2.1.3 f.1).bind λa=>(idx a.1 0).bind λg=>(idx p.1.3 g.1).bind λc=>ah (aS 8 (fV.2.1++[c.5]).length)<|ah (aj ((a.1.length:Int)-a.2))<|ah (aj ((a.1.length:Int)-a.2-1))<|(idx a.1 ((a.1.length:Int)-a.2-1)).bind λh=>(idx p.1.3 h.1).bind λd=>ah (aS 8 (fV.2.2++[d.5]).length)<|ah (aj (fV.1+1))<|k (fV.1+1,fV.2.1++[c.5],fV.2.2++[d.5]) else j (fV.2.1,fV.2.2)
def aCr(p:Ir)(g:Network×Int)(k:yF->kI)(d:Int×List Int×List (List Int)->kI)(b:Int×List Int×List (List Int)):kI:=if decide (b.1<(g.1.3.length:Int)) then au (λ(i:yF)=>ah (aj (b.1+1))<|d (b.1+1,i.1,i.2)) λh=>(idx g.1.3 b.1).bind λa=>(idx p.2.2 a.3).bind λe=>(idx p.2.2 a.2).bind λf=>ah (aj (e-f))<|ah (aj (e-f-a.4))<|(jo (e-f-a.4,g.1.1)).bind λc=>ah (aj (a.4+c))<|ah (aS 8 (b.2.1++[a.4+c]).length)<|if decide (a.1=1)||decide (a.1=2)||decide (a.1=3) then (idx b.2.2 a.2).bind λl=>(idx b.2.2 a.2).bind λm=>(idx b.2.2 a.2).bind λj=>ah (aS 8 (j++[b.1]).length)<|(idx b.2.2 a.2).bind λo=>ah (decide (a.2=a.2))<|(idx b.2.2 a.2).bind λn=>h (b.2.1++[a.4+c],List.set b.2.2 a.2.toNat (j++[b.1])) else h (b.2.1++[a.4+c],b.2.2) else k (b.2.1,b.2.2)
def am1(p:Ir):kI:=(sS (p.1,p.2.1)).bind λa=>if !decide (a.2=0) then if !decide (a.2=0) then some (0,a.2) else au (λ(e:Int)=>some (e,0)) λh=>iter (aCp p h) FUEL (0,0) else (KJ (a.1,p.2.2)).bind λj=>if !j then some (0,1) else ah (fE 24 (a.1.2.length:Int) (a.1.2.length:Int))<|au (λ(f:yF)=>au (λ(g:Iy)=>au (λ(b:Int)=>some (b,0)) λc=>iter (aCi p a f g c) FUEL (0,0)) λd=>iter (aCq p a d) FUEL (0,[],[])) λi=>iter (aCr p a i) FUEL ((0:Int),[],List.replicate (a.1.2.length:Int).toNat [])
def c14:aN Zτ.S:=⟨[.st 2,.st 12,.list (.int .i64)],[.int .i64,.int .i64],am1⟩
theorem atE:FZ Z.P Zτ 14 c14:=aT (C:=Z) (wr:=false) (T:=(aI [])) (I:=(aJ [(34,i34),(36,i36),(37,i37),(35,i35)])) (sp:=aEK) (aG.get .nil) (aH.get (.cons aBp (.cons aBr (.cons aBs (.cons aBq .nil))))) λp=>by kernel_rfl
abbrev VY:=Int×List Int->Option (Int×Int)
abbrev V9:=Network×List mo
abbrev AX:=Option (Int×Int)
def aHu:Nat->Option (List R.Item):=λi=>match i with|13=>some [⟨[6],.v (.int .i64)⟩,⟨[31],.v (.int .i64)⟩,⟨[8],.k (.int .i64)⟩]|31=>some [⟨[63],.v (.int .i64)⟩,⟨[8],.k (.int .i64)⟩]|38=>some [⟨[6],.v (.int .i64)⟩,⟨[8],.k (.int .i64)⟩]|40=>some [⟨[6],.v (.int .i64)⟩,⟨[8],.k (.int .i64)⟩]|43=>some [⟨[80],.v (.int .i64)⟩]|52=>some []|_=>none
def ath(p:V9)(b:Int×List Int)(d:Unit->AX)(c:Int->AX)(a:Int):AX:=if decide (a<(p.1.3.length:Int)) then (idx p.1.3 a).bind λe=>(idx b.2 a).bind λg=>(idx b.2 a).bind λf=>if decide (e.6<f) then some (0,4) else ah (aj (a+1))<|c (a+1) else d PUnit.unit
def atg(s13:Int×Int×List Int)(e:VY)(b:mo)(f:Int×Int)(g:VY)(a:Int×List Int):AX:=if decide (a.1<(b.1.length:Int)) then (idx b.1 a.1).bind λc=>(idx a.2 c).bind λh=>(idx a.2 c).bind λd=>ah (aj (d+b.3))<|(idx a.2 c).bind λi=>(idx a.2 c).bind λj=>ah (aj (a.1+1))<|g (a.1+1,List.set a.2 (Int.toNat c) (d+b.3)) else e (s13.1+b.3*f.1,a.2)
def atf(p:V9)(c:VY)(f:Int×Int×List Int->AX)(s13:Int×Int×List Int):AX:=if decide (s13.2.1<(p.2.length:Int)) then au (λ(e:Int×List Int)=>ah (aj (s13.2.1+1))<|f (e.1,s13.2.1+1,e.2)) λd=>(idx p.2 s13.2.1).bind λa=>if decide (a.3<1)||decide (1048576<a.3) then some (0,1) else (IY (p.1,Cycle.mk a.1 a.2)).bind λb=>if !decide (b.2=0) then some (0,b.2) else ah (aj (a.3*b.1))<|ah (aj (s13.1+a.3*b.1))<|iter (atg s13 d a b) FUEL (0,s13.2.2) else c (s13.1,s13.2.2)
def afT(p:V9):AX:=(IX p.1).bind λb=>if !decide (b.2=0) then some (0,b.2) else ah (fE 8 (p.1.3.length:Int) (p.1.3.length:Int))<|au (λ(c:Int×List Int)=>au (λ(e:Unit)=>some (c.1,0)) λd=>iter (ath p c d) FUEL 0) λa=>iter (atf p a) FUEL (b.1,(0:Int),List.replicate (p.1.3.length:Int).toNat (0:Int))
def c40:aN Zτ.S:=⟨[.st 19,.list (.st 13)],[.int .i64,.int .i64],afT⟩
theorem auO:FZ Z.P Zτ 40 c40:=aT (C:=Z) (wr:=false) (T:=(aI [(87,c87),(88,XG)])) (I:=(aJ [])) (sp:=aHu) (aG.get (.cons ahp (.cons ahq .nil))) (aH.get .nil) λp=>by kernel_rfl
def aEU:Nat->Option (List R.Item):=λ_=>none
def aqH(p:Layout×Plan×oG):Option Int:=(sS (p.1,p.2.1)).bind λa=>if !decide (a.2=0) then some a.2 else if !decide (p.2.2.1=a.1.1) then some 20 else (KJ (a.1,p.2.2.2)).bind λc=>if !c then some 14 else (aoQ (a.1,p.2.2.2)).bind λd=>if !decide (d.1=p.2.2.3) then some 9 else (afT (a.1,p.2.2.5)).bind λb=>if !decide (b.2=0) then some b.2 else if !decide (b.1=p.2.2.4) then some 9 else some 0
def c15:aN Zτ.S:=⟨[.st 2,.st 12,.st 14],[.int .i64],aqH⟩
theorem atG:FZ Z.P Zτ 15 c15:=aT (C:=Z) (wr:=false) (T:=(aI [(27,I4),(38,Xy),(39,c39),(40,c40)])) (I:=(aJ [])) (sp:=aEU) (aG.get (.cons Oj (.cons ahh (.cons auM (.cons auO .nil))))) (aH.get .nil) λp=>by kernel_rfl
def sp5:Nat->Option (List R.Item):=λ_=>none
def adE(p:Unit):Option Bool:=(Lf (Str.mk ([115,116,97,116,105,111,110,32,88,10,115,116,97,116,105,111,110,32,89,10,115,101,99,116,105,111,110,32,120,32,49,48,32,50,48,48,48,48,32,48,32,97,116,32,88,10,115,101,99,116,105,111,110,32,97,32,49,48,32].append [50,48,48,48,48,32,48,10,115,101,99,116,105,111,110,32,121,32,49,48,32,50,48,48,48,48,32,48,32,97,116,32,89,10,108,105,110,107,32,120,32,66,32,97,32,65,10,108,105,110,107,32,97,32,66,32,121,32,65,10]),Str.mk ([112,101,114,105,111,100,32,51,48,48,10,115,116,111,99,107,32,83,32,53,32,50,48,48,48,48,32,53,48,48,32,53,48,48,10,114,111,117,116,101,32,120,32,117].append [112,32,97,32,117,112,32,121,32,117,112,10,108,105,110,101,32,65,32,83,32,50,10,114,105,100,101,32,48,32,53,10,100,101,109,97,110,100,32,88,32,89,32,51,10]))).bind λc=>if !c.2.2||decide ((c.2.1.3.length:Int)=0)||decide ((c.2.1.2.length:Int)=0) then some false else (idx c.2.1.3 0).bind λg=>(idx c.2.1.2 0).bind λh=>(vV (c.1,g,h)).bind λa=>(LH (c.1,c.2.1,1000)).bind λb=>if !decide (a.2.2=0)|| !decide (b.2.2.2=0)|| !decide ((b.1.2.length:Int)=2) then some false else (am1 (c.1,c.2.1,b.1.2)).bind λd=>(bC (decide (d.2=0)) 0 (idx b.1.2 0)).bind λe=>(bC (decide (d.2=0)&&decide (e=0)) 0 (idx b.1.2 1)).bind λf=>ah (!(decide (d.2=0)&&decide (e=0)&&decide (f=a.2.1))||aj (2*a.2.1))<|ah (!(decide (d.2=0)&&decide (e=0)&&decide (f=a.2.1)&&decide (b.1.3=2*a.2.1))||aj (2*a.2.1))<|ah (!(decide (d.2=0)&&decide (e=0)&&decide (f=a.2.1)&&decide (b.1.3=2*a.2.1)&&decide (b.1.4=2*a.2.1))||aj (3*a.2.1))<|(bC (decide (d.2=0)&&decide (e=0)&&decide (f=a.2.1)&&decide (b.1.3=2*a.2.1)&&decide (b.1.4=2*a.2.1)&&decide (d.1=3*a.2.1)) 0 (aqH (c.1,c.2.1,b.1))).bind λi=>some (decide (d.2=0)&&decide (e=0)&&decide (f=a.2.1)&&decide (b.1.3=2*a.2.1)&&decide (b.1.4=2*a.2.1)&&decide (d.1=3*a.2.1)&&decide (i=0))
def c5:aN Zτ.S:=⟨[],[.bool],adE⟩
theorem auT:FZ Z.P Zτ 5 c5:=aT (C:=Z) (wr:=false) (T:=(aI [(11,c11),(13,c13),(12,c12),(14,c14),(15,c15)])) (I:=(aJ [])) (sp:=sp5) (aG.get (.cons af5 (.cons agf (.cons af7 (.cons atE (.cons atG .nil)))))) (aH.get .nil) λp=>by kernel_rfl
def sp3:Nat->Option (List R.Item):=λi=>match i with|19=>some [⟨[12],.v (.int .i64)⟩]|26=>some []|_=>none
def apE(b:Layout×Plan×oG×Bool)(e:List Use×Int)(f:Int)(d:Unit->Option Bool)(c:Int->Option (Bool))(s8:Int):Option (Bool):=(Sl b.1).bind λg=>if decide (s8<g) then (S9 (b.2.1.1,e.1,s8,f)).bind λa=>if decide (1<(a.length:Int)) then some false else ah (aj (s8+1))<|c (s8+1) else d PUnit.unit
def TI(p:List Int×Int):Option Bool:=(TJ p.1).bind λa=>if !a.2.2.2 then (adE PUnit.unit).bind λd=>some d else (Ta (a.1,a.2.1,a.2.2.1.2)).bind λb=>if !decide (b.2=0)||decide ((b.1.length:Int)=0) then some false else (cZ (p.2,a.2.1.1)).bind λe=>au (λ(f:Unit)=>some true) λc=>iter (apE a b e c) FUEL 0
def c3:aN Zτ.S:=⟨[.list (.int .i64),.int .i64],[.bool],TI⟩
theorem auN:FZ Z.P Zτ 3 c3:=aT (C:=Z) (wr:=false) (T:=(aI [(4,c4),(5,c5),(6,c6),(7,c7),(8,c8),(9,c9)])) (I:=(aJ [])) (sp:=sp3) (aG.get (.cons auS (.cons auT (.cons auW (.cons aho (.cons au1 (.cons au6 .nil))))))) (aH.get .nil) λp=>by kernel_rfl
end
end Go.Z
