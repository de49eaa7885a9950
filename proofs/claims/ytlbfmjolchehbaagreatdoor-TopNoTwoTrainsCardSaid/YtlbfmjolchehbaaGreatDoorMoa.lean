/- Several parts of the engine, one behind the other. -/
import Derived.Test.YtlbfmjolchehbaaGreatDoorRC
import Derived.RegionTactic
import Derived.Laws.CopyOwn
import Derived.Test.YtlbfmjolchehbaaGreatDoorSh
import Derived.Test.YtlbfmjolchehbaaGreatDoorErl
set_option linter.all false
namespace Go.Z
open Go Go.Proofs Go.Dc Go.R
set_option maxRecDepth 100000
noncomputable section
def aFH:Nat->Option (List R.Item):=λ_=>none
def U2(p:Int):Option Bool:=some (decide (65<=p)&&decide (p<=90)||decide (97<=p)&&decide (p<=122))
def c193:aN Zτ.S:=⟨[.int .u8],[.bool],U2⟩
theorem atV:FZ Z.P Zτ 193 c193:=aT (C:=Z) (wr:=false) (T:=(aI [])) (I:=(aJ [])) (sp:=aFH) (aG.get .nil) (aH.get .nil) λp=>by kernel_rfl
def aFI:Nat->Option (List R.Item):=λ_=>none
def U1(p:Int):Option Bool:=some (decide (48<=p)&&decide (p<=57))
def c194:aN Zτ.S:=⟨[.int .u8],[.bool],U1⟩
theorem agv:FZ Z.P Zτ 194 c194:=aT (C:=Z) (wr:=false) (T:=(aI [])) (I:=(aJ [])) (sp:=aFI) (aG.get .nil) (aH.get .nil) λp=>by kernel_rfl
def aEl:Nat->Option (List R.Item):=λi=>match i with|9=>some [⟨[20],.v (.int .i64)⟩]|18=>some []|_=>none
def aeR(p:Str)(f:Unit->Option Bool)(e:Int->Option (Bool))(a:Int):Option (Bool):=if decide (a<(p.1.length:Int)) then (fq p a).bind λg=>(U2 g).bind λc=>(bC (!c) 0 (fq p a)).bind λh=>(bC (!c) false (U1 h)).bind λb=>(bC (!c&& !b) 0 (fq p a)).bind λd=>if !c&& !b&& !decide (d=95) then some false else ah (aj (a+1))<|e (a+1) else f PUnit.unit
def Ai(p:Str):Option Bool:=(bC (!(decide ((p.1.length:Int)<1)||decide (12<(p.1.length:Int)))) 0 (fq p 0)).bind λb=>(bC (!(decide ((p.1.length:Int)<1)||decide (12<(p.1.length:Int)))) false (U2 b)).bind λc=>if decide ((p.1.length:Int)<1)||decide (12<(p.1.length:Int))|| !c then some false else au (λ(d:Unit)=>some true) λa=>iter (aeR p a) FUEL 0
def NW:aN Zτ.S:=⟨[.str],[.bool],Ai⟩
theorem WZ:FZ Z.P Zτ 108 NW:=aT (C:=Z) (wr:=false) (T:=(aI [(193,c193),(194,c194)])) (I:=(aJ [])) (sp:=aEl) (aG.get (.cons atV (.cons agv .nil))) (aH.get .nil) λp=>by kernel_rfl
def aHz:Nat->Option (List R.Item):=λ_=>none
def i45:aL Zτ.S:=inl Z false (aI [(108,NW)]) (aJ []) aHz 45
theorem aBu:aF Z 45 i45:=bf (aG.get (.cons WZ .nil)) (aH.get .nil)
def aHA:Nat->Option (List R.Item):=λ_=>none
def acC(p:Layout×Section):Option Bool:=some (decide (1<=p.2.2)&&decide (p.2.2<=400)&&decide (1000<=p.2.3)&&decide (p.2.3<=100000)&&decide (-40<=p.2.4)&&decide (p.2.4<=40)&&decide (-1<=p.2.5)&&decide (p.2.5<(p.1.1.length:Int)))
def c46:aN Zτ.S:=⟨[.st 2,.st 0],[.bool],acC⟩
theorem auQ:FZ Z.P Zτ 46 c46:=aT (C:=Z) (wr:=false) (T:=(aI [])) (I:=(aJ [])) (sp:=aHA) (aG.get .nil) (aH.get .nil) λp=>by kernel_rfl
def aEm:Nat->Option (List R.Item):=λ_=>none
def acB(p:Layout×Link):Option Bool:=some (decide (0<=p.2.1)&&decide (p.2.1<(p.1.3.length:Int))&&decide (0<=p.2.3)&&decide (p.2.3<(p.1.3.length:Int))&&(decide (p.2.2=0)||decide (p.2.2=1))&&(decide (p.2.4=0)||decide (p.2.4=1))&&decide (-1<=p.2.5)&&decide (p.2.5<(p.1.2.length:Int))&&(decide (p.2.6=0)||decide (p.2.6=1)&& !decide (p.2.5= -1)))
def c109:aN Zτ.S:=⟨[.st 2,.st 1],[.bool],acB⟩
theorem atm:FZ Z.P Zτ 109 c109:=aT (C:=Z) (wr:=false) (T:=(aI [])) (I:=(aJ [])) (sp:=aEm) (aG.get .nil) (aH.get .nil) λp=>by kernel_rfl
def aEo:Nat->Option (List R.Item):=λ_=>none
def Ky(p:Link):Option (nZ×nZ):=some (nZ.mk p.1 p.2,nZ.mk p.3 p.4)
def NY:aN Zτ.S:=⟨[.st 1],[.st 33,.st 33],Ky⟩
theorem W9:FZ Z.P Zτ 110 NY:=aT (C:=Z) (wr:=false) (T:=(aI [])) (I:=(aJ [])) (sp:=aEo) (aG.get .nil) (aH.get .nil) λp=>by kernel_rfl
def aEp:Nat->Option (List R.Item):=λ_=>none
def Kw(p:nZ):Option Int:=ah (aj (2*p.1))<|ah (aj (2*p.1+p.2))<|some (2*p.1+p.2)
def af2:aN Zτ.S:=⟨[.st 33],[.int .i64],Kw⟩
theorem ato:FZ Z.P Zτ 111 af2:=aT (C:=Z) (wr:=false) (T:=(aI [])) (I:=(aJ [])) (sp:=aEp) (aG.get .nil) (aH.get .nil) λp=>by kernel_rfl
def aEq:Nat->Option (List R.Item):=λi=>match i with|5=>some [⟨[13],.v (.int .i64)⟩]|16=>some []|_=>none
def acA(p:List Link×nZ×nZ)(c:Unit->Option Bool)(b:Int->Option (Bool))(s4:Int):Option (Bool):=if decide (s4<(p.1.length:Int)) then (idx p.1 s4).bind λd=>(Ky d).bind λa=>if decide (p.2.1.1=a.1.1)&&(decide (p.2.1.2=a.1.2)&&true)&&(decide (p.2.2.1=a.2.1)&&(decide (p.2.2.2=a.2.2)&&true))||decide (p.2.1.1=a.2.1)&&(decide (p.2.1.2=a.2.2)&&true)&&(decide (p.2.2.1=a.1.1)&&(decide (p.2.2.2=a.1.2)&&true)) then some true else ah (aj (s4+1))<|b (s4+1) else c PUnit.unit
def Sr(p:List Link×nZ×nZ):Option Bool:=au (λ(b:Unit)=>some false) λa=>iter (acA p a) FUEL 0
def af3:aN Zτ.S:=⟨[.list (.st 1),.st 33,.st 33],[.bool],Sr⟩
theorem atp:FZ Z.P Zτ 112 af3:=aT (C:=Z) (wr:=false) (T:=(aI [(110,NY)])) (I:=(aJ [])) (sp:=aEq) (aG.get (.cons W9 .nil)) (aH.get .nil) λp=>by kernel_rfl
def aEr:Nat->Option (List R.Item):=λ_=>none
def KA(p:Link×List Link):Option Bool:=if decide ((p.2.length:Int)=0) then some true else (bC (decide ((p.2.length:Int)=1)&& !decide (p.1.5= -1)) (Link.mk 0 0 0 0 0 0) (idx p.2 0)).bind λa=>(bC (decide ((p.2.length:Int)=1)&& !decide (p.1.5= -1)&&decide (p.1.5=a.5)) (Link.mk 0 0 0 0 0 0) (idx p.2 0)).bind λb=>some (decide ((p.2.length:Int)=1)&& !decide (p.1.5= -1)&&decide (p.1.5=a.5)&& !decide (p.1.6=b.6))
def af4:aN Zτ.S:=⟨[.st 1,.list (.st 1)],[.bool],KA⟩
theorem atq:FZ Z.P Zτ 113 af4:=aT (C:=Z) (wr:=false) (T:=(aI [])) (I:=(aJ [])) (sp:=aEr) (aG.get .nil) (aH.get .nil) λp=>by kernel_rfl
abbrev VZ:=List (List Link)
def aHB:Nat->Option (List R.Item):=λi=>match i with|7=>some [⟨[18],.v (.int .i64)⟩,⟨[3],.w (.list (.st 1)) 0⟩]|32=>some []|36=>some [⟨[3],.w (.list (.st 1)) 0⟩]|38=>some [⟨[3],.w (.list (.st 1)) 0⟩]|_=>none
def acz(p:Layout)(q:VZ->Option Int)(n:Int×List (List Link)->Option (Int))(s4:Int×List (List Link)):Option (Int):=if decide (s4.1<(p.4.length:Int)) then au (λ(o:VZ)=>ah (aj (s4.1+1))<|n (s4.1+1,o)) λr=>(idx p.4 s4.1).bind λd=>(acB (p,d)).bind λy=>if !y then some 4 else (Ky d).bind λe=>(Kw e.1).bind λa=>(idx s4.2 a).bind λs=>(Kw e.2).bind λb=>(idx s4.2 b).bind λt=>au (λ(z:Unit)=>(idx s4.2 a).bind λu=>(idx s4.2 a).bind λc=>ah (aS 48 (c++[d]).length)<|ah (decide (a=a))<|(idx s4.2 a).bind λv=>(idx (List.set s4.2 (Int.toNat a) (c++[d])) b).bind λw=>(idx (List.set s4.2 (Int.toNat a) (c++[d])) b).bind λg=>ah (aS 48 (g++[d]).length)<|ah (decide (b=b))<|(idx (List.set s4.2 (Int.toNat a) (c++[d])) b).bind λx=>r ((List.set s4.2 (Int.toNat a) (c++[d])).set (Int.toNat b) (g++[d]))) λf=>if decide (e.1.1=e.2.1)&&(decide (e.1.2=e.2.2)&&true) then some 1 else (idx s4.2 a).bind λi=>(Sr (i,e.1,e.2)).bind λj=>if j then some 5 else (idx s4.2 a).bind λk=>(KA (d,k)).bind λh=>if !h then if !h then some 11 else f PUnit.unit else (idx s4.2 b).bind λl=>(KA (d,l)).bind λm=>if !m then some 11 else f PUnit.unit else q s4.2
def Sn(p:Layout):Option Int:=ah (aj (2*(p.3.length:Int)))<|ah (fE 24 (2*(p.3.length:Int)) (2*(p.3.length:Int)))<|au (λ(b:VZ)=>some 0) λa=>iter (acz p a) FUEL ((0:Int),List.replicate ((2:Int)*(p.3.length:Int)).toNat [])
def c47:aN Zτ.S:=⟨[.st 2],[.int .i64],Sn⟩
theorem auR:FZ Z.P Zτ 47 c47:=aT (C:=Z) (wr:=false) (T:=(aI [(109,c109),(110,NY),(111,af2),(112,af3),(113,af4)])) (I:=(aJ [])) (sp:=aHB) (aG.get (.cons atm (.cons W9 (.cons ato (.cons atp (.cons atq .nil)))))) (aH.get .nil) λp=>by kernel_rfl
abbrev VW:=Int×List Str->Option (Int)
def aFh:Nat->Option (List R.Item):=λi=>match i with|16=>some []|19=>some [⟨[],.v .bool⟩,⟨[],.v .bool⟩,⟨[],.v .bool⟩]|27=>some [⟨[46],.v (.int .i64)⟩,⟨[5],.s .str⟩]|38=>some []|40=>some []|45=>some [⟨[62],.v (.int .i64)⟩,⟨[9],.s .str⟩]|60=>some [⟨[9],.s .str⟩]|_=>none
def acu(p:Layout)(e:List Str->Option Int)(d:VW)(a:Int×List Str):Option (Int):=
 if decide (a.1<(p.3.length:Int)) then (idx p.3 a.1).bind λb=>(Ai b.1).bind λf=>if !f then some 3 else if pE b.1 a.2 then some 5 else (acC (p,b)).bind λc=>if !c then some 4 else ah (aj (a.1+1))<|d (a.1+1,
 match pE b.1 a.2 with
 |true=>a.2
 |false=>a.2++[b.1]) else e a.2
def acr(p:Layout)(b:Unit->Option Int)(d:VW)(bF:Int×List Str):Option (Int):=
 if decide (bF.1<(p.2.length:Int)) then (idx p.2 bF.1).bind λa=>(Ai a).bind λc=>if !c then some 3 else if pE a bF.2 then some 5 else ah (aj (bF.1+1))<|d (bF.1+1,
 match pE a bF.2 with
 |true=>bF.2
 |false=>bF.2++[a]) else b PUnit.unit
def acs(p:Layout)(b:Unit->Option Int)(d:VW)(kG:Int×List Str):Option (Int):=
 if decide (kG.1<(p.1.length:Int)) then (idx p.1 kG.1).bind λa=>(Ai a).bind λc=>if !c then some 3 else if pE a kG.2 then some 5 else ah (aj (kG.1+1))<|d (kG.1+1,
 match pE a kG.2 with
 |true=>kG.2
 |false=>kG.2++[a]) else b PUnit.unit
def uW(p:Layout):Option Int:=au (λ(i:Unit)=>au (λ(j:Unit)=>au (λ(k:List Str)=>(Sn p).bind λh=>some h) λg=>iter (acu p g) FUEL (0,[])) λb=>au (λ(e:Unit)=>ah (aj (0+1))<|au (λ(f:Unit)=>ah (aj (0+1+1))<|b PUnit.unit) λc=>iter (acr p c) FUEL (0,[])) λd=>iter (acs p d) FUEL (0,[])) λa=>if decide (24<(p.1.length:Int)) then if decide (24<(p.1.length:Int)) then some 7 else if decide ((p.3.length:Int)=0) then some 1 else a PUnit.unit else if decide (48<(p.2.length:Int)) then if decide (48<(p.2.length:Int)) then some 7 else if decide ((p.3.length:Int)=0) then some 1 else a PUnit.unit else if decide (96<(p.3.length:Int)) then if decide (96<(p.3.length:Int)) then some 7 else if decide ((p.3.length:Int)=0) then some 1 else a PUnit.unit else if decide (192<(p.4.length:Int)) then some 7 else if decide ((p.3.length:Int)=0) then some 1 else a PUnit.unit
def c17:aN Zτ.S:=⟨[.st 2],[.int .i64],uW⟩
theorem Bo:FZ Z.P Zτ 17 c17:=aT (C:=Z) (wr:=false) (T:=(aI [(46,c46),(47,c47)])) (I:=(aJ [(45,i45)])) (sp:=aFh) (aG.get (.cons auQ (.cons auR .nil))) (aH.get (.cons aBu .nil)) λp=>by kernel_rfl
def aFA:Nat->Option (List R.Item):=λ_=>none
def IW(p:bg):Option (List Step):=ah (aj ((p.1.length:Int)-p.2))<|(sub p.1 0 ((p.1.length:Int)-p.2)).bind λa=>some a
def Xe:aN Zτ.S:=⟨[.st 5],[.list (.st 4)],IW⟩
theorem ags:FZ Z.P Zτ 186 Xe:=aT (C:=Z) (wr:=false) (T:=(aI [])) (I:=(aJ [])) (sp:=aFA) (aG.get .nil) (aH.get .nil) λp=>by kernel_rfl
def aFM:Nat->Option (List R.Item):=λ_=>none
def yP(p:bO):Option Bool:=some (decide (1<=p.2)&&decide (p.2<=40)&&decide (1000<=p.3)&&decide (p.3<=100000)&&decide (100<=p.4)&&decide (p.4<=2000)&&decide (100<=p.5)&&decide (p.5<=2000))
def c203:aN Zτ.S:=⟨[.st 3],[.bool],yP⟩
theorem Xi:FZ Z.P Zτ 203 c203:=aT (C:=Z) (wr:=false) (T:=(aI [])) (I:=(aJ [])) (sp:=aFM) (aG.get .nil) (aH.get .nil) λp=>by kernel_rfl
def aGX:Nat->Option (List R.Item):=λ_=>none
def adL(p:Layout×Step):Option Bool:=some (decide (0<=p.2.1)&&decide (p.2.1<(p.1.3.length:Int))&&(decide (p.2.2=0)||decide (p.2.2=1)))
def agY:aN Zτ.S:=⟨[.st 2,.st 4],[.bool],adL⟩
theorem auo:FZ Z.P Zτ 288 agY:=aT (C:=Z) (wr:=false) (T:=(aI [])) (I:=(aJ [])) (sp:=aGX) (aG.get .nil) (aH.get .nil) λp=>by kernel_rfl
def aHe:Nat->Option (List R.Item):=λ_=>none
def Ll(p:Step):Option yj:=if decide (p.2=0) then some (yj.mk p.1 1) else some (yj.mk p.1 0)
def ag8:aN Zτ.S:=⟨[.st 4],[.st 41],Ll⟩
theorem auB:FZ Z.P Zτ 309 ag8:=aT (C:=Z) (wr:=false) (T:=(aI [])) (I:=(aJ [])) (sp:=aHe) (aG.get .nil) (aH.get .nil) λp=>by kernel_rfl
def aHg:Nat->Option (List R.Item):=λ_=>none
def Sm(p:Step):Option Step:=if decide (p.2=0) then some (Step.mk p.1 1) else some (Step.mk p.1 0)
def ag9:aN Zτ.S:=⟨[.st 4],[.st 4],Sm⟩
theorem auD:FZ Z.P Zτ 310 ag9:=aT (C:=Z) (wr:=false) (T:=(aI [])) (I:=(aJ [])) (sp:=aHg) (aG.get .nil) (aH.get .nil) λp=>by kernel_rfl
abbrev MW:=Option (Int×Bool)
def aGY:Nat->Option (List R.Item):=λi=>match i with|7=>some [⟨[22],.v (.int .i64)⟩]|18=>some []|_=>none
def adP(p:Layout×Step×Step)(c:yj)(d:yj)(f:Unit->MW)(e:Int->MW)(b:Int):MW:=if decide (b<(p.1.4.length:Int)) then (idx p.1.4 b).bind λa=>if decide (a.1=c.1)&&(decide (a.2=c.2)&&true)&&(decide (a.3=d.1)&&(decide (a.4=d.2)&&true))||decide (a.1=d.1)&&(decide (a.2=d.2)&&true)&&(decide (a.3=c.1)&&(decide (a.4=c.2)&&true)) then some (a.5,true) else ah (aj (b+1))<|e (b+1) else f PUnit.unit
def Ua(p:Layout×Step×Step):MW:=(Ll p.2.1).bind λb=>(Sm p.2.2).bind λc=>(Ll c).bind λd=>au (λ(e:Unit)=>some (0,false)) λa=>iter (adP p b d a) FUEL 0
def agZ:aN Zτ.S:=⟨[.st 2,.st 4,.st 4],[.int .i64,.bool],Ua⟩
theorem aup:FZ Z.P Zτ 289 agZ:=aT (C:=Z) (wr:=false) (T:=(aI [(309,ag8),(310,ag9)])) (I:=(aJ [])) (sp:=aGY) (aG.get (.cons auB (.cons auD .nil))) (aH.get .nil) λp=>by kernel_rfl
abbrev asr:=Int->Option (List Int×Int)
abbrev vM:=Option (List Int×Int)
def aGz:Nat->Option (List R.Item):=λi=>match i with|18=>some []|21=>some [⟨[42],.v (.int .i64)⟩]|30=>some []|35=>some [⟨[58],.v (.int .i64)⟩,⟨[8],.k .bool⟩]|46=>some [⟨[8],.k .bool⟩]|51=>some [⟨[11],.o (.int .i64)⟩,⟨[76],.v (.int .i64)⟩]|64=>some [⟨[11],.o (.int .i64)⟩]|_=>none
def adO(p:Layout×bg)(e:List Int->vM)(c:List Step)(d:List Int×Int->vM)(s8:List Int×Int):vM:=if decide (s8.2<(c.length:Int)) then (idx c s8.2).bind λf=>(idx p.2.1 s8.2).bind λb=>(Ua (p.1,b,f)).bind λa=>if !a.2 then some ([],11) else ah (aS 8 (s8.1++[a.1]).length)<|ah (aj (s8.2+1))<|d (s8.1++[a.1],s8.2+1) else e s8.1
def adM(p:Layout×bg)(c:List Bool->vM)(e:Int×List Bool->vM)(a:Int×List Bool):vM:=if decide (a.1<(p.2.1.length:Int)) then (idx p.2.1 a.1).bind λb=>(idx a.2 b.1).bind λf=>(idx a.2 b.1).bind λd=>if d then some ([],5) else (idx a.2 b.1).bind λg=>(idx a.2 b.1).bind λh=>ah (aj (a.1+1))<|e (a.1+1,List.set a.2 b.1.toNat true) else c a.2
def adN(p:Layout×bg)(a:Unit->vM)(d:asr)(s24:Int):vM:=if decide (s24<(p.2.1.length:Int)) then (idx p.2.1 s24).bind λb=>(adL (p.1,b)).bind λc=>if !c then some ([],4) else ah (aj (s24+1))<|d (s24+1) else a PUnit.unit
def T9(p:Layout×bg):vM:=au (λ(h:Unit)=>au (λ(i:Unit)=>ah (fE 1 (p.1.3.length:Int) (p.1.3.length:Int))<|au (λ(j:List Bool)=>au (λ(e:List Int)=>some (e,0)) λf=>(sub p.2.1 1 (p.2.1.length:Int)).bind λg=>iter (adO p f g) FUEL ([],0)) λb=>iter (adM p b) FUEL ((0:Int),List.replicate (p.1.3.length:Int).toNat false)) λc=>iter (adN p c) FUEL 0) λa=>(uW p.1).bind λd=>if !decide (d=0) then some ([],1) else if decide (24<(p.2.1.length:Int)) then if decide (24<(p.2.1.length:Int)) then some ([],7) else if decide (p.2.2<0) then if decide (p.2.2<0) then some ([],4) else a PUnit.unit else ah (aj ((p.2.1.length:Int)-p.2.2))<|if decide ((p.2.1.length:Int)-p.2.2<2) then some ([],4) else a PUnit.unit else if decide (2<p.2.2) then some ([],7) else if decide (p.2.2<0) then if decide (p.2.2<0) then some ([],4) else a PUnit.unit else ah (aj ((p.2.1.length:Int)-p.2.2))<|if decide ((p.2.1.length:Int)-p.2.2<2) then some ([],4) else a PUnit.unit
def agP:aN Zτ.S:=⟨[.st 2,.st 5],[.list (.int .i64),.int .i64],T9⟩
theorem auf:FZ Z.P Zτ 258 agP:=aT (C:=Z) (wr:=false) (T:=(aI [(17,c17),(288,agY),(289,agZ)])) (I:=(aJ [])) (sp:=aGz) (aG.get (.cons Bo (.cons auo (.cons aup .nil)))) (aH.get .nil) λp=>by kernel_rfl
def aFN:Nat->Option (List R.Item):=λ_=>none
def Lj(p:Layout×bg):Option Int:=(T9 (p.1,p.2)).bind λa=>some a.2
def Xj:aN Zτ.S:=⟨[.st 2,.st 5],[.int .i64],Lj⟩
theorem agw:FZ Z.P Zτ 204 Xj:=aT (C:=Z) (wr:=false) (T:=(aI [(258,agP)])) (I:=(aJ [])) (sp:=aFN) (aG.get (.cons auf .nil)) (aH.get .nil) λp=>by kernel_rfl
end
end Go.Z
namespace Go.Proofs
open Go.Dc Go.R Go.RowKit
theorem adW{P:Program}{w:World}(t ty e:TypeId)(i:TypeInfo)(y:P.underlying t=some (.slice e))(hi:P.info? e=some i)(n o l cd:Nat)(b:Array Value)(s:w.heap[n]?=some (.cells b e (0,0)))(p q k c:Nat)(a:List Value)(x:a.length=Nat.min k l*i.size)(d:∀j v,a[j]?=some v->w.cell? ⟨p,q+j,none⟩=some v)(h1:∀u∈a,u.oneCell'=true)(f:o+a.length<=b.size):(Builtin.copy_ #[t,t] ty #[.slice (some ⟨n,o,none⟩) l cd,.slice (some ⟨p,q,none⟩) k c]).run P w= .ok (.int .i64 (Nat.min k l:Nat)) (w.setRow n (b.toList.take o++a++b.toList.drop (o+a.length)).toArray):=by have r:=Dl (P:=P) (w:=w) (size:=i.size) (m:=Nat.min k l) (src:=some ⟨p,q,none⟩) (len:=k) (cap:=c) x λj v h=>⟨rfl,d j v h⟩;have g:=run_storeCells_at P n o e a 0 b w s (by simpa using f) h1;simp only[Nat.add_zero] at g;simp[Builtin.copy_,run_underlying y,sizeOf,typeInfo,hi,Builtin.lenOf,r,g,goInt]
theorem Tryz.mul281(n:Nat)(hn:n<1152921504606846976)(w:World):Calls Tryz.prog 304 #[.int .u64 1,.int .u64 n] w fun e w'=>e= .returned (.tuple #[.int .u64 0,.int .u64 n])∧w'=w:=by
 have h:=Tryz.bits_Mul 1 n (by omega) (by omega) w
 rw[show 1*n / 18446744073709551616=0 by omega,show 1*n % 18446744073709551616=n by omega] at h
 exact h
def rp(l:List Value)(k:Nat):List Value:=(List.replicate k l).flatten
theorem tC(a c1:Int)(k:Nat):(rp [.int .i64 a,.int .i64 c1] k).length=k*2:=by simp[rp]
theorem Uc(l:List Value)(a b:Nat):rp l (a+b)=rp l a++rp l b:=by simp[rp,<-List.replicate_append_replicate]
theorem aDP(c c1:Int){a b:Nat}(h:a<=b):rp [.int .i64 c,.int .i64 c1] a++rp [.int .i64 c,.int .i64 c1] (b-a)=rp [.int .i64 c,.int .i64 c1] b:=by rw[<-Uc];congr 1;omega
theorem aDQ(b c1:Int)(k:Nat):∀u∈rp [.int .i64 b,.int .i64 c1] k,u.oneCell'=true:=by intro u a;obtain⟨l,c,a⟩:=List.mem_flatten.1 a;cases List.eq_of_mem_replicate c;simp at a;rcases a with rfl|rfl<;>rfl
set_option maxHeartbeats 1000000 in
set_option maxRecDepth 100000 in
theorem Tryz.repeat281(b o cap n:Nat)(c0 c1:Int)(w:World)(hn:1≤n)(hb:n≤100000)(h0:w.cell? ⟨b,o,none⟩=some (.int .i64 c0))(h1:w.cell? ⟨b,o+1,none⟩=some (.int .i64 c1)):
  Calls Tryz.prog 281 #[.slice (some ⟨b,o,none⟩) 1 cap,.int .i64 n] w fun e w'=>∃v',e= .returned v'∧w'.ownsRow w.heap.size 418 2 v' n (rp [.int .i64 c0,.int .i64 c1] n)∧Below w.heap.size w w':=by
 have hw:IntKind.u64.wrap (n:Int)=n:=by simp[IntKind.wrap,IntKind.bits,IntKind.signed];omega
 have hw2:IntKind.i64.wrap (n:Int)=n:=by simp[IntKind.wrap,IntKind.bits,IntKind.signed];omega
 have hc:decide (9223372036854775807<(n:Int))=false:=by simp;omega
 have hd:decide ((n:Int)<0)=false:=by simp
 obtain⟨i0,hi0,hz0,hs0,hb0⟩:∃i0,Tryz.prog.info? 418=some i0∧i0.zero=some (.agg #[.int .i64 0,.int .i64 0])∧i0.size=2∧i0.bytes=16:=by
  have h:(Tryz.prog.info? 418).map (fun i=>(i.zero,i.size,i.bytes))=some (some (.agg #[.int .i64 0,.int .i64 0]),2,16):=by kernel_rfl
  cases e:Tryz.prog.info? 418 with
  |none=>rw[e] at h;cases h
  |some i=>rw[e] at h;simp at h;exact⟨i,rfl,h⟩
 go_enter Tryz.func281,Tryz.ntmps281
 go_wp2_with (go_at_call 304;refine (Tryz.mul281 n (by omega) _).mono ?_;rintro e w2 ⟨rfl,hw2⟩;subst w2)
 rw[run_make _ 324 418 i0 _ Tryz.underlying324 hi0 hz0 .i64 .i64 n n (by omega) (by omega) (by rw[hb0];omega) (by omega)]
 simp only[Result.andThen]
 rw[Oper.upon_value]
 generalize hM:madeCells (Value.cells (Value.agg #[Value.int IntKind.i64 0,Value.int IntKind.i64 0])) ((n:Int).toNat*i0.size)=cur
 have hsz:cur.size=n*2:=by rw[←hM,size_madeCells,hs0];simp
 clear hM
 rw[show (n:Int).toNat=n by simp]
 go_wp2
 have hmn:Nat.min 1 n=1:=Nat.min_eq_left hn
 have hold:∀k,k<w.heap.size→(w.alloc (.cells cur 418)).heap[k]?=w.heap[k]?:=fun k hk=>Below.heap_alloc _ _ _ hk
 have hbl:b<w.heap.size:=World.block_lt_of_cell? _ _ h0
 have hnew:(w.alloc (.cells cur 418)).heap[w.heap.size]?=some (.cells cur 418 (0,0)):=heap_alloc_new w _
 have hbel:Below w.heap.size w (w.alloc (.cells cur 418)):=Below.alloc (Below.refl _ _) (Nat.le_refl _) _
 rw[adW 324 3 418 i0 Tryz.underlying324 hi0 w.heap.size 0 n n cur hnew b o 1 cap [.int .i64 c0,.int .i64 c1] (by rw[hs0,hmn];rfl)
  (fun j v h=>by
   rw[World.cell?_of_block (w:=w) (a:=⟨b,o+j,none⟩) (hold b hbl)]
   match j,h with
   |0,h=>cases h;exact h0
   |1,h=>cases h;exact h1)
  (fun u hu=>by simp at hu;rcases hu with rfl|rfl<;>rfl) (by simp;omega)]
 simp only[Result.andThen]
 rw[Oper.upon_value,hmn]
 generalize hw1:(w.alloc (.cells cur 418)).setRow _ _=w1
 have hr0:∃cur,w1.heap[w.heap.size]?=some (.cells cur 418 (0,0))∧cur.size=n*2∧cur.toList.take (1*2)=rp [.int .i64 c0,.int .i64 c1] 1∧Below w.heap.size w w1:=by
  refine⟨_,hw1▸setRow_heap _ _ _ _ _ _ hnew,by simp;omega,by simp[rp],hw1▸below_setRow hbel (Nat.le_refl _) _⟩
 clear hmn hw1 hbel hnew hold hsz hbl h0 h1
 clear cur
 go_wp2
 go_loopg [8] (n-1) (fun g d wr=>∃k:Nat,g=n-k∧1≤k∧k≤n∧d= .int .i64 k∧∃cur,wr.heap[w.heap.size]?=some (.cells cur 418 (0,0))∧cur.size=n*2∧cur.toList.take (k*2)=rp [.int .i64 c0,.int .i64 c1] k∧Below w.heap.size w wr)
 case atStart=>exact⟨1,rfl,by omega,hn,rfl,hr0⟩
 case round=>
  obtain⟨k,hk,hk1,hkn,rfl,cur,hg,hsz,htk,hbel⟩:=hrel
  by_cases hlt:k<n
  ·have hlt':(k:Int)<(n:Int):=by omega
   have hdr:wr.drew.heap[w.heap.size]?=some (.cells cur 418 (0,0)):=hg
   have hbd:Below w.heap.size w wr.drew:=⟨hbel.os,hbel.tape,hbel.output,hbel.size,hbel.block⟩
   have hm1:Nat.min k (n-k)≤k:=Nat.min_le_left _ _
   have hm2:Nat.min k (n-k)≤n-k:=Nat.min_le_right _ _
   have hm0:1≤Nat.min k (n-k):=Nat.le_min.2 ⟨hk1,by omega⟩
   have hcopy:=adW (P:=Tryz.prog) (w:=wr.drew) 324 3 418 i0 Tryz.underlying324 hi0 w.heap.size (k*2) (n-k) (n-k) cur hdr w.heap.size 0 k n (rp [.int .i64 c0,.int .i64 c1] (Nat.min k (n-k))) (by rw[tC,hs0])
    (fun j v h=>by
     have hj:j<(Nat.min k (n-k))*2:=by rw[←tC c0 c1];exact (List.getElem?_eq_some_iff.1 h).1
     have h2:(rp [.int .i64 c0,.int .i64 c1] k)[j]?=some v:=by rw[←aDP c0 c1 hm1,List.getElem?_append_left (by rw[tC];exact hj)];exact h
     rw[←htk,List.getElem?_take,if_pos (by omega)] at h2
     simp only[World.cell?,hdr,Nat.zero_add]
     simpa using h2)
    (aDQ c0 c1 _) (by rw[tC];omega)
   have hsum:IntKind.i64.wrap ((k:Int)+(Nat.min k (n-k):Nat))=(k:Int)+(Nat.min k (n-k):Nat):=by simp[IntKind.wrap,IntKind.bits,IntKind.signed];omega
   have akx:∃cur',(wr.drew.setRow w.heap.size (cur.toList.take (k*2)++rp [.int .i64 c0,.int .i64 c1] (Nat.min k (n-k))++cur.toList.drop (k*2+(rp [.int .i64 c0,.int .i64 c1] (Nat.min k (n-k))).length)).toArray).heap[w.heap.size]?=some (.cells cur' 418 (0,0))∧cur'.size=n*2∧cur'.toList.take ((k+Nat.min k (n-k))*2)=rp [.int .i64 c0,.int .i64 c1] (k+Nat.min k (n-k)):=by
    refine⟨_,setRow_heap _ _ _ _ _ _ hdr,by simp[tC];omega,?_⟩
    rw[htk,List.take_append_of_le_length (by simp[tC];omega),Uc,List.take_of_length_le (by simp[tC];omega)]
   have hb2:=below_setRow hbd (Nat.le_refl w.heap.size) (cur.toList.take (k*2)++rp [.int .i64 c0,.int .i64 c1] (Nat.min k (n-k))++cur.toList.drop (k*2+(rp [.int .i64 c0,.int .i64 c1] (Nat.min k (n-k))).length)).toArray
   generalize wr.drew.setRow w.heap.size _=w3 at hcopy akx hb2
   generalize Nat.min k (n-k)=m at*
   clear htk hdr hbd hg hbel
   go_wp2
   go_region
   go_wp2
   go_roundg (n-(k+m))
   case rel=>exact⟨k+m,rfl,by omega,by omega,by simp,akx.imp fun _ h=>⟨h.1,h.2.1,h.2.2,hb2⟩⟩
   case measure=>omega
  ·have hlt':¬(k:Int)<(n:Int):=by omega
   have:k=n:=by omega
   subst this
   go_wp2
   go_ret
   exact⟨_,rfl,⟨tC _ _ _,.inr ⟨_,k,cur,rfl,Nat.le_refl _,hg,Nat.le_refl _,by unfold maxLen;omega,hsz,htk⟩⟩,hbel⟩
end Go.Proofs
namespace Go.Z
open Go Go.Proofs Go.Dc Go.R
noncomputable def aaL:aL Zτ.S:=⟨fun vs s K=>match vs with
 |[v,.i .i64 n]=>match Uv Z s (.st 37) v with
  |some [c]=>ah (decide (1≤n∧n≤100000)) (K (.o s.nx) (s.newL Z none (.st 37) (List.replicate n.toNat c)))
  |_=>none
 |_=>none,true⟩
theorem aBh:aF Z 281 aaL:=by
 intro β y vs s K h κ M w ρ gu hcs hrg
 unfold aaL at h
 simp only at h
 split at h
 ·rename_i v n
  split at h
  ·rename_i c hxs
   obtain⟨hok,hK⟩:=jZ h
   have hok:=of_decide_eq_true hok
   obtain⟨n,rfl⟩:∃k:Nat,n=k:=⟨n.toNat,by omega⟩
   obtain⟨x,z,rfl⟩:∃x z,gu=[x,z]:=by
    match gu,hrg.1 with
    |[x,z],_=>exact⟨x,z,rfl⟩
   have hz:z= .int .i64 n:=by
    have:=hrg.2 1 (.i .i64 n) z rfl rfl
    cases this with
    |v h=>cases h;rfl
   subst hz
   obtain⟨ad,cap,us,rfl,hnil,h2,h3⟩:=aqj hcs hxs (hrg.2 0 v x rfl rfl)
   have e0:us 0 0= .int .i64 c.1:=by
    have:=h3 0 c rfl 0 (.i .i64 c.1) rfl
    generalize us 0 0=q at this
    cases this;rfl
   have e1:us 0 1= .int .i64 c.2:=by
    have:=h3 0 c rfl 1 (.i .i64 c.2) rfl
    generalize us 0 1=q at this
    cases this;rfl
   have a0:=h2 0 c rfl 0 (by decide)
   have a1:=h2 0 c rfl 1 (by decide)
   rw[e0] at a0
   rw[e1] at a1
   have ha:=a0.1
   generalize sb ad=b at*
   generalize so ad=o at*
   subst ha
   rw[show n=(n:Int).toNat by simp] at hK
   refine (Tryz.repeat281 b o cap n c.1 c.2 w (by omega) (by omega) a0.2 a1.2).mono ?_
   rintro e w' ⟨v',rfl,hown,hb⟩
   have hrow:Row Zτ M ρ (.st 37) (List.replicate n c) (fun j=>(rp [.int .i64 c.1,.int .i64 c.2] n)[j]?):=by
    intro i x hi j u hu
    obtain⟨hin,rfl⟩:i<n∧x=c:=by
     rw[List.getElem?_replicate] at hi
     split at hi
     ·cases hi;exact⟨by assumption,rfl⟩
     ·cases hi
    have hq:∀j,j<2→(rp [Value.int .i64 x.1,.int .i64 x.2] n)[i*2+j]?=[Value.int .i64 x.1,.int .i64 x.2][j]?:=by
     intro j hj
     rw[show n=i+(1+(n-i-1)) by omega,Uc,Uc,List.getElem?_append_right (by rw[tC];omega),tC,List.getElem?_append_left (by rw[tC];omega)]
     rw[show i*2+j-i*2=j by omega]
     rfl
    match j,hu with
    |0,hu=>cases hu;exact⟨_,hq 0 (by omega),.i⟩
    |1,hu=>cases hu;exact⟨_,hq 1 (by omega),.i⟩
   obtain⟨M',l,rfl,hle,hcs'⟩:=ahH (C:=Z) (c:= .st 37) (xs:=List.replicate n c) hcs hb ⟨by decide,by kernel_rfl⟩ (by rw[List.length_replicate];exact hown) hrow (by rw[List.length_replicate];omega)
   refine⟨_,_,s.newL Z none (.st 37) (List.replicate n c),M',ρ++[l],rfl,by simpa using hK,⟨rfl,rfl,fun t=>rfl⟩,hle,hcs',.v (.o ?_)⟩
   rw[←hcs.len];simp
  ·cases h
 ·cases h
end Go.Z
namespace Go.Z
open Go Go.Proofs Go.Dc Go.R
set_option maxRecDepth 100000
noncomputable section
abbrev MU:=Option (List Cell×Int×Int)
def aGu:Nat->Option (List R.Item):=λi=>match i with|13=>some [⟨[8],.o (.st 37)⟩,⟨[29],.v (.int .i64)⟩]|24=>some [⟨[12,1],.v (.int .i64)⟩]|26=>some [⟨[8],.o (.st 37)⟩]|28=>some [⟨[8],.o (.st 37)⟩]|_=>none
def adK(p:Layout×bg)(i:List Cell->MU)(f:List Step)(g:List Cell×Int->MU)(s8:List Cell×Int):MU:=if decide (s8.2<(f.length:Int)) then au (λ(h:List Cell)=>ah (aj (s8.2+1))<|g (h,s8.2+1)) λe=>(idx f s8.2).bind λd=>(idx p.1.3 d.1).bind λa=>au (λ(b:Int)=>ah (decide (1<=a.2/\a.2<=100000))<|ah (aS (16:Nat) (s8.1++List.replicate a.2.toNat (Cell.mk a.3 b)).length)<|e (s8.1++List.replicate a.2.toNat (Cell.mk a.3 b))) λc=>if decide (d.2=1) then ah (aj (-a.4))<|c (-a.4) else c a.4 else i s8.1
def TY(p:Layout×bg):MU:=(Lj (p.1,p.2)).bind λb=>if !decide (b=0) then some ([],0,b) else au (λ(a:List Cell)=>if decide (4000<(a.length:Int)) then some ([],0,7) else (idx p.2.1 0).bind λd=>(idx p.1.3 d.1).bind λe=>some (a,e.2,0)) λc=>ah (aj ((p.2.1.length:Int)-p.2.2))<|(sub p.2.1 0 ((p.2.1.length:Int)-p.2.2)).bind λf=>iter (adK p c f) FUEL ([],0)
def agL:aN Zτ.S:=⟨[.st 2,.st 5],[.list (.st 37),.int .i64,.int .i64],TY⟩
theorem aua:FZ Z.P Zτ 245 agL:=aT (C:=Z) (wr:=false) (T:=(aI [(204,Xj)])) (I:=(aJ [(281,aaL)])) (sp:=aGu) (aG.get (.cons agw .nil)) (aH.get (.cons aBh .nil)) λp=>by kernel_rfl
abbrev MN:=Option (vI×Int)
abbrev afq:=List Cell×Int
def aFy:Nat->Option (List R.Item):=λi=>match i with|15=>some [⟨[31],.v (.int .i64)⟩,⟨[6,0],.v (.list (.st 37))⟩,⟨[6,1],.v (.int .i64)⟩]|24=>some [⟨[6,0],.v (.list (.st 37))⟩,⟨[6,1],.v (.int .i64)⟩]|_=>none
def WT(p:Layout×bg×bO)(d:afq->MN)(b:List Step)(c:Int×List Cell×Int->MN)(a:Int×List Cell×Int):MN:=if decide (a.1<(b.length:Int)) then (idx b a.1).bind λe=>(idx p.1.3 e.1).bind λf=>if decide (f.2<max 2 p.2.2.2) then some (vI.mk [] 0,12) else ah (aj (a.1+1))<|c (a.1+1,a.2.1,a.2.2) else d (a.2.1,a.2.2)
def IU(p:Layout×bg×bO):MN:=(TY (p.1,p.2.1)).bind λa=>if !decide (a.2.2=0) then some (vI.mk [] 0,a.2.2) else (yP p.2.2).bind λc=>if !c then some (vI.mk [] 0,1) else au (λ(e:afq)=>some (vI.mk a.1 a.2.1,0)) λb=>(IW p.2.1).bind λd=>iter (WT p b d) FUEL (0,[],Int.ofNat 0)
def Xd:aN Zτ.S:=⟨[.st 2,.st 5,.st 3],[.st 38,.int .i64],IU⟩
theorem agq:FZ Z.P Zτ 184 Xd:=aT (C:=Z) (wr:=false) (T:=(aI [(245,agL),(203,c203),(186,Xe)])) (I:=(aJ [])) (sp:=aFy) (aG.get (.cons aua (.cons Xi (.cons ags .nil)))) (aH.get .nil) λp=>by kernel_rfl
def aGh:Nat->Option (List R.Item):=λ_=>none
def IQ(p:Layout×bg×bO):Option Int:=(IU (p.1,p.2.1,p.2.2)).bind λa=>some a.2
def c233:aN Zτ.S:=⟨[.st 2,.st 5,.st 3],[.int .i64],IQ⟩
theorem agE:FZ Z.P Zτ 233 c233:=aT (C:=Z) (wr:=false) (T:=(aI [(184,Xd)])) (I:=(aJ [])) (sp:=aGh) (aG.get (.cons agq .nil)) (aH.get .nil) λp=>by kernel_rfl
def aEB:Nat->Option (List R.Item):=λi=>match i with|22=>some []|25=>some [⟨[43],.v (.int .i64)⟩]|34=>some []|_=>none
def adr(p:Layout×Plan)(c:Unit->Option Int)(b:Int->Option (Int))(a:Int):Option (Int):=if decide (a<(p.2.4.length:Int)) then (idx p.2.4 a).bind λd=>if decide (12<(d.4.length:Int)) then some 7 else ah (aj (a+1))<|b (a+1) else c PUnit.unit
def TA(p:Layout×Plan):Option Int:=au (λ(d:Unit)=>au (λ(e:Unit)=>if decide (p.2.1<2)||decide (7200<p.2.1) then some 4 else some 0) λb=>iter (adr p b) FUEL 0) λa=>(uW p.1).bind λc=>if !decide (c=0) then some 1 else if decide (8<(p.2.2.length:Int)) then if decide (8<(p.2.2.length:Int)) then some 7 else a PUnit.unit else if decide (48<(p.2.3.length:Int)) then if decide (48<(p.2.3.length:Int)) then some 7 else a PUnit.unit else if decide (16<(p.2.4.length:Int)) then if decide (16<(p.2.4.length:Int)) then some 7 else a PUnit.unit else if decide (32<(p.2.5.length:Int)) then if decide (32<(p.2.5.length:Int)) then some 7 else a PUnit.unit else if decide (32<(p.2.6.length:Int)) then if decide (32<(p.2.6.length:Int)) then some 7 else a PUnit.unit else if decide (32<(p.2.7.length:Int)) then if decide (32<(p.2.7.length:Int)) then some 7 else a PUnit.unit else if decide (32<(p.2.8.length:Int)) then some 7 else a PUnit.unit
def c131:aN Zτ.S:=⟨[.st 2,.st 12],[.int .i64],TA⟩
theorem att:FZ Z.P Zτ 131 c131:=aT (C:=Z) (wr:=false) (T:=(aI [(17,c17)])) (I:=(aJ [])) (sp:=aEB) (aG.get (.cons Bo .nil)) (aH.get .nil) λp=>by kernel_rfl
end
end Go.Z
