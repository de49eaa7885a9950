/- Several parts of the engine, one behind the other. -/
import Derived.Test.YtlbfmjolchehbaaGreatDoorMoa
set_option linter.all false
namespace Go.Z
open Go Go.Proofs Go.Dc Go.R
set_option maxRecDepth 100000
noncomputable section
def aFL:Nat->Option (List R.Item):=λ_=>none
def QM:aL Zτ.S:=aL.rd<|inl Z false (aI []) (aJ []) aFL 202
theorem aaB:aF Z 202 QM:=aF.rd (C:=Z)<|bf (aG.get .nil) (aH.get .nil)
def aF9:Nat->Option (List R.Item):=λi=>match i with|5=>some [⟨[8],.v (.int .i64)⟩]|14=>some []|_=>none
def alq:aL Zτ.S:=aL.rd<|inl Z false (aI []) (aJ [(202,QM)]) aF9 228
theorem aA0:aF Z 228 alq:=aF.rd (C:=Z)<|bf (aG.get .nil) (aH.get (.cons aaB .nil))
def aFK:Nat->Option (List R.Item):=λ_=>none
def alh:aL Zτ.S:=aL.rd<|inl Z false (aI []) (aJ [(228,alq),(202,QM)]) aFK 201
theorem aAS:aF Z 201 alh:=aF.rd (C:=Z)<|bf (aG.get .nil) (aH.get (.cons aA0 (.cons aaB .nil)))
def aEC:Nat->Option (List R.Item):=λi=>match i with|5=>some [⟨[10],.v (.int .i64)⟩]|22=>some []|_=>none
def apt(f:Int->Option Int)(s4:Int)(d:bO)(e:List bO)(a:Unit->Option Int)(g:Int->Option (Int))(s13:Int):Option (Int):=if decide (s13<(e.length:Int)) then (idx e s13).bind λb=>if decide (b.1=d.1) then if decide (0<=s13) then some 5 else (yP d).bind λc=>if !c then some 4 else ah (aj (s4+1))<|f (s4+1) else ah (aj (s13+1))<|g (s13+1) else a PUnit.unit
def aps(p:Layout×Plan)(d:Unit->Option Int)(c:Int->Option (Int))(s4:Int):Option (Int):=if decide (s4<(p.2.2.length:Int)) then (idx p.2.2 s4).bind λb=>(Ai b.1).bind λe=>if !e then some 3 else (sub p.2.2 0 s4).bind λf=>au (λ(h:Unit)=>(yP b).bind λg=>if !g then some 4 else ah (aj (s4+1))<|c (s4+1)) λa=>iter (apt c s4 b f a) FUEL 0 else d PUnit.unit
def TB(p:Layout×Plan):Option Int:=au (λ(b:Unit)=>some 0) λa=>iter (aps p a) FUEL 0
def af8:aN Zτ.S:=⟨[.st 2,.st 12],[.int .i64],TB⟩
theorem atu:FZ Z.P Zτ 132 af8:=aT (C:=Z) (wr:=false) (T:=(aI [(108,NW),(203,c203)])) (I:=(aJ [(201,alh),(202,QM)])) (sp:=aEC) (aG.get (.cons WZ (.cons Xi .nil))) (aH.get (.cons aAS (.cons aaB .nil))) λp=>by kernel_rfl
def aED:Nat->Option (List R.Item):=λi=>match i with|5=>some [⟨[11],.v (.int .i64)⟩]|16=>some []|_=>none
def apr(p:Layout×Plan)(c:Unit->Option Int)(b:Int->Option (Int))(s4:Int):Option (Int):=if decide (s4<(p.2.3.length:Int)) then (idx p.2.3 s4).bind λd=>(Lj (p.1,d)).bind λa=>if !decide (a=0) then some a else ah (aj (s4+1))<|b (s4+1) else c PUnit.unit
def Tz(p:Layout×Plan):Option Int:=au (λ(b:Unit)=>some 0) λa=>iter (apr p a) FUEL 0
def af9:aN Zτ.S:=⟨[.st 2,.st 12],[.int .i64],Tz⟩
theorem atv:FZ Z.P Zτ 133 af9:=aT (C:=Z) (wr:=false) (T:=(aI [(204,Xj)])) (I:=(aJ [])) (sp:=aED) (aG.get (.cons agw .nil)) (aH.get .nil) λp=>by kernel_rfl
def aFQ:Nat->Option (List R.Item):=λ_=>none
def Da(p:Int):Option Bool:=some (decide (0<=p)&&decide (p<=1048576))
def Xk:aN Zτ.S:=⟨[.int .i64],[.bool],Da⟩
theorem agx:FZ Z.P Zτ 207 Xk:=aT (C:=Z) (wr:=false) (T:=(aI [])) (I:=(aJ [])) (sp:=aFQ) (aG.get .nil) (aH.get .nil) λp=>by kernel_rfl
def aFT:Nat->Option (List R.Item):=λ_=>none
def Gm(p:Plan×Int×Int):Option Bool:=ah (!(decide (0<=p.2.1)&&decide (p.2.1<=p.2.2)&&decide (p.2.2<=7200))||aj (p.2.1+p.1.1))<|some (decide (0<=p.2.1)&&decide (p.2.1<=p.2.2)&&decide (p.2.2<=7200)&&decide (p.2.2<p.2.1+p.1.1))
def c210:aN Zτ.S:=⟨[.st 12,.int .i64,.int .i64],[.bool],Gm⟩
theorem Xm:FZ Z.P Zτ 210 c210:=aT (C:=Z) (wr:=false) (T:=(aI [])) (I:=(aJ [])) (sp:=aFT) (aG.get .nil) (aH.get .nil) λp=>by kernel_rfl
def aFU:Nat->Option (List R.Item):=λ_=>none
def zU(p:Plan×gL):Option Int:=(idx p.1.3 p.2.1).bind λa=>(idx p.1.3 p.2.1).bind λb=>ah (aj ((a.1.length:Int)-b.2))<|ah (aj ((a.1.length:Int)-b.2-1))<|(idx a.1 ((a.1.length:Int)-b.2-1)).bind λc=>some c.1
def Oc:aN Zτ.S:=⟨[.st 12,.st 6],[.int .i64],zU⟩
theorem Xn:FZ Z.P Zτ 211 Oc:=aT (C:=Z) (wr:=false) (T:=(aI [])) (I:=(aJ [])) (sp:=aFU) (aG.get .nil) (aH.get .nil) λp=>by kernel_rfl
def aFV:Nat->Option (List R.Item):=λ_=>none
def zT(p:Plan×gL):Option Int:=(idx p.1.3 p.2.1).bind λa=>(idx a.1 0).bind λb=>some b.1
def c212:aN Zτ.S:=⟨[.st 12,.st 6],[.int .i64],zT⟩
theorem Xo:FZ Z.P Zτ 212 c212:=aT (C:=Z) (wr:=false) (T:=(aI [])) (I:=(aJ [])) (sp:=aFV) (aG.get .nil) (aH.get .nil) λp=>by kernel_rfl
def aFR:Nat->Option (List R.Item):=λi=>match i with|18=>some []|_=>none
def Tw(p:Layout×Plan×Line×Int):Option Int:=(idx p.2.2.1.4 p.2.2.2).bind λa=>au (λ(j:Unit)=>(idx p.2.1.3 a.1).bind λe=>(idx p.2.1.2 p.2.2.1.2).bind λf=>(IQ (p.1,e,f)).bind λc=>if !decide (c=0) then some c else ah (!decide (0<p.2.2.2)||aj (p.2.2.2-1))<|(bC (decide (0<p.2.2.2)) (gL.mk 0 0 0 0) (idx p.2.2.1.4 (p.2.2.2-1))).bind λg=>(bC (decide (0<p.2.2.2)) 0 (zT (p.2.1,a))).bind λh=>(bC (decide (0<p.2.2.2)) 0 (zU (p.2.1,g))).bind λi=>if decide (0<p.2.2.2)&& !decide (h=i) then some 11 else some 0) λb=>if decide (a.1<0) then if decide (a.1<0) then some 4 else b PUnit.unit else if decide ((p.2.1.3.length:Int)<=a.1) then if decide ((p.2.1.3.length:Int)<=a.1) then some 4 else b PUnit.unit else if decide (a.2<0) then if decide (a.2<0) then some 4 else b PUnit.unit else if decide (p.2.1.1<=a.2) then if decide (p.2.1.1<=a.2) then some 4 else b PUnit.unit else (Gm (p.2.1,a.3,a.4)).bind λd=>if !d then if !d then some 4 else b PUnit.unit else ah (aj ((p.2.2.1.4.length:Int)-1))<|if decide (p.2.2.2=(p.2.2.1.4.length:Int)-1)&&(!decide (a.3=0)|| !decide (a.4=0)) then some 4 else b PUnit.unit
def c208:aN Zτ.S:=⟨[.st 2,.st 12,.st 7,.int .i64],[.int .i64],Tw⟩
theorem atW:FZ Z.P Zτ 208 c208:=aT (C:=Z) (wr:=false) (T:=(aI [(210,c210),(233,c233),(212,c212),(211,Oc)])) (I:=(aJ [])) (sp:=aFR) (aG.get (.cons Xm (.cons agE (.cons Xo (.cons Xn .nil))))) (aH.get .nil) λp=>by kernel_rfl
abbrev MI:=Unit->Option Int
def aFP:Nat->Option (List R.Item):=λ_=>none
def QN:aL Zτ.S:=aL.rd<|inl Z false (aI []) (aJ []) aFP 206
theorem aaC:aF Z 206 QN:=aF.rd (C:=Z)<|bf (aG.get .nil) (aH.get .nil)
def aGe:Nat->Option (List R.Item):=λi=>match i with|5=>some [⟨[8],.v (.int .i64)⟩]|14=>some []|_=>none
def alu:aL Zτ.S:=aL.rd<|inl Z false (aI []) (aJ [(206,QN)]) aGe 231
theorem aA2:aF Z 231 alu:=aF.rd (C:=Z)<|bf (aG.get .nil) (aH.get (.cons aaC .nil))
def aFO:Nat->Option (List R.Item):=λ_=>none
def ali:aL Zτ.S:=aL.rd<|inl Z false (aI []) (aJ [(231,alu),(206,QN)]) aFO 205
theorem aAT:aF Z 205 ali:=aF.rd (C:=Z)<|bf (aG.get .nil) (aH.get (.cons aA2 (.cons aaC .nil)))
def aEE:Nat->Option (List R.Item):=λi=>match i with|5=>some [⟨[12],.v (.int .i64)⟩]|28=>some []|31=>some [⟨[51],.v (.int .i64)⟩]|42=>some []|44=>some []|_=>none
def apq(p:Layout×Plan)(d:MI)(b:Line)(c:Int->Option (Int))(s11:Int):Option (Int):=if decide (s11<(b.4.length:Int)) then (Tw (p.1,p.2,b,s11)).bind λa=>if !decide (a=0) then some a else ah (aj (s11+1))<|c (s11+1) else d PUnit.unit
def apo(p:Layout×Plan)(a:Line)(b:MI)(d:List Line)(e:MI)(h:Int->Option (Int))(c:Int):Option (Int):=if decide (c<(d.length:Int)) then (idx d c).bind λf=>if decide (f.1=a.1) then if decide (0<=c) then some 5 else if decide (a.2<0) then if decide (a.2<0) then some 4 else if decide ((a.4.length:Int)=0) then some 1 else b PUnit.unit else if decide ((p.2.2.length:Int)<=a.2) then if decide ((p.2.2.length:Int)<=a.2) then some 4 else if decide ((a.4.length:Int)=0) then some 1 else b PUnit.unit else (Da a.3).bind λg=>if !g then some 4 else if decide ((a.4.length:Int)=0) then some 1 else b PUnit.unit else ah (aj (c+1))<|h (c+1) else e PUnit.unit
def apn(p:Layout×Plan)(h:MI)(g:Int->Option (Int))(s4:Int):Option (Int):=if decide (s4<(p.2.4.length:Int)) then au (λ(j:Unit)=>ah (aj (s4+1))<|g (s4+1)) λi=>(idx p.2.4 s4).bind λa=>au (λ(k:Unit)=>iter (apq p i a) FUEL 0) λb=>(Ai a.1).bind λd=>if !d then some 3 else (sub p.2.4 0 s4).bind λe=>au (λ(l:Unit)=>if decide (a.2<0) then if decide (a.2<0) then some 4 else if decide ((a.4.length:Int)=0) then some 1 else b PUnit.unit else if decide ((p.2.2.length:Int)<=a.2) then if decide ((p.2.2.length:Int)<=a.2) then some 4 else if decide ((a.4.length:Int)=0) then some 1 else b PUnit.unit else (Da a.3).bind λf=>if !f then some 4 else if decide ((a.4.length:Int)=0) then some 1 else b PUnit.unit) λc=>iter (apo p a b e c) FUEL 0 else h PUnit.unit
def Tv(p:Layout×Plan):Option Int:=au (λ(b:Unit)=>some 0) λa=>iter (apn p a) FUEL 0
def aga:aN Zτ.S:=⟨[.st 2,.st 12],[.int .i64],Tv⟩
theorem atw:FZ Z.P Zτ 134 aga:=aT (C:=Z) (wr:=false) (T:=(aI [(108,NW),(207,Xk),(208,c208)])) (I:=(aJ [(205,ali),(206,QN)])) (sp:=aEE) (aG.get (.cons WZ (.cons agx (.cons atW .nil)))) (aH.get (.cons aAT (.cons aaC .nil))) λp=>by kernel_rfl
def aFW:Nat->Option (List R.Item):=λ_=>none
def Gn(p:Plan×Int):Option Bool:=some (decide (0<=p.2)&&decide (p.2<(p.1.4.length:Int)))
def c213:aN Zτ.S:=⟨[.st 12,.int .i64],[.bool],Gn⟩
theorem agz:FZ Z.P Zτ 213 c213:=aT (C:=Z) (wr:=false) (T:=(aI [])) (I:=(aJ [])) (sp:=aFW) (aG.get .nil) (aH.get .nil) λp=>by kernel_rfl
def aFS:Nat->Option (List R.Item):=λ_=>none
def C9(p:Plan×Int×Int):Option Bool:=(Gn (p.1,p.2.1)).bind λa=>(bC (a&&decide (0<=p.2.2)) (Line.mk (Str.mk []) 0 0 []) (idx p.1.4 p.2.1)).bind λb=>some (a&&decide (0<=p.2.2)&&decide (p.2.2<(b.4.length:Int)))
def Xl:aN Zτ.S:=⟨[.st 12,.int .i64,.int .i64],[.bool],C9⟩
theorem agy:FZ Z.P Zτ 209 Xl:=aT (C:=Z) (wr:=false) (T:=(aI [(213,c213)])) (I:=(aJ [])) (sp:=aFS) (aG.get (.cons agz .nil)) (aH.get .nil) λp=>by kernel_rfl
def aEF:Nat->Option (List R.Item):=λi=>match i with|5=>some [⟨[12],.v (.int .i64)⟩]|22=>some []|_=>none
def apl(p:Layout×Plan)(n:Unit->Option Int)(m:Int->Option (Int))(s4:Int):Option (Int):=if decide (s4<(p.2.5.length:Int)) then (idx p.2.5 s4).bind λa=>(C9 (p.2,a.1,a.2)).bind λc=>(bC (!!c) false (C9 (p.2,a.3,a.4))).bind λk=>(bC (!(!c|| !k||decide (a.1=a.3))) false (Gm (p.2,a.5,a.6))).bind λl=>(bC (!(!c|| !k||decide (a.1=a.3)|| !l)) false (Da a.7)).bind λo=>if !c|| !k||decide (a.1=a.3)|| !l|| !o then some 4 else (idx p.2.4 a.1).bind λd=>(idx d.4 a.2).bind λe=>(zU (p.2,e)).bind λf=>(idx p.1.3 f).bind λb=>(idx p.2.4 a.3).bind λg=>(idx g.4 a.4).bind λh=>(zT (p.2,h)).bind λi=>(idx p.1.3 i).bind λj=>if decide (b.5= -1)|| !decide (b.5=j.5) then some 11 else ah (aj (s4+1))<|m (s4+1) else n PUnit.unit
def Tq(p:Layout×Plan):Option Int:=au (λ(b:Unit)=>some 0) λa=>iter (apl p a) FUEL 0
def agb:aN Zτ.S:=⟨[.st 2,.st 12],[.int .i64],Tq⟩
theorem atx:FZ Z.P Zτ 135 agb:=aT (C:=Z) (wr:=false) (T:=(aI [(209,Xl),(210,c210),(207,Xk),(211,Oc),(212,c212)])) (I:=(aJ [])) (sp:=aEF) (aG.get (.cons agy (.cons Xm (.cons agx (.cons Xn (.cons Xo .nil)))))) (aH.get .nil) λp=>by kernel_rfl
def aFY:Nat->Option (List R.Item):=λ_=>none
def QO:aL Zτ.S:=aL.rd<|inl Z false (aI []) (aJ []) aFY 215
theorem aaD:aF Z 215 QO:=aF.rd (C:=Z)<|bf (aG.get .nil) (aH.get .nil)
def aGA:Nat->Option (List R.Item):=λi=>match i with|5=>some [⟨[8],.v (.int .i64)⟩]|14=>some []|_=>none
def alC:aL Zτ.S:=aL.rd<|inl Z false (aI []) (aJ [(215,QO)]) aGA 259
theorem aA8:aF Z 259 alC:=aF.rd (C:=Z)<|bf (aG.get .nil) (aH.get (.cons aaD .nil))
def aFX:Nat->Option (List R.Item):=λ_=>none
def alk:aL Zτ.S:=aL.rd<|inl Z false (aI []) (aJ [(259,alC),(215,QO)]) aFX 214
theorem aAU:aF Z 214 alk:=aF.rd (C:=Z)<|bf (aG.get .nil) (aH.get (.cons aA8 (.cons aaD .nil)))
def aEG:Nat->Option (List R.Item):=λi=>match i with|5=>some [⟨[12],.v (.int .i64)⟩]|24=>some []|_=>none
def apw(p:Layout×Plan)(m:Int->Option Int)(s4:Int)(e:Turn)(k:List Turn)(f:Unit->Option Int)(l:Int->Option (Int))(a:Int):Option (Int):=if decide (a<(k.length:Int)) then (idx k a).bind λc=>if decide (c.1=e.1)||decide (c.2=e.2) then if decide (0<=a) then some 5 else (idx p.2.4 e.1).bind λb=>(idx p.2.4 e.2).bind λd=>ah (aj ((b.4.length:Int)-1))<|(idx b.4 ((b.4.length:Int)-1)).bind λg=>(idx d.4 0).bind λh=>(zU (p.2,g)).bind λi=>(zT (p.2,h)).bind λj=>if !decide (i=j)|| !decide (b.2=d.2) then some 11 else ah (aj (s4+1))<|m (s4+1) else ah (aj (a+1))<|l (a+1) else f PUnit.unit
def apv(p:Layout×Plan)(m:Unit->Option Int)(j:Int->Option (Int))(s4:Int):Option (Int):=if decide (s4<(p.2.6.length:Int)) then (idx p.2.6 s4).bind λb=>(Gn (p.2,b.1)).bind λi=>(bC (!!i) false (Gn (p.2,b.2))).bind λk=>(bC (!(!i|| !k)) false (Gm (p.2,b.3,b.4))).bind λn=>if !i|| !k|| !n then some 4 else (sub p.2.6 0 s4).bind λo=>au (λ(l:Unit)=>(idx p.2.4 b.1).bind λa=>(idx p.2.4 b.2).bind λc=>ah (aj ((a.4.length:Int)-1))<|(idx a.4 ((a.4.length:Int)-1)).bind λe=>(idx c.4 0).bind λf=>(zU (p.2,e)).bind λg=>(zT (p.2,f)).bind λh=>if !decide (g=h)|| !decide (a.2=c.2) then some 11 else ah (aj (s4+1))<|j (s4+1)) λd=>iter (apw p j s4 b o d) FUEL 0 else m PUnit.unit
def TF(p:Layout×Plan):Option Int:=au (λ(b:Unit)=>some 0) λa=>iter (apv p a) FUEL 0
def agc:aN Zτ.S:=⟨[.st 2,.st 12],[.int .i64],TF⟩
theorem aty:FZ Z.P Zτ 136 agc:=aT (C:=Z) (wr:=false) (T:=(aI [(213,c213),(210,c210),(211,Oc),(212,c212)])) (I:=(aJ [(214,alk),(215,QO)])) (sp:=aEG) (aG.get (.cons agz (.cons Xm (.cons Xn (.cons Xo .nil))))) (aH.get (.cons aAU (.cons aaD .nil))) λp=>by kernel_rfl
def aEH:Nat->Option (List R.Item):=λi=>match i with|5=>some [⟨[10],.v (.int .i64)⟩]|14=>some []|_=>none
def apu(p:Layout×Plan)(d:Unit->Option Int)(c:Int->Option (Int))(s4:Int):Option (Int):=if decide (s4<(p.2.7.length:Int)) then (idx p.2.7 s4).bind λa=>(C9 (p.2,a.1,a.2)).bind λb=>(bC (!!b) false (C9 (p.2,a.3,a.4))).bind λe=>if !b|| !e||decide (a.1=a.3)&&decide (a.2=a.4)||decide (a.5<0)||decide (p.2.1<=a.5) then some 4 else ah (aj (s4+1))<|c (s4+1) else d PUnit.unit
def TD(p:Layout×Plan):Option Int:=au (λ(b:Unit)=>some 0) λa=>iter (apu p a) FUEL 0
def agd:aN Zτ.S:=⟨[.st 2,.st 12],[.int .i64],TD⟩
theorem atz:FZ Z.P Zτ 137 agd:=aT (C:=Z) (wr:=false) (T:=(aI [(209,Xl)])) (I:=(aJ [])) (sp:=aEH) (aG.get (.cons agy .nil)) (aH.get .nil) λp=>by kernel_rfl
def aEI:Nat->Option (List R.Item):=λi=>match i with|5=>some [⟨[10],.v (.int .i64)⟩]|14=>some []|_=>none
def apm(p:Layout×Plan)(c:Unit->Option Int)(b:Int->Option (Int))(s4:Int):Option (Int):=if decide (s4<(p.2.8.length:Int)) then (idx p.2.8 s4).bind λa=>if decide (a.1<0)||decide ((p.1.1.length:Int)<=a.1)||decide (a.2<0)||decide ((p.1.1.length:Int)<=a.2)||decide (a.1=a.2)||decide (a.3<1)||decide (1048576<a.3) then some 4 else ah (aj (s4+1))<|b (s4+1) else c PUnit.unit
def Tt(p:Layout×Plan):Option Int:=au (λ(b:Unit)=>some 0) λa=>iter (apm p a) FUEL 0
def c138:aN Zτ.S:=⟨[.st 2,.st 12],[.int .i64],Tt⟩
theorem atA:FZ Z.P Zτ 138 c138:=aT (C:=Z) (wr:=false) (T:=(aI [])) (I:=(aJ [])) (sp:=aEI) (aG.get .nil) (aH.get .nil) λp=>by kernel_rfl
def aHJ:Nat->Option (List R.Item):=λi=>match i with|7=>some [⟨[],.v .bool⟩,⟨[],.v .bool⟩,⟨[],.v .bool⟩,⟨[],.v .bool⟩,⟨[],.v .bool⟩,⟨[],.v .bool⟩,⟨[],.v .bool⟩,⟨[],.v .bool⟩,⟨[],.v .bool⟩]|18=>some []|_=>none
def C8(p:Layout×Plan):Option Int:=au (λ(j:Unit)=>some 0) λi=>(TA (p.1,p.2)).bind λa=>if !decide (a=0) then some a else ah (aj (0+1))<|(TB (p.1,p.2)).bind λb=>if !decide (b=0) then some b else ah (aj (0+1+1))<|(Tz (p.1,p.2)).bind λc=>if !decide (c=0) then some c else ah (aj (0+1+1+1))<|(Tv (p.1,p.2)).bind λd=>if !decide (d=0) then some d else ah (aj (0+1+1+1+1))<|(Tq (p.1,p.2)).bind λe=>if !decide (e=0) then some e else ah (aj (0+1+1+1+1+1))<|(TF (p.1,p.2)).bind λf=>if !decide (f=0) then some f else ah (aj (0+1+1+1+1+1+1))<|(TD (p.1,p.2)).bind λg=>if !decide (g=0) then some g else ah (aj (0+1+1+1+1+1+1+1))<|(Tt (p.1,p.2)).bind λh=>if !decide (h=0) then some h else ah (aj (0+1+1+1+1+1+1+1+1))<|i PUnit.unit
def I6:aN Zτ.S:=⟨[.st 2,.st 12],[.int .i64],C8⟩
theorem Ot:FZ Z.P Zτ 57 I6:=aT (C:=Z) (wr:=false) (T:=(aI [(131,c131),(132,af8),(133,af9),(134,aga),(135,agb),(136,agc),(137,agd),(138,c138)])) (I:=(aJ [])) (sp:=aHJ) (aG.get (.cons att (.cons atu (.cons atv (.cons atw (.cons atx (.cons aty (.cons atz (.cons atA .nil))))))))) (aH.get .nil) λp=>by kernel_rfl
def aFB:Nat->Option (List R.Item):=λi=>match i with|12=>some [⟨[6],.v (.int .i64)⟩]|_=>none
def vU(p:Int×Int):Option (Int×Int):=if decide (p.2<1) then some (0,1) else ah (!decide (p.2=0))<|au (λ(b:Int)=>some (b,0)) λa=>ah (!decide (p.2=0))<|if decide (0<p.1.tmod p.2) then ah (aj (IntKind.i64.wrap (p.1.tdiv p.2)+1))<|a (IntKind.i64.wrap (p.1.tdiv p.2)+1) else a (IntKind.i64.wrap (p.1.tdiv p.2))
def N8:aN Zτ.S:=⟨[.int .i64,.int .i64],[.int .i64,.int .i64],vU⟩
theorem Xf:FZ Z.P Zτ 187 N8:=aT (C:=Z) (wr:=false) (T:=(aI [])) (I:=(aJ [])) (sp:=aFB) (aG.get .nil) (aH.get .nil) λp=>by kernel_rfl
def aGU:Nat->Option (List R.Item):=λi=>match i with|13=>some [⟨[19],.v (.int .i64)⟩]|22=>some []|_=>none
def aic(p:List Cell×Int×bO)(d:Unit->Option Int)(c:Int->Option (Int))(a:Int):Option (Int):=if decide (a<(p.1.length:Int)) then (idx p.1 a).bind λb=>if decide (b.1<1000)||decide (100000<b.1)||decide (b.2< -40)||decide (40<b.2) then some 4 else ah (aj (a+1))<|c (a+1) else d PUnit.unit
def OZ(p:List Cell×Int×bO):Option Int:=(yP p.2.2).bind λb=>if !b then some 1 else if decide (4000<(p.1.length:Int)) then some 7 else au (λ(c:Unit)=>ah (!!decide (p.2.1<0)||aj ((p.1.length:Int)-2))<|if decide (p.2.1<0)||decide ((p.1.length:Int)-2<p.2.1) then some 4 else some 0) λa=>iter (aic p a) FUEL 0
def agW:aN Zτ.S:=⟨[.list (.st 37),.int .i64,.st 3],[.int .i64],OZ⟩
theorem aum:FZ Z.P Zτ 282 agW:=aT (C:=Z) (wr:=false) (T:=(aI [(203,c203)])) (I:=(aJ [])) (sp:=aGU) (aG.get (.cons Xi .nil)) (aH.get .nil) λp=>by kernel_rfl
def aHb:Nat->Option (List R.Item):=λi=>match i with|7=>some [⟨[7],.v (.int .i64)⟩,⟨[22],.v (.int .i64)⟩]|14=>some [⟨[7],.v (.int .i64)⟩]|_=>none
def aie(d:Int->Option Int)(b:List Cell)(c:Int×Int->Option (Int))(a:Int×Int):Option (Int):=if decide (a.2<(b.length:Int)) then (idx b a.2).bind λe=>ah (aj (a.2+1))<|c (min a.1 e.1,a.2+1) else d a.1
def Jg(p:List Cell×Int×bO):Option Int:=au (λ(a:Int)=>some a) λb=>ah (aj (p.2.1-p.2.2.2))<|ah (aj (p.2.1+1))<|(sub p.1 (max 0 (p.2.1-p.2.2.2)) (p.2.1+1)).bind λc=>iter (aie b c) FUEL (p.2.2.3,0)
def ag5:aN Zτ.S:=⟨[.list (.st 37),.int .i64,.st 3],[.int .i64],Jg⟩
theorem auy:FZ Z.P Zτ 305 ag5:=aT (C:=Z) (wr:=false) (T:=(aI [])) (I:=(aJ [])) (sp:=aHb) (aG.get .nil) (aH.get .nil) λp=>by kernel_rfl
def aHc:Nat->Option (List R.Item):=λi=>match i with|8=>some [⟨[5],.v (.int .i64)⟩]|_=>none
def O4(p:Cell×bO):Option Int:=au (λ(a:Int)=>ah (aj (20000*a))<|some (20000*a)) λb=>if decide (0<p.1.2) then ah (aj (10*p.1.2))<|ah (aj (p.2.4-10*p.1.2))<|b (max 50 (p.2.4-10*p.1.2)) else b p.2.4
def ag6:aN Zτ.S:=⟨[.st 37,.st 3],[.int .i64],O4⟩
theorem auz:FZ Z.P Zτ 306 ag6:=aT (C:=Z) (wr:=false) (T:=(aI [])) (I:=(aJ [])) (sp:=aHc) (aG.get .nil) (aH.get .nil) λp=>by kernel_rfl
def aHd:Nat->Option (List R.Item):=λi=>match i with|8=>some [⟨[5],.v (.int .i64)⟩]|_=>none
def O5(p:Cell×bO):Option Int:=au (λ(a:Int)=>ah (aj (20000*a))<|some (20000*a)) λb=>if decide (p.1.2<0) then ah (aj (10*p.1.2))<|ah (aj (p.2.5+10*p.1.2))<|b (max 50 (p.2.5+10*p.1.2)) else b p.2.5
def ag7:aN Zτ.S:=⟨[.st 37,.st 3],[.int .i64],O5⟩
theorem auA:FZ Z.P Zτ 307 ag7:=aT (C:=Z) (wr:=false) (T:=(aI [])) (I:=(aJ [])) (sp:=aHd) (aG.get .nil) (aH.get .nil) λp=>by kernel_rfl
def aGV:Nat->Option (List R.Item):=λi=>match i with|11=>some [⟨[9],.v (.int .i64)⟩,⟨[10],.v (.int .i64)⟩,⟨[8],.k (.int .i64)⟩]|22=>some [⟨[8],.k (.int .i64)⟩]|25=>some [⟨[13],.v (.int .i64)⟩,⟨[8],.k (.int .i64)⟩]|30=>some [⟨[8],.k (.int .i64)⟩]|_=>none
def aaM:aL Zτ.S:=aL.rd<|inl Z false (aI [(305,ag5),(306,ag6),(307,ag7)]) (aJ []) aGV 283
theorem aBi:aF Z 283 aaM:=aF.rd (C:=Z)<|bf (aG.get (.cons auy (.cons auz (.cons auA .nil)))) (aH.get .nil)
def aGW:Nat->Option (List R.Item):=λi=>match i with|7=>some [⟨[3],.v (.int .i64)⟩,⟨[4],.v (.int .i64)⟩]|8=>some [⟨[3],.v (.int .i64)⟩]|16=>some [⟨[3],.v (.int .i64)⟩]|_=>none
def afK(p:Int)(d:Int->Option Int)(b:Int×Int->Option (Int))(s4:Int×Int):Option (Int):=if decide (0<s4.2) then au (λ(c:Int)=>b (c,Int.fdiv s4.2 2)) λa=>ah (aj (s4.1+s4.2))<|ah (!decide (s4.1+s4.2=0))<|if decide (s4.1+s4.2<=IntKind.i64.wrap (p.tdiv (s4.1+s4.2))) then a (s4.1+s4.2) else a s4.1 else d s4.1
def NM(p:Int):Option Int:=au (λ(a:Int)=>some a) λb=>iter (afK p b) FUEL (0,2147483648)
def agX:aN Zτ.S:=⟨[.int .i64],[.int .i64],NM⟩
theorem aun:FZ Z.P Zτ 284 agX:=aT (C:=Z) (wr:=false) (T:=(aI [])) (I:=(aJ [])) (sp:=aGW) (aG.get .nil) (aH.get .nil) λp=>by kernel_rfl
abbrev afj:=Int×List Int->Option (List Int×Int)
abbrev V6:=List Int->Option (List Int×Int)
abbrev Ip:=Option (List Int×Int)
abbrev Wq:=List Cell×Int×bO
def aGv:Nat->Option (List R.Item):=λi=>match i with|13=>some [⟨[25],.v (.int .i64)⟩,⟨[9],.k (.int .i64)⟩]|20=>some [⟨[9],.k (.int .i64)⟩]|_=>none
def aia(d:List Int)(e:V6)(c:afj)(s8:Int×List Int):Ip:=if decide (s8.1<(d.length:Int)) then (idx s8.2 s8.1).bind λh=>(idx s8.2 s8.1).bind λa=>(NM a).bind λb=>(idx s8.2 s8.1).bind λf=>(idx s8.2 s8.1).bind λg=>ah (aj (s8.1+1))<|c (s8.1+1,List.set s8.2 (Int.toNat s8.1) b) else e s8.2
def ah8(p:Wq)(c:V6)(f:afj)(bF:Int×List Int):Ip:=if decide (p.2.1<bF.1) then ah (aj (bF.1-p.2.1))<|ah (aj (bF.1-p.2.1))<|(idx bF.2 (bF.1-p.2.1)).bind λg=>(idx bF.2 (bF.1-p.2.1)).bind λd=>ah (aj (bF.1+1))<|ah (aj (bF.1+1-p.2.1))<|(idx bF.2 (bF.1+1-p.2.1)).bind λh=>(idx bF.2 (bF.1+1-p.2.1)).bind λa=>(idx p.1 bF.1).bind λe=>(O5 (e,p.2.2)).bind λb=>ah (aj (a+b))<|(idx bF.2 (bF.1-p.2.1)).bind λi=>(idx bF.2 (bF.1-p.2.1)).bind λj=>ah (aj (bF.1-1))<|f (bF.1-1,List.set bF.2 (bF.1-p.2.1).toNat (min d (a+b))) else c bF.2
def ah9(p:Wq)(d:V6)(i:Int×Int×List Int->Ip)(bP:Int×Int×List Int):Ip:=if decide (bP.2.1<(p.1.length:Int)) then (Jg (p.1,bP.2.1,p.2.2)).bind λa=>ah (aj (bP.2.1-p.2.1))<|ah (aj (min bP.1 a*min bP.1 a))<|ah (aj (bP.2.1-1))<|ah (aj (bP.2.1-1-p.2.1))<|(idx bP.2.2 (bP.2.1-1-p.2.1)).bind λf=>(idx bP.2.2 (bP.2.1-1-p.2.1)).bind λb=>ah (aj (bP.2.1-1))<|(idx p.1 (bP.2.1-1)).bind λe=>(O4 (e,p.2.2)).bind λc=>ah (aj (b+c))<|(idx bP.2.2 (bP.2.1-p.2.1)).bind λg=>(idx bP.2.2 (bP.2.1-p.2.1)).bind λh=>ah (aj (bP.2.1+1))<|i (a,bP.2.1+1,List.set bP.2.2 (bP.2.1-p.2.1).toNat (min (min bP.1 a*min bP.1 a) (b+c))) else d bP.2.2
def OW(p:Wq):Ip:=(OZ (p.1,p.2.1,p.2.2)).bind λd=>if !decide (d=0) then some ([],d) else ah (aj ((p.1.length:Int)-p.2.1))<|ah (aj ((p.1.length:Int)-p.2.1+1))<|ah (fE 8 ((p.1.length:Int)-p.2.1+1) ((p.1.length:Int)-p.2.1+1))<|(Jg (p.1,p.2.1,p.2.2)).bind λh=>au (λ(e:List Int)=>au (λ(c:List Int)=>au (λ(f:List Int)=>some (f,0)) λg=>iter (aia c g) FUEL (0,c)) λa=>ah (aj ((p.1.length:Int)-1))<|iter (ah8 p a) FUEL ((p.1.length:Int)-1,e)) λb=>ah (aj (p.2.1+1))<|iter (ah9 p b) FUEL (h,p.2.1+(1:Int),List.replicate ((p.1.length:Int)-p.2.1+(1:Int)).toNat (0:Int))
def agM:aN Zτ.S:=⟨[.list (.st 37),.int .i64,.st 3],[.list (.int .i64),.int .i64],OW⟩
theorem aub:FZ Z.P Zτ 246 agM:=aT (C:=Z) (wr:=false) (T:=(aI [(282,agW),(284,agX)])) (I:=(aJ [(283,aaM)])) (sp:=aGv) (aG.get (.cons aum (.cons aun .nil))) (aH.get (.cons aBi .nil)) λp=>by kernel_rfl
abbrev MO:=Option (List Int×Int)
def aFz:Nat->Option (List R.Item):=λi=>match i with|13=>some [⟨[11],.v (.int .i64)⟩,⟨[10],.k (.int .i64)⟩]|20=>some [⟨[10],.k (.int .i64)⟩]|_=>none
def aib(c:List Int×Int)(h:List Int->MO)(g:Int×List Int->MO)(a:Int×List Int):MO:=if decide (a.1<(c.1.length:Int)) then ah (aj (a.1-1))<|(idx c.1 (a.1-1)).bind λd=>(idx c.1 a.1).bind λe=>ah (aj (d+e))<|(vU (20000000,d+e)).bind λf=>ah (aj (a.1-1))<|(idx a.2 (a.1-1)).bind λk=>(idx a.2 (a.1-1)).bind λb=>ah (aj (b+f.1))<|(idx a.2 a.1).bind λi=>(idx a.2 a.1).bind λj=>ah (aj (a.1+1))<|g (a.1+1,List.set a.2 (Int.toNat a.1) (b+f.1)) else h a.2
def OY(p:List Cell×Int×bO):MO:=(OW (p.1,p.2.1,p.2.2)).bind λa=>if !decide (a.2=0) then some ([],a.2) else ah (fE 8 (a.1.length:Int) (a.1.length:Int))<|au (λ(b:List Int)=>some (b,0)) λc=>iter (aib a c) FUEL ((1:Int),List.replicate (a.1.length:Int).toNat (0:Int))
def agr:aN Zτ.S:=⟨[.list (.st 37),.int .i64,.st 3],[.list (.int .i64),.int .i64],OY⟩
theorem atS:FZ Z.P Zτ 185 agr:=aT (C:=Z) (wr:=false) (T:=(aI [(246,agM),(187,N8)])) (I:=(aJ [])) (sp:=aFz) (aG.get (.cons aub (.cons Xf .nil))) (aH.get .nil) λp=>by kernel_rfl
def aIe:Nat->Option (List R.Item):=λ_=>none
def Bn(p:Int):Option Int:=(vU (p,1000)).bind λa=>some a.1
def c91:aN Zτ.S:=⟨[.int .i64],[.int .i64],Bn⟩
theorem ahr:FZ Z.P Zτ 91 c91:=aT (C:=Z) (wr:=false) (T:=(aI [(187,N8)])) (I:=(aJ [])) (sp:=aIe) (aG.get (.cons Xf .nil)) (aH.get .nil) λp=>by kernel_rfl
abbrev Nb:=Option (List Int×List Int×Int×Int)
abbrev Wh:=List Int×List Int×Int
def aId:Nat->Option (List R.Item):=λi=>match i with|17=>some [⟨[6],.o (.int .i64)⟩,⟨[7],.o (.int .i64)⟩,⟨[14],.v (.int .i64)⟩,⟨[40],.v (.int .i64)⟩]|26=>some [⟨[14],.v (.int .i64)⟩]|30=>some [⟨[6],.o (.int .i64)⟩,⟨[7],.o (.int .i64)⟩,⟨[14],.v (.int .i64)⟩]|32=>some [⟨[6],.o (.int .i64)⟩,⟨[7],.o (.int .i64)⟩,⟨[14],.v (.int .i64)⟩]|_=>none
def afN(p:Layout×bg×bO)(j:List Int×Int)(h:List Step)(l:Wh->Nb)(k:List Int×List Int×Int×Int->Nb)(s10:List Int×List Int×Int×Int):Nb:=if decide (s10.2.2.2<(h.length:Int)) then au (λ(a:Wh)=>ah (aj (s10.2.2.2+1))<|k (a.1,a.2.1,a.2.2,s10.2.2.2+1)) λc=>(idx h s10.2.2.2).bind λi=>(idx j.1 s10.2.2.1).bind λb=>ah (aS 8 (s10.1++[b]).length)<|au (λ(g:Int)=>ah (aj ((h.length:Int)-1))<|if decide (s10.2.2.2<(h.length:Int)-1) then ah (aj (g+p.2.2.2))<|(idx j.1 (g+p.2.2.2)).bind λe=>ah (aS 8 (s10.2.1++[e]).length)<|c (s10.1++[b],s10.2.1++[e],g) else c (s10.1++[b],s10.2.1,g)) λd=>if decide (0<s10.2.2.2) then (idx p.1.3 i.1).bind λf=>ah (aj (s10.2.2.1+f.2))<|d (s10.2.2.1+f.2) else d s10.2.2.1 else l (s10.1,s10.2.1,s10.2.2.1)
def Bg(p:Layout×bg×bO):Nb:=(IU (p.1,p.2.1,p.2.2)).bind λb=>if !decide (b.2=0) then some ([],[],0,b.2) else (OY (b.1.1,b.1.2,p.2.2)).bind λc=>(IW p.2.1).bind λf=>au (λ(a:Wh)=>(idx c.1 a.2.2).bind λd=>ah (aS 8 (a.2.1++[d]).length)<|(idx c.1 a.2.2).bind λg=>(Bn g).bind λh=>some (a.1,a.2.1++[d],h,0)) λe=>iter (afN p c f e) FUEL ([],[],0,0)
def c90:aN Zτ.S:=⟨[.st 2,.st 5,.st 3],[.list (.int .i64),.list (.int .i64),.int .i64,.int .i64],Bg⟩
theorem au2:FZ Z.P Zτ 90 c90:=aT (C:=Z) (wr:=false) (T:=(aI [(184,Xd),(185,agr),(186,Xe),(91,c91)])) (I:=(aJ [])) (sp:=aId) (aG.get (.cons agq (.cons atS (.cons ags (.cons ahr .nil))))) (aH.get .nil) λp=>by kernel_rfl
def aFC:Nat->Option (List R.Item):=λi=>match i with|12=>some [⟨[6],.v (.int .i64)⟩]|_=>none
def Bc(p:Int×Int):Option (Int×Int):=if decide (p.2<1) then some (0,1) else ah (!decide (p.2=0))<|au (λ(b:Int)=>some (b,0)) λa=>ah (!decide (p.2=0))<|if decide (p.1.tmod p.2<0) then ah (aj (IntKind.i64.wrap (p.1.tdiv p.2)-1))<|a (IntKind.i64.wrap (p.1.tdiv p.2)-1) else a (IntKind.i64.wrap (p.1.tdiv p.2))
def N9:aN Zτ.S:=⟨[.int .i64,.int .i64],[.int .i64,.int .i64],Bc⟩
theorem Xg:FZ Z.P Zτ 188 N9:=aT (C:=Z) (wr:=false) (T:=(aI [])) (I:=(aJ [])) (sp:=aFC) (aG.get .nil) (aH.get .nil) λp=>by kernel_rfl
def aIf:Nat->Option (List R.Item):=λ_=>none
def Bj(p:Int):Option Int:=(Bc (p,1000)).bind λa=>some a.1
def c92:aN Zτ.S:=⟨[.int .i64],[.int .i64],Bj⟩
theorem au3:FZ Z.P Zτ 92 c92:=aT (C:=Z) (wr:=false) (T:=(aI [(188,N9)])) (I:=(aJ [])) (sp:=aIf) (aG.get (.cons Xg .nil)) (aH.get .nil) λp=>by kernel_rfl
def aIg:Nat->Option (List R.Item):=λ_=>none
def i93:aL Zτ.S:=aL.rd<|inl Z false (aI []) (aJ []) aIg 93
theorem aBM:aF Z 93 i93:=aF.rd (C:=Z)<|bf (aG.get .nil) (aH.get .nil)
end
end Go.Z
