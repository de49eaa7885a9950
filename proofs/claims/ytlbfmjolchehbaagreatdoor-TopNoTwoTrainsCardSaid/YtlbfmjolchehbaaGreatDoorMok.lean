/- Several parts of the engine, one behind the other. -/
import Derived.Test.YtlbfmjolchehbaaGreatDoorM63
set_option linter.all false
namespace Go.Z
open Go Go.Proofs Go.Dc Go.R
set_option maxRecDepth 100000
noncomputable section
def aHj:Nat->Option (List R.Item):=λ_=>none
def Q0(p:Str×Str):Option Bool:=(bC (decide ((p.2.1.length:Int)<=(p.1.1.length:Int))) (Str.mk []) (mX p.1 0 (p.2.1.length:Int))).bind λa=>some (decide ((p.2.1.length:Int)<=(p.1.1.length:Int))&&decide (a=p.2))
def ahd:aN Zτ.S:=⟨[.str,.str],[.bool],Q0⟩
theorem auH:FZ Z.P Zτ 317 ahd:=aT (C:=Z) (wr:=false) (T:=(aI [])) (I:=(aJ [])) (sp:=aHj) (aG.get .nil) (aH.get .nil) λp=>by kernel_rfl
def aG2:Nat->Option (List R.Item):=λ_=>none
def aaW(p:Str×Str):Option (Str×Bool):=(Q0 (p.1,p.2)).bind λa=>if !a then some (p.1,false) else (mX p.1 (p.2.1.length:Int) (p.1.1.length:Int)).bind λb=>some (b,true)
def ag2:aN Zτ.S:=⟨[.str,.str],[.str,.bool],aaW⟩
theorem aut:FZ Z.P Zτ 296 ag2:=aT (C:=Z) (wr:=false) (T:=(aI [(317,ahd)])) (I:=(aJ [])) (sp:=aG2) (aG.get (.cons auH .nil)) (aH.get .nil) λp=>by kernel_rfl
def aGF:Nat->Option (List R.Item):=λ_=>none
def Ux(p:Str×Str):Option (Str×Bool):=(aaW (p.1,p.2)).bind λa=>some (a.1,a.2)
def agS:aN Zτ.S:=⟨[.str,.str],[.str,.bool],Ux⟩
theorem aui:FZ Z.P Zτ 269 agS:=aT (C:=Z) (wr:=false) (T:=(aI [(296,ag2)])) (I:=(aJ [])) (sp:=aGF) (aG.get (.cons aut .nil)) (aH.get .nil) λp=>by kernel_rfl
abbrev MQ:=Option (Int×Bool)
def aF3:Nat->Option (List R.Item):=λi=>match i with|13=>some [⟨[6],.v (.int .i64)⟩,⟨[30],.v (.int .i64)⟩]|28=>some [⟨[6],.v (.int .i64)⟩]|32=>some [⟨[6],.v (.int .i64)⟩]|_=>none
def aq9(b:Str×Bool)(e:Int->MQ)(d:Int×Int->MQ)(s8:Int×Int):MQ:=if decide (s8.2<(b.1.1.length:Int)) then (fq b.1 s8.2).bind λf=>(U1 f).bind λc=>if !c then some (0,false) else ah (aj (10*s8.1))<|(fq b.1 s8.2).bind λa=>ah (aj (10*s8.1+IntKind.i64.wrap (IntKind.u8.wrap (a-48))))<|if decide (1099511627776<10*s8.1+IntKind.i64.wrap (IntKind.u8.wrap (a-48))) then some (0,false) else ah (aj (s8.2+1))<|d (10*s8.1+IntKind.i64.wrap (IntKind.u8.wrap (a-48)),s8.2+1) else e s8.1
def iI(p:Str):MQ:=(Ux (p,Str.mk [45])).bind λa=>(bC (!decide (a.1=Str.mk [])) 0 (fq a.1 0)).bind λf=>if decide (a.1=Str.mk [])||decide (f=48)&&(a.2||decide (1<(a.1.1.length:Int))) then some (0,false) else au (λ(b:Int)=>au (λ(d:Int)=>some (d,true)) λc=>if a.2 then ah (aj (-b))<|c (-b) else c b) λe=>iter (aq9 a e) FUEL (0,0)
def c222:aN Zτ.S:=⟨[.str],[.int .i64,.bool],iI⟩
theorem Od:FZ Z.P Zτ 222 c222:=aT (C:=Z) (wr:=false) (T:=(aI [(269,agS),(194,c194)])) (I:=(aJ [])) (sp:=aF3) (aG.get (.cons aui (.cons agv .nil))) (aH.get .nil) λp=>by kernel_rfl
def aF4:Nat->Option (List R.Item):=λi=>match i with|5=>some [⟨[8],.v (.int .i64)⟩]|14=>some []|_=>none
def aqe(p:List Str×Str)(b:Unit->Option Int)(a:Int->Option (Int))(s4:Int):Option (Int):=if decide (s4<(p.1.length:Int)) then (idx p.1 s4).bind λc=>if decide (p.2=c) then some s4 else ah (aj (s4+1))<|a (s4+1) else b PUnit.unit
def xV(p:List Str×Str):Option Int:=au (λ(b:Unit)=>some (-1)) λa=>iter (aqe p a) FUEL 0
def Oi:aN Zτ.S:=⟨[.list .str,.str],[.int .i64],xV⟩
theorem Xr:FZ Z.P Zτ 223 Oi:=aT (C:=Z) (wr:=false) (T:=(aI [])) (I:=(aJ [])) (sp:=aF4) (aG.get .nil) (aH.get .nil) λp=>by kernel_rfl
def aER:Nat->Option (List R.Item):=λi=>match i with|24=>some [⟨[5,4],.v (.int .i64)⟩]|_=>none
def ak1:aL Zτ.S:=inl Z false (aI [(222,c222),(223,Oi)]) (aJ []) aER 147
theorem aAB:aF Z 147 ak1:=bf (aG.get (.cons Od (.cons Xr .nil))) (aH.get .nil)
def aF5:Nat->Option (List R.Item):=λi=>match i with|5=>some [⟨[],.v .bool⟩,⟨[],.v .bool⟩,⟨[],.v .bool⟩]|14=>some []|_=>none
def KC(p:Str):Option Int:=au (λ(b:Unit)=>some (-1)) λa=>if decide (Str.mk [65]=p) then some 0 else ah (aj (0+1))<|if decide (Str.mk [66]=p) then some (0+1) else ah (aj (0+1+1))<|a PUnit.unit
def agC:aN Zτ.S:=⟨[.str],[.int .i64],KC⟩
theorem atX:FZ Z.P Zτ 224 agC:=aT (C:=Z) (wr:=false) (T:=(aI [])) (I:=(aJ [])) (sp:=aF5) (aG.get .nil) (aH.get .nil) λp=>by kernel_rfl
def aGJ:Nat->Option (List R.Item):=λ_=>none
def aaH:aL Zτ.S:=aL.rd<|inl Z false (aI []) (aJ []) aGJ 271
theorem alG:aF Z 271 aaH:=aF.rd (C:=Z)<|bf (aG.get .nil) (aH.get .nil)
def aGH:Nat->Option (List R.Item):=λi=>match i with|5=>some [⟨[8],.v (.int .i64)⟩]|14=>some []|_=>none
def alE:aL Zτ.S:=aL.rd<|inl Z false (aI []) (aJ [(271,aaH)]) aGH 270
theorem aBa:aF Z 270 alE:=aF.rd (C:=Z)<|bf (aG.get .nil) (aH.get (.cons alG .nil))
def aF6:Nat->Option (List R.Item):=λ_=>none
def alp:aL Zτ.S:=aL.rd<|inl Z false (aI []) (aJ [(270,alE),(271,aaH)]) aF6 225
theorem aAY:aF Z 225 alp:=aF.rd (C:=Z)<|bf (aG.get .nil) (aH.get (.cons aBa (.cons alG .nil)))
def aES:Nat->Option (List R.Item):=λi=>match i with|26=>some [⟨[5,4],.v (.int .i64)⟩,⟨[5,5],.v (.int .i64)⟩]|_=>none
def i148:aL Zτ.S:=inl Z false (aI [(224,agC),(223,Oi)]) (aJ [(225,alp)]) aES 148
theorem aAC:aF Z 148 i148:=bf (aG.get (.cons atX (.cons Xr .nil))) (aH.get (.cons aAY .nil))
def aHO:Nat->Option (List R.Item):=λi=>match i with|7=>some [⟨[5],.o .str⟩,⟨[10],.v (.int .i64)⟩]|14=>some [⟨[5],.o .str⟩]|_=>none
def i64:aL Zτ.S:=inl Z false (aI []) (aJ [(147,ak1),(148,i148)]) aHO 64
theorem aBB:aF Z 64 i64:=bf (aG.get .nil) (aH.get (.cons aAB (.cons aAC .nil)))
abbrev MV:=Int×List Str×List Str×List Section×List Link×List Str×List Str×List Section×List Link->Option (Layout×Int×Int)
abbrev Nh:=Int×List Str×List Str×List Section×List Link×List Str×List Str×List Section×List Link
abbrev Wn:=Unit->Option (Layout×Int×Int)
abbrev Ws:=Int->Option (Layout×Int×Int)
abbrev vQ:=Option (Layout×Int×Int)
def aGy:Nat->Option (List R.Item):=λi=>match i with|13=>some [⟨[26],.v (.int .i64)⟩,⟨[8,0],.o .str⟩,⟨[8,1],.o .str⟩,⟨[8,2],.o (.st 0)⟩,⟨[8,3],.o (.st 1)⟩,⟨[2,0],.v (.list .str)⟩,⟨[2,1],.v (.list .str)⟩,⟨[2,2],.v (.list (.st 0))⟩,⟨[2,3],.v (.list (.st 1))⟩]|24=>some [⟨[8,0],.o .str⟩,⟨[8,1],.o .str⟩,⟨[8,2],.o (.st 0)⟩,⟨[8,3],.o (.st 1)⟩,⟨[2,0],.v (.list .str)⟩,⟨[2,1],.v (.list .str)⟩,⟨[2,2],.v (.list (.st 0))⟩,⟨[2,3],.v (.list (.st 1))⟩]|_=>none
def acv(p:MV)(b:Nh)(o:List Word)(g:List Str)(d:Int)(e:Int)(i:Str)(r:Wn)(q:Ws)(a:Int):vQ:=if decide (a<(b.2.2.2.1.length:Int)) then (idx b.2.2.2.1 a).bind λj=>if decide (j.1=i) then if decide (-1<0)||decide (a<0) then (idx o 0).bind λk=>some (Layout.mk [] [] [] [],k.2,3) else au (λ(f:Int×Int)=>ah (aS 48 (b.2.2.2.2.1++[Link.mk (-1) d a e f.1 f.2]).length)<|ah (aj (b.1+1))<|p (b.1+1,b.2.1,b.2.2.1,b.2.2.2.1,b.2.2.2.2.1++[Link.mk (-1) d a e f.1 f.2],b.2.2.2.2.2.1,b.2.2.2.2.2.2.1,b.2.2.2.2.2.2.2.1,b.2.2.2.2.2.2.2.2)) λh=>if decide ((g.length:Int)=7) then (idx g 5).bind λl=>(xV (b.2.2.1,l)).bind λc=>if decide (c<0) then (idx o 0).bind λm=>some (Layout.mk [] [] [] [],m.2,3) else (idx g 6).bind λn=>if decide (n=Str.mk [49]) then h (c,1) else h (c,0) else h (-1,0) else ah (aj (a+1))<|q (a+1) else r PUnit.unit
def acy(q:MV)(a:Nh)(o:List Word)(g:List Str)(d:Int)(e:Int)(i:Str)(gY:Int)(r:Wn)(p:Ws)(b:Int):vQ:=if decide (b<(a.2.2.2.1.length:Int)) then (idx a.2.2.2.1 b).bind λj=>if decide (j.1=i) then if decide (gY<0)||decide (b<0) then (idx o 0).bind λk=>some (Layout.mk [] [] [] [],k.2,3) else au (λ(f:Int×Int)=>ah (aS 48 (a.2.2.2.2.1++[Link.mk gY d b e f.1 f.2]).length)<|ah (aj (a.1+1))<|q (a.1+1,a.2.1,a.2.2.1,a.2.2.2.1,a.2.2.2.2.1++[Link.mk gY d b e f.1 f.2],a.2.2.2.2.2.1,a.2.2.2.2.2.2.1,a.2.2.2.2.2.2.2.1,a.2.2.2.2.2.2.2.2)) λh=>if decide ((g.length:Int)=7) then (idx g 5).bind λl=>(xV (a.2.2.1,l)).bind λc=>if decide (c<0) then (idx o 0).bind λm=>some (Layout.mk [] [] [] [],m.2,3) else (idx g 6).bind λn=>if decide (n=Str.mk [49]) then h (c,1) else h (c,0) else h (-1,0) else ah (aj (b+1))<|p (b+1) else r PUnit.unit
def acw(p:MV)(a:Nh)(o:List Word)(f:List Str)(b:Int)(c:Int)(h:Str)(i:Str)(t:Wn)(q:Ws)(gY:Int):vQ:=if decide (gY<(a.2.2.2.1.length:Int)) then (idx a.2.2.2.1 gY).bind λj=>if decide (j.1=h) then au (λ(r:Unit)=>if decide (gY<0)||decide (-1<0) then (idx o 0).bind λk=>some (Layout.mk [] [] [] [],k.2,3) else au (λ(e:Int×Int)=>ah (aS 48 (a.2.2.2.2.1++[Link.mk gY b (-1) c e.1 e.2]).length)<|ah (aj (a.1+1))<|p (a.1+1,a.2.1,a.2.2.1,a.2.2.2.1,a.2.2.2.2.1++[Link.mk gY b (-1) c e.1 e.2],a.2.2.2.2.2.1,a.2.2.2.2.2.2.1,a.2.2.2.2.2.2.2.1,a.2.2.2.2.2.2.2.2)) λg=>if decide ((f.length:Int)=7) then (idx f 5).bind λl=>(xV (a.2.2.1,l)).bind λd=>if decide (d<0) then (idx o 0).bind λm=>some (Layout.mk [] [] [] [],m.2,3) else (idx f 6).bind λn=>if decide (n=Str.mk [49]) then g (d,1) else g (d,0) else g (-1,0)) λs=>iter (acy p a o f b c i gY s) FUEL 0 else ah (aj (gY+1))<|q (gY+1) else t PUnit.unit
def aob(d:List Word)(e:List Str->vQ)(c:List Str×Int->vQ)(a:List Str×Int):vQ:=if decide (a.2<(d.length:Int)) then (idx d a.2).bind λb=>ah (aS 16 (a.1++[b.1]).length)<|ah (aj (a.2+1))<|c (a.1++[b.1],a.2+1) else e a.1
def aoa(H:List (List Word)×Int×Int)(K:List Str×List Str×List Section×List Link×List Str×List Str×List Section×List Link->vQ)(i:MV)(a:Nh):vQ:=if decide (a.1<(H.1.length:Int)) then (idx H.1 a.1).bind λe=>au (λ(b:List Str)=>(idx b 0).bind λN=>if decide (N=Str.mk [115,116,97,116,105,111,110])&&decide ((b.length:Int)=2) then (idx b 1).bind λk=>ah (aS 16 (a.2.1++[k]).length)<|ah (aj (a.1+1))<|i (a.1+1,a.2.1++[k],a.2.2.1,a.2.2.2.1,a.2.2.2.2.1,a.2.2.2.2.2.1,a.2.2.2.2.2.2.1,a.2.2.2.2.2.2.2.1,a.2.2.2.2.2.2.2.2) else (idx b 0).bind λr=>if decide (r=Str.mk [112,111,105,110,116])&&decide ((b.length:Int)=2) then (idx b 1).bind λl=>ah (aS 16 (a.2.2.1++[l]).length)<|ah (aj (a.1+1))<|i (a.1+1,a.2.1,a.2.2.1++[l],a.2.2.2.1,a.2.2.2.2.1,a.2.2.2.2.2.1,a.2.2.2.2.2.2.1,a.2.2.2.2.2.2.2.1,a.2.2.2.2.2.2.2.2) else (idx b 0).bind λm=>(bC (decide (m=Str.mk [115,101,99,116,105,111,110])&& !decide ((b.length:Int)=5)&&decide ((b.length:Int)=7)) (Str.mk []) (idx b 5)).bind λs=>if decide (m=Str.mk [115,101,99,116,105,111,110])&&(decide ((b.length:Int)=5)||decide ((b.length:Int)=7)&&decide (s=Str.mk [97,116])) then (idx b 1).bind λn=>(idx b 2).bind λt=>(iI t).bind λf=>(idx b 3).bind λu=>(iI u).bind λg=>(idx b 4).bind λv=>(iI v).bind λh=>if !f.2|| !g.2|| !h.2 then (idx e 0).bind λw=>some (Layout.mk [] [] [] [],w.2,2) else au (λ(I:Int)=>ah (aS 48 (a.2.2.2.1++[Section.mk n f.1 g.1 h.1 I]).length)<|ah (aj (a.1+1))<|i (a.1+1,a.2.1,a.2.2.1,a.2.2.2.1++[Section.mk n f.1 g.1 h.1 I],a.2.2.2.2.1,a.2.2.2.2.2.1,a.2.2.2.2.2.2.1,a.2.2.2.2.2.2.2.1,a.2.2.2.2.2.2.2.2)) λj=>if decide ((b.length:Int)=7) then (idx b 6).bind λx=>(xV (a.2.1,x)).bind λo=>if decide (o<0) then (idx e 0).bind λy=>some (Layout.mk [] [] [] [],y.2,3) else j o else j (-1) else (idx b 0).bind λz=>if decide (z=Str.mk [108,105,110,107])&&(decide ((b.length:Int)=5)||decide ((b.length:Int)=7)) then (idx b 2).bind λA=>(idx b 4).bind λB=>(KC A).bind λc=>(KC B).bind λd=>(bC (!(decide (c<0)||decide (d<0))&&decide ((b.length:Int)=7)) (Str.mk []) (idx b 6)).bind λp=>(bC (!(decide (c<0)||decide (d<0))&&(decide ((b.length:Int)=7)&& !decide (p=Str.mk [48]))) (Str.mk []) (idx b 6)).bind λC=>if decide (c<0)||decide (d<0)||decide ((b.length:Int)=7)&& !decide (p=Str.mk [48])&& !decide (C=Str.mk [49]) then (idx e 0).bind λD=>some (Layout.mk [] [] [] [],D.2,2) else (idx b 1).bind λE=>(idx b 3).bind λq=>au (λ(P:Unit)=>au (λ(O:Unit)=>(idx e 0).bind λF=>some (Layout.mk [] [] [] [],F.2,3)) λL=>iter (acv i a e b c d q L) FUEL 0) λM=>iter (acw i a e b c d E q M) FUEL 0 else (idx e 0).bind λG=>some (Layout.mk [] [] [] [],G.2,2)) λJ=>iter (aob e J) FUEL ([],0) else K (a.2.1,a.2.2.1,a.2.2.2.1,a.2.2.2.2.1,a.2.2.2.2.2.1,a.2.2.2.2.2.2.1,a.2.2.2.2.2.2.2.1,a.2.2.2.2.2.2.2.2)
def Sk(p:Str):vQ:=(GY p).bind λb=>if !decide (b.2.2=0) then some (Layout.mk [] [] [] [],b.2.1,b.2.2) else au (λ(a:List Str×List Str×List Section×List Link×List Str×List Str×List Section×List Link)=>(uW (Layout.mk a.1 a.2.1 a.2.2.1 a.2.2.2.1)).bind λc=>if !decide (c=0) then some (Layout.mk [] [] [] [],0,c) else some (Layout.mk a.1 a.2.1 a.2.2.1 a.2.2.2.1,0,0)) λd=>iter (aoa b d) FUEL (0,[],[],[],[],[],[],[],[])
def c25:aN Zτ.S:=⟨[.str],[.st 2,.int .i64,.int .i64],Sk⟩
theorem aug:FZ Z.P Zτ 25 c25:=aT (C:=Z) (wr:=false) (T:=(aI [(63,XE),(17,c17)])) (I:=(aJ [(64,i64)])) (sp:=aGy) (aG.get (.cons ahm (.cons Bo .nil))) (aH.get (.cons aBB .nil)) λp=>by kernel_rfl
def aEV:Nat->Option (List R.Item):=λ_=>none
def wT:aL Zτ.S:=nK ZA false (aI []) (aJ []) aEV 150 [] [⟨[0,14],.v (.int .i64)⟩]
theorem Fz:aF Z 150 wT:=aF.am (b:=false) (oM (C:=ZA) (aG.get .nil) (aH.get .nil))
def aEW:Nat->Option (List R.Item):=λ_=>none
def wU:aL Zτ.S:=aL.rd<|nK ZA false (aI []) (aJ []) aEW 151 [.str] []
theorem zk:aF Z 151 wU:=aF.rd (C:=Z)<|aF.am (b:=false) (oM (C:=ZA) (aG.get .nil) (aH.get .nil))
def aEX:Nat->Option (List R.Item):=λ_=>none
def i152:aL Zτ.S:=nK ZA false (aI [(222,c222)]) (aJ [(151,wU),(150,wT)]) aEX 152 [.int .i64] [⟨[0,14],.v (.int .i64)⟩]
theorem aau:aF Z 152 i152:=aF.am (b:=false) (oM (C:=ZA) (aG.get (.cons Od .nil)) (aH.get (.cons (aF.am zk) (.cons (aF.am Fz) .nil))))
def aET:Nat->Option (List R.Item):=λi=>match i with|8=>some [⟨[0,14],.v (.int .i64)⟩]|_=>none
def QL:aL Zτ.S:=nK ZA false (aI []) (aJ [(150,wT),(152,i152)]) aET 149 [] [⟨[0,14],.v (.int .i64)⟩,⟨[0,4],.v (.int .i64)⟩,⟨[0,12],.v .bool⟩]
theorem aAD:aF Z 149 QL:=aF.am (b:=false) (oM (C:=ZA) (aG.get .nil) (aH.get (.cons (aF.am Fz) (.cons (aF.am aau) .nil))))
def aF8:Nat->Option (List R.Item):=λi=>match i with|6=>some [⟨[0,14],.v (.int .i64)⟩]|_=>none
def i227:aL Zτ.S:=nK ZA false (aI []) (aJ []) aF8 227 [.int .i64] [⟨[0,14],.v (.int .i64)⟩]
theorem QT:aF Z 227 i227:=aF.am (b:=false) (oM (C:=ZA) (aG.get .nil) (aH.get .nil))
def aGK:Nat->Option (List R.Item):=λ_=>none
def aaI:aL Zτ.S:=aL.rd<|inl ZA false (aI []) (aJ [(151,wU)]) aGK 272
theorem alH:aF Z 272 aaI:=aF.rd (C:=Z)<|aF.am (b:=false) (bf (C:=ZA) (aG.get .nil) (aH.get (.cons (aF.am zk) .nil)))
def aGI:Nat->Option (List R.Item):=λi=>match i with|5=>some [⟨[8],.v (.int .i64)⟩]|14=>some []|_=>none
def alF:aL Zτ.S:=aL.rd<|inl Z false (aI []) (aJ [(272,aaI)]) aGI 270
theorem aBb:aF Z 270 alF:=aF.rd (C:=Z)<|bf (aG.get .nil) (aH.get (.cons alH .nil))
def aF7:Nat->Option (List R.Item):=λ_=>none
def i226:aL Zτ.S:=nK ZA false (aI []) (aJ [(227,i227),(270,alF),(272,aaI)]) aF7 226 [.int .i64] [⟨[0,14],.v (.int .i64)⟩]
theorem aAZ:aF Z 226 i226:=aF.am (b:=false) (oM (C:=ZA) (aG.get .nil) (aH.get (.cons (aF.am QT) (.cons (aF.am aBb) (.cons (aF.am alH) .nil)))))
def aEY:Nat->Option (List R.Item):=λi=>match i with|12=>some [⟨[3],.v (.int .i64)⟩,⟨[2,1],.v (.int .i64)⟩]|17=>some [⟨[6],.v (.int .i64)⟩,⟨[0,14],.v (.int .i64)⟩,⟨[2,0],.n (.st 4)⟩]|18=>some [⟨[0,14],.v (.int .i64)⟩,⟨[2,0],.n (.st 4)⟩]|34=>some [⟨[7,1],.v (.int .i64)⟩,⟨[0,14],.v (.int .i64)⟩]|36=>some [⟨[0,14],.v (.int .i64)⟩,⟨[2,0],.n (.st 4)⟩]|_=>none
def ak2:aL Zτ.S:=nK ZA false (aI [(222,c222)]) (aJ [(151,wU),(150,wT),(226,i226)]) aEY 153 [] [⟨[0,14],.v (.int .i64)⟩,⟨[0,6],.n (.st 5)⟩]
theorem aAE:aF Z 153 ak2:=aF.am (b:=false) (oM (C:=ZA) (aG.get (.cons Od .nil)) (aH.get (.cons (aF.am zk) (.cons (aF.am Fz) (.cons (aF.am aAZ) .nil)))))
def aGb:Nat->Option (List R.Item):=λ_=>none
def aaE:aL Zτ.S:=aL.rd<|inl ZA false (aI []) (aJ [(151,wU)]) aGb 229
theorem als:aF Z 229 aaE:=aF.rd (C:=Z)<|aF.am (b:=false) (bf (C:=ZA) (aG.get .nil) (aH.get (.cons (aF.am zk) .nil)))
def aGa:Nat->Option (List R.Item):=λi=>match i with|5=>some [⟨[8],.v (.int .i64)⟩]|14=>some []|_=>none
def alr:aL Zτ.S:=aL.rd<|inl Z false (aI []) (aJ [(229,aaE)]) aGa 228
theorem aA1:aF Z 228 alr:=aF.rd (C:=Z)<|bf (aG.get .nil) (aH.get (.cons als .nil))
def aEZ:Nat->Option (List R.Item):=λ_=>none
def i154:aL Zτ.S:=nK ZA false (aI []) (aJ [(227,i227),(228,alr),(229,aaE)]) aEZ 154 [.int .i64] [⟨[0,14],.v (.int .i64)⟩]
theorem aAF:aF Z 154 i154:=aF.am (b:=false) (oM (C:=ZA) (aG.get .nil) (aH.get (.cons (aF.am QT) (.cons (aF.am aA1) (.cons (aF.am als) .nil)))))
def aGd:Nat->Option (List R.Item):=λ_=>none
def GZ(p:Str):Option (Int×Int×Bool):=(DV (p,Str.mk [46,46])).bind λc=>(iI c.1).bind λa=>(iI c.2.1).bind λb=>if !a.2|| !b.2||decide (b.1<a.1) then some (0,0,false) else some (a.1,b.1,true)
def agD:aN Zτ.S:=⟨[.str],[.int .i64,.int .i64,.bool],GZ⟩
theorem atZ:FZ Z.P Zτ 230 agD:=aT (C:=Z) (wr:=false) (T:=(aI [(220,Xq),(222,c222)])) (I:=(aJ [])) (sp:=aGd) (aG.get (.cons agB (.cons Od .nil))) (aH.get .nil) λp=>by kernel_rfl
def aE1:Nat->Option (List R.Item):=λ_=>none
def aav:aL Zτ.S:=nK ZA false (aI [(230,agD)]) (aJ [(151,wU),(150,wT)]) aE1 156 [.int .i64,.int .i64] [⟨[0,14],.v (.int .i64)⟩]
theorem ak4:aF Z 156 aav:=aF.am (b:=false) (oM (C:=ZA) (aG.get (.cons atZ .nil)) (aH.get (.cons (aF.am zk) (.cons (aF.am Fz) .nil))))
def aE0:Nat->Option (List R.Item):=λi=>match i with|10=>some [⟨[0,14],.v (.int .i64)⟩,⟨[3,2],.v (.int .i64)⟩,⟨[3,3],.v (.int .i64)⟩]|_=>none
def ak3:aL Zτ.S:=nK ZA false (aI []) (aJ [(150,wT),(152,i152),(156,aav)]) aE0 155 [] [⟨[0,14],.v (.int .i64)⟩,⟨[0,7],.w (.st 7) 3⟩]
theorem aAG:aF Z 155 ak3:=aF.am (b:=false) (oM (C:=ZA) (aG.get .nil) (aH.get (.cons (aF.am Fz) (.cons (aF.am aau) (.cons (aF.am ak4) .nil)))))
def aGg:Nat->Option (List R.Item):=λ_=>none
def aaF:aL Zτ.S:=aL.rd<|inl ZA false (aI []) (aJ [(151,wU)]) aGg 232
theorem alx:aF Z 232 aaF:=aF.rd (C:=Z)<|aF.am (b:=false) (bf (C:=ZA) (aG.get .nil) (aH.get (.cons (aF.am zk) .nil)))
def aGf:Nat->Option (List R.Item):=λi=>match i with|5=>some [⟨[8],.v (.int .i64)⟩]|14=>some []|_=>none
def alv:aL Zτ.S:=aL.rd<|inl Z false (aI []) (aJ [(232,aaF)]) aGf 231
theorem aA3:aF Z 231 alv:=aF.rd (C:=Z)<|bf (aG.get .nil) (aH.get (.cons alx .nil))
def aE2:Nat->Option (List R.Item):=λ_=>none
def i157:aL Zτ.S:=nK ZA false (aI []) (aJ [(227,i227),(231,alv),(232,aaF)]) aE2 157 [.int .i64] [⟨[0,14],.v (.int .i64)⟩]
theorem aAH:aF Z 157 i157:=aF.am (b:=false) (oM (C:=ZA) (aG.get .nil) (aH.get (.cons (aF.am QT) (.cons (aF.am aA3) (.cons (aF.am alx) .nil)))))
def aE3:Nat->Option (List R.Item):=λ_=>none
def ak5:aL Zτ.S:=nK ZA false (aI [(223,Oi)]) (aJ [(151,wU),(227,i227)]) aE3 158 [.int .i64] [⟨[0,14],.v (.int .i64)⟩]
theorem aAI:aF Z 158 ak5:=aF.am (b:=false) (oM (C:=ZA) (aG.get (.cons Xr .nil)) (aH.get (.cons (aF.am zk) (.cons (aF.am QT) .nil))))
def aHP:Nat->Option (List R.Item):=λi=>match i with|7=>some [⟨[20],.v (.int .i64)⟩,⟨[0,13],.n .str⟩]|14=>some [⟨[0,13],.n .str⟩]|72=>some [⟨[0,14],.v (.int .i64)⟩,⟨[0,4],.v (.int .i64)⟩,⟨[0,12],.v .bool⟩,⟨[0,5],.n (.st 3)⟩,⟨[0,6],.n (.st 5)⟩,⟨[0,7],.g (.st 7) 3⟩,⟨[0,8],.n (.st 8)⟩,⟨[0,9],.n (.st 9)⟩,⟨[0,10],.n (.st 10)⟩,⟨[0,11],.n (.st 11)⟩]|_=>none
def i65:aL Zτ.S:=inl ZA false (aI []) (aJ [(149,QL),(150,wT),(151,wU),(152,i152),(153,ak2),(154,i154),(155,ak3),(156,aav),(157,i157),(158,ak5)]) aHP 65
theorem aBC:aF Z 65 i65:=aF.am (b:=false) (bf (C:=ZA) (aG.get .nil) (aH.get (.cons (aF.am aAD) (.cons (aF.am Fz) (.cons (aF.am zk) (.cons (aF.am aau) (.cons (aF.am aAE) (.cons (aF.am aAF) (.cons (aF.am aAG) (.cons (aF.am ak4) (.cons (aF.am aAH) (.cons (aF.am aAI) .nil))))))))))))
end
end Go.Z
