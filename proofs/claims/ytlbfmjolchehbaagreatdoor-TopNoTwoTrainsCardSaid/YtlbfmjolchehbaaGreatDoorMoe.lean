/- Several parts of the engine, one behind the other. -/
import Derived.Test.YtlbfmjolchehbaaGreatDoorMod
import Derived.Deep.RegionWith
import Derived.Laws.NewBlocks
set_option linter.all false
namespace Go.Z
open Go Go.Proofs Go.Dc Go.R
set_option maxRecDepth 100000
noncomputable section
def aFd:Nat->Option (List R.Item):=λ_=>none
def aay:aL Zτ.S:=inl Z false (aI []) (aJ []) aFd 166
theorem ala:aF Z 166 aay:=bf (aG.get .nil) (aH.get .nil)
def aFc:Nat->Option (List R.Item):=λi=>match i with|5=>some [⟨[19],.v (.int .i64)⟩,⟨[2,684033,0],.v .bool⟩]|11=>some [⟨[32],.v (.int .i64)⟩,⟨[2,684033,0],.v .bool⟩]|18=>some [⟨[2,684033,0],.v .bool⟩]|20=>some [⟨[2,684033,0],.v .bool⟩]|_=>none
def ak9:aL Zτ.S:=inl Z false (aI []) (aJ [(166,aay)]) aFc 165
theorem aAL:aF Z 165 ak9:=bf (aG.get .nil) (aH.get (.cons ala .nil))
def aHT:Nat->Option (List R.Item):=λi=>match i with|5=>some [⟨[13],.v (.int .i64)⟩]|14=>some []|17=>some [⟨[31],.v (.int .i64)⟩]|30=>some []|_=>none
def i69:aL Zτ.S:=inl Z false (aI [(164,c164)]) (aJ [(165,ak9),(166,aay)]) aHT 69
theorem aBF:aF Z 69 i69:=bf (aG.get (.cons atI .nil)) (aH.get (.cons aAL (.cons ala .nil)))
def aFe:Nat->Option (List R.Item):=λ_=>none
def i167:aL Zτ.S:=inl Z false (aI []) (aJ []) aFe 167
theorem alb:aF Z 167 i167:=bf (aG.get .nil) (aH.get .nil)
def aFf:Nat->Option (List R.Item):=λ_=>none
def sV(p:Int):Option Int:=ah (aj (2*p))<|some (2*p)
def c168:aN Zτ.S:=⟨[.int .i64],[.int .i64],sV⟩
theorem agi:FZ Z.P Zτ 168 c168:=aT (C:=Z) (wr:=false) (T:=(aI [])) (I:=(aJ [])) (sp:=aFf) (aG.get .nil) (aH.get .nil) λp=>by kernel_rfl
def aFg:Nat->Option (List R.Item):=λ_=>none
def CY(p:Int):Option Int:=ah (aj (2*p))<|ah (aj (2*p+1))<|some (2*p+1)
def agj:aN Zτ.S:=⟨[.int .i64],[.int .i64],CY⟩
theorem atJ:FZ Z.P Zτ 169 agj:=aT (C:=Z) (wr:=false) (T:=(aI [])) (I:=(aJ [])) (sp:=aFg) (aG.get .nil) (aH.get .nil) λp=>by kernel_rfl
def aHU:Nat->Option (List R.Item):=λi=>match i with|3=>some [⟨[22],.v (.int .i64)⟩,⟨[0,18],.o (.st 18)⟩]|9=>some [⟨[30],.v (.int .i64)⟩,⟨[0,18],.o (.st 18)⟩]|22=>some [⟨[0,18],.o (.st 18)⟩]|24=>some [⟨[0,18],.o (.st 18)⟩]|26=>some [⟨[0,18],.o (.st 18)⟩]|29=>some [⟨[86],.v (.int .i64)⟩,⟨[0,18],.o (.st 18)⟩]|38=>some [⟨[0,18],.o (.st 18)⟩]|41=>some [⟨[121],.v (.int .i64)⟩,⟨[0,18],.o (.st 18)⟩]|48=>some [⟨[0,18],.o (.st 18)⟩]|51=>some [⟨[148],.v (.int .i64)⟩,⟨[0,18],.o (.st 18)⟩]|_=>none
def i70:aL Zτ.S:=inl Z false (aI [(168,c168),(169,agj)]) (aJ [(162,i162),(167,i167),(163,aax)]) aHU 70
theorem aBG:aF Z 70 i70:=bf (aG.get (.cons agi (.cons atJ .nil))) (aH.get (.cons aaw (.cons alb (.cons ak7 .nil))))
def aGj:Nat->Option (List R.Item):=λ_=>none
def aaG:aL Zτ.S:=inl Z false (aI []) (aJ []) aGj 235
theorem aly:aF Z 235 aaG:=bf (aG.get .nil) (aH.get .nil)
def aFb:Nat->Option (List R.Item):=λi=>match i with|5=>some [⟨[19],.v (.int .i64)⟩,⟨[2,966656,0],.s (.int .i64)⟩]|11=>some [⟨[32],.v (.int .i64)⟩,⟨[2,966656,0],.s (.int .i64)⟩]|18=>some [⟨[2,966656,0],.s (.int .i64)⟩]|20=>some [⟨[2,966656,0],.s (.int .i64)⟩]|_=>none
def ak8:aL Zτ.S:=inl Z false (aI []) (aJ [(235,aaG)]) aFb 165
theorem aAK:aF Z 165 ak8:=bf (aG.get .nil) (aH.get (.cons aly .nil))
def aFi:Nat->Option (List R.Item):=λi=>match i with|7=>some [⟨[16],.v (.int .i64)⟩,⟨[7,0],.s (.int .i64)⟩]|14=>some [⟨[7,0],.s (.int .i64)⟩]|16=>some [⟨[7,0],.s (.int .i64)⟩]|_=>none
def alc:aL Zτ.S:=inl Z false (aI []) (aJ [(165,ak8),(235,aaG)]) aFi 170
theorem aAM:aF Z 170 alc:=bf (aG.get .nil) (aH.get (.cons aAK (.cons aly .nil)))
def aFk:Nat->Option (List R.Item):=λi=>match i with|7=>some [⟨[5],.o (.st 26)⟩,⟨[10],.v (.int .i64)⟩]|14=>some [⟨[5],.o (.st 26)⟩]|16=>some [⟨[5],.o (.st 26)⟩]|_=>none
def ald:aL Zτ.S:=aL.rd<|inl Z false (aI []) (aJ []) aFk 172
theorem aAN:aF Z 172 ald:=aF.rd (C:=Z)<|bf (aG.get .nil) (aH.get .nil)
def aHV:Nat->Option (List R.Item):=λi=>match i with|5=>some [⟨[15],.v (.int .i64)⟩,⟨[0,18],.o (.st 18)⟩]|11=>some [⟨[4],.v (.int .i64)⟩,⟨[0,18],.o (.st 18)⟩]|12=>some [⟨[0,18],.o (.st 18)⟩]|25=>some [⟨[65],.v (.int .i64)⟩,⟨[0,18],.o (.st 18)⟩]|32=>some [⟨[0,18],.o (.st 18)⟩]|34=>some [⟨[0,18],.o (.st 18)⟩]|_=>none
def i71:aL Zτ.S:=inl Z false (aI [(171,c171),(168,c168)]) (aJ [(170,alc),(172,ald),(167,i167)]) aHV 71
theorem aBH:aF Z 71 i71:=bf (aG.get (.cons atL (.cons agi .nil))) (aH.get (.cons aAM (.cons aAN (.cons alb .nil))))
abbrev yu:=Int×List bE->Option (Network×Int)
abbrev asx:=Int×List Event->Option (Network×Int)
abbrev Wo:=Int×List Join->Option (Network×Int)
abbrev Wt:=Int×List Int->Option (Network×Int)
abbrev oD:=List (List aV)×List Int×Int
abbrev AY:=List bE->Option (Network×Int)
abbrev WB:=List Int->Option (Network×Int)
abbrev asE:=Bool->Option (Network×Int)
abbrev WG:=Int->Option (Network×Int)
abbrev ow:=Int×List Int×List Event
abbrev eP:=Option (Network×Int)
abbrev MG:=List aV×Int
abbrev nA:=Int×List bE
abbrev qc:=List aV
abbrev vK:=Int×List Join
def aGG:Nat->Option (List R.Item):=λ_=>none
def aoO(b:ow)(d:List Int×List Event->eP)(e:Line)(c:asx)(a:Int×List Event):eP:=if decide (a.1<(e.4.length:Int)) then ah (aS 24 (a.2++[Event.mk 1 b.1 a.1,Event.mk 2 b.1 a.1]).length)<|ah (aj (a.1+1))<|c (a.1+1,a.2++[Event.mk 1 b.1 a.1,Event.mk 2 b.1 a.1]) else d (b.2.1++[IntKind.i64.wrap ((b.2.2.length:Int).tdiv 2)],a.2)
def aoG(g:nA)(e:nA)(h:AY)(b:List Window×Int)(f:yu)(gX:nA):eP:=if decide (gX.1<(b.1.length:Int)) then (idx b.1 gX.1).bind λa=>(sV g.1).bind λc=>(sV e.1).bind λd=>ah (aS 48 (gX.2++[bE.mk 6 c d a.1 a.2 0]).length)<|ah (aj (gX.1+1))<|f (gX.1+1,gX.2++[bE.mk 6 c d a.1 a.2 0]) else h gX.2
def aoH(g:List Int)(b:qc)(e:qc->eP)(c:MG->eP)(xU:MG):eP:=if decide (xU.2<(b.length:Int)) then au (λ(f:qc)=>ah (aj (xU.2+1))<|c (f,xU.2+1)) λd=>(idx b xU.2).bind λa=>if !sQ a.1 g then ah (aS 24 (xU.1++[a]).length)<|d (xU.1++[a]) else d xU.1 else e xU.1
def acN(g:List Int)(c:qc)(h:qc->eP)(f:MG->eP)(a:MG):eP:=if decide (a.2<(c.length:Int)) then au (λ(d:qc)=>ah (aj (a.2+1))<|f (d,a.2+1)) λe=>(idx c a.2).bind λb=>if !sQ b.1 g then ah (aS 24 (a.1++[b]).length)<|e (a.1++[b]) else e a.1 else h a.1
def aoK(d:Join)(h:WB)(a:aV)(e:qc)(g:Wt)(dZ:Int×List Int):eP:=if decide (dZ.1<(e.length:Int)) then au (λ(f:List Int)=>ah (aj (dZ.1+1))<|g (dZ.1+1,f)) λc=>(idx e dZ.1).bind λb=>ah (!decide (a.1=b.1)||aj (d.3+b.2))<|if decide (a.1=b.1)&&decide (d.3+b.2<=a.3) then c (match sQ a.1 dZ.2 with|true=>dZ.2|false=>dZ.2++[a.1]) else c dZ.2 else h dZ.2
def aoJ(e:oD)(i:WB)(b:Join)(c:qc)(d:Wt)(a:Int×List Int):eP:=if decide (a.1<(c.length:Int)) then au (λ(h:List Int)=>ah (aj (a.1+1))<|d (a.1+1,h)) λj=>(idx c a.1).bind λf=>(idx e.1 b.2).bind λg=>iter (aoK b j f g) FUEL (0,a.2) else i a.2
def acO(d:oD)(bH:vK)(i:nA)(c:nA)(j:WB)(e:Wt)(b:Int×List Int):eP:=if decide (b.1<(bH.2.length:Int)) then au (λ(f:List Int)=>ah (aj (b.1+1))<|e (b.1+1,f)) λh=>(idx bH.2 b.1).bind λa=>if decide (a.1=i.1)&&decide (a.2=c.1)||decide (a.1=c.1)&&decide (a.2=i.1) then (idx d.1 a.1).bind λg=>iter (aoJ d h a g) FUEL (0,b.2) else h b.2 else j b.2
def aoF(p:Layout×Plan)(r:ow)(b:oD)(bH:vK)(d:nA)(m:AY)(j:yu)(a:nA):eP:=if decide (a.1<(b.1.length:Int)) then au (λ(i:List bE)=>ah (aj (a.1+1))<|j (a.1+1,i)) λo=>au (λ(h:List Int)=>(idx b.1 d.1).bind λf=>(idx b.1 a.1).bind λg=>au (λ(e:qc)=>au (λ(n:qc)=>(Qe (p.2.1,e,n)).bind λc=>if !decide (c.2=0) then if !decide (c.2=0) then some (Network.mk 0 [] [],c.2) else if decide (512<(a.2.length:Int)) then some (Network.mk 0 [] [],7) else some (Network.mk p.2.1 r.2.2 a.2,0) else iter (aoG d a o c) FUEL (0,a.2)) λk=>iter (aoH h g k) FUEL ([],0)) λl=>iter (acN h f l) FUEL ([],0)) λq=>iter (acO b bH d a q) FUEL (0,[]) else m a.2
def acM(p:Layout×Plan)(e:ow)(b:oD)(bH:vK)(f:AY)(c:yu)(a:nA):eP:=if decide (a.1<(b.1.length:Int)) then au (λ(g:List bE)=>ah (aj (a.1+1))<|c (a.1+1,g)) λd=>ah (aj (a.1+1))<|iter (aoF p e b bH a d) FUEL (a.1+1,a.2) else f a.2
def aoE(p:Layout×Plan)(f:ow)(g:oD)(bH:vK)(j:yu)(bP:nA):eP:=if decide (bP.1<(p.2.7.length:Int)) then (idx p.2.7 bP.1).bind λa=>(idx f.2.1 a.1).bind λb=>ah (aj (b+a.2))<|(sV (b+a.2)).bind λc=>(idx f.2.1 a.3).bind λd=>ah (aj (d+a.4))<|(sV (d+a.4)).bind λe=>ah (aS 48 (bP.2++[bE.mk 5 c e a.5 a.5 0]).length)<|ah (aj (bP.1+1))<|j (bP.1+1,bP.2++[bE.mk 5 c e a.5 a.5 0]) else au (λ(h:List bE)=>if decide (512<(h.length:Int)) then some (Network.mk 0 [] [],7) else some (Network.mk p.2.1 f.2.2 h,0)) λi=>iter (acM p f g bH i) FUEL (0,bP.2)
def aoL(p:Layout×Plan)(e:ow)(j:AY)(i:yu)(b:nA):eP:=if decide (b.1<(p.2.6.length:Int)) then (idx p.2.6 b.1).bind λa=>(idx p.2.4 a.1).bind λc=>ah (aj ((c.4.length:Int)-1))<|(idx e.2.1 a.1).bind λf=>ah (aj (f+((c.4.length:Int)-1)))<|(CY (f+((c.4.length:Int)-1))).bind λh=>(idx e.2.1 a.2).bind λg=>ah (aj (g+0))<|(sV (g+0)).bind λd=>ah (aS 48 (b.2++[bE.mk 4 h d a.3 a.4 1]).length)<|ah (aj (b.1+1))<|i (b.1+1,b.2++[bE.mk 4 h d a.3 a.4 1]) else j b.2
def aox(p:Layout×Plan)(h:ow)(i:AY)(d:yu)(c:nA):eP:=if decide (c.1<(p.2.5.length:Int)) then (idx p.2.5 c.1).bind λa=>(idx h.2.1 a.1).bind λb=>ah (aj (b+a.2))<|(idx h.2.1 a.3).bind λg=>ah (aj (g+a.4))<|(CY (b+a.2)).bind λe=>(sV (g+a.4)).bind λf=>ah (aS 48 (c.2++[bE.mk 3 e f a.5 a.6 a.7]).length)<|ah (aj (c.1+1))<|d (c.1+1,c.2++[bE.mk 3 e f a.5 a.6 a.7]) else i c.2
def aoz(o:ow)(k:oD)(p:nA)(m:AY)(c:Line)(j:yu)(b:nA):eP:=if decide (b.1<(c.4.length:Int)) then au (λ(n:List bE)=>ah (aj (b.1+1))<|j (b.1+1,n)) λl=>(idx c.4 b.1).bind λd=>(idx o.2.1 p.1).bind λg=>ah (aj (g+b.1))<|(idx k.2.1 (g+b.1)).bind λa=>ah (aj (a+d.2))<|(sV (g+b.1)).bind λi=>(CY (g+b.1)).bind λh=>ah (aS 48 (b.2++[bE.mk 1 i h a (a+d.2) c.3]).length)<|ah (aj ((c.4.length:Int)-1))<|if decide (b.1<(c.4.length:Int)-1) then ah (aj (g+b.1+1))<|(CY (g+b.1)).bind λe=>(sV (g+b.1+1)).bind λf=>ah (aS 48 (b.2++[bE.mk 1 i h a (a+d.2) c.3]++[bE.mk 2 e f d.3 d.4 c.3]).length)<|l (b.2++[bE.mk 1 i h a (a+d.2) c.3]++[bE.mk 2 e f d.3 d.4 c.3]) else l (b.2++[bE.mk 1 i h a (a+d.2) c.3]) else m b.2
def aoy(p:Layout×Plan)(g:ow)(c:oD)(h:AY)(b:yu)(a:nA):eP:=if decide (a.1<(p.2.4.length:Int)) then au (λ(d:List bE)=>ah (aj (a.1+1))<|b (a.1+1,d)) λe=>(idx p.2.4 a.1).bind λf=>iter (aoz g c a e f) FUEL (0,a.2) else h a.2
def aoC(p:Layout×Plan)(c:Join)(i:asE)(a:aV)(h:qc)(g:Int×Bool->eP)(d:Int×Bool):eP:=if decide (d.1<(h.length:Int)) then au (λ(f:Bool)=>ah (aj (d.1+1))<|g (d.1+1,f)) λe=>(idx h d.1).bind λb=>ah (!decide (a.1=b.1)||aj (c.3+b.2))<|if decide (a.1=b.1)&&decide (c.3+b.2<=a.3) then ah (aj (c.3+b.2))<|ah (aj (c.4+b.3))<|ah (!!d.2||aj (max a.3 (c.4+b.3)-min a.2 (c.3+b.2)))<|e (d.2||decide (p.2.1<max a.3 (c.4+b.3)-min a.2 (c.3+b.2))) else e d.2 else i d.2
def aoB(p:Layout×Plan)(c:oD)(h:WG)(Du:Int)(e:Join)(d:qc)(b:Int×Bool->eP)(Dv:Int×Bool):eP:=if decide (Dv.1<(d.length:Int)) then au (λ(g:Bool)=>ah (aj (Dv.1+1))<|b (Dv.1+1,g)) λf=>(idx d Dv.1).bind λa=>(idx c.1 e.2).bind λi=>iter (aoC p e f a i) FUEL (0,Dv.2) else if Dv.2 then some (Network.mk 0 [] [],13) else ah (aj (Du+1))<|h (Du+1)
def aoA(p:Layout×Plan)(a:oD)(bH:vK)(c:Unit->eP)(d:WG)(Du:Int):eP:=if decide (Du<(bH.2.length:Int)) then (idx bH.2 Du).bind λb=>(idx a.1 b.1).bind λe=>iter (aoB p a d Du b e) FUEL (0,false) else c PUnit.unit
def aoD(p:Layout×Plan)(a:oD)(f:Unit->eP)(e:WG)(b:Int):eP:=if decide (b<(a.1.length:Int)) then (idx a.1 b).bind λc=>(Qd (p.2.1,c)).bind λd=>if !d then some (Network.mk 0 [] [],13) else ah (aj (b+1))<|e (b+1) else f PUnit.unit
def aow(p:Layout×Plan)(i:ow)(c:oD)(o:Wo)(bH:vK):eP:=if decide (bH.1<(p.2.6.length:Int)) then (idx p.2.6 bH.1).bind λa=>(idx p.2.4 a.1).bind λg=>ah (aj ((g.4.length:Int)-1))<|(idx g.4 ((g.4.length:Int)-1)).bind λe=>(idx p.2.4 a.1).bind λd=>ah (aj ((d.4.length:Int)-1))<|(idx i.2.1 a.1).bind λf=>ah (aj (f+((d.4.length:Int)-1)))<|(idx i.2.1 a.2).bind λh=>ah (aj (h+0))<|(idx c.2.1 (f+((d.4.length:Int)-1))).bind λb=>ah (aj (b+a.3))<|ah (aj (b+e.2))<|ah (aj (b+e.2+a.4))<|ah (aS 32 (bH.2++[Join.mk (f+((d.4.length:Int)-1)) (h+0) (b+a.3) (b+e.2+a.4)]).length)<|ah (aj (bH.1+1))<|o (bH.1+1,bH.2++[Join.mk (f+((d.4.length:Int)-1)) (h+0) (b+a.3) (b+e.2+a.4)]) else au (λ(t:Unit)=>au (λ(u:Unit)=>au (λ(j:List bE)=>au (λ(n:List bE)=>au (λ(l:List bE)=>iter (aoE p i c bH) FUEL (0,l)) λm=>iter (aoL p i m) FUEL (0,n)) λr=>iter (aox p i r) FUEL (0,j)) λs=>iter (aoy p i c s) FUEL (0,[])) λk=>iter (aoA p c bH k) FUEL 0) λq=>iter (aoD p c q) FUEL 0
def aoN(i:ow)(h:oD)(tF:vK)(j:List Join->eP)(d:List gL)(g:Wo)(c:vK):eP:=if decide (c.1<(d.length:Int)) then (idx d c.1).bind λa=>ah (aj (c.1+1))<|(idx i.2.1 tF.1).bind λe=>ah (aj (e+c.1))<|(idx i.2.1 tF.1).bind λf=>ah (aj (f+(c.1+1)))<|(idx h.2.1 (e+c.1)).bind λb=>ah (aj (b+a.3))<|ah (aj (b+a.2))<|ah (aj (b+a.2+a.4))<|ah (aS 32 (c.2++[Join.mk (e+c.1) (f+(c.1+1)) (b+a.3) (b+a.2+a.4)]).length)<|ah (aj (c.1+1))<|g (c.1+1,c.2++[Join.mk (e+c.1) (f+(c.1+1)) (b+a.3) (b+a.2+a.4)]) else j c.2
def aoM(p:Layout×Plan)(g:ow)(e:oD)(f:List Join->eP)(d:Wo)(tF:vK):eP:=if decide (tF.1<(p.2.4.length:Int)) then au (λ(c:List Join)=>ah (aj (tF.1+1))<|d (tF.1+1,c)) λh=>(idx p.2.4 tF.1).bind λa=>ah (aj ((a.4.length:Int)-1))<|(sub a.4 0 ((a.4.length:Int)-1)).bind λb=>iter (aoN g e tF h b) FUEL (0,tF.2) else f tF.2
def aov(p:Layout×Plan)(f:ow->eP)(a:ow):eP:=if decide (a.1<(p.2.4.length:Int)) then au (λ(d:List Int×List Event)=>ah (aj (a.1+1))<|f (a.1+1,d.1,d.2)) λg=>(idx p.2.4 a.1).bind λh=>ah (!decide (2=0))<|ah (aS 8 (a.2.1++[IntKind.i64.wrap ((a.2.2.length:Int).tdiv 2)]).length)<|iter (aoO a g h) FUEL (0,a.2.2) else if decide (48<(a.2.2.length:Int)) then some (Network.mk 0 [] [],7) else (Gg (p.1,p.2)).bind λb=>if !decide (b.2.2=0) then some (Network.mk 0 [] [],b.2.2) else au (λ(c:List Join)=>iter (aow p a b) FUEL (0,c)) λe=>iter (aoM p a b e) FUEL (0,[])
def sS(p:Layout×Plan):eP:=(C8 (p.1,p.2)).bind λa=>if !decide (a=0) then some (Network.mk 0 [] [],1) else iter (aov p) FUEL (0,[],[])
def I4:aN Zτ.S:=⟨[.st 2,.st 12],[.st 19,.int .i64],sS⟩
theorem Oj:FZ Z.P Zτ 27 I4:=aT (C:=Z) (wr:=false) (T:=(aI [(57,I6),(67,c67)])) (I:=(aJ [(66,i66),(68,i68),(69,i69),(70,i70),(71,i71)])) (sp:=aGG) (aG.get (.cons Ot (.cons auV .nil))) (aH.get (.cons aBD (.cons aBE (.cons aBF (.cons aBG (.cons aBH .nil)))))) λp=>by kernel_rfl
end
end Go.Z
namespace Go.Proofs
open Go Go.Shelf Go.RowKit Go.Lib Go.Sort
set_option maxHeartbeats 1000000 in
theorem Tryz.closure102(x y:Int)(b o n c d g f h:Nat)(u l:Bool)(W:World)(v:0<n)(t:0<f)(i:W.cell? ⟨b,o,none⟩=some (.int .i64 x))(j:W.cell? ⟨d,g,none⟩=some (.int .i64 y)):Calls Tryz.prog 102 #[.agg #[.slice (some ⟨b,o,none⟩) n c,.bool u],.agg #[.slice (some ⟨d,g,none⟩) f h,.bool l]] W λe w'=>e= .returned (.int .i64 (Lib.compareInt x y))/\∃q k,w'=grow (W.drewN q) k:=by
 have a:=λm=>Tryz.cmp103 x y m;generalize Lib.compareInt x y=r at a |-;have p:(0:Int)<n:=by omega
 have s:(0:Int)<f:=by omega
 have f1:((W.alloc (.cells #[.slice (some ⟨b,o,none⟩) n c,.bool u] 125 (0,0))).alloc (.cells #[.slice (some ⟨d,g,none⟩) f h,.bool l] 125 (0,0))).cell? ⟨b,o,none⟩=some (.int .i64 x):=by rw[World.cell?_alloc_past _ _ _ (by have:=(Go.R.Bp i);rw[Go.R.Qf];omega),World.cell?_alloc_past _ _ _ (Go.R.Bp i)];exact i
 have f2:((W.alloc (.cells #[.slice (some ⟨b,o,none⟩) n c,.bool u] 125 (0,0))).alloc (.cells #[.slice (some ⟨d,g,none⟩) f h,.bool l] 125 (0,0))).cell? ⟨d,g,none⟩=some (.int .i64 y):=by rw[World.cell?_alloc_past _ _ _ (by have:=(Go.R.Bp j);rw[Go.R.Qf];omega),World.cell?_alloc_past _ _ _ (Go.R.Bp j)];exact j
 go_enter Tryz.func102,Tryz.ntmps102;go_wp2;go_region_with (go_at_call 103;refine (a _).mono ?_;rintro e w' ⟨rfl,rfl⟩);all_goals (try go_wp2)
 all_goals go_ret
 all_goals exact⟨rfl,1,_,by rw[alloc_eq_grow,alloc_eq_grow,grow_grow];rfl⟩
end Go.Proofs
namespace Go.Z
open Go Go.Proofs Go.Dc Go.R
def zM(r:dO):Int:=r.Lines.headD 0
def E8(r:dO):Bool:= !r.Lines.isEmpty
def aar:aL Zτ.S:=⟨λvs s K=>match vs with
 |[.o m,.f 102 []]=>match bq s.Th m with
  |some (.ar (.st 21) xs)=>ah (List.all (α:=dO) xs E8) (K (.t []) ⟨s.B,s.T,s.Bh,setH m (.ar (.st 21) (iW zM xs)) s.Th,s.nx⟩)
  |_=>none
 |_=>none,false⟩
theorem aAq:aF Z 101 aar:=by
 intro β y vs s K h κ M w ρ N G e;unfold aar at h;simp only at h;split at h
 ·rename_i m;split at h
  ·rename_i xs hm;obtain⟨a,h⟩:=jZ h;obtain⟨x,z,rfl⟩:∃x z,N=[x,z]:=by match N,e.1 with|[x,z],_=>exact⟨x,z,rfl⟩
   have hz:z= .func (.func 102) #[] #[]:=by
    have:=e.2 1 (.f 102 []) z rfl rfl
    cases this with
    |v h=>cases h with
     | @f _ _ us h1 h2=>
      cases us with
      |nil=>rfl
      |cons=>simp at h1
   subst hz
   have cell:∀(x:dO) (k:List Value),E8 x=true->aZ Zτ M ρ (E Zτ (.st 21) x).cs k->∃b o n c u,k=[.slice (some ⟨b,o,none⟩) n c,.bool u]/\0<n/\M b o=some (.int .i64 (zM x)):=by
    intro x k L J;obtain⟨ls,u⟩:=x;have J:aZ Zτ M ρ [.l (.int .i64) ls,.b u] k:=J
    cases ls with
    |nil=>cases L
    |cons l0 r=>
     cases J with
     |cons O D=>cases D with
      |cons D P=>cases P;cases D;cases O with
       | @l _ _ b o cap vs h0 h1 h2 U V=>
        refine⟨b,o,_,cap,u,rfl,sm,?_⟩
        have j:=U 0 l0 rfl 0 dc
        have B:=V 0 l0 rfl 0 (.i .i64 l0) rfl
        have j:M b (o+0*1+0)=some (vs 0 0):=j
        generalize vs 0 0=q at j B
        cases B
        simpa [zM] using j
   refine aqh (C:=Z) (c:= .st 21) (g:=102) (f:=101) (key:=zM) (good:=E8) (λp cap w=>AnyF.slices_SortFunc_none Tryz.laysSort101 p cap _ w) ?_ ?_ G hm (e.2 0 (.o m) x rfl rfl) a h;·intro F hk h1 S Y blk off cap d w A X t I;exact AnyQ.slices_SortFunc_eq Tryz.laysSort101 2 Tryz.isAgg125 Tryz.sizeOf125 F hk h1 S Y 102 #[] blk off cap d w (enters_of Tryz.func102 (by kernel_rfl) rfl) A X t I
   ·intro x y k vy W gx T L hy hs;obtain⟨b,o,n,c,u,rfl,hn,j⟩:=cell x k gx L;obtain⟨Q,o',n',R,u',rfl,H,B⟩:=cell y vy T hy;exact Tryz.closure102 (zM x) (zM y) b o n c Q o' n' R u u' W hn H (hs _ _ _ j) (hs _ _ _ B)
  ·cases h
 ·cases h
end Go.Z
namespace Go.Z
open Go Go.Proofs Go.Dc Go.R
set_option maxRecDepth 100000
noncomputable section
def aEf:Nat->Option (List R.Item):=λ_=>none
def aC6(p:dO×dO):Option Int:=(idx p.1.1 0).bind λa=>(idx p.2.1 0).bind λb=>(XI (a,b)).bind λc=>some c
def afZ:aN Zτ.S:=⟨[.st 21,.st 21],[.int .i64],aC6⟩
theorem atl:FZ Z.P Zτ 102 afZ:=aT (C:=Z) (wr:=false) (T:=(aI [(103,WY)])) (I:=(aJ [])) (sp:=aEf) (aG.get (.cons af0 .nil)) (aH.get .nil) λp=>by kernel_rfl
abbrev afo:=List Int->Option (List Int)
abbrev Il:=Option (List Int)
def aHw:Nat->Option (List R.Item):=λi=>match i with|7=>some [⟨[13],.v (.int .i64)⟩,⟨[3],.k (.int .i64)⟩]|14=>some [⟨[3],.k (.int .i64)⟩]|17=>some [⟨[23],.v (.int .i64)⟩,⟨[3],.k (.int .i64)⟩]|24=>some [⟨[3],.k (.int .i64)⟩]|_=>none
def apa(p:Plan)(d:afo)(c:Int×List Int->Il)(a:Int×List Int):Il:=if decide (a.1<(p.6.length:Int)) then (idx p.6 a.1).bind λb=>(idx a.2 b.1).bind λe=>(idx a.2 b.1).bind λf=>ah (aj (a.1+1))<|c (a.1+1,List.set a.2 b.1.toNat a.1) else d a.2
def ao9(p:Plan)(b:afo)(a:Int×List Int->Il)(s12:Int×List Int):Il:=if decide (s12.1<(↑(List.replicate (p.4.length:Int).toNat (0:Int)).length:Int)) then (idx s12.2 s12.1).bind λc=>(idx s12.2 s12.1).bind λd=>ah (aj (s12.1+1))<|a (s12.1+1,List.set s12.2 (Int.toNat s12.1) (-1)) else b s12.2
def KS(p:Plan):Il:=ah (fE 8 (p.4.length:Int) (p.4.length:Int))<|au (λ(a:List Int)=>au (λ(b:List Int)=>some b) λc=>iter (apa p c) FUEL (0,a)) λd=>iter (ao9 p d) FUEL ((0:Int),List.replicate (p.4.length:Int).toNat (0:Int))
def Xz:aN Zτ.S:=⟨[.st 12],[.list (.int .i64)],KS⟩
theorem ahi:FZ Z.P Zτ 42 Xz:=aT (C:=Z) (wr:=false) (T:=(aI [])) (I:=(aJ [])) (sp:=aHw) (aG.get .nil) (aH.get .nil) λp=>by kernel_rfl
abbrev afp:=List dO×List Bool->Option (List dO)
abbrev afs:=List Int×List Bool->Option (List dO)
abbrev asA:=Int×List Bool->Option (List dO)
abbrev asC:=List Bool->Option (List dO)
abbrev Ns:=Int×List dO×List Bool
abbrev Nu:=Int×List Int×List Bool
abbrev Nv:=List dO×List Bool
abbrev uf:=Option (List dO)
def aEe:Nat->Option (List R.Item):=λi=>match i with|5=>some [⟨[9],.v (.int .i64)⟩,⟨[8,0],.n (.int .i64)⟩,⟨[2,0],.k .bool⟩]|14=>some [⟨[8,0],.n (.int .i64)⟩,⟨[2,0],.k .bool⟩]|_=>none
def akS:aL Zτ.S:=inl ZA false (aI []) (aJ []) aEe 100
theorem aAp:aF Z 100 akS:=aF.am (b:=false) (bf (C:=ZA) (aG.get .nil) (aH.get .nil))
def aHx:Nat->Option (List R.Item):=λi=>match i with|9=>some [⟨[21],.v (.int .i64)⟩,⟨[4],.k .bool⟩]|16=>some [⟨[4],.k .bool⟩]|25=>some [⟨[38],.v (.int .i64)⟩,⟨[7,0],.n (.st 21)⟩,⟨[8,0],.k .bool⟩]|32=>some [⟨[7,0],.n (.st 21)⟩,⟨[8,0],.k .bool⟩]|34=>some [⟨[7,0],.n (.st 21)⟩,⟨[8,0],.k .bool⟩]|37=>some [⟨[53],.v (.int .i64)⟩,⟨[7,0],.n (.st 21)⟩,⟨[8,0],.k .bool⟩]|44=>some [⟨[7,0],.n (.st 21)⟩,⟨[8,0],.k .bool⟩]|46=>some [⟨[7,0],.n (.st 21)⟩,⟨[8,0],.k .bool⟩]|_=>none
def aC8(p:Plan)(g:List Int)(b:afs)(h:Nu->uf)(a:Nu):uf:=(idx a.2.2 a.1).bind λi=>(idx a.2.2 a.1).bind λc=>if !c then (idx a.2.2 a.1).bind λj=>(idx a.2.2 a.1).bind λk=>ah (aS 8 (a.2.1++[a.1]).length)<|(idx g a.1).bind λd=>if decide (0<=d) then (idx g a.1).bind λe=>(idx p.6 e).bind λf=>h (f.2,a.2.1++[a.1],List.set a.2.2 (Int.toNat a.1) true) else h (a.1,a.2.1++[a.1],List.set a.2.2 (Int.toNat a.1) true) else b (a.2.1,a.2.2)
def ao8(p:Plan)(i:List Int)(h:afp)(g:Ns->uf)(a:Ns):uf:=if decide (a.1<(p.4.length:Int)) then au (λ(e:Nv)=>ah (aj (a.1+1))<|g (a.1+1,e.1,e.2)) λf=>(idx a.2.2 a.1).bind λj=>(idx a.2.2 a.1).bind λd=>if !d then au (λ(b:List Int×List Bool)=>ah (aS 32 (a.2.1++[dO.mk b.1 true]).length)<|f (a.2.1++[dO.mk b.1 true],b.2)) λc=>iter (aC8 p i c) FUEL (a.1,[],a.2.2) else f (a.2.1,a.2.2) else h (a.2.1,a.2.2)
def aC7(p:Plan)(g:List Int)(h:afs)(b:Nu->uf)(a:Nu):uf:=(idx a.2.2 a.1).bind λi=>(idx a.2.2 a.1).bind λc=>if !c then (idx a.2.2 a.1).bind λj=>(idx a.2.2 a.1).bind λk=>ah (aS 8 (a.2.1++[a.1]).length)<|(idx g a.1).bind λd=>if decide (0<=d) then (idx g a.1).bind λe=>(idx p.6 e).bind λf=>b (f.2,a.2.1++[a.1],List.set a.2.2 (Int.toNat a.1) true) else b (a.1,a.2.1++[a.1],List.set a.2.2 (Int.toNat a.1) true) else h (a.2.1,a.2.2)
def ao6(p:Plan)(i:List Int)(g:List Bool)(d:afp)(b:Ns->uf)(mR:Ns):uf:=if decide (mR.1<(p.4.length:Int)) then au (λ(a:Nv)=>ah (aj (mR.1+1))<|b (mR.1+1,a.1,a.2)) λf=>(idx g mR.1).bind λj=>(idx g mR.1).bind λe=>if !e then au (λ(c:List Int×List Bool)=>ah (aS 32 (mR.2.1++[dO.mk c.1 false]).length)<|f (mR.2.1++[dO.mk c.1 false],c.2)) λh=>iter (aC7 p i h) FUEL (mR.1,[],mR.2.2) else f (mR.2.1,mR.2.2) else d (mR.2.1,mR.2.2)
def ao7(p:Plan)(c:asC)(b:asA)(lJ:Int×List Bool):uf:=if decide (lJ.1<(p.6.length:Int)) then (idx p.6 lJ.1).bind λa=>(idx lJ.2 a.2).bind λd=>(idx lJ.2 a.2).bind λe=>ah (aj (lJ.1+1))<|b (lJ.1+1,List.set lJ.2 a.2.toNat true) else c lJ.2
def Td(p:Plan):uf:=(KS p).bind λd=>ah (fE 1 (p.4.length:Int) (p.4.length:Int))<|au (λ(e:List Bool)=>ah (fE 1 (p.4.length:Int) (p.4.length:Int))<|au (λ(b:Nv)=>au (λ(c:Nv)=>ah (List.all c.1 E8)<|some (iW zM c.1)) λf=>iter (ao8 p d f) FUEL (0,b.1,b.2)) λa=>iter (ao6 p d e a) FUEL ((0:Int),[],List.replicate (p.4.length:Int).toNat false)) λg=>iter (ao7 p g) FUEL ((0:Int),List.replicate (p.4.length:Int).toNat false)
def c43:aN Zτ.S:=⟨[.st 12],[.list (.st 21)],Td⟩
theorem auP:FZ Z.P Zτ 43 c43:=aT (C:=ZA) (wr:=false) (T:=(aI [(42,Xz),(102,afZ)])) (I:=(aJ [(101,aar),(100,akS)])) (sp:=aHx) (aG.get (.cons ahi (.cons atl .nil))) (aH.get (.cons (aF.am aAq) (.cons (aF.am aAp) .nil))) λp=>by kernel_rfl
def aFG:Nat->Option (List R.Item):=λ_=>none
def aaz:aL Zτ.S:=aL.rd<|inl Z false (aI [(19,c19)]) (aJ []) aFG 192
theorem alg:aF Z 192 aaz:=aF.rd (C:=Z)<|bf (aG.get (.cons EG .nil)) (aH.get .nil)
def aEj:Nat->Option (List R.Item):=λ_=>none
def aas:aL Zτ.S:=aL.rd<|inl Z false (aI []) (aJ [(192,aaz)]) aEj 106
theorem akV:aF Z 106 aas:=aF.rd (C:=Z)<|bf (aG.get .nil) (aH.get (.cons alg .nil))
def aEk:Nat->Option (List R.Item):=λ_=>none
def i107:aL Zτ.S:=aL.rd<|inl Z false (aI []) (aJ [(192,aaz)]) aEk 107
theorem akW:aF Z 107 i107:=aF.rd (C:=Z)<|bf (aG.get .nil) (aH.get (.cons alg .nil))
def aEh:Nat->Option (List R.Item):=λi=>match i with|11=>some [⟨[5],.v (.int .i64)⟩,⟨[17],.v (.int .i64)⟩]|17=>some [⟨[5],.v (.int .i64)⟩,⟨[31],.v (.int .i64)⟩]|26=>some [⟨[5],.v (.int .i64)⟩]|28=>some [⟨[5],.v (.int .i64)⟩]|_=>none
def akT:aL Zτ.S:=aL.rd<|inl Z false (aI []) (aJ [(107,i107),(106,aas)]) aEh 104
theorem aAr:aF Z 104 akT:=aF.rd (C:=Z)<|bf (aG.get .nil) (aH.get (.cons akW (.cons akV .nil)))
def aEi:Nat->Option (List R.Item):=λ_=>none
def akU:aL Zτ.S:=inl Z false (aI []) (aJ []) aEi 105
theorem aAs:aF Z 105 akU:=bf (aG.get .nil) (aH.get .nil)
def aHy:Nat->Option (List R.Item):=λi=>match i with|11=>some [⟨[8],.v (.int .i64)⟩,⟨[48],.v (.int .i64)⟩,⟨[3,0,20],.o (.st 16)⟩]|19=>some [⟨[8],.v (.int .i64)⟩,⟨[79],.v (.int .i64)⟩,⟨[3,0,20],.o (.st 16)⟩]|28=>some [⟨[3,0,20],.o (.st 16)⟩]|35=>some [⟨[130],.v (.int .i64)⟩,⟨[3,0,20],.o (.st 16)⟩]|42=>some [⟨[3,0,20],.o (.st 16)⟩]|52=>some [⟨[20],.v (.int .i64)⟩]|58=>some [⟨[8],.v (.int .i64)⟩,⟨[3,0,20],.o (.st 16)⟩]|60=>some [⟨[8],.v (.int .i64)⟩,⟨[3,0,20],.o (.st 16)⟩]|_=>none
def i44:aL Zτ.S:=inl Z false (aI [(13,c13)]) (aJ [(104,akT),(106,aas),(107,i107),(105,akU)]) aHy 44
theorem aBt:aF Z 44 i44:=bf (aG.get (.cons agf .nil)) (aH.get (.cons aAr (.cons akV (.cons akW (.cons aAs .nil)))))
end
end Go.Z
