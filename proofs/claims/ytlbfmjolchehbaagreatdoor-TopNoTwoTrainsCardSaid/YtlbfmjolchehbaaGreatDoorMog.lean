/- Several parts of the engine, one behind the other. -/
import Derived.Test.YtlbfmjolchehbaaGreatDoorMof
set_option linter.all false
namespace Go.Z
open Go Go.Proofs Go.Dc Go.R
set_option maxRecDepth 100000
noncomputable section
def aHD:Nat->Option (List R.Item):=λi=>match i with|9=>some [⟨[5],.v (.int .i64)⟩,⟨[14,0],.o .str⟩,⟨[0,1],.v (.int .i64)⟩,⟨[14,2],.o (.st 0)⟩,⟨[14,4],.o (.list (.int .i64))⟩]|10=>some [⟨[14,0],.o .str⟩,⟨[0,1],.v (.int .i64)⟩,⟨[14,2],.o (.st 0)⟩,⟨[14,4],.o (.list (.int .i64))⟩]|19=>some [⟨[6],.o (.int .i64)⟩,⟨[7],.v (.int .i64)⟩,⟨[0,1],.v (.int .i64)⟩,⟨[14,2],.o (.st 0)⟩]|28=>some [⟨[6],.o (.int .i64)⟩,⟨[0,1],.v (.int .i64)⟩,⟨[14,2],.o (.st 0)⟩]|30=>some [⟨[14,0],.o .str⟩,⟨[0,1],.v (.int .i64)⟩,⟨[14,2],.o (.st 0)⟩,⟨[14,4],.o (.list (.int .i64))⟩]|33=>some [⟨[9],.v (.int .i64)⟩,⟨[0,1],.v (.int .i64)⟩,⟨[14,2],.o (.st 0)⟩,⟨[14,3],.o (.st 1)⟩,⟨[14,1],.o .str⟩,⟨[14,5],.o (.list (.int .i64))⟩]|34=>some [⟨[0,1],.v (.int .i64)⟩,⟨[14,2],.o (.st 0)⟩,⟨[14,3],.o (.st 1)⟩,⟨[14,1],.o .str⟩,⟨[14,5],.o (.list (.int .i64))⟩]|41=>some [⟨[10],.o (.int .i64)⟩,⟨[11],.v (.int .i64)⟩,⟨[0,1],.v (.int .i64)⟩,⟨[14,2],.o (.st 0)⟩]|46=>some [⟨[10],.o (.int .i64)⟩,⟨[0,1],.v (.int .i64)⟩,⟨[14,2],.o (.st 0)⟩]|49=>some [⟨[12],.v (.int .i64)⟩,⟨[14,3],.o (.st 1)⟩]|54=>some [⟨[14,3],.o (.st 1)⟩]|60=>some [⟨[0,1],.v (.int .i64)⟩,⟨[14,2],.o (.st 0)⟩,⟨[14,3],.o (.st 1)⟩,⟨[14,1],.o .str⟩,⟨[14,5],.o (.list (.int .i64))⟩]|_=>none
def i51:aL Zτ.S:=inl Z false (aI [(125,NZ)]) (aJ [(52,i52),(126,akX),(127,i127),(128,aat),(129,akZ)]) aHD 51
theorem aBw:aF Z 51 i51:=bf (aG.get (.cons Xa .nil)) (aH.get (.cons JW (.cons aAt (.cons aAu (.cons akY (.cons aAv .nil))))))
def aEA:Nat->Option (List R.Item):=λi=>match i with|13=>some [⟨[49],.v (.int .i64)⟩,⟨[13,0],.o (.st 4)⟩]|20=>some [⟨[13,0],.o (.st 4)⟩]|24=>some [⟨[13,0],.o (.st 4)⟩,⟨[10,0],.o (.st 4)⟩,⟨[10,1],.v (.int .i64)⟩]|29=>some [⟨[15],.v (.int .i64)⟩,⟨[13,0],.o (.st 4)⟩]|34=>some [⟨[13,0],.o (.st 4)⟩]|_=>none
def i130:aL Zτ.S:=aL.rd<|inl Z false (aI []) (aJ []) aEA 130
theorem aAw:aF Z 130 i130:=aF.rd (C:=Z)<|bf (aG.get .nil) (aH.get .nil)
def aHF:Nat->Option (List R.Item):=λi=>match i with|7=>some [⟨[],.v .bool⟩,⟨[],.v .bool⟩,⟨[],.v .bool⟩,⟨[],.v .bool⟩]|14=>some [⟨[1,1],.v (.int .i64)⟩,⟨[11],.k (.int .i64)⟩]|17=>some [⟨[13],.v (.int .i64)⟩,⟨[2,2],.o (.st 5)⟩,⟨[1,1],.v (.int .i64)⟩,⟨[10,3],.o (.st 6)⟩]|18=>some [⟨[2,2],.o (.st 5)⟩,⟨[1,1],.v (.int .i64)⟩,⟨[10,3],.o (.st 6)⟩]|26=>some [⟨[14],.v (.int .i64)⟩]|36=>some [⟨[1,1],.v (.int .i64)⟩,⟨[15,2],.v (.int .i64)⟩,⟨[15,3],.v (.int .i64)⟩]|38=>some [⟨[2,2],.o (.st 5)⟩,⟨[1,1],.v (.int .i64)⟩,⟨[10,3],.o (.st 6)⟩]|100014=>some [⟨[7],.v .bool⟩,⟨[2],.v .bool⟩]|100017=>some [⟨[3],.v .bool⟩,⟨[15],.v .bool⟩]|_=>none
def i53:aL Zτ.S:=inl Z false (aI [(125,NZ)]) (aJ [(52,i52),(130,i130)]) aHF 53
theorem aBx:aF Z 53 i53:=bf (aG.get (.cons Xa .nil)) (aH.get (.cons JW (.cons aAw .nil)))
def aHH:Nat->Option (List R.Item):=λ_=>none
def Le(p:Plan×Int×Int):Option Int:=(idx p.1.4 p.2.1).bind λb=>(idx b.4 p.2.2).bind λc=>(idx p.1.3 c.1).bind λa=>ah (aj ((a.1.length:Int)-1))<|(idx a.1 ((a.1.length:Int)-1)).bind λd=>some d.1
def XA:aN Zτ.S:=⟨[.st 12,.int .i64,.int .i64],[.int .i64],Le⟩
theorem ahj:FZ Z.P Zτ 55 XA:=aT (C:=Z) (wr:=false) (T:=(aI [])) (I:=(aJ [])) (sp:=aHH) (aG.get .nil) (aH.get .nil) λp=>by kernel_rfl
def aHI:Nat->Option (List R.Item):=λ_=>none
def Ld(p:Plan×Int×Int):Option Int:=(idx p.1.4 p.2.1).bind λa=>(idx a.4 p.2.2).bind λb=>(idx p.1.3 b.1).bind λc=>(idx c.1 0).bind λd=>some d.1
def XC:aN Zτ.S:=⟨[.st 12,.int .i64,.int .i64],[.int .i64],Ld⟩
theorem ahk:FZ Z.P Zτ 56 XC:=aT (C:=Z) (wr:=false) (T:=(aI [])) (I:=(aJ [])) (sp:=aHI) (aG.get .nil) (aH.get .nil) λp=>by kernel_rfl
def aHG:Nat->Option (List R.Item):=λi=>match i with|5=>some [⟨[14],.v (.int .i64)⟩,⟨[0,1],.v (.int .i64)⟩,⟨[1,5],.o (.st 9)⟩,⟨[4],.k .bool⟩,⟨[5],.k .bool⟩]|11=>some [⟨[22],.v (.int .i64)⟩,⟨[0,1],.v (.int .i64)⟩,⟨[1,5],.o (.st 9)⟩,⟨[4],.k .bool⟩,⟨[5],.k .bool⟩]|22=>some [⟨[0,1],.v (.int .i64)⟩,⟨[1,5],.o (.st 9)⟩,⟨[4],.k .bool⟩,⟨[5],.k .bool⟩]|24=>some [⟨[0,1],.v (.int .i64)⟩,⟨[1,5],.o (.st 9)⟩,⟨[4],.k .bool⟩,⟨[5],.k .bool⟩]|_=>none
def i54:aL Zτ.S:=inl Z false (aI [(55,XA),(56,XC)]) (aJ [(52,i52)]) aHG 54
theorem aBy:aF Z 54 i54:=bf (aG.get (.cons ahj (.cons ahk .nil))) (aH.get (.cons JW .nil))
end
end Go.Z
