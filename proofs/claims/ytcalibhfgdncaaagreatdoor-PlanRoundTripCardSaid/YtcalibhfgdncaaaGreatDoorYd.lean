/- Models of functions, and that the code computes them. -/
import Derived.Test.YtcalibhfgdncaaaGreatDoorYc
set_option linter.all false
namespace Go.Proofs.YtcalibhfgdncaaaGreatDoor
open Go.Dc Go.RowKit
set_option maxRecDepth 10000
def VR(s_1:Str)(gJ:Int)(aY:(Int×Str)→Option Str):Int→Option Str:=fun Yl=>
 bG (bW (Yl+1))<|
 (mo (⟨[48,49,50,51,52,53,54,55,56,57]⟩:Str) Yl (Yl+1)).bind fun q7=>
 (vM q7 s_1).bind fun q9=>
 bG (decide (10≠0)&&bW (gJ.tdiv 10))<|
 aY ((gJ.tdiv 10),q9)
def VT:Str→Option Str:=fun aoT=>
 some aoT
def VQ(n0:Int)(s_1:Str):Unit→Option Str:=fun _=>
 if decide (n0<0) then
  ((vM (⟨[45]⟩:Str) s_1).bind fun q15=>
  VT q15)
 else
  (VT s_1)
def R6(n0:Int)(aY:(Int×Str)→Option Str):(Int×Str)→Option Str:=fun (gJ,s_1)=>
 if decide (gJ≠0) then
  (if decide ((gJ.tmod 10)<0) then
   (bG (bW (-(gJ.tmod 10)))<|
   VR s_1 gJ aY (-(gJ.tmod 10)))
  else
   (VR s_1 gJ aY (gJ.tmod 10)))
 else
  (VQ n0 s_1 ())
def Kj(n0:Int):Option Str:=
 if (decide (0≤n0)&&decide (n0<10)) then
  (bG (bW (n0+1))<|
  (mo (⟨[48,49,50,51,52,53,54,55,56,57]⟩:Str) n0 (n0+1)).bind fun q3=>
  some q3)
 else
  (iter (R6 n0) FUEL (n0,(⟨[]⟩:Str)))
end Go.Proofs.YtcalibhfgdncaaaGreatDoor
