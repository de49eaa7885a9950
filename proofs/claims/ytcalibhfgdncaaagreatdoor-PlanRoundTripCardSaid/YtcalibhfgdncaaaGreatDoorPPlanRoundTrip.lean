/- PlanRoundTrip, the plain law. -/
import Derived.Test.YtcalibhfgdncaaaGreatDoorZn
import Derived.Test.YtcalibhfgdncaaaGreatDoorOpens
import Derived.Test.YtcalibhfgdncaaaGreatDoorWPlanRoundTrip
set_option linter.all false
namespace Go.Proofs.YtcalibhfgdncaaaGreatDoor
open Go.Dc
theorem ahQ:Vg=some true:=by decide+kernel
theorem ant(l:List Int)(hl:Wf.wf l):Vf l=some true:=by
 obtain⟨y,hy,v⟩:=anV l (by have:l.length*8≤140737488351232:=hl.1;omega)
 have z:=Rj v
 have b:=v.bnd
 have b1:=b.st;have b2:=b.ro;have b3:=b.li;have b4:=b.ch;have b5:=b.tu;have b6:=b.sy;have b7:=b.de
 unfold Vf
 rw[hy,Option.bind_some,ai2,z,Option.bind_some,Option.bind_some]
 have e:Uu y.1 y.2 0=(⟨wh (uf y.1 y.2)⟩,0):=by unfold Uu;rw[if_pos rfl]
 rw[e,an0,anZ v,Option.bind_some,ahQ,Option.bind_some]
 rw[qJ (by rfl),aoW ⟨by omega,by omega,by omega,by omega,by omega,by omega,by omega,fun r hr=>by have:=(v.ok.rt r hr).few;omega,fun x hx=>by have:=v.ri2 x hx;omega⟩,Option.bind_some]
 rfl
end Go.Proofs.YtcalibhfgdncaaaGreatDoor
