/- PlanGenerated, the plain law. -/
import Derived.Test.YtcalibhfgdncaaaGreatDoorSm
import Derived.Test.YtcalibhfgdncaaaGreatDoorGn
import Derived.Test.YtcalibhfgdncaaaGreatDoorOpens
import Derived.Test.YtcalibhfgdncaaaGreatDoorWPlanGenerated
set_option linter.all false
namespace Go.Proofs.YtcalibhfgdncaaaGreatDoor
open Go.Dc
theorem GD{g:Nat→Option Int}{k:Option Int}(hg:∀j,∃e,g j=some e)(hk:∃e,k=some e):∀m i,∃e,errs g k m i=some e:=by
 intro m
 induction m with
 |zero=>intro _;exact hk
 |succ m ih=>
  intro i
  obtain⟨e,he⟩:=hg i
  simp only[errs]
  rw[he,Option.bind_some]
  split
  ·exact⟨e,rfl⟩
  ·exact ih (i+1)
theorem ao5(l:Layout)(p:Plan)(i:Nat):∃e,Bn l p i=some e:=by
 unfold Bn
 split
 ·exact⟨_,rfl⟩
 split
 ·exact⟨_,rfl⟩
 split
 ·exact⟨_,rfl⟩
 split
 ·exact⟨_,rfl⟩
 exact GD (fun j=>⟨_,rfl⟩) ⟨_,rfl⟩ _ _
theorem apK(l:Layout)(p:Plan):∃e,xZ l p=some e:=by
 unfold xZ
 split
 ·exact⟨_,rfl⟩
 exact GD (fun j=>⟨_,rfl⟩) (GD (fun j=>⟨_,rfl⟩) (GD (ao5 l p) (GD (fun j=>⟨_,rfl⟩) (GD (fun j=>⟨_,rfl⟩) (GD (fun j=>⟨_,rfl⟩) (GD (fun j=>⟨_,rfl⟩) ⟨_,rfl⟩ _ _) _ _) _ _) _ _) _ _) _ _) _ _
theorem adE(l:Layout)(p:Plan):MO l p=some true:=by
 obtain⟨e,he⟩:=apK l p
 unfold MO
 rw[aj1,he,Option.bind_some,Option.bind_some,aj0,he,Option.bind_some,Option.bind_some,YS,he,Option.bind_some,adQ,he,Option.bind_some]
 simp
theorem aiX:VX=some true:=by decide+kernel
theorem apL(l:List Int)(how at_ v:Int)(hl:Wf.wf l)(_:Wf.wf how)(_:Wf.wf at_)(hv:Wf.wf v):VW l how at_ v=some true:=by
 obtain⟨y,hy,pv⟩:=ap3 l (by have:l.length*8≤140737488351232:=hl.1;omega)
 obtain⟨q,hq,_⟩:=apI pv.bnd (fun r hr=>⟨by have:=(pv.ok.rt r hr).two;omega,(pv.ok.rt r hr).few⟩) (fun x hx=>by have:=(pv.ok.ln x hx).few;omega) (how:=how) (at_:=at_) (v:=v) hv
 unfold VW
 rw[hy,Option.bind_some,aiX,Option.bind_some,vH rfl,YS,apM pv,Option.bind_some,vH (by rfl),adE,Option.bind_some,if_pos (by rfl),hq,Option.bind_some,adE,Option.bind_some]
 rfl
end Go.Proofs.YtcalibhfgdncaaaGreatDoor
