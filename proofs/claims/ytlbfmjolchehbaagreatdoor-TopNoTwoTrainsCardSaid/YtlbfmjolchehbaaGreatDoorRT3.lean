/- TopNoTwoTrains: facts of the program. -/
import Derived.Test.YtlbfmjolchehbaaGreatDoorRT
set_option linter.all false
namespace Go.Proofs.YtlbfmjolchehbaaGreatDoor.topNoTwoTrains
theorem jA:mapsRowed Tryz.prog=true:=by kernel_rfl
theorem jB:Tryz.f3.params.all (Tryz.prog.readableRec ·)=true:=by kernel_rfl
theorem jC:namedTie Tryz.prog Rows.topNoTwoTrainsRow.named Rows.topNoTwoTrainsSpec.vars=true:=by kernel_rfl
theorem jD:Tryz.prog.stops=[]:=by kernel_rfl
theorem jD2:Tryz.prog.stopKnobs=[]:=by kernel_rfl
theorem jE:Tryz.prog.inPlace 3=Rows.topNoTwoTrainsRow.inPlace:=by kernel_rfl
theorem jF:Tryz.prog.unfollowed 3=true:=by kernel_rfl
theorem jG:Tryz.prog.recurses 3=true:=by kernel_rfl
theorem jH:Tryz.prog.varsNamed 3=Rows.topNoTwoTrainsRow.named:=by kernel_rfl
theorem jI:Tryz.prog.plainKeys=Rows.topNoTwoTrainsRow.plainKeys:=by kernel_rfl
theorem jJ:Tryz.prog.stopsHeard=true:=by kernel_rfl
theorem jK:Tryz.prog.make=some Rows.topNoTwoTrainsRow.make:=by kernel_rfl
theorem jL:Rows.topNoTwoTrainsRow.wf (OpenSpec.ofChange Rows.topNoTwoTrainsSpec)=true:=by kernel_rfl
theorem jM:Tryz.prog.mapsAmong Tryz.f3.resultTypes.toList=Rows.topNoTwoTrainsRow.mapsOut:=by kernel_rfl
theorem cA:Rows.topNoTwoTrainsRow.wfByText (OpenSpec.ofChange Rows.topNoTwoTrainsSpec)=true:=by kernel_rfl
end Go.Proofs.YtlbfmjolchehbaaGreatDoor.topNoTwoTrains
