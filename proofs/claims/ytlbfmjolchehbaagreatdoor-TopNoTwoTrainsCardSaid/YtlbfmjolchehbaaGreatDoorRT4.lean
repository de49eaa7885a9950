/- TopNoTwoTrains: facts of the program. -/
import Derived.Test.YtlbfmjolchehbaaGreatDoorRT
set_option linter.all false
namespace Go.Proofs.YtlbfmjolchehbaaGreatDoor.topNoTwoTrains
theorem cB:false=Rows.topNoTwoTrainsRow.goesBy Tryz.prog:=by kernel_rfl
theorem cC:Tryz.pinned.checked.prog.mainIs=some (true,"0d7878ec676a3e47c6b5639c8b95948de95a0db813cb0f1710de799e91bd33dc".toList):=by kernel_rfl
theorem cD:true=Tryz.pinned.checked.prog.looks []:=by kernel_rfl
end Go.Proofs.YtlbfmjolchehbaaGreatDoor.topNoTwoTrains
