/- TopNoTwoTrains, proved: for every two arguments the function railplantop.TopNoTwoTrains of the given program returns true: in the timetable that it publishes for the texts of a generated layout and plan, no section and no point is held by two trains at any second of a period. Conditions: those of the given row and card alone. -/
import Derived.Test.YtlbfmjolchehbaaGreatDoorRT2
import Derived.Test.YtlbfmjolchehbaaGreatDoorRT3
import Derived.Test.YtlbfmjolchehbaaGreatDoorRT4
set_option linter.all false
namespace Go.Proofs.YtlbfmjolchehbaaGreatDoor.topNoTwoTrains
open Go.ChangeShapes Go.WideShapes Go.ChangeAt Go.RowKit
theorem joined:joinedFacts Tryz.prog 3 Tryz.f3 Rows.topNoTwoTrainsSpec Rows.topNoTwoTrainsRow=true:=by unfold joinedFacts;rw[aCP,aCH,acp,jA,jB,jC,jD,jD2,jE,jF,jG,jH,jI,jJ,jK,jL,jM];kernel_rfl
set_option maxRecDepth 100000 in
theorem said:Rows.TopNoTwoTrainsSaid:=OpenClaim.holds_of_cond 3 Tryz.f3 rfl rfl rfl rfl rfl rfl rfl ⟨rfl,rfl,rfl,rfl,rfl⟩ rfl rfl rfl rfl rfl (by kernel_rfl) Tryz.func3 joined (of_decide_eq_true (by kernel_rfl)) (by unfold Func.isWrapper;first|(rw[if_pos (by decide+kernel)];kernel_rfl)|(rw[if_neg (by decide+kernel)];exact⟨rfl,rfl⟩)) (λos a H b _ F=>by rw[OpenClaim.pre_eq_preRow];exact lifted os a H b F)
theorem plain(f:FuncId)(fn:Func)(hf:Tryz.pinned.checked.prog.funcNamed "railplan/railplantop.TopNoTwoTrains" =some f)(hfn:Tryz.pinned.checked.prog.funcs[f]?=some fn):true=Tryz.pinned.checked.prog.looks []/\∀(j:Nat) t,fn.params[j]?=some t->Tryz.pinned.checked.prog.wantsStandIn t=false:=by
 obtain rfl:f=3:=Option.some.inj ((show Tryz.prog.funcNamed "railplan/railplantop.TopNoTwoTrains" =some 3 by kernel_rfl).symm.trans hf) |>.symm;obtain rfl:fn=Tryz.f3:=(Option.some.inj (Tryz.func3.symm.trans hfn)).symm;refine⟨cD,λj t ht=>?_⟩;rw[Tryz.params3] at ht;have hm:=Array.mem_of_getElem? ht;simp only[List.mem_toArray,List.mem_cons,List.not_mem_nil,or_false] at hm;rcases hm with rfl|rfl;·exact (show Tryz.prog.wantsStandIn 22=false by kernel_rfl)
 ·exact (show Tryz.prog.wantsStandIn 3=false by kernel_rfl)
theorem card:Rows.TopNoTwoTrainsCardSaid:=Claim7.holds_tied_plain_at .later [] _ _ _ _ said (λ_ h=>by cases h) cA (λ_ h=>by cases h) topNoTwoTrains_row_tie rfl ⟨rfl,rfl⟩ cC rfl plain cB
end Go.Proofs.YtlbfmjolchehbaaGreatDoor.topNoTwoTrains
namespace Go.Proofs.YtlbfmjolchehbaaGreatDoor
theorem topNoTwoTrains_holds:Rows.TopNoTwoTrainsCardSaid:=topNoTwoTrains.card
#print axioms topNoTwoTrains_holds
end Go.Proofs.YtlbfmjolchehbaaGreatDoor
