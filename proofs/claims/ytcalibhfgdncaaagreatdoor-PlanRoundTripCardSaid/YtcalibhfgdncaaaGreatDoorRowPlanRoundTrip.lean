/- PlanRoundTrip: for every input the law returns true, and each argument reads afterwards as it read before. No conditions beyond the row's own. -/
import Derived.Test.YtcalibhfgdncaaaGreatDoorCards
import Derived.Test.YtcalibhfgdncaaaGreatDoorTie
import Derived.WalkKit
import Derived.ProofKit
import Derived.OpenShut
import Derived.ShutString
import Derived.ChangeOld
import Derived.Below
import Derived.SizedLaws
import Derived.Deep.DeepHandedRow
import Derived.Lib.LaidTab
import Derived.Test.YtcalibhfgdncaaaGreatDoorOpens
import Derived.Test.YtcalibhfgdncaaaGreatDoorJn
import Derived.Test.YtcalibhfgdncaaaGreatDoorJv
import Derived.Test.YtcalibhfgdncaaaGreatDoorPPlanRoundTrip
import Derived.Test.YtcalibhfgdncaaaGreatDoorGm
set_option linter.all false
namespace Go.Proofs.YtcalibhfgdncaaaGreatDoor.planRoundTrip
open Go.ChangeShapes Go.WideShapes Go.ChangeAt Go.RowKit Go.Dc
open Go.ChangeMaps (open_string shut_string)
theorem own:ownKnob Tryz.prog.godebug=none:=by kernel_rfl
theorem laidOut:laidOutB Tryz.prog=true:=aeu
theorem reads(os:Os){H:Type}(enc:TypeId×Value→H):∃x,DataW.whole enc Tryz.prog ((aah os).forCall (fun _ _=>0) ⟨#[], #[.slice none 0 0],[]⟩).memory Tryz.f8.params.toList (OpenSpec.ofChange Rows.planRoundTripSpec).vars false (#[.slice none 0 0]:Array Value).toList 8=some x:=
 Option.isSome_iff_exists.1 (by kernel_rfl)
theorem al9(os:Os):laidMet Tryz.prog Rows.planRoundTripRow.laid ((aah os).forCall (fun _ _=>0) ⟨#[], #[.slice none 0 0],[]⟩).memory:=
 laidMet_of_run' 8 (by kernel_rfl) (by kernel_rfl)
set_option maxRecDepth 100000 in
theorem lifted(os:Os)(started:os.Started)(H:Type)(enc:TypeId×Value→H)(F:Stop.Interp):
  ReturnsInHanded {} Tryz.checked os 8 .any ((OpenSpec.ofChange Rows.planRoundTripSpec).preRow enc Tryz.prog Tryz.f8 Rows.planRoundTripRow.domain false Rows.planRoundTripRow.laid) (((OpenSpec.ofChange Rows.planRoundTripSpec).at F).post enc Tryz.prog Tryz.f8 false true false false):=by
 obtain⟨x,hx⟩:=reads os enc
 refine returnsInHanded_of_row (C:=Tryz.checked) (s:=OpenSpec.ofChange Rows.planRoundTripSpec) own started (by kernel_rfl) Tryz.func8
  (witness_row_at (enc:=enc) (C:=Tryz.checked) false (aah os) #[.slice none 0 0] rfl (by kernel_rfl) (by kernel_rfl) (by kernel_rfl)
   (OpenSpec.preRow_of_cond 8 hx rfl (fun k hk=>by cases hk) (by kernel_rfl) (al9 os))) ?_
 clear x hx
 intro W base args ds gs before hval0 hW hcnd hk hsz hL hSh _
 have hval:∀(j:Nat) t v,Tryz.f8.params[j]?=some t→args[j]?=some v→Value.okWide Tryz.prog W .any base t v:=hval0
 have hW':=hW
 obtain⟨p,q,hA0,hV,rfl,hfz,hnd⟩:=hW
 have hA:DataW.TrodAll enc Tryz.prog W 0 (fun _=>true) true Tryz.f8.params.toList args.toList ds p:=hA0
 rw[Tryz.params8] at hA hval
 obtain⟨v0,vs0,d0,ds0,p0,q0,hargs,rfl,rfl,h0,r0⟩:=trodAll_cons hA
 obtain⟨rfl,rfl,rfl⟩:=trodAll_nil r0
 obtain rfl:args= #[v0]:=by cases args;simp_all
 obtain⟨rfl,rfl⟩:=trodVars_none hV
 rw[Tryz.params8] at hsz
 have k0:=h0
 have lt0:∀x∈p0,x.block<W.heap.size:=by obtain⟨m,hm⟩:=k0;exact DataW.trod_lt m _ _ _ hm
 obtain⟨aqj,hf0⟩:=h0
 obtain⟨rp0,a0,e0,ok0,wf0⟩:=(am6 (():ak.R Int) Tryz.underlying39 (by kernel_rfl) (by kernel_rfl) (am5 Tryz.underlying3)) hf0 (fun m hm=>by have:=List.all_eq_true.1 hsz m (DataW.weights_mem_each (j:=0) rfl rfl m hm);simpa using this)
 obtain⟨ad0,amd,cap0,rfl⟩:=okWide_slice Tryz.underlying39 (hval 0 39 v0 rfl rfl)
 have e0':Value.slice ad0 amd cap0= .slice rp0.a a0.length rp0.cap:=by have h:=e0;simp only[Value.cells] at h;exact (List.cons.inj h).1
 rw[e0'] at k0 hW' ⊢
 clear hA0 hval0
 refine (ama (fun k=>k<W.heap.size) W a0 rp0 true (ant a0 wf0) (fun _ h=>h) ok0 (ai8 hSh) (aja W _ hL (by first|exact List.mem_of_getElem? (i:=0) rfl|exact List.mem_of_getElem? (i:=1) rfl|exact List.mem_of_getElem? (i:=2) rfl|exact List.mem_of_getElem? (i:=3) rfl|exact List.mem_of_getElem? (i:=4) rfl|exact List.mem_of_getElem? (i:=5) rfl))).mono fun e W' ⟨he,bel⟩=>?_
 subst he
 exact⟨_,rfl,_,_,_,[],_,[],hW',trodAll_mk1 (shut_bool Tryz.underlying4 _),(trodAll_cons_mk (Below.trod laidOut (by kernel_rfl) (of_decide_eq_true (by kernel_rfl)) k0 bel lt0) trodAll_mk0),rfl,bel.frame _,fun h=>by cases h⟩
theorem joined:joinedFacts Tryz.prog 8 Tryz.f8 Rows.planRoundTripSpec Rows.planRoundTripRow=true:=by
 unfold joinedFacts
 rw[amD,amg,aeu]
 kernel_rfl
set_option maxRecDepth 100000 in
theorem said:Rows.PlanRoundTripSaid:=
 OpenClaim.holds_of_cond 8 Tryz.f8 rfl rfl rfl rfl rfl rfl rfl ⟨rfl,rfl,rfl,rfl,rfl⟩ rfl rfl rfl rfl rfl (by kernel_rfl) Tryz.func8 joined
  (of_decide_eq_true (by kernel_rfl)) (by unfold Func.isWrapper;first|(rw[if_pos (by decide+kernel)];kernel_rfl)|(rw[if_neg (by decide+kernel)];exact⟨rfl,rfl⟩))
  (fun os started H enc _ F=>by rw[OpenClaim.pre_eq_preRow];exact lifted os started H enc F)
theorem plain(f:FuncId)(fn:Func)(hf:Tryz.pinned.checked.prog.funcNamed "railplan/railplanlaw10.PlanRoundTrip" =some f)(hfn:Tryz.pinned.checked.prog.funcs[f]?=some fn):
  true=Tryz.pinned.checked.prog.looks []∧∀(j:Nat) t,fn.params[j]?=some t→Tryz.pinned.checked.prog.wantsStandIn t=false:=by
 obtain rfl:f=8:=Option.some.inj ((show Tryz.prog.funcNamed "railplan/railplanlaw10.PlanRoundTrip" =some 8 by kernel_rfl).symm.trans hf) |>.symm
 obtain rfl:fn=Tryz.f8:=(Option.some.inj (Tryz.func8.symm.trans hfn)).symm
 refine⟨by kernel_rfl,fun j t ht=>?_⟩
 rw[Tryz.params8] at ht
 have hm:=Array.mem_of_getElem? ht
 simp only[List.mem_toArray,List.mem_cons,List.not_mem_nil,or_false] at hm
 rcases hm with rfl
 ·exact (show Tryz.prog.wantsStandIn 39=false by kernel_rfl)
theorem card:Rows.PlanRoundTripCardSaid:=
 Claim7.holds_tied_plain_at .later [] _ _ _ _ said (fun _ h=>by cases h) (by kernel_rfl) (fun _ h=>by cases h) planRoundTrip_row_tie rfl ⟨rfl,rfl⟩ (by kernel_rfl) rfl plain (by kernel_rfl)
end Go.Proofs.YtcalibhfgdncaaaGreatDoor.planRoundTrip
namespace Go.Proofs.YtcalibhfgdncaaaGreatDoor
theorem planRoundTrip_holds:Rows.PlanRoundTripCardSaid:=planRoundTrip.card
#print axioms planRoundTrip_holds
end Go.Proofs.YtcalibhfgdncaaaGreatDoor
