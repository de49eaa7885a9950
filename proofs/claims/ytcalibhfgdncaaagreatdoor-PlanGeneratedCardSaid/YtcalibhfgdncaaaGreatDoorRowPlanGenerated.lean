/- PlanGenerated: for every input the law returns true, and each argument reads afterwards as it read before. No conditions beyond the row's own. -/
import Derived.Test.YtcalibhfgdncaaaGreatDoorCards
import Derived.Test.YtcalibhfgdncaaaGreatDoorTie
import Derived.WalkKit
import Derived.ProofKit
import Derived.OpenShut
import Derived.ShutString
import Derived.ChangeOld
import Derived.Below
import Derived.SizedLaws
import Derived.Deep.DeepHandedRow
import Derived.Lib.LaidTab
import Derived.Test.YtcalibhfgdncaaaGreatDoorOpens
import Derived.Test.YtcalibhfgdncaaaGreatDoorJn
import Derived.Test.YtcalibhfgdncaaaGreatDoorJv
import Derived.Test.YtcalibhfgdncaaaGreatDoorPPlanGenerated
import Derived.Test.YtcalibhfgdncaaaGreatDoorGm
set_option linter.all false
namespace Go.Proofs.YtcalibhfgdncaaaGreatDoor.planGenerated
open Go.ChangeShapes Go.WideShapes Go.ChangeAt Go.RowKit Go.Dc
open Go.ChangeMaps (open_string shut_string)
theorem own:ownKnob Tryz.prog.godebug=none:=by kernel_rfl
theorem laidOut:laidOutB Tryz.prog=true:=afo
theorem reads(os:Os){H:Type}(enc:TypeId×Value→H):∃x,DataW.whole enc Tryz.prog ((aa5 os).forCall (fun _ _=>0) ⟨#[], #[.slice none 0 0,.int .i64 0,.int .i64 0,.int .i64 0],[]⟩).memory Tryz.f4.params.toList (OpenSpec.ofChange Rows.planGeneratedSpec).vars false (#[.slice none 0 0,.int .i64 0,.int .i64 0,.int .i64 0]:Array Value).toList 8=some x:=
 Option.isSome_iff_exists.1 (by kernel_rfl)
theorem aoX(os:Os):laidMet Tryz.prog Rows.planGeneratedRow.laid ((aa5 os).forCall (fun _ _=>0) ⟨#[], #[.slice none 0 0,.int .i64 0,.int .i64 0,.int .i64 0],[]⟩).memory:=
 laidMet_of_run' 8 (by kernel_rfl) (by kernel_rfl)
set_option maxRecDepth 100000 in
theorem lifted(os:Os)(started:os.Started)(H:Type)(enc:TypeId×Value→H)(F:Stop.Interp):
  ReturnsInHanded {} Tryz.checked os 4 .any ((OpenSpec.ofChange Rows.planGeneratedSpec).preRow enc Tryz.prog Tryz.f4 Rows.planGeneratedRow.domain false Rows.planGeneratedRow.laid) (((OpenSpec.ofChange Rows.planGeneratedSpec).at F).post enc Tryz.prog Tryz.f4 false true false false):=by
 obtain⟨x,hx⟩:=reads os enc
 refine returnsInHanded_of_row (C:=Tryz.checked) (s:=OpenSpec.ofChange Rows.planGeneratedSpec) own started (by kernel_rfl) Tryz.func4
  (witness_row_at (enc:=enc) (C:=Tryz.checked) false (aa5 os) #[.slice none 0 0,.int .i64 0,.int .i64 0,.int .i64 0] rfl (by kernel_rfl) (by kernel_rfl) (by kernel_rfl)
   (OpenSpec.preRow_of_cond 8 hx rfl (fun k hk=>by cases hk) (by kernel_rfl) (aoX os))) ?_
 clear x hx
 intro W base args ds gs before hval0 hW hcnd hk hsz hL hSh _
 have hval:∀(j:Nat) t v,Tryz.f4.params[j]?=some t→args[j]?=some v→Value.okWide Tryz.prog W .any base t v:=hval0
 have hW':=hW
 obtain⟨p,q,hA0,hV,rfl,hfz,hnd⟩:=hW
 have hA:DataW.TrodAll enc Tryz.prog W 0 (fun _=>true) true Tryz.f4.params.toList args.toList ds p:=hA0
 rw[Tryz.params4] at hA hval
 obtain⟨v0,vs0,d0,ds0,p0,q0,hargs,rfl,rfl,h0,r0⟩:=trodAll_cons hA
 obtain⟨v1,vs1,d1,ds1,p1,q1,rfl,rfl,rfl,h1,r1⟩:=trodAll_cons r0
 obtain⟨v2,vs2,d2,ds2,p2,q2,rfl,rfl,rfl,h2,r2⟩:=trodAll_cons r1
 obtain⟨v3,vs3,d3,ds3,p3,q3,rfl,rfl,rfl,h3,r3⟩:=trodAll_cons r2
 obtain⟨rfl,rfl,rfl⟩:=trodAll_nil r3
 obtain rfl:args= #[v0,v1,v2,v3]:=by cases args;simp_all
 obtain⟨rfl,rfl⟩:=trodVars_none hV
 rw[Tryz.params4] at hsz
 have k0:=h0
 have lt0:∀x∈p0,x.block<W.heap.size:=by obtain⟨m,hm⟩:=k0;exact DataW.trod_lt m _ _ _ hm
 obtain⟨ar6,hf0⟩:=h0
 obtain⟨rp0,a0,e0,ok0,wf0⟩:=(apH (():aC.R Int) Tryz.underlying39 (by kernel_rfl) (by kernel_rfl) (apG Tryz.underlying3)) hf0 (fun m hm=>by have:=List.all_eq_true.1 hsz m (DataW.weights_mem_each (j:=0) rfl rfl m hm);simpa using this)
 obtain⟨ad0,ao1,cap0,rfl⟩:=okWide_slice Tryz.underlying39 (hval 0 39 v0 rfl rfl)
 have e0':Value.slice ad0 ao1 cap0= .slice rp0.a a0.length rp0.cap:=by have h:=e0;simp only[Value.cells] at h;exact (List.cons.inj h).1
 rw[e0'] at k0 hW' ⊢
 have k1:=h1
 have lt1:∀x∈p1,x.block<W.heap.size:=by obtain⟨m,hm⟩:=k1;exact DataW.trod_lt m _ _ _ hm
 obtain⟨a1,rfl,rfl,rfl,w1⟩:=open_int Tryz.underlying3 (hval 1 3 v1 rfl rfl) h1
 have wf1: -9223372036854775808≤a1∧a1≤9223372036854775807:=by have:=w1;simp[Lit.wf,IntKind.min,IntKind.max,IntKind.signed,IntKind.bits] at this;omega
 have k2:=h2
 have lt2:∀x∈p2,x.block<W.heap.size:=by obtain⟨m,hm⟩:=k2;exact DataW.trod_lt m _ _ _ hm
 obtain⟨a2,rfl,rfl,rfl,w2⟩:=open_int Tryz.underlying3 (hval 2 3 v2 rfl rfl) h2
 have wf2: -9223372036854775808≤a2∧a2≤9223372036854775807:=by have:=w2;simp[Lit.wf,IntKind.min,IntKind.max,IntKind.signed,IntKind.bits] at this;omega
 have k3:=h3
 have lt3:∀x∈p3,x.block<W.heap.size:=by obtain⟨m,hm⟩:=k3;exact DataW.trod_lt m _ _ _ hm
 obtain⟨a3,rfl,rfl,rfl,w3⟩:=open_int Tryz.underlying3 (hval 3 3 v3 rfl rfl) h3
 have wf3: -9223372036854775808≤a3∧a3≤9223372036854775807:=by have:=w3;simp[Lit.wf,IntKind.min,IntKind.max,IntKind.signed,IntKind.bits] at this;omega
 clear hA0 hval0
 refine (aoY (fun k=>k<W.heap.size) W a0 rp0 a1 a2 a3 true (apL a0 a1 a2 a3 wf0 wf1 wf2 wf3) (fun _ h=>h) ok0 (akb W _ hL (by first|exact List.mem_of_getElem? (i:=0) rfl|exact List.mem_of_getElem? (i:=1) rfl|exact List.mem_of_getElem? (i:=2) rfl|exact List.mem_of_getElem? (i:=3) rfl|exact List.mem_of_getElem? (i:=4) rfl|exact List.mem_of_getElem? (i:=5) rfl))).mono fun e W' ⟨he,PG⟩=>?_
 subst he
 exact⟨_,rfl,_,_,_,[],_,[],hW',trodAll_mk1 (shut_bool Tryz.underlying4 _),(trodAll_cons_mk (Below.trod laidOut (by kernel_rfl) (of_decide_eq_true (by kernel_rfl)) k0 PG lt0) (trodAll_cons_mk (Below.trod laidOut (by kernel_rfl) (of_decide_eq_true (by kernel_rfl)) k1 PG lt1) (trodAll_cons_mk (Below.trod laidOut (by kernel_rfl) (of_decide_eq_true (by kernel_rfl)) k2 PG lt2) (trodAll_cons_mk (Below.trod laidOut (by kernel_rfl) (of_decide_eq_true (by kernel_rfl)) k3 PG lt3) trodAll_mk0)))),rfl,PG.frame _,fun h=>by cases h⟩
theorem joined:joinedFacts Tryz.prog 4 Tryz.f4 Rows.planGeneratedSpec Rows.planGeneratedRow=true:=by
 unfold joinedFacts
 rw[apk,ao4,afo]
 kernel_rfl
set_option maxRecDepth 100000 in
theorem said:Rows.PlanGeneratedSaid:=
 OpenClaim.holds_of_cond 4 Tryz.f4 rfl rfl rfl rfl rfl rfl rfl ⟨rfl,rfl,rfl,rfl,rfl⟩ rfl rfl rfl rfl rfl (by kernel_rfl) Tryz.func4 joined
  (of_decide_eq_true (by kernel_rfl)) (by unfold Func.isWrapper;first|(rw[if_pos (by decide+kernel)];kernel_rfl)|(rw[if_neg (by decide+kernel)];exact⟨rfl,rfl⟩))
  (fun os started H enc _ F=>by rw[OpenClaim.pre_eq_preRow];exact lifted os started H enc F)
theorem plain(f:FuncId)(fn:Func)(hf:Tryz.pinned.checked.prog.funcNamed "railplan/railplanlaw10.PlanGenerated" =some f)(hfn:Tryz.pinned.checked.prog.funcs[f]?=some fn):
  true=Tryz.pinned.checked.prog.looks []∧∀(j:Nat) t,fn.params[j]?=some t→Tryz.pinned.checked.prog.wantsStandIn t=false:=by
 obtain rfl:f=4:=Option.some.inj ((show Tryz.prog.funcNamed "railplan/railplanlaw10.PlanGenerated" =some 4 by kernel_rfl).symm.trans hf) |>.symm
 obtain rfl:fn=Tryz.f4:=(Option.some.inj (Tryz.func4.symm.trans hfn)).symm
 refine⟨by kernel_rfl,fun j t ht=>?_⟩
 rw[Tryz.params4] at ht
 have hm:=Array.mem_of_getElem? ht
 simp only[List.mem_toArray,List.mem_cons,List.not_mem_nil,or_false] at hm
 rcases hm with rfl|rfl|rfl|rfl
 ·exact (show Tryz.prog.wantsStandIn 39=false by kernel_rfl)
 ·exact (show Tryz.prog.wantsStandIn 3=false by kernel_rfl)
 ·exact (show Tryz.prog.wantsStandIn 3=false by kernel_rfl)
 ·exact (show Tryz.prog.wantsStandIn 3=false by kernel_rfl)
theorem card:Rows.PlanGeneratedCardSaid:=
 Claim7.holds_tied_plain_at .later [] _ _ _ _ said (fun _ h=>by cases h) (by kernel_rfl) (fun _ h=>by cases h) planGenerated_row_tie rfl ⟨rfl,rfl⟩ (by kernel_rfl) rfl plain (by kernel_rfl)
end Go.Proofs.YtcalibhfgdncaaaGreatDoor.planGenerated
namespace Go.Proofs.YtcalibhfgdncaaaGreatDoor
theorem planGenerated_holds:Rows.PlanGeneratedCardSaid:=planGenerated.card
#print axioms planGenerated_holds
end Go.Proofs.YtcalibhfgdncaaaGreatDoor
