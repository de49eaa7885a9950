/- CirculationTasks: for every input the law returns true, and each argument reads afterwards as it read before. No conditions beyond the row's own. -/
import Derived.Test.YtcalibhfgdncaaaGreatRows
import Derived.WalkKit
import Derived.ProofKit
import Derived.OpenShut
import Derived.ShutString
import Derived.ChangeOld
import Derived.Below
import Derived.SizedLaws
import Derived.Test.YtcalibhfgdncaaaGreatOpens
import Derived.Test.YtcalibhfgdncaaaGreatJn
import Derived.Test.YtcalibhfgdncaaaGreatPCirculationTasks
set_option linter.all false
namespace Go.Proofs.YtcalibhfgdncaaaGreat.circulationTasks
open Go.ChangeShapes Go.WideShapes Go.ChangeAt Go.RowKit Go.Dc
open Go.ChangeMaps (open_string shut_string)
theorem own:ownKnob Tryz.prog.godebug=none:=by kernel_rfl
theorem laidOut:laidOutB Tryz.prog=true:=aeI
set_option maxRecDepth 100000 in
theorem lifted(os:Os)(started:os.Started)(H:Type)(enc:TypeId×Value→H):
  ReturnsInHanded {} Tryz.checked os 3 .any (Rows.circulationTasksSpec.pre6 enc Tryz.prog Tryz.f3 Rows.circulationTasksRow.domain false) (Rows.circulationTasksSpec.post enc Tryz.prog Tryz.f3 false true false false):=by
 refine returnsInHanded_of_change_sized (C:=Tryz.checked) own started (by kernel_rfl) Tryz.func3
  (ChangeSpec.witness6 (enc:=enc) (C:=Tryz.checked) false ⟨#[], #[.slice none 0 0,.slice none 0 0,.int .i64 0,.int .i64 0,.int .i64 0],[]⟩ 8 (by kernel_rfl) (by kernel_rfl) (by kernel_rfl) (by kernel_rfl)) ?_
 intro W base args ds gs before hval0 hW hcnd hsz _
 have hval:∀(j:Nat) t v,Tryz.f3.params[j]?=some t→args[j]?=some v→Value.okWide Tryz.prog W .any base t v:=hval0
 have hW':=hW
 obtain⟨p,q,hA0,hV,rfl,hfz,hnd⟩:=hW
 have hA:DataW.TrodAll enc Tryz.prog W 0 (fun _=>true) true Tryz.f3.params.toList args.toList ds p:=hA0
 rw[Tryz.params3] at hA hval
 obtain⟨v0,vs0,d0,ds0,p0,q0,hargs,rfl,rfl,h0,r0⟩:=trodAll_cons hA
 obtain⟨v1,vs1,d1,ds1,p1,q1,rfl,rfl,rfl,h1,r1⟩:=trodAll_cons r0
 obtain⟨v2,vs2,d2,ds2,p2,q2,rfl,rfl,rfl,h2,r2⟩:=trodAll_cons r1
 obtain⟨v3,vs3,d3,ds3,p3,q3,rfl,rfl,rfl,h3,r3⟩:=trodAll_cons r2
 obtain⟨v4,vs4,d4,ds4,p4,q4,rfl,rfl,rfl,h4,r4⟩:=trodAll_cons r3
 obtain⟨rfl,rfl,rfl⟩:=trodAll_nil r4
 obtain rfl:args= #[v0,v1,v2,v3,v4]:=by cases args;simp_all
 obtain⟨rfl,rfl⟩:=trodVars_none hV
 rw[Tryz.params3] at hsz
 have k0:=h0
 have lt0:∀x∈p0,x.block<W.heap.size:=by obtain⟨m,hm⟩:=k0;exact DataW.trod_lt m _ _ _ hm
 obtain⟨an5,hf0⟩:=h0
 obtain⟨rp0,a0,e0,ok0,wf0⟩:=(ae7 (():ak.R Int) Tryz.underlying22 (by kernel_rfl) (by kernel_rfl) (ae6 Tryz.underlying3)) hf0 (fun m hm=>by have:=List.all_eq_true.1 hsz m (DataW.weights_mem_each (j:=0) rfl rfl m hm);simpa using this)
 obtain⟨ad0,alr,cap0,rfl⟩:=okWide_slice Tryz.underlying22 (hval 0 22 v0 rfl rfl)
 have e0':Value.slice ad0 alr cap0= .slice rp0.a a0.length rp0.cap:=by have h:=e0;simp only[Value.cells] at h;exact (List.cons.inj h).1
 rw[e0'] at k0 hW' ⊢
 have k1:=h1
 have lt1:∀x∈p1,x.block<W.heap.size:=by obtain⟨m,hm⟩:=k1;exact DataW.trod_lt m _ _ _ hm
 obtain⟨fuel1,hf1⟩:=h1
 obtain⟨rp1,a1,e1,ok1,wf1⟩:=(ae7 (():ak.R Int) Tryz.underlying22 (by kernel_rfl) (by kernel_rfl) (ae6 Tryz.underlying3)) hf1 (fun m hm=>by have:=List.all_eq_true.1 hsz m (DataW.weights_mem_each (j:=1) rfl rfl m hm);simpa using this)
 obtain⟨ad1,len1,ahz,rfl⟩:=okWide_slice Tryz.underlying22 (hval 1 22 v1 rfl rfl)
 have Jb:Value.slice ad1 len1 ahz= .slice rp1.a a1.length rp1.cap:=by have h:=e1;simp only[Value.cells] at h;exact (List.cons.inj h).1
 rw[Jb] at k1 hW' ⊢
 have k2:=h2
 have lt2:∀x∈p2,x.block<W.heap.size:=by obtain⟨m,hm⟩:=k2;exact DataW.trod_lt m _ _ _ hm
 obtain⟨a2,rfl,rfl,rfl,w2⟩:=open_int Tryz.underlying3 (hval 2 3 v2 rfl rfl) h2
 have wf2: -9223372036854775808≤a2∧a2≤9223372036854775807:=by have:=w2;simp[Lit.wf,IntKind.min,IntKind.max,IntKind.signed,IntKind.bits] at this;omega
 have k3:=h3
 have lt3:∀x∈p3,x.block<W.heap.size:=by obtain⟨m,hm⟩:=k3;exact DataW.trod_lt m _ _ _ hm
 obtain⟨a3,rfl,rfl,rfl,w3⟩:=open_int Tryz.underlying3 (hval 3 3 v3 rfl rfl) h3
 have wf3: -9223372036854775808≤a3∧a3≤9223372036854775807:=by have:=w3;simp[Lit.wf,IntKind.min,IntKind.max,IntKind.signed,IntKind.bits] at this;omega
 have k4:=h4
 have lt4:∀x∈p4,x.block<W.heap.size:=by obtain⟨m,hm⟩:=k4;exact DataW.trod_lt m _ _ _ hm
 obtain⟨a4,rfl,rfl,rfl,w4⟩:=open_int Tryz.underlying3 (hval 4 3 v4 rfl rfl) h4
 have wf4: -9223372036854775808≤a4∧a4≤9223372036854775807:=by have:=w4;simp[Lit.wf,IntKind.min,IntKind.max,IntKind.signed,IntKind.bits] at this;omega
 clear hA0 hval0
 refine (alo (fun k=>k<W.heap.size) W a0 rp0 a1 rp1 a2 a3 a4 true (ahR a0 a1 a2 a3 a4 wf0 wf1 wf2 wf3 wf4) (fun _ h=>h) ok0 ok1).mono fun e W' ⟨he,KQ⟩=>?_
 subst he
 exact⟨_,rfl,_,_,_,[],_,[],hW',trodAll_mk1 (shut_bool Tryz.underlying4 _),(trodAll_cons_mk (Below.trod laidOut (by kernel_rfl) (of_decide_eq_true (by kernel_rfl)) k0 KQ lt0) (trodAll_cons_mk (Below.trod laidOut (by kernel_rfl) (of_decide_eq_true (by kernel_rfl)) k1 KQ lt1) (trodAll_cons_mk (Below.trod laidOut (by kernel_rfl) (of_decide_eq_true (by kernel_rfl)) k2 KQ lt2) (trodAll_cons_mk (Below.trod laidOut (by kernel_rfl) (of_decide_eq_true (by kernel_rfl)) k3 KQ lt3) (trodAll_cons_mk (Below.trod laidOut (by kernel_rfl) (of_decide_eq_true (by kernel_rfl)) k4 KQ lt4) trodAll_mk0))))),rfl,KQ.frame _,fun h=>by cases h⟩
theorem joined:joinedFacts Tryz.prog 3 Tryz.f3 Rows.circulationTasksSpec Rows.circulationTasksRow=true:=by
 unfold joinedFacts
 rw[alL,alu,aeI]
 kernel_rfl
theorem over:Rows.circulationTasksRow.holds Tryz.pinned (OpenSpec.ofChange Rows.circulationTasksSpec):=
 OpenClaim.holds_of_wide 3 Tryz.f3 rfl rfl rfl rfl rfl rfl rfl ⟨rfl,rfl,rfl,rfl,rfl⟩ rfl rfl rfl rfl rfl (by kernel_rfl) Tryz.func3 joined
  (of_decide_eq_true (by kernel_rfl)) (by unfold Func.isWrapper;first|(rw[if_pos (by decide+kernel)];kernel_rfl)|(rw[if_neg (by decide+kernel)];exact⟨rfl,rfl⟩))
  (fun os started H enc _=>lifted os started H enc)
end Go.Proofs.YtcalibhfgdncaaaGreat.circulationTasks
namespace Go.Proofs.YtcalibhfgdncaaaGreat
theorem circulationTasks_holds:Rows.CirculationTasksSaid:=circulationTasks.over
#print axioms circulationTasks_holds
end Go.Proofs.YtcalibhfgdncaaaGreat
