/- TopNoTwoTrains: for every input the law returns true, and each argument reads afterwards as it read before. -/
import Derived.Test.YtlbfmjolchehbaaGreatDoorCards
import Derived.Test.YtlbfmjolchehbaaGreatDoorTie
import Derived.Deep.DeepHandedRow
import Derived.Test.YtlbfmjolchehbaaGreatDoorRW2
import Derived.Test.YtlbfmjolchehbaaGreatDoorL48
set_option linter.all false
namespace Go.Proofs.YtlbfmjolchehbaaGreatDoor.topNoTwoTrains
open Go.ChangeShapes Go.WideShapes Go.ChangeAt Go.RowKit Go.Dc
open Go.ChangeMaps (open_string shut_string)
noncomputable def aco(os:Os):World:=
 let w0:=World.holding Tryz.prog os ⟨#[], #[],[]⟩
 let put (h:Array Obj) (g:Nat) (cs:Array Value):Array Obj:=h.modify g fun
  | .cells _ t a=> .cells cs t a
  |o=>o
 let u8 (l:List Nat):Array Value:=(l.map λ(z:Nat)=>Value.int .u8 (z:Int)).toArray
 let h0:=put w0.heap 2 (Go.Pinned.utf8FirstZ.map λ(z:Nat)=>Value.int .u8 (z:Int)).toArray
 let h1:=put h0 3 (u8 [128,191,160,191,128,159,144,191,128,143,0,0,0,0,0,0,0,0,0,0,0,0,0,0,0,0,0,0,0,0,0,0])
 let b:=put h1 1 (([1,10,100,1000,10000,100000,1000000,10000000,100000000,1000000000,10000000000,100000000000,1000000000000,10000000000000,100000000000000,1000000000000000,10000000000000000,100000000000000000,1000000000000000000,10000000000000000000]:List Nat).map λ(z:Nat)=>Value.int .u64 (z:Int)).toArray
 let c:=put b 5 (u8 [0,1,28,2,29,14,24,3,30,22,20,15,25,17,4,8,31,27,13,23,21,19,16,7,26,12,18,6,11,5,10,9])
 let d:=put c 6 (u8 [0,1,56,2,57,49,28,3,61,58,42,50,38,29,17,4,62,47,59,36,45,43,51,22,53,39,33,30,24,18,12,5,63,55,48,27,60,41,37,16,46,35,44,21,52,32,23,11,54,26,40,15,34,20,31,10,25,14,19,9,13,8,7,6])
 let e:=put d 0 #[.string ⟨#[65]⟩,.string ⟨#[66]⟩]
 {w0 with heap:=e}
theorem own:ownKnob Tryz.prog.godebug=none:=by kernel_rfl
theorem aCP:Tryz.prog.mayEnter=true:=by kernel_rfl
theorem aCH:Tryz.prog.liftsFinal=false:=by kernel_rfl
theorem acp:laidOutB Tryz.prog=true:=by kernel_rfl
theorem reads(os:Os){H:Type}(enc:TypeId×Value->H):∃x,DataW.whole enc Tryz.prog ((aco os).forCall (λ_ _=>0) ⟨#[], #[.slice none 0 0,.int .i64 0],[]⟩).memory Tryz.f3.params.toList (OpenSpec.ofChange Rows.topNoTwoTrainsSpec).vars false (#[.slice none 0 0,.int .i64 0]:Array Value).toList 8=some x:=Option.isSome_iff_exists.1 (by kernel_rfl)
theorem aCA(os:Os):laidMet Tryz.prog Rows.topNoTwoTrainsRow.laid ((aco os).forCall (λ_ _=>0) ⟨#[], #[.slice none 0 0,.int .i64 0],[]⟩).memory:=laidMet_of_run' 8 (by kernel_rfl) (by kernel_rfl)
end Go.Proofs.YtlbfmjolchehbaaGreatDoor.topNoTwoTrains
