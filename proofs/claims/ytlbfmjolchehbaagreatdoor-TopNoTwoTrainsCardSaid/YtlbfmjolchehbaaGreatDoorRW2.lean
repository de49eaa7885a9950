/- A list of numbers out of its reading. -/
import Derived.Test.YtlbfmjolchehbaaGreatDoorRW
import Derived.ShutString
set_option linter.all false
namespace Go.Z
open Go Go.Proofs Go.Dc Go.R
open Go.ChangeShapes Go.WideShapes Go.ChangeAt Go.RowKit
set_option maxRecDepth 10000
theorem aBX{H:Type}{enc:TypeId×Value->H}{W:World}{d:Nat}{sp:Nat->Bool}{p:Bool}{m:Nat}{v:Value}{x:DataW H×List MemPlace}(h:DataW.trod enc Tryz.prog W d sp p m 22 v.cells.toList=some x)(D:Value.okWide Tryz.prog W .any d 22 v)(hw:∀n∈x.1.weights Tryz.prog 22,n<=reachBytes):∃xs:List Int,xs.length<=140737488355328/\RA Zτ (λb j=>W.cell? ⟨b,j,none⟩) [] (.l (.int .i64) xs) v:=by
 obtain⟨ad,u,r,rfl⟩:=okWide_slice Tryz.underlying22 D;rcases open_ints Tryz.underlying22 Tryz.underlying3 (by kernel_rfl) h with ⟨o,_⟩|⟨a,len,cap,zs,o,_,G,I,F,g,f,E⟩;·simp only[Value.cells,List.cons.injEq,Array.toList] at o;rw[o.1];exact⟨[],sm,.v .le⟩
 ·simp only[Value.cells,List.cons.injEq,Array.toList] at o;rw[o.1];have C:len<=zs.length:=by rw[F];split<;>omega
  have A:len<=140737488355328:=by
   have z:Tryz.prog.bytesOf 3=8:=by kernel_rfl
   have B:=hw (zs.length*Tryz.prog.bytesOf 3) (by rw[g];simp only[DataW.weights,Tryz.underlying22,List.mem_cons];left;congr 1;simp[lits];omega);rw[z] at B;have:reachBytes=140737488351232:=by decide
   omega
  refine⟨zs.take len,by simp;omega,?_⟩;by_cases e:len=0;·subst e;exact .v .le
  ·obtain⟨b,off,rfl,c⟩:=ints_at f om;have q:(zs.take len).length=len:=by simp;omega
   have:=@RV.l Zτ (λb j=>W.cell? ⟨b,j,none⟩) [] (.int .i64) (zs.take len) b off cap (λi _=> .int .i64 (zs.getD i 0)) dc om om (λi x g j t=>?_) (λi x g j y k=>?_);·rw[q] at this;exact .v this
   ·have t:j<1:=t;have s:i<len:=by have:=(List.getElem?_eq_some_iff.1 g).1;omega
    have:=c i om;have w:off+i*Zτ.aC (.int .i64)+j=off+i:=by show off+i*1+j=_;omega
    rw[w];exact this
   ·have k:[SV.i .i64 x][j]?=some y:=k
    match j,k with
    |0,k=>
     cases k;have s:i<len:=by have:=(List.getElem?_eq_some_iff.1 g).1;omega
     have e:zs.getD i 0=x:=by rw[List.getElem?_take,if_pos s] at g;rw[List.getD_eq_getElem?_getD,g];rfl
     show RV _ _ _ _ (.int .i64 (zs.getD i 0));rw[e];exact .i
    |j+1,k=>simp at k
end Go.Z
