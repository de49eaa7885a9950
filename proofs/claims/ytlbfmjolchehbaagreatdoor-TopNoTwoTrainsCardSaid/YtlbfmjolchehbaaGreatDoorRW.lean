/- From a row's list of variables to the program's tables; a list of numbers out of its reading. -/
import Derived.Test.YtlbfmjolchehbaaGreatDoorHS
import Derived.Test.YtlbfmjolchehbaaGreatDoorRows
import Derived.LaidSub
import Derived.Lib.LaidTab
import Derived.OpenShut
import Derived.ChangeOld
import Derived.ProofKit
import Derived.SizedLaws
import Derived.ChangeSlices
import Derived.Lib.ItoaNum
import Derived.Shelf.Strings.Shaped
set_option linter.all false
namespace Go.Z
open Go Go.Proofs Go.Dc Go.R Go.RowKit
theorem an3{P:Program}{w:World}:∀{l:List (String×DataW Unit)}{ps:List MemPlace},DataW.LaidVars P w l ps->∀(n:String) (d:DataW Unit),(n,d)∈l->∃g t cs a p,P.globalNamed n=some g/\(P.globals[g]?).map (·.type)=some t/\w.var? P n=some cs/\DataW.trod (λ_=>()) P w 0 (λ_=>true) false a t cs.toList=some (d,p)
 |[],_,_,n,d,b=>by simp at b
 |(k,j)::r,ps,h,n,d,b=>by
  obtain⟨g,t,cs,a,p,q,h1,h2,c,f,i,_⟩:=h
  rcases List.mem_cons.1 b with e|e
  ·cases e;exact⟨g,t,cs,a,p,h1,h2,c,f⟩
  ·exact an3 i n d e
theorem an2{P:Program}{w:World}{l:List (String×DataW Unit)}(h:laidMetH P l w)(n:String)(d:DataW Unit)(e:(n,d)∈l)(b:d.handleName? =none):∃g t cs a p,P.globalNamed n=some g/\(P.globals[g]?).map (·.type)=some t/\w.var? P n=some cs/\DataW.trod (λ_=>()) P w 0 (λ_=>true) false a t cs.toList=some (d,p):=by obtain⟨⟨ps,c,_⟩,_⟩:=laidMetH_iff.1 h;exact an3 c n d (List.mem_filter.2 ⟨e,by simp[b]⟩)
def EZ(P:Program)(a:String)(g n:Nat)(k:Option IntKind):Bool:=
 decide (P.globalNamed a=some g)&&match (P.globals[g]?).map (·.type) with
 |some t=>decide (P.cellsOf t=n)&&match P.underlying t with
  |some (.array m e)=>decide (m=n)&&decide (P.cellsOf e=1)&&match P.underlying e,k with
   |some (.int b),some k=>decide (b=k)
   |some .string,none=>true
   |_,_=>false
  |_=>false
 |none=>false
theorem awx{P:Program}{a:String}{g n:Nat}{k:IntKind}(h:EZ P a g n (some k)=true):P.globalNamed a=some g/\∃t e,(P.globals[g]?).map (·.type)=some t/\P.underlying t=some (.array n e)/\P.underlying e=some (.int k)/\P.cellsOf e=1/\P.cellsOf t=n:=by
 unfold EZ at h;simp only[Bool.and_eq_true,decide_eq_true_eq] at h;refine⟨h.1,?_⟩;have h:=h.2;split at h
 ·rename_i t f;simp only[Bool.and_eq_true,decide_eq_true_eq] at h;obtain⟨c,h⟩:=h;split at h
  ·rename_i m e i;simp only[Bool.and_eq_true,decide_eq_true_eq] at h;obtain⟨⟨rfl,h1⟩,h2⟩:=h;split at h2;·rename_i j l d b;cases b;simp only[decide_eq_true_eq] at h2;subst h2;exact⟨t,e,f,i,d,h1,c⟩
   ·rename_i b;cases b
   ·cases h2
  ·cases h
 ·cases h
theorem awy{P:Program}{a:String}{g n:Nat}(h:EZ P a g n none=true):P.globalNamed a=some g/\∃t e,(P.globals[g]?).map (·.type)=some t/\P.underlying t=some (.array n e)/\P.underlying e=some .string/\P.cellsOf e=1/\P.cellsOf t=n:=by
 unfold EZ at h;simp only[Bool.and_eq_true,decide_eq_true_eq] at h;refine⟨h.1,?_⟩;have h:=h.2;split at h
 ·rename_i t f;simp only[Bool.and_eq_true,decide_eq_true_eq] at h;obtain⟨b,h⟩:=h;split at h
  ·rename_i m e i;simp only[Bool.and_eq_true,decide_eq_true_eq] at h;obtain⟨⟨rfl,h1⟩,h2⟩:=h;split at h2;·rename_i d;cases d
   ·rename_i c _;exact⟨t,e,f,i,c,h1,b⟩
   ·cases h2
  ·cases h
 ·cases h
theorem au9{H:Type}{enc:TypeId×Value->H}{P:Program}{w:World}{c:Nat}{sp:Nat->Bool}{d:Bool}{a:Nat}{t e:TypeId}{n:Nat}{cs:List Value}{zs:List Str}{p:List MemPlace}(v:P.underlying t=some (.array n e))(r:P.underlying e=some .string)(g:P.cellsOf e=1)(j:P.cellsOf t=n)(h:DataW.trod enc P w c sp d a t cs=some ((.agg (zs.map λz=> .lit (.string z.l)):DataW H),p)):cs=zs.map λz=>Value.string z.ba:=by
 cases a with
 |zero=>simp[DataW.trod] at h
 |succ a=>
  simp only[DataW.trod,v,g,j,Nat.mul_one] at h;split at h
  ·rename_i C;obtain⟨xs,m,x⟩:=Option.map_eq_some_iff.1 h;have f:xs.map (·.1)=zs.map λz=>(DataW.lit (.string z.l):DataW H):=by have:=congrArg Prod.fst x;simpa using this
   have y:xs.length=n:=by simpa using Lib.mapM_length m
   have A:zs.length=n:=by have:=congrArg List.length f;simp at this;omega
   apply List.ext_getElem?;intro i;by_cases u:i<n
   ·obtain⟨b,o,s⟩:=Lib.mapM_at m i i (by simp[u]);obtain⟨z,q,rfl,_⟩:=DataW.trod_string r s;have h1:cs[i]?=some (.string z):=by have:=congrArg (·[0]?) q;simpa [List.getElem?_take,List.getElem?_drop] using this
    have h2:(xs.map (·.1))[i]?=some (DataW.lit (.string z.data.toList):DataW H):=by simp[o]
    rw[f] at h2;simp only[List.getElem?_map,Option.map_eq_some_iff,DataW.lit.injEq,Lit.string.injEq] at h2;obtain⟨B,k,e⟩:=h2;rw[h1,List.getElem?_map,k];have:z=B.ba:=by unfold Str.ba;rw[e]
    rw[this];rfl
   ·rw[List.getElem?_eq_none om,List.getElem?_eq_none (by simp;omega)]
  ·cases h
theorem aq0{P:Program}{g:Nat}{a:String}{vs:List Value}{w:World}(h:w.var? P a=some vs.toArray)(c:P.globalNamed a=some g):∃T fz,w.heap[g]?=some (.cells vs.toArray T fz):=by
 unfold World.var? at h;rw[c] at h;simp only[Option.bind_some] at h;split at h;·rename_i cs T fz b;have:cs=vs.toArray:=Option.some.inj h;subst this;exact⟨T,fz,b⟩
 ·cases h
theorem aCz{P:Program}{w:World}{l:List (String×DataW Unit)}(h:laidMetH P l w)(n:String)(g m:Nat)(k:IntKind)(zs:List Int)(r:EZ P n g m (some k)=true)(s:(n,Lib.tabData k zs)∈l):∃T fz,w.heap[g]?=some (.cells (zs.map λz=>Value.int k z).toArray T fz):=by obtain⟨b,t,e,h1,h2,j,o,q⟩:=awx r;obtain⟨u,v,cs,a,p,c,d,f,i⟩:=an2 h n _ s rfl;obtain rfl:=Option.some.inj (b.symm.trans c);obtain rfl:=Option.some.inj (h1.symm.trans d);refine aq0 ?_ b;rw[f,<-Lib.cells_of_tab h2 j o q i]
theorem aCB{P:Program}{w:World}{l:List (String×DataW Unit)}(h:laidMetH P l w)(n:String)(g m:Nat)(zs:List Str)(q:EZ P n g m none=true)(r:(n,(.agg (zs.map λz=> .lit (.string z.l)):DataW Unit))∈l):∃T fz,w.heap[g]?=some (.cells (zs.map λz=>Value.string z.ba).toArray T fz):=by obtain⟨b,t,e,h1,h2,j,k,o⟩:=awy q;obtain⟨s,u,cs,a,p,c,d,f,i⟩:=an2 h n _ r rfl;obtain rfl:=Option.some.inj (b.symm.trans c);obtain rfl:=Option.some.inj (h1.symm.trans d);refine aq0 ?_ b;rw[f,<-au9 h2 j k o i]
theorem aEa{w:World}(h:w.ShapedOpen Tryz.prog):∃m T fz,w.heap[4]?=some (.cells #[.int .i64 m] T fz):=by
 obtain⟨m,hm⟩:=Go.Proofs.cell_of_shapedOpen_int (g:=4) (zero:= #[.int .i64 0]) (t:=3) h (of_decide_eq_true (by kernel_rfl)) (by kernel_rfl) rfl (by kernel_rfl) (by kernel_rfl) Tryz.underlying3
 have h0:((begin Tryz.prog (fun _ _=>0) default).world.heap[4]?).bind Obj.row? =some (#[.int .i64 0],3):=by kernel_rfl
 obtain⟨cs,e1,e2,_⟩:=h.1 4 _ _ (of_decide_eq_true (by kernel_rfl)) h0
 refine⟨m,3,(0,0),?_⟩
 have e3:cs.size=1:=e2
 rw[e1]
 simp only[World.cell?,e1] at hm
 have:cs= #[.int .i64 m]:=by
  apply Array.ext
  ·simp[e3]
  ·intro i h1 h2
   have hi:i=0:=by simp at h2;omega
   subst hi
   have:=hm
   simp at this ⊢
   simpa [Array.getElem?_eq_getElem (show 0<cs.size by omega)] using this
 rw[this]
theorem tables{w:World}{l:List (String×DataW Unit)}(h:laidMetH Tryz.prog l w)(hs:w.ShapedOpen Tryz.prog)(h1:("internal/strconv.uint64pow10",Go.Proofs.YtlbfmjolchehbaaGreatDoor.Rows.laid_internal_strconv_uint64pow10)∈l)(h2:("railplan/layout.sides",Go.Proofs.YtlbfmjolchehbaaGreatDoor.Rows.laid_railplan_layout_sides)∈l):nX Zτ w:=by
 refine⟨λg t hg=>?_,λg hg=>?_⟩;·refine⟨sm,?_⟩;match g,hg with|0,hg=>cases hg;exact aCB h "railplan/layout.sides" 0 2 [⟨[65]⟩,⟨[66]⟩] (by kernel_rfl) h2|1,hg=>cases hg;exact aCz h "internal/strconv.uint64pow10" 1 20 .u64 Lib.pow10Tab (by kernel_rfl) h1|n+2,hg=>cases hg
 ·have:g=4:=Nat.eq_of_beq_eq_true hg;subst this;exact⟨sm,aEa hs⟩
end Go.Z
