/- slices.SortFunc: an own array is sorted where it stands, by a key. -/
import Derived.Test.YtlbfmjolchehbaaGreatDoorRC
import Derived.Test.YtlbfmjolchehbaaGreatDoorErk
import Derived.Sort.Row
import Derived.Sort.Grow
import Derived.Shelf.SlSortCmp.NoneTotal
import Derived.Test.YtlbfmjolchehbaaGreatDoorSj
set_option linter.all false
namespace Go.Proofs
open Go Go.Shelf Go.RowKit Go.Lib Go.Sort
theorem Tryz.cmp103(x y:Int)(W:World):Calls Tryz.prog 103 #[.int .i64 x,.int .i64 y] W λe w'=>e= .returned (.int .i64 (Lib.compareInt x y))/\w'=W:=AnyG.cmp_Compare_int Tryz.laysCmp103 x y W
end Go.Proofs
namespace Go.R
open Go Go.RowKit Go.Dc Go.Proofs Go.Lib Go.Sort
def gQ{α:Type}(key:α->Int)(xs:List α)(i:Nat):Int:=match xs[i]? with|some x=>key x|none=>match xs with|[]=>0|x::_=>key x
def iX(a:Nat->Int)(n:Nat):Array Nat:=pdq (ltOf λi j=>compareInt (a i) (a j)) (Array.range n) 0 (Array.range n).size (Lib.bitLen (Array.range n).size) true true
def iW{α:Type}(key:α->Int)(xs:List α):List α:=match xs with|[]=>[]|[x]=>[x]|x::y::r=>(iX (gQ key (x::y::r)) (x::y::r).length).toList.filterMap λi=>(x::y::r)[i]?
theorem SF{α:Type}(k:α->Int)(x y:α):ltOf (λx y:α=>compareInt (k x) (k y)) x y=decide (k x<k y):=by
 unfold ltOf compareInt;by_cases h1:k x<k y;·simp[h1]
 ·by_cases h2:k y<k x<;>simp[h1,h2]
theorem aqz{α:Type}(k:α->Int):SWO (ltOf λx y:α=>compareInt (k x) (k y)) where
 irrefl x:=by rw[SF];simp
 trans x y z h1 h2:=by rw[SF] at*;simp at*;omega
 ntrans x y z h1 h2:=by rw[SF] at*;simp at*;omega
theorem LA(a:Nat->Int)(n:Nat):(iX a n).size=n/\(iX a n).toList.Perm (List.range n)/\∀i j,i<j->j<n->a (iX a n)[i]! <=a (iX a n)[j]! :=by
 have h:=pdq_sorts (ltOf λi j=>compareInt (a i) (a j)) (aqz a) (Array.range n) 0 (Array.range n).size (Lib.bitLen (Array.range n).size) true true (Nat.zero_le _) sm (Or.inl rfl);change PermIn 0 (Array.range n).size (Array.range n) (iX a n)/\SortedIn _ 0 (Array.range n).size (iX a n) at h;rw[Array.size_range] at h;have h1:(iX a n).size=n:=by simpa using h.1.1
 refine⟨h1,?_,λi j b e=>?_⟩
 ·have h2:=h.1.2.2;have c:(iX a n).extract 0 n=iX a n:=by rw[show n=(iX a n).size from h1.symm];simp[h1]
  have d:(Array.range n).extract 0 n=Array.range n:=by have:(Array.range n).extract 0 (Array.range n).size=Array.range n:=Array.extract_size;simpa using this
  rw[c,d] at h2;simpa using h2
 ·have:=h.2 i j (Nat.zero_le _) b e;rw[SF] at this;simpa using this
theorem YU{α β:Type}{f:α->Option β}:∀{l:List α}{j:Nat},(∀a∈l,(f a).isSome=true)->(l.filterMap f)[j]?=l[j]?.bind f
 |[],_,_=>rfl
 |a::r,j,h=>by
  obtain⟨b,c⟩:=Option.isSome_iff_exists.1 (h a List.mem_cons_self)
  rw[List.filterMap_cons_some c]
  cases j with
  |zero=>simp[c]
  |succ j=>simpa using YU (λa d=>h a (List.mem_cons_of_mem _ d))
theorem aqm{α:Type}(key:α->Int){xs:List α}:iW key xs=(iX (gQ key xs) xs.length).toList.filterMap λi=>xs[i]?:=by
 unfold iW;split;·simp
 ·rename_i x;obtain⟨_,h,_⟩:=LA (gQ key [x]) [x].length;have:(iX (gQ key [x]) [x].length).toList=[0]:=List.perm_singleton.1 h;rw[this];rfl
 ·rfl
theorem aef{α:Type}(key:α->Int)(xs:List α)(j:Nat)(e:j<xs.length):(iX (gQ key xs) xs.length)[j]! <xs.length/\(iW key xs)[j]?=xs[(iX (gQ key xs) xs.length)[j]!]?:=by
 obtain⟨h1,h2,_⟩:=LA (gQ key xs) xs.length;have c:∀a∈(iX (gQ key xs) xs.length).toList,a<xs.length:=λa d=>by simpa using h2.mem_iff.1 d
 have b:j<(iX (gQ key xs) xs.length).size:=by omega
 refine⟨c _ (by rw[getElem!_pos _ j b];simp),?_⟩;rw[aqm,YU (λa d=>by simp[c a d]),Array.getElem?_toList,Array.getElem?_eq_getElem b,getElem!_pos _ j b];rfl
theorem aeg{α:Type}(key:α->Int)(xs:List α):(iW key xs).Perm xs:=by
 rw[aqm];obtain⟨_,h2,_⟩:=LA (gQ key xs) xs.length;refine (h2.filterMap _).trans ?_
 have:(List.range xs.length).filterMap (λi=>xs[i]?)=xs:=by
  refine List.ext_getElem? λj=>?_;rw[YU (λa c=>by simpa using c)];by_cases b:j<xs.length;·simp[b]
  ·simp[b]
 rw[this]
theorem DT{α:Type}(key:α->Int)(xs:List α):(iW key xs).length=xs.length:=(aeg key xs).length_eq
theorem aIo{α:Type}(key:α->Int)(xs:List α):(iW key xs).Pairwise λx y=>key x<=key y:=by refine List.pairwise_iff_getElem.2 λi j d c e=>?_;rw[DT] at d c;obtain⟨f,a⟩:=aef key xs i d;obtain⟨g,b⟩:=aef key xs j c;have h:=(LA (gQ key xs) xs.length).2.2 i j e c;rw[List.getElem?_eq_getElem (by rw[DT];exact d),List.getElem?_eq_getElem f] at a;rw[List.getElem?_eq_getElem (by rw[DT];exact c),List.getElem?_eq_getElem g] at b;have a:=Option.some.inj a;have b:=Option.some.inj b;simp only[gQ,List.getElem?_eq_getElem f,List.getElem?_eq_getElem g] at h;rw[a,b];exact h
def encI(k n:Nat)(arr:Array Value)(i:Nat):List Value:=(List.range k).map λj=>(arr[(if i<n then i else 0)*k+j]?).getD (.bool false)
section
variable {β:Type}{C:Cf}{s:Sg C.τ.S}{M:Mem}{ρ:List Loc}{w:World}{y:β}{κ:Ctx C.τ}{c:Cd}{xs:List (c.ty C.τ.S)}{arr:Array Value}
theorem avE(e:Row C.τ M ρ c xs (λj=>arr[j]?))(f:0<xs.length)(i:Nat):∃x,x∈xs/\(∀a:c.ty C.τ.S->Int,gQ a xs i=a x)/\aZ C.τ M ρ (E C.τ c x).cs (encI (C.τ.aC c) xs.length arr i):=by
 have b:∀d (h0:d<xs.length),d=(if i<xs.length then i else 0)->aZ C.τ M ρ (E C.τ c xs[d]).cs (encI (C.τ.aC c) xs.length arr i):=by
  intro d h0 g;refine aZ.of (by simp[encI,jd]) λj v x h1 h2=>?_;obtain⟨u,f1,f2⟩:=e d xs[d] (by simp[h0]) j v h1;have k:j<C.τ.aC c:=by rw[<-jd];exact (List.getElem?_eq_some_iff.1 h1).1
  simp only[encI,List.getElem?_map,List.getElem?_range k,Option.map_some,<-g,f1,Option.getD_some,Option.some.injEq] at h2;rw[<-h2];exact f2
 by_cases h:i<xs.length;·exact⟨xs[i],List.getElem_mem h,λa=>by simp[gQ,h],b i h (by simp[h])⟩
 ·refine⟨xs[0],List.getElem_mem f,λa=>?_,b 0 f (by simp[h])⟩;have:xs[i]?=none:=by simp;omega
  unfold gQ;rw[this];cases xs with|nil=>cases f|cons=>rfl
theorem aqh{f g m:Nat}{key:c.ty C.τ.S->Int}{good:c.ty C.τ.S->Bool}{x:Value}{K:SV C.τ.S->Sg C.τ.S->Option β}(I:∀p cap w,Calls C.P f #[.slice p 0 cap,.func (.func g) #[] #[]] w λe w'=>e= .returned (.tuple #[])/\w'=w)(hS:∀(F:Nat->List Value) (_:∀x,(F x).length=C.τ.aC c) (_:∀x,∀v∈F x,v.oneCell'=true) (cf:Nat->Nat->Int) (_:SWO (ltOf cf)) (blk off cap:Nat) (d:Array Nat) (w:World) (_:CmpLays C.P g #[] F (C.τ.aC c) cf blk off d.size w) (_:HoldsK F (C.τ.aC c) w blk off d) (_:blk<w.heap.size) (_:d.size<4611686018427387904),Calls C.P f #[.slice (some ⟨blk,off,none⟩) d.size cap,.func (.func g) #[] #[]] w λe w'=>e= .returned (.tuple #[])/\∃n os,w'=sortWorldK F (C.τ.aC c) w blk off n (pdq (ltOf cf) d 0 d.size (Lib.bitLen d.size) true true) os)(hg:∀x y (vx vy:List Value) W,good x=true->good y=true->aZ C.τ M ρ (E C.τ c x).cs vx->aZ C.τ M ρ (E C.τ c y).cs vy->Sat M W->Calls C.P g #[.agg vx.toArray,.agg vy.toArray] W λe w'=>e= .returned (.int .i64 (compareInt (key x) (key y)))/\∃q a4,w'=grow (W.drewN q) a4)(G:CS C κ ρ s M w ρ)(hm:bq s.Th m=some (.ar c xs))(hx:RG C.τ M ρ [] (.o m) x)(H:xs.all good=true)(h:K (.t []) ⟨s.B,s.T,s.Bh,setH m (.ar c (iW key xs)) s.Th,s.nx⟩=some y):Calls C.P f #[x,.func (.func g) #[] #[]] w λe w'=>∃x v s' M' an,e= .returned x/\K v s'=some y/\Keep s s'/\M.le M'/\CS C κ ρ s' M' w' an/\RG C.τ M' an [] v x:=by
 have h0:∀(M:Mem) (ρ:List Loc),RG C.τ M ρ [] (.t []) (.tuple #[]):=λM ρ=> .t (vs:=[]) (xs:=[]) rfl λi v x h=>by simp at h
 have ae:xs=[]->(⟨s.B,s.T,s.Bh,setH m (.ar c (iW key xs)) s.Th,s.nx⟩:Sg C.τ.S)=s:=λe=>by subst e;have:setH m (.ar c (iW key [])) s.Th=s.Th:=ad3 hm;rw[this]
 cases hx with
 |v hx=>cases hx with
  | @o _ l U=>
  rcases OD G hm with ⟨l',D,e3,ab⟩|⟨l',arr,T,D,N,r,ag,hc,a5,J,L,Z⟩
  ·rw[U] at D;cases D
   have N:l.sl= .slice none 0 0:=by simp[Loc.sl,e3]
   rw[N]
   refine (I none 0 w).mono ?_
   rintro e w' ⟨rfl,rfl⟩
   rw[ae ab] at h
   exact⟨_,_,s,M,ρ,rfl,h,⟨rfl,rfl,λt=>rfl⟩,.rfl,G,h0 _ _⟩
  ·rw[U] at D;cases D
   rw[N]
   by_cases V:xs.length=0
   ·rw[V]
    refine (I (some ⟨l.b,0,none⟩) l.cap w).mono ?_
    rintro e w' ⟨rfl,rfl⟩
    rw[ae (List.length_eq_zero_iff.1 V)] at h
    exact⟨_,_,s,M,ρ,rfl,h,⟨rfl,rfl,λt=>rfl⟩,.rfl,G,h0 _ _⟩
   ·have V:0<xs.length:=by omega
    have aa:l.b<w.heap.size:=(Array.getElem?_eq_some_iff.1 r).1
    generalize hk:C.τ.aC c=k at hS ag J
    have A:=avE L V
    rw[hk] at A
    have lT:Sat M w:=let ⟨_,_,_,_,h⟩:=G.mem;h.sat
    have Q:∀t,t<xs.length*k->arr[t]?=some (encI k xs.length arr (t / k))[t % k]! :=by
     intro t R
     have h1:t / k<xs.length:=Nat.div_lt_of_lt_mul (by rwa [Nat.mul_comm] at R)
     have h2:t % k<k:=Nat.mod_lt _ J
     have h3:t / k*k+t % k=t:=Nat.div_add_mod' t k
     obtain⟨v,f1,_⟩:=L (t / k) xs[t / k] (by simp[h1]) (t % k) _ (List.getElem?_eq_getElem (by rw[jd,hk];exact h2))
     rw[hk,h3] at f1
     have f1:arr[t]?=some v:=f1
     rw[f1]
     have:(encI k xs.length arr (t / k))[t % k]?=some v:=by
      simp only[encI,List.getElem?_map,List.getElem?_range h2,Option.map_some,h1,if_true,h3,f1,Option.getD_some]
     rw[List.getElem!_eq_getElem?_getD,this];rfl
    have ap:∀j,M l.b j=none:=by
     obtain⟨O1,_,g1,_,_⟩:=G.mem
     obtain⟨o,g2,_⟩:=g1.look (pz hm)
     cases g2 with
     |ig D e3=>rw[U] at D;cases D;simp[Loc.sl,e3] at N
     |ar D _ _ _ _ _ _ _ _ ao=>rw[U] at D;cases D;exact ao
    have X:∀(m:Nat) (dk:Array Nat) (os:Array Obj) (b:Nat),b<w.heap.size->b≠l.b->(sortWorldK (encI k xs.length arr) k w l.b 0 m dk os).heap[b]?=w.heap[b]?:=by
     intro m dk os b hb aE
     show ((w.heap.modify l.b _)++os)[b]?=_
     rw[Array.getElem?_append_left (by simpa using hb),Array.getElem?_modify,if_neg (λe=>aE e.symm)]
    have hr:(Array.range xs.length).size=xs.length:=Array.size_range
    have:=hS (encI k xs.length arr) (λx=>by simp[encI]) (λx v hv=>by obtain⟨_,_,_,h⟩:=A x;exact h.one v hv) (λi j=>compareInt (gQ key xs i) (gQ key xs j)) (aqz _) l.b 0 l.cap (Array.range xs.length) w
     (λmm os dk ag x y=>by
      obtain⟨a,a1,a2,a3⟩:=A x
      obtain⟨b,b1,b2,b3⟩:=A y
      show Calls C.P g _ _ λe w'=>e= .returned (.int .i64 (compareInt (gQ key xs x) (gQ key xs y)))/\_
      rw[a2,b2]
      refine hg a b _ _ _ (List.all_eq_true.1 H a a1) (List.all_eq_true.1 H b b1) a3 b3 λY j v e=>?_
      have aw:=lT Y j v e
      have aq:Y≠l.b:=λe'=>by rw[e',ap] at e;cases e
      have az:Y<w.heap.size:=by
       rcases Nat.lt_or_ge Y w.heap.size with h|h
       ·exact h
       ·rw[lT.kE h] at e;cases e
      simpa [World.cell?,X mm dk os Y az aq] using aw)
     (λt R=>by
      have R:t<xs.length*k:=by simpa using R
      have h1:t / k<xs.length:=Nat.div_lt_of_lt_mul (by rwa [Nat.mul_comm] at R)
      refine⟨?_,by simp[World.frozen?,r]⟩
      rw[Nat.zero_add,get_flatK _ _ _ t (by simpa using R),getElem!_pos (Array.range xs.length) (t / k) (by simpa using h1),Array.getElem_range]
      simpa [World.cell?,r] using Q t R) aa (by rw[hr];omega)
    rw[hr] at this
    refine this.mono ?_
    rintro e w' ⟨rfl,q,os,rfl⟩
    have hd:pdq (ltOf λi j=>compareInt (gQ key xs i) (gQ key xs j)) (Array.range xs.length) 0 xs.length (Lib.bitLen xs.length) true true=iX (gQ key xs) xs.length:=by unfold iX;rw[hr]
    rw[hd]
    have hh:(sortWorldK (encI k xs.length arr) k w l.b 0 q (iX (gQ key xs) xs.length) os).heap[l.b]?=some (.cells (putCells id 0 (Go.Sort.flatK (encI k xs.length arr) k (iX (gQ key xs) xs.length)) arr) T (0,0)):=by
     show ((w.heap.modify l.b _)++os)[l.b]?=_
     rw[Array.getElem?_append_left (by simpa using aa),Array.getElem?_modify,if_pos rfl,r]
     rfl
    refine⟨_,_,_,M,ρ,rfl,h,⟨rfl,rfl,λt=>rfl⟩,.rfl,Z _ _ (iW key xs) ⟨rfl,rfl,rfl,?_,λj hj V=>?_⟩ hh (by simp[putCells]) (DT key xs) ?_,h0 _ _⟩
    ·show w.heap.size<=((w.heap.modify l.b _)++os).size
     simp
    ·exact X _ _ _ j hj (by simpa using V)
    ·intro i z hz j u hu
     have hi:i<xs.length:=by rw[<-DT key xs];exact (List.getElem?_eq_some_iff.1 hz).1
     have hj:j<k:=by rw[<-hk,<-jd];exact (List.getElem?_eq_some_iff.1 hu).1
     obtain⟨d1,d2⟩:=aef key xs i hi
     rw[hz,List.getElem?_eq_getElem d1] at d2
     obtain⟨v,f1,f2⟩:=L _ z (by rw[List.getElem?_eq_getElem d1];exact d2.symm) j u hu
     refine⟨v,?_,f2⟩
     rw[hk] at f1 |-
     have O:i*k+j<xs.length*k:=by
      have:=Nat.mul_le_mul_right k hi
      rw[Nat.succ_mul] at this;omega
     have ax:i*k+j<arr.size:=by
      have:=Nat.mul_le_mul_right k hc
      omega
     have af:(iX (gQ key xs) xs.length).size=xs.length:=(LA _ _).1
     simp only[putCells,Array.getElem?_mapIdx,Array.getElem?_eq_getElem ax,Option.map_some,Nat.zero_le,true_and,Nat.zero_add,Nat.sub_zero,size_flatK,af,O,if_true,id]
     rw[get_flatK _ _ _ _ (by rw[af];exact O)]
     have U:(i*k+j) / k=i:=by rw[Nat.mul_comm,Nat.mul_add_div J,Nat.div_eq_of_lt hj,Nat.add_zero]
     have D:(i*k+j) % k=j:=by rw[Nat.mul_comm,Nat.mul_add_mod,Nat.mod_eq_of_lt hj]
     rw[U,D]
     have:(encI k xs.length arr (iX (gQ key xs) xs.length)[i]!)[j]?=some v:=by
      simp only[encI,List.getElem?_map,List.getElem?_range hj,Option.map_some,d1,if_true,f1,Option.getD_some]
     rw[List.getElem!_eq_getElem?_getD,this];rfl
end
end Go.R
