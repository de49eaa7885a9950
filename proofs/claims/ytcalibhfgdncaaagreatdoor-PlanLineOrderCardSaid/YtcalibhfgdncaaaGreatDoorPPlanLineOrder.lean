/- PlanLineOrder, the plain law. -/
import Derived.Test.YtcalibhfgdncaaaGreatDoorZn
import Derived.Test.YtcalibhfgdncaaaGreatDoorGn
import Derived.Test.YtcalibhfgdncaaaGreatDoorOpens
import Derived.Test.YtcalibhfgdncaaaGreatDoorWPlanLineOrder
set_option linter.all false
namespace Go.Proofs.YtcalibhfgdncaaaGreatDoor
open Go.Dc
set_option maxRecDepth 10000
theorem amo:Zc=some true:=by decide+kernel
theorem ady{α:Type}{xs:List α}{i:Int}(h0:0≤i)(h1:i<(xs.length:Int)):∃x,idx xs i=some x∧x∈xs:=by
 have h:i.toNat<xs.length:=by omega
 exact⟨xs[i.toNat],by unfold idx;rw[if_pos h0,List.getElem?_eq_getElem h],List.getElem_mem h⟩
section
variable {l:Layout}{p:Plan}
theorem asV(s:Str):WP (Za (l,p) s ()) (fun b=>b=true):=by
 unfold Za
 rw[amo,Option.bind_some,jP (by rfl),atD,Option.bind_some]
 exact⟨_,rfl,rfl⟩
theorem ail(ls:List Str)(M:Nat)(hM:M≤10000000)(h1:ls.length≤10000001)(h2:∀x∈ls,x.l.length≤M):WP (Ox (l,p) ls) (fun b=>b=true):=by
 unfold Ox
 refine BR (fun s:Str×Nat=>s.2≤ls.length∧s.1.l.length≤s.2*M) (fun s=>ls.length-s.2) _ (fun c s hI hc=>?_) FUEL _ ⟨by simp,by simp⟩ (fD (by simp;omega))
 obtain⟨s,i⟩:=s
 obtain⟨hi,hs⟩:=hI
 simp only at hi hs
 simp only[ad5]
 refine gX (fun h=>?_) (fun h=>asV s)
 have hi2:i<ls.length:=by simpa using h
 have hm:=h2 _ (List.getElem_mem hi2)
 refine dz (x:=ls[i]) (by rw[kF,List.getElem?_eq_getElem hi2]) ?_
 have hb:s.l.length+ls[i].l.length≤(i+1)*M:=by rw[Nat.add_mul,Nat.one_mul];omega
 have hb2:(i+1)*M≤10000001*10000000:=Nat.mul_le_mul (by omega) hM
 refine dz (x:=⟨s.l++ls[i].l⟩) (by unfold dM;rw[if_pos (by omega)]) ?_
 exact hc _ ⟨by show i+1≤_;omega,by show (s.l++ls[i].l).length≤_;rw[List.length_append];exact hb⟩ (by show ls.length-(i+1)<ls.length-i;omega)
theorem asU(a b:Int)(tw:Bool)(ls:List Str)(M:Nat)(hM:M≤10000000)(h0:0<ls.length)(h1:ls.length≤10000000)(h2:∀x∈ls,x.l.length≤M):WP (Y9 a ls b tw (l,p) ()) (fun b=>b=true):=by
 unfold Y9
 obtain⟨i,ei,i0,i1⟩:=aev a (ls.length:Int) (by omega) (by omega)
 obtain⟨j,ej,j0,j1⟩:=aev b (ls.length:Int) (by omega) (by omega)
 rw[ei,Option.bind_some,ej,Option.bind_some]
 obtain⟨x,ex,mx⟩:=ady i0 i1
 obtain⟨z,ez,mz⟩:=ady j0 j1
 refine gX (fun _=>?_) (fun _=>?_)
 ·refine dz ex (mV (by simp;omega) (ail _ M hM (by simp;omega) fun w hw=>?_))
  rcases List.mem_append.1 hw with h|h
  ·exact h2 w h
  ·rw[List.mem_singleton] at h;subst h;exact h2 w mx
 ·obtain⟨u,eu,_⟩:=ady (xs:=ls.set i.toNat z) j0 (by rw[List.length_set];exact j1)
  refine dz ez (dz ex (dz ex (dz eu (ail _ M hM (by simp;omega) fun w hw=>?_))))
  rcases List.mem_or_eq_of_mem_set hw with h|h
  ·rcases List.mem_or_eq_of_mem_set h with h|h
   ·exact h2 w h
   ·subst h;exact h2 w mz
  ·subst h;exact h2 w mx
theorem asT(t:Str)(e0 a b:Int)(tw:Bool)(h0:0<t.l.length)(h1:t.l.length≤10000000)(hl:t.l[t.l.length-1]?=some 10):WP (iter (Y8 (t,e0) a b tw (l,p)) FUEL (([]:List Str),0)) (fun b=>b=true):=by
 refine BR (fun s:List Str×Int=>(0≤s.2∧s.2≤(t.l.length:Int))∧(s.1.length:Int)≤s.2∧(0<s.2→0<s.1.length)∧∀x∈s.1,x.l.length≤t.l.length) (fun s=>((t.l.length:Int)-s.2).toNat) _ (fun c s hI hc=>?_) FUEL _ ⟨⟨by simp,by simp⟩,by simp,by simp,by simp⟩ (fD (by simp;omega))
 obtain⟨ls,i⟩:=s
 obtain⟨⟨i0,i1⟩,hn,hp,hx⟩:=hI
 simp only at i0 i1 hn hp hx
 simp only[Y8]
 refine gX (fun h=>?_) (fun h=>asU a b tw ls t.l.length h1 (hp (by simp at h;omega)) (by omega) hx)
 have hi:i<(t.l.length:Int):=by simpa using h
 refine BR (fun k:Int=>i≤k∧k<(t.l.length:Int)) (fun k=>((t.l.length:Int)-k).toNat) _ (fun c2 k hI2 hc2=>?_) FUEL _ ⟨by omega,hi⟩ (fD (by omega))
 obtain⟨k0,k1⟩:=hI2
 have hk:k.toNat<t.l.length:=by omega
 simp only[ad4]
 refine dz (x:=(t.l[k.toNat].toNat:Int)) (by unfold kD;rw[if_pos (by omega),List.getElem?_eq_getElem hk];rfl) ?_
 refine gX (fun hb=>?_) (fun hb=>?_)
 ·have hlt:k+1<(t.l.length:Int):=by
   apply Int.lt_of_not_ge
   intro hge
   have e:t.l.length-1=k.toNat:=by omega
   rw[e,List.getElem?_eq_getElem hk,Option.some.injEq] at hl
   rw[hl] at hb
   simp at hb
  exact iM (by omega) (hc2 _ ⟨by omega,hlt⟩ (by omega))
 ·unfold ad6
  refine iM (by omega) (dz (x:=⟨(t.l.take (k+1).toNat).drop i.toNat⟩) (by show ji t i (k+1)=_;unfold ji;rw[if_pos ⟨i0,by omega,by omega⟩]) (mV (by simp;omega) (iM (by omega) (hc _ ⟨⟨by show 0≤k+1;omega,by show k+1≤_;omega⟩,by simp;omega,fun _=>by simp,fun x hx2=>?_⟩ (by show ((t.l.length:Int)-(k+1)).toNat<((t.l.length:Int)-i).toNat;omega)))))
  rcases List.mem_append.1 hx2 with h|h
  ·exact hx x h
  ·rw[List.mem_singleton] at h;subst h
   simp only[List.length_drop,List.length_take];omega
end
theorem atI(l:List Int)(a b:Int)(tw:Bool)(hl:Wf.wf l)(_:Wf.wf a)(_:Wf.wf b)(_:Wf.wf tw):Zb l a b tw=some true:=by
 obtain⟨y,hy,v⟩:=aue l (by have:l.length*8≤140737488351232:=hl.1;omega)
 have z:=atJ v
 have g:=ahl (aew z)
 unfold Zb
 rw[hy,Option.bind_some,anC,z,Option.bind_some,Option.bind_some]
 have e:Ym y.1 y.2 0=(⟨tK (Ch y.1 y.2)⟩,0):=by unfold Ym;rw[if_pos rfl]
 rw[e]
 have hlen:=ahq g.1 (by have:=g.2;omega)
 obtain⟨X,hX⟩:∃X,tK (Ch y.1 y.2)=X++[10]:=by
  rcases List.eq_nil_or_concat (Ch y.1 y.2) with h|⟨i,w,h⟩
  ·unfold Ch at h;simp at h
  ·rw[h,List.concat_eq_append,adB,←List.append_assoc];exact⟨_,rfl⟩
 obtain⟨r,hr,h⟩:=asT (l:=y.1) (p:=y.2) ⟨tK (Ch y.1 y.2)⟩ 0 a b tw (by show 0<(tK (Ch y.1 y.2)).length;rw[hX];simp) hlen (by show (tK (Ch y.1 y.2))[(tK (Ch y.1 y.2)).length-1]?=_;rw[hX];simp)
 rw[h] at hr
 exact hr
end Go.Proofs.YtcalibhfgdncaaaGreatDoor
