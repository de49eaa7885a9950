/- Several parts of the engine, one behind the other. -/
import Derived.Test.YtcalibhfgdncaaaGreatDoorQ1
import Derived.Test.YtcalibhfgdncaaaGreatDoorRd
import Derived.Test.YtcalibhfgdncaaaGreatDoorRb
import Derived.Test.YtcalibhfgdncaaaGreatDoorLm
import Derived.Test.YtcalibhfgdncaaaGreatDoorRo
import Derived.Test.YtcalibhfgdncaaaGreatDoorRe
import Derived.Test.YtcalibhfgdncaaaGreatDoorWa
import Derived.Test.YtcalibhfgdncaaaGreatDoorVw
import Derived.Lib.ItoaMem
set_option linter.all false
namespace Go.Proofs.YtcalibhfgdncaaaGreatDoor
open Go.Dc
def jJ(l:Layout)(s:Step):Bool:=(decide (0≤s.Section)&&decide (s.Section<(l.Sections.length:Int)))&&(decide (s.Dir=0)||decide (s.Dir=1))
def yH(s:Step):lK:=if s.Dir=0 then ⟨s.Section,1⟩ else ⟨s.Section,0⟩
def H7(s:Step):Step:=if s.Dir=0 then ⟨s.Section,1⟩ else ⟨s.Section,0⟩
def ZM(f t:lK)(k:Link):Bool:=(decide (lK.mk k.A k.lg=f)&&decide (lK.mk k.B k.lu=t))||(decide (lK.mk k.A k.lg=t)&&decide (lK.mk k.B k.lu=f))
def Xa(f t:lK):List Link→Int×Bool
 |[]=>(0,false)
 |k::r=>if ZM f t k then (k.Point,true) else Xa f t r
def tr(l:Layout)(s t:Step):Int×Bool:=Xa (yH s) (yH (H7 t)) l.Links
theorem aex(s:Step):Nw s=some (yH s):=by
 unfold Nw yH
 by_cases h:s.Dir=0<;>simp[h]
theorem aol(s:Step):QK s=some (H7 s):=by
 unfold QK H7
 by_cases h:s.Dir=0<;>simp[h]
theorem ap2(l:Layout)(s t:Step)(hl:l.Links.length≤1000):SB l s t=some (tr l s t):=by
 unfold SB
 rw[aex,aol]
 simp only[Option.bind_some]
 rw[aex]
 simp only[Option.bind_some]
 unfold Wn tr
 have:=nR (B:=SA l (yH s).tH (yH s).side (yH (H7 t)).tH (yH (H7 t)).side) (fun (_:Unit) i=>i) l.Links (fun _ _=>True) (fun _ r=>some (Xa (yH s) (yH (H7 t)) r)) ?_ ?_ FUEL () 0 trivial (by omega) (iW (by omega))
 ·simpa using this
 ·intro c _ i k r _ _ hi hx hc
  simp only[SA]
  rw[if_pos (by simp;omega),hx]
  simp only[Option.bind_some,Xa]
  have hc':=hc () trivial
  show (if ZM (yH s) (yH (H7 t)) k=true then some (k.Point,true) else c (i+1))=_
  by_cases hj:ZM (yH s) (yH (H7 t)) k=true
  ·rw[if_pos hj,if_pos hj]
  ·rw[if_neg hj,if_neg hj,←hc']
 ·intro c _ _
  simp only[SA]
  rw[if_neg (by simp)]
  rfl
def Fu(l:Layout):Step→List Step→Option (List Int)
 |_,[]=>some []
 |a,b::r=>if (tr l a b).2 then (Fu l b r).map ((tr l a b).1:: ·) else none
def RL(l:Layout):List Step→Option (List Int)
 |[]=>some []
 |a::r=>Fu l a r
def zf:List Int→List Step→Bool
 |_,[]=>false
 |seen,s::r=>decide (s.Section∈seen)||zf (s.Section::seen) r
def zL(l:Layout)(r:aQ):List Int×Int:=
 match RL l r.Steps with
 |none=>([],11)
 |some q=>(q,0)
def kJ(l:Layout)(r:aQ):List Int×Int:=
 if ko (iY l)≠0 then ([],1) else
 if 24<r.Steps.length∨2<r.Overlap then ([],7) else
 if r.Overlap<0∨(r.Steps.length:Int)-r.Overlap<2 then ([],4) else
 if r.Steps.all (jJ l)=false then ([],4) else
 if zf [] r.Steps=true then ([],5) else zL l r
theorem Uk{l:Layout}(h:ko (iY l)=0):l.aM.length≤24∧l.aV.length≤48∧l.Sections.length≤96∧l.Links.length≤192∧0<l.Sections.length:=by
 unfold ko at h
 by_cases hf:yC (iY l)=true
 ·rw[if_pos hf] at h;omega
 ·rw[if_neg hf] at h
  unfold yC at hf
  simp only[iY,List.length_map,decide_eq_true_eq] at hf h
  by_cases h0:l.Sections.length=0
  ·rw[if_pos h0] at h;omega
  ·omega
theorem an3(l:Layout)(r:aQ)(hl:l.Links.length≤1000)(h2:2≤r.Steps.length)(Dq:r.Steps.length≤24):
  Wm r l ()=some (zL l r):=by
 unfold Wm
 have hs:sub r.Steps 1 (r.Steps.length:Int)=some (r.Steps.drop 1):=by
  unfold sub;rw[if_pos (by omega)]
  simp
 rw[hs]
 simp only[Option.bind_some]
 obtain⟨a,rest,hS⟩:∃a rest,r.Steps=a::rest:=by
  cases h:r.Steps with
  |nil=>rw[h] at h2;simp at h2
  |cons a rest=>exact⟨a,rest,rfl⟩
 have hd:r.Steps.drop 1=rest:=by rw[hS];rfl
 rw[hd]
 have hrl:r.Steps.length=rest.length+1:=by rw[hS];rfl
 have:=nR (B:=Sv rest r l) (fun (s:List Int×Step) i=>(s.1,i)) rest (fun s i=>r.Steps[i]?=some s.2∧s.1.length≤i)
  (fun s q=>some (match Fu l s.2 q with|none=>([],11)|some z=>(s.1++z,0))) ?_ ?_ FUEL ([],a) 0 ⟨by rw[hS];rfl,by simp⟩ (by omega) (iW (by omega))
 ·simp only[List.nil_append,List.drop_zero] at this
  rw[this]
  unfold zL
  rw[hS]
  rfl
 ·rintro c ⟨s,p⟩ i x q ⟨hp,hsl⟩ hdr hi hx hc
  simp only at hp hsl
  simp only[Sv]
  rw[if_pos (by simp;omega),hx]
  simp only[Option.bind_some]
  rw[vZ,hp]
  simp only[Option.bind_some]
  rw[ap2 l p x hl]
  simp only[Option.bind_some,Fu]
  by_cases ht:(tr l p x).2=true
  ·rw[if_neg (by simp[ht]),fD (by simp;omega),if_pos ht]
   have hn:r.Steps[i+1]?=some x:=by
    rw[hS,List.getElem?_cons_succ]
    have:=hx
    rw[vZ] at this
    exact this
   have h:=hc (s++[(tr l p x).1],x) ⟨hn,by simp;omega⟩
   simp only at h
   rw[h]
   cases Fu l x q with
   |none=>rfl
   |some z=>simp
  ·have hf:(tr l p x).2=false:=by simpa using ht
   rw[if_pos (by simp[hf]),if_neg ht]
 ·rintro c ⟨s,p⟩ _
  simp only[Sv]
  rw[if_neg (by simp)]
  simp[abf,Fu]
theorem an2(l:Layout)(r:aQ)(hc:ko (iY l)=0)(h2:2≤r.Steps.length)(Dq:r.Steps.length≤24)(ha:r.Steps.all (jJ l)=true):
  Wj l r ()=some (if zf [] r.Steps=true then (([]:List Int),(5:Int)) else zL l r):=by
 have hf:=Uk hc
 unfold Wj
 rw[amF (by omega) (by omega)]
 simp only[Option.bind_some]
 have:=nR (B:=Sr r l) (fun (s:List Bool×List Int) i=>(s.1,i)) r.Steps (fun s _=>s.1.length=l.Sections.length∧∀x:Int,0≤x→x<l.Sections.length→(gb s.1 x=true↔x∈s.2))
  (fun s q=>some (if zf s.2 q=true then (([]:List Int),(5:Int)) else zL l r)) ?_ ?_ FUEL (List.replicate (l.Sections.length:Int).toNat false,[]) 0 ⟨by simp,fun x x0 x1=>by simp[ai6 _ _ x x0 (by omega)]⟩ (by omega) (iW (by omega))
 ·simp only[List.drop_zero] at this
  exact this
 ·rintro c ⟨s,seen⟩ i x q ⟨hl,hs⟩ hdr hi hx hk
  simp only at hl hs
  simp only[Sr]
  have hm:x∈r.Steps:=List.mem_of_mem_drop (i:=i) (by rw[hdr];exact List.mem_cons_self)
  have hx1:jJ l x=true:=List.all_eq_true.1 ha x hm
  unfold jJ at hx1
  simp only[Bool.and_eq_true,Bool.or_eq_true,decide_eq_true_eq] at hx1
  rw[if_pos (by simp;omega),hx]
  simp only[Option.bind_some]
  have hb:idx s x.Section=some (gb s x.Section):=by
   have:x.Section.toNat<s.length:=by omega
   simp[idx,hx1.1.1,gb,this]
  rw[hb]
  simp only[Option.bind_some]
  have hdd:zf seen (x::q)=(decide (x.Section∈seen)||zf (x.Section::seen) q):=rfl
  have hg:=hs x.Section hx1.1.1 hx1.1.2
  by_cases hd:gb s x.Section=true
  ·rw[if_pos hd]
   rw[if_pos (show zf seen (x::q)=true by rw[hdd];simp[hg.1 hd])]
  ·rw[if_neg hd]
   have hn:¬x.Section∈seen:=fun h=>hd (hg.2 h)
   have h:=hk (s.set x.Section.toNat true,x.Section::seen) ⟨by simp[hl],fun z z0 z1=>by
    rw[adb _ _ _ _ hx1.1.1 z0 (by omega)]
    by_cases e:z=x.Section
    ·simp[e]
    ·rw[if_neg e,hs z z0 z1];simp[e]⟩
   simp only at h
   rw[h,hdd]
   simp[hn]
 ·rintro c ⟨s,seen⟩ _
  simp only[Sr]
  rw[if_neg (by simp),an3 l r (by omega) h2 Dq]
  simp[zf]
theorem anY(l:Layout)(r:aQ):Sy l r=some (kJ l r):=by
 unfold Sy LY
 simp only[Option.bind_some]
 by_cases hc:ko (iY l)=0
 ·have hf:=Uk hc
  have n1:¬ko (iY l)≠0:=by simp[hc]
  rw[if_neg (by simp[hc])]
  by_cases Dq:24<r.Steps.length
  ·have e:kJ l r=([],7):=by unfold kJ;rw[if_neg n1,if_pos (.inl Dq)]
   rw[e,if_pos (by simp;omega)]
   unfold Ny
   rw[if_pos (by simp;omega)]
  ·rw[if_neg (by simp;omega)]
   unfold Ny
   by_cases ho:2<r.Overlap
   ·have e:kJ l r=([],7):=by unfold kJ;rw[if_neg n1,if_pos (.inr ho)]
    rw[e,if_pos (by simp;omega)]
   ·rw[if_neg (by simp;omega)]
    unfold Sw
    by_cases h0:r.Overlap<0
    ·have e:kJ l r=([],4):=by unfold kJ;rw[if_neg n1,if_neg (by omega),if_pos (.inl h0)]
     rw[e,if_pos (by simp;omega),if_pos (by simp;omega)]
    ·rw[if_neg (by simp;omega),fD (jB (by omega) (by omega))]
     by_cases h2:(r.Steps.length:Int)-r.Overlap<2
     ·have e:kJ l r=([],4):=by unfold kJ;rw[if_neg n1,if_neg (by omega),if_pos (.inr h2)]
      rw[e,if_pos (by simp;omega)]
     ·have e:kJ l r=if r.Steps.all (jJ l)=false then ([],4) else if zf [] r.Steps=true then ([],5) else zL l r:=by unfold kJ;rw[if_neg n1,if_neg (by omega),if_neg (by omega)]
      rw[e,if_neg (by simp;omega)]
      have:=nR (B:=Sq r l) (fun (_:Unit) i=>i) r.Steps (fun _ i=>(r.Steps.take i).all (jJ l)=true)
       (fun _ q=>some (if q.all (jJ l)=false then (([]:List Int),(4:Int)) else if zf [] r.Steps=true then ([],5) else zL l r)) ?_ ?_ FUEL () 0 (by simp) (by omega) (iW (by omega))
      ·simp only[List.drop_zero] at this
       exact this
      ·intro c _ i x q hI hdr hi hx hk
       simp only[Sq]
       rw[if_pos (by simp;omega),hx]
       simp only[Option.bind_some,Wi]
       by_cases hb:jJ l x=true
       ·have hb':=hb
        unfold jJ at hb'
        rw[if_neg (by simp[hb'])]
        have ht:r.Steps.take (i+1)=r.Steps.take i++[x]:=by
         rw[List.take_succ_eq_append_getElem hi]
         rw[vZ,List.getElem?_eq_getElem hi] at hx
         cases hx;rfl
        have h:=hk () (by rw[ht,List.all_append,hI];simp[hb])
        rw[h]
        simp[hb]
       ·have hb':=hb
        unfold jJ at hb'
        rw[if_pos (by simp at hb' ⊢;omega)]
        simp[hb]
      ·intro c _ hI
       simp only[Sq]
       rw[List.take_length] at hI
       rw[if_neg (by simp),an2 l r hc (by omega) (by omega) hI]
       simp
 ·have e:kJ l r=([],1):=by unfold kJ;rw[if_pos hc]
  rw[e,if_pos (by simp[hc])]
theorem afi(l:Layout)(r:aQ):Nv l r=some (kJ l r).2:=by
 unfold Nv
 rw[anY]
 rfl
end Go.Proofs.YtcalibhfgdncaaaGreatDoor
namespace Go.Proofs.YtcalibhfgdncaaaGreatDoor
open Go.Dc
theorem aco{s:Str}{i:Nat}(h:i<s.l.length):lX s (i:Int)=some (Go.iK.bt s.ba i):=by
 simp[lX,Go.iK.bt,Str.ba,h,idx]
end Go.Proofs.YtcalibhfgdncaaaGreatDoor
namespace Go.Proofs.YtcalibhfgdncaaaGreatDoor
open Go.Dc
end Go.Proofs.YtcalibhfgdncaaaGreatDoor
namespace Go.Proofs.YtcalibhfgdncaaaGreatDoor
open Go.Dc
theorem aam(L:Lay):∀(ks done:List fJ),uo L done ks=0→∀k∈ks,yI L k=true∧¬(k.a=k.b∧k.kD=k.lN)
 |[],_,_,k,hm=>by simp at hm
 |q::ks,done,h,k,hm=>by
  unfold uo at h
  by_cases h4:yI L q=false
  ·rw[if_pos h4] at h;cases h
  ·rw[if_neg h4] at h
   by_cases h1:q.a=q.b∧q.kD=q.lN
   ·rw[if_pos h1] at h;cases h
   ·rw[if_neg h1] at h
    split at h
    ·cases h
    ·split at h
     ·cases h
     ·rcases List.mem_cons.1 hm with e|e
      ·subst e;exact⟨by simpa using h4,h1⟩
      ·exact aam L ks _ h k e
theorem abl(n:Nat):∀(ss:List lW) (seen:List ByteArray),oI n seen ss=0→∀s∈ss,Bl n s=true
 |[],_,_,s,hm=>by simp at hm
 |q::ss,seen,h,s,hm=>by
  unfold oI at h
  by_cases h1:oz q.name seen≠0
  ·rw[if_pos h1] at h;exact absurd h h1
  ·rw[if_neg h1] at h
   by_cases h4:Bl n q=false
   ·rw[if_pos h4] at h;cases h
   ·rw[if_neg h4] at h
    rcases List.mem_cons.1 hm with e|e
    ·subst e;simpa using h4
    ·exact abl n ss _ h s e
structure Val(l:Layout):Prop where
 full:l.aM.length≤24∧l.aV.length≤48∧l.Sections.length≤96∧l.Links.length≤192∧0<l.Sections.length
 secs:∀s∈l.Sections,1≤s.Length∧s.Length≤400∧1000≤s.Limit∧s.Limit≤100000∧ -40≤s.lJ∧s.lJ≤40
 links:∀k∈l.Links,(0≤k.A∧k.A<l.Sections.length)∧(0≤k.B∧k.B<l.Sections.length)∧(k.lg=0∨k.lg=1)∧(k.lu=0∨k.lu=1)∧(-1≤k.Point∧k.Point<l.aV.length)∧¬(k.A=k.B∧k.lg=k.lu)
theorem ag0{l:Layout}(h:ko (iY l)=0):Val l:=by
 have hf:=Uk h
 unfold ko at h
 split at h
 ·cases h
 split at h
 ·cases h
 split at h
 ·rename_i h1;exact absurd h h1
 split at h
 ·rename_i h1;exact absurd h h1
 split at h
 ·rename_i h1;exact absurd h h1
 rename_i hs
 simp only[Decidable.not_not] at hs
 refine⟨hf,fun s hm=>?_,fun k hm=>?_⟩
 ·have:=abl _ _ _ hs (xS s) (List.mem_map.2 ⟨s,hm,rfl⟩)
  unfold Bl xS at this
  simp only[Bool.and_eq_true,decide_eq_true_eq] at this
  omega
 ·have:=aam _ _ _ h (Ml k) (List.mem_map.2 ⟨k,hm,rfl⟩)
  have h1:=this.1
  have h2:¬(k.A=k.B∧k.lg=k.lu):=this.2
  unfold yI Ml iY at h1
  simp only[List.length_map,Bool.and_eq_true,Bool.or_eq_true,decide_eq_true_eq] at h1
  exact⟨by omega,by omega,by omega,by omega,by omega,h2⟩
end Go.Proofs.YtcalibhfgdncaaaGreatDoor
namespace Go.Proofs.YtcalibhfgdncaaaGreatDoor
open Go.Dc
end Go.Proofs.YtcalibhfgdncaaaGreatDoor
namespace Go.Proofs.YtcalibhfgdncaaaGreatDoor
open Go.Dc
set_option maxRecDepth 100000
theorem amH:∀k:Fin 401,Ui (IntKind.u64.wrap ((1:Nat):Int)) (IntKind.u64.wrap ((k.val:Nat):Int))=some (0,((k.val:Nat):Int)):=by decide+kernel
theorem wrap_small:∀k:Fin 401,IntKind.i64.wrap ((k.val:Nat):Int)=((k.val:Nat):Int):=by decide+kernel
theorem amG{p:Int}{x:Cell}(h0:0≤p)(h:p≤1000000):mk (α:=Cell) x p=some (List.replicate p.toNat x):=by
 unfold mk
 rw[if_pos]
 refine⟨h0,?_⟩
 show p*16≤_
 omega
theorem aok(c:Cell)(k:Nat)(h1:1≤k)(h2:k≤400):Td [c] (k:Int)=some (List.replicate k c):=by
 unfold Td
 rw[if_neg (by simp)]
 unfold WL
 have hm:=amH ⟨k,by omega⟩
 simp only at hm
 rw[show (([c]:List Cell).length:Int)=((1:Nat):Int) from rfl,hm,Option.bind_some,if_neg (by simp;omega)]
 unfold WM
 have hw:=wrap_small ⟨k,by omega⟩
 simp only at hw
 rw[show ((0:Int),(k:Int)).2=(k:Int) from rfl,hw,amG (by omega) (by omega),Option.bind_some]
 simp only[Int.toNat_natCast,List.length_replicate]
 have hc0:Dk (List.replicate k (Cell.mk 0 0)) 0 k [c]=some (List.replicate 1 c++List.replicate (k-1) (Cell.mk 0 0)):=by
  unfold Dk Dj
  rw[if_pos (by simp)]
  obtain⟨j,rfl⟩:∃j,k=j+1:=⟨k-1,by omega⟩
  simp[List.replicate_succ]
 rw[hc0,Option.bind_some]
 have hmin:Nat.min ([c]:List Cell).length k=1:=by show Nat.min 1 k=1;exact Nat.min_eq_left h1
 rw[hmin]
 have key:WP (iter WK FUEL (List.replicate 1 c++List.replicate (k-1) (Cell.mk 0 0),((1:Nat):Int))) (fun y=>y=List.replicate k c):=by
  refine Ec (fun (q:List Cell×Int)=>∃n:Nat,q.2=n∧1≤n∧n≤k∧q.1=List.replicate n c++List.replicate (k-n) (Cell.mk 0 0)) (fun q=>k-q.2.toNat) _ ?_ FUEL _ ⟨1,rfl,by omega,h1,rfl⟩ (iW (by simp only;omega))
  rintro ct ⟨q,n'⟩ ⟨n,hn,n1,nk,hq⟩ hct
  simp only at hn hq hct
  subst hn hq
  have hlen:(List.replicate n c++List.replicate (k-n) (Cell.mk 0 0)).length=k:=by simp;omega
  simp only[WK]
  rw[hlen]
  refine wT (fun h=>?_) (fun h=>?_)
  ·simp only[decide_eq_true_eq] at h
   have s1:sub (List.replicate n c++List.replicate (k-n) (Cell.mk 0 0)) (n:Int) (k:Int)=some (List.replicate (k-n) (Cell.mk 0 0)):=by
    unfold sub
    rw[if_pos (by rw[hlen];omega)]
    congr 1
    rw[Int.toNat_natCast,Int.toNat_natCast,List.take_of_length_le (by rw[hlen];omega)]
    rw[List.drop_append_of_le_length (by simp)]
    simp
   have s2:sub (List.replicate n c++List.replicate (k-n) (Cell.mk 0 0)) 0 (n:Int)=some (List.replicate n c):=by
    unfold sub
    rw[if_pos (by rw[hlen];omega)]
    congr 1
    rw[Int.toNat_natCast,List.take_append_of_le_length (by simp)]
    simp
   rw[s1,Option.bind_some,s2,Option.bind_some]
   simp only[List.length_replicate,Int.toNat_natCast]
   have hM:∃m,Nat.min n (k-n)=m∧1≤m∧n+m≤k:=⟨Nat.min n (k-n),rfl,by
    have h1:1≤k-n:=by omega
    exact Nat.le_min.2 ⟨n1,h1⟩,by
    have:=Nat.min_le_right n (k-n)
    have h1:Nat.min n (k-n)≤k-n:=this
    omega⟩
   obtain⟨m,hm,m1,m2⟩:=hM
   have hcp:Dk (List.replicate n c++List.replicate (k-n) (Cell.mk 0 0)) n (k-n) (List.replicate n c)=some (List.replicate (n+m) c++List.replicate (k-(n+m)) (Cell.mk 0 0)):=by
    unfold Dk Dj
    rw[if_pos (by rw[hlen];omega),List.take_replicate,show min (k-n) n=m by rw[Nat.min_comm];exact hm]
    congr 1
    rw[List.take_append_of_le_length (by simp),List.take_of_length_le (by simp),List.length_replicate,List.drop_append,List.length_replicate]
    rw[List.drop_of_length_le (by simp),List.nil_append,show n+m-n=m by omega,List.drop_replicate,List.replicate_append_replicate]
    congr 2
    omega
   rw[hcp,Option.bind_some,hm]
   refine jq (by omega) (hct _ ⟨n+m,by simp,by omega,m2,rfl⟩ (by simp only;omega))
  ·simp only[decide_eq_false_iff_not] at h
   have:n=k:=by omega
   subst this
   exact vR (by simp)
 obtain⟨y,e,rfl⟩:=key
 exact e
def mM(l:Layout)(s:Step):Section:=l.Sections.getD s.Section.toNat default
def cellOf(l:Layout)(s:Step):Cell:=⟨(mM l s).Limit,if s.Dir=1 then-(mM l s).lJ else (mM l s).lJ⟩
def Gj(l:Layout)(ss:List Step):List Cell:=ss.flatMap fun s=>List.replicate (mM l s).Length.toNat (cellOf l s)
def cellsE(l:Layout)(r:aQ)(cs:List Cell):List Cell×Int×Int:=
 if 4000<cs.length then ([],0,7) else (cs,(mM l (r.Steps.getD 0 default)).Length,0)
def Ap(l:Layout)(r:aQ):List Cell×Int×Int:=
 if (kJ l r).2≠0 then ([],0,(kJ l r).2) else cellsE l r (Gj l (r.Steps.take ((r.Steps.length:Int)-r.Overlap).toNat))
structure Ak(l:Layout)(r:aQ):Prop where
 ck:ko (iY l)=0
 v:Val l
 len:r.Steps.length≤24
 ov:0≤r.Overlap∧r.Overlap≤2
 two:2≤(r.Steps.length:Int)-r.Overlap
 st:∀s∈r.Steps,jJ l s=true
 dup:zf [] r.Steps=false
 pts:RL l r.Steps=some (kJ l r).1
theorem DU{l:Layout}{r:aQ}(h:(kJ l r).2=0):Ak l r:=by
 by_cases hc:ko (iY l)=0
 ·by_cases Dq:24<r.Steps.length∨2<r.Overlap
  ·have e:kJ l r=([],7):=by unfold kJ;rw[if_neg (by simp[hc]),if_pos Dq]
   rw[e] at h;cases h
  ·by_cases h2:r.Overlap<0∨(r.Steps.length:Int)-r.Overlap<2
   ·have e:kJ l r=([],4):=by unfold kJ;rw[if_neg (by simp[hc]),if_neg Dq,if_pos h2]
    rw[e] at h;cases h
   ·by_cases ha:r.Steps.all (jJ l)=false
    ·have e:kJ l r=([],4):=by unfold kJ;rw[if_neg (by simp[hc]),if_neg Dq,if_neg h2,if_pos ha]
     rw[e] at h;cases h
    ·by_cases hd:zf [] r.Steps=true
     ·have e:kJ l r=([],5):=by unfold kJ;rw[if_neg (by simp[hc]),if_neg Dq,if_neg h2,if_neg ha,if_pos hd]
      rw[e] at h;cases h
     ·have e:kJ l r=zL l r:=by unfold kJ;rw[if_neg (by simp[hc]),if_neg Dq,if_neg h2,if_neg ha,if_neg hd]
      refine⟨hc,ag0 hc,by omega,by omega,by omega,fun s hm=>List.all_eq_true.1 (by simpa using ha) s hm,by simpa using hd,?_⟩
      rw[e] at h ⊢
      unfold zL at h ⊢
      cases hp:RL l r.Steps with
      |none=>rw[hp] at h;cases h
      |some q=>rfl
 ·have e:kJ l r=([],1):=by unfold kJ;rw[if_pos hc]
  rw[e] at h;cases h
theorem Wq{l:Layout}(v:Val l){s:Step}(h:jJ l s=true):idx l.Sections s.Section=some (mM l s)∧1≤(mM l s).Length∧(mM l s).Length≤400∧ -40≤(mM l s).lJ∧(mM l s).lJ≤40:=by
 unfold jJ at h
 simp only[Bool.and_eq_true,decide_eq_true_eq] at h
 have hlt:s.Section.toNat<l.Sections.length:=by omega
 have hm:mM l s∈l.Sections:=by unfold mM;simp[hlt]
 have:=v.secs _ hm
 exact⟨uj h.1.1 h.1.2,this.1,this.2.1,this.2.2.2.2.1,this.2.2.2.2.2⟩
theorem an8(l:Layout)(r:aQ):Sn l r=some (Ap l r):=by
 unfold Sn Ap
 rw[afi,Option.bind_some]
 by_cases h0:(kJ l r).2=0
 ·have o:=DU h0
  have v:=o.v
  rw[if_neg (by simp[h0]),if_neg (by simp[h0])]
  have:=o.len;have:=o.ov;have:=o.two
  have hs:sub r.Steps 0 ((r.Steps.length:Int)-r.Overlap)=some (r.Steps.take ((r.Steps.length:Int)-r.Overlap).toNat):=by
   unfold sub
   rw[if_pos (by omega)]
   simp
  rw[fD (jB (by omega) (by omega)),hs,Option.bind_some]
  generalize hT:r.Steps.take ((r.Steps.length:Int)-r.Overlap).toNat=T
  have hTl:T.length≤24:=by rw[←hT,List.length_take];omega
  have hTm:∀s∈T,jJ l s=true:=fun s hm=>o.st s (List.mem_of_mem_take (by rw[←hT] at hm;exact hm))
  have:=nR (B:=Sm T l r) (fun (s:List Cell) i=>(s,i)) T (fun s i=>s.length≤400*i) (fun s q=>some (cellsE l r (s++Gj l q))) ?_ ?_ FUEL [] 0 (by simp) (by omega) (iW (by omega))
  ·simpa using this
  ·intro c s i x q hI hdr hi hx hk
   have hm:x∈T:=List.mem_of_mem_drop (i:=i) (by rw[hdr];exact List.mem_cons_self)
   obtain⟨hsx,s1,s2,s3,s4⟩:=Wq v (hTm x hm)
   simp only[Sm]
   rw[if_pos (by simp;omega),hx,Option.bind_some,hsx,Option.bind_some]
   have hrep:∀g:Int,Ic (mM l x) s c i g=c (s++List.replicate (mM l x).Length.toNat (Cell.mk (mM l x).Limit g),i+1):=by
    intro g
    unfold Ic
    have:=aok (Cell.mk (mM l x).Limit g) (mM l x).Length.toNat (by omega) (by omega)
    rw[Int.toNat_of_nonneg (by omega)] at this
    rw[this,Option.bind_some,fD (by simp;omega)]
   have hgo:(if decide (x.Dir=1)=true then bG (bW (-(mM l x).lJ)) (Ic (mM l x) s c i (-(mM l x).lJ)) else Ic (mM l x) s c i (mM l x).lJ)=c (s++List.replicate (mM l x).Length.toNat (cellOf l x),i+1):=by
    unfold cellOf
    by_cases hd:x.Dir=1
    ·rw[if_pos (by simpa using hd),if_pos hd,fD (jB (by omega) (by omega)),hrep]
    ·rw[if_neg (by simpa using hd),if_neg hd,hrep]
   rw[hgo,hk _ (by simp;omega)]
   simp[Gj,List.flatMap_cons]
  ·intro c s hI
   simp only[Sm]
   rw[if_neg (by simp)]
   unfold abe cellsE
   simp only[Gj,List.flatMap_nil,List.append_nil]
   by_cases hb:4000<s.length
   ·rw[if_pos (by simp;omega),if_pos hb]
   ·rw[if_neg (by simp;omega),if_neg hb]
    have h00:0<r.Steps.length:=by omega
    have hi0:idx r.Steps 0=some (r.Steps.getD 0 default):=uj (by omega) (by omega)
    have hm0:r.Steps.getD 0 default∈r.Steps:=by simp[h00]
    rw[hi0,Option.bind_some,(Wq v (o.st _ hm0)).1,Option.bind_some]
 ·rw[if_pos (by simp[h0]),if_pos h0]
end Go.Proofs.YtcalibhfgdncaaaGreatDoor
namespace Go.Proofs.YtcalibhfgdncaaaGreatDoor
open Go.Dc
theorem ad9(c:Int):TP c=some (wo c):=rfl
theorem alA(c:Int):KE c=some (Dm c):=rfl
theorem aeM(s:Str):NY s=some (mK s.ba):=by
 unfold NY mK
 rw[Str.Eu]
 by_cases h:1≤s.l.length∧s.l.length≤12
 ·have hg:(!(decide ((s.l.length:Int)<1)||decide (12<(s.l.length:Int))))=true:=by simp;omega
  rw[qJ hg]
  have h0:=aco (s:=s) (i:=0) (by omega)
  rw[show ((0:Nat):Int)=0 from rfl] at h0
  rw[h0]
  simp only[Option.bind_some]
  rw[qJ hg,ad9]
  simp only[Option.bind_some]
  by_cases hL:wo (Go.iK.bt s.ba 0)=true
  ·rw[if_neg (by simp[hL];omega),fD (by simp;omega)]
   have:=nR (B:=TM s) (fun (_:Unit) i=>i) (List.range s.l.length) (fun _ _=>True) (fun _ r=>some (r.all fun i=>wZ (Go.iK.bt s.ba i))) ?_ ?_ FUEL () 0 trivial (by omega) (iW (by simp;omega))
   ·rw[this,List.drop_zero]
    simp[hL,h.1,h.2]
   ·intro c _ i x r _ hdr hi hx hk
    simp only[List.length_range] at hi
    have hxi:x=i:=by
     have:=List.getElem?_drop (xs:=List.range s.l.length) (i:=i) (j:=0)
     rw[hdr] at this
     simp[hi] at this
     omega
    subst hxi
    have hb:=aco (s:=s) (i:=x) hi
    simp only[TM]
    rw[if_pos (by simp;omega),hb]
    simp only[Option.bind_some]
    rw[ad9]
    simp only[Option.bind_some]
    by_cases a1:wo (Go.iK.bt s.ba x)=true
    ·rw[CQ (by simp[a1])]
     simp only[Option.bind_some]
     rw[CQ (by simp[a1])]
     simp only[Option.bind_some]
     rw[CQ (by simp[a1])]
     simp only[Option.bind_some]
     rw[if_neg (by simp[a1]),hk () trivial]
     simp[wZ,a1]
    ·have a1':wo (Go.iK.bt s.ba x)=false:=by simpa using a1
     rw[qJ (by simp[a1'])]
     simp only[Option.bind_some]
     rw[qJ (by simp[a1']),alA]
     simp only[Option.bind_some]
     by_cases a2:Dm (Go.iK.bt s.ba x)=true
     ·rw[CQ (by simp[a2])]
      simp only[Option.bind_some]
      rw[if_neg (by simp[a2]),hk () trivial]
      simp[wZ,a2]
     ·have X9:Dm (Go.iK.bt s.ba x)=false:=by simpa using a2
      rw[qJ (by simp[a1',X9])]
      simp only[Option.bind_some]
      by_cases a3:Go.iK.bt s.ba x=95
      ·rw[if_neg (by simp[a3]),hk () trivial]
       simp[wZ,a3]
      ·rw[if_pos (by simp[a1',X9,a3])]
       simp[wZ,a1',X9,a3]
   ·intro c _ _
    simp only[TM]
    rw[if_neg (by simp)]
    rfl
  ·have hL':wo (Go.iK.bt s.ba 0)=false:=by simpa using hL
   rw[if_pos (by simp[hL'])]
   simp[hL']
 ·have hg:(!(decide ((s.l.length:Int)<1)||decide (12<(s.l.length:Int))))=false:=by simp;omega
  rw[CQ hg]
  simp only[Option.bind_some]
  rw[CQ hg]
  simp only[Option.bind_some]
  rw[if_pos (by simp[Int.not_lt.mp,h]<;>omega)]
  have:(decide (1≤s.l.length)&&decide (s.l.length≤12))=false:=by simp;omega
  simp[this]
end Go.Proofs.YtcalibhfgdncaaaGreatDoor
namespace Go.Proofs.YtcalibhfgdncaaaGreatDoor
open Go.Dc
theorem aeL{s:ByteArray}{seen:List ByteArray}(h:oz s seen=0):mK s=true∧s∉seen:=by
 unfold oz at h
 split at h
 ·cases h
 ·rename_i h1
  split at h
  ·cases h
  ·rename_i h2;exact⟨by simpa using h1,h2⟩
theorem aaq:∀(l seen:List ByteArray),lQ seen l=0→(∀s∈l,mK s=true∧s∉seen)∧l.Nodup
 |[],_,_=>⟨by simp,.nil⟩
 |q::l,seen,h=>by
  unfold lQ at h
  by_cases h1:oz q seen≠0
  ·rw[if_pos h1] at h;exact absurd h h1
  ·rw[if_neg h1] at h
   obtain⟨a,b⟩:=aaq l _ h
   have hq:=aeL (Classical.not_not.1 h1)
   refine⟨fun s hs=>?_,List.nodup_cons.2 ⟨fun hm=>?_,b⟩⟩
   ·rcases List.mem_cons.1 hs with e|e
    ·subst e;exact hq
    ·exact⟨(a s e).1,fun hm=>(a s e).2 (List.mem_append.2 (.inl hm))⟩
   ·exact (a q hm).2 (List.mem_append.2 (.inr (List.mem_singleton.2 rfl)))
theorem agl(n:Nat):∀(l:List lW) (seen:List ByteArray),oI n seen l=0→(∀s∈l,mK s.name=true∧s.name∉seen)∧(l.map (·.name)).Nodup
 |[],_,_=>⟨by simp,.nil⟩
 |q::l,seen,h=>by
  unfold oI at h
  by_cases h1:oz q.name seen≠0
  ·rw[if_pos h1] at h;exact absurd h h1
  ·rw[if_neg h1] at h
   by_cases h4:Bl n q=false
   ·rw[if_pos h4] at h;cases h
   ·rw[if_neg h4] at h
    obtain⟨a,b⟩:=agl n l _ h
    have hq:=aeL (Classical.not_not.1 h1)
    refine⟨fun s hs=>?_,List.nodup_cons.2 ⟨fun hm=>?_,b⟩⟩
    ·rcases List.mem_cons.1 hs with e|e
     ·subst e;exact hq
     ·exact⟨(a s e).1,fun hm=>(a s e).2 (List.mem_append.2 (.inl hm))⟩
    ·obtain⟨s,hs,e⟩:=List.mem_map.1 hm
     exact (a s hs).2 (List.mem_append.2 (.inr (List.mem_singleton.2 e)))
theorem ah3(c:UInt8)(h:wZ (c.toNat:Int)=true):yM c=true:=by
 unfold wZ wo Dm at h
 unfold yM zu
 simp only[Bool.or_eq_true,Bool.and_eq_true,decide_eq_true_eq] at h ⊢
 omega
theorem QX{s:Str}(h:mK s.ba=true):oZ s=true∧s.l.length≤12:=by
 unfold mK at h
 simp only[Bool.and_eq_true,decide_eq_true_eq,List.all_eq_true,List.mem_range,Str.Eu] at h
 obtain⟨⟨⟨h1,h2⟩,_⟩,h4⟩:=h
 refine⟨?_,h2⟩
 unfold oZ
 simp only[Bool.and_eq_true,decide_eq_true_eq,List.all_eq_true]
 refine⟨fun e=>by rw[e] at h1;simp at h1,fun c hc=>?_⟩
 obtain⟨i,hi,rfl⟩:=List.getElem_of_mem hc
 have:=h4 i hi
 unfold Go.iK.bt at this
 have e:s.ba.data.toList.getD i 0=s.l[i]:=by simp[Str.ba,List.getD,hi]
 rw[e] at this
 exact ah3 _ this
structure C8(l:Layout):Prop extends Val l where
 stw:∀s∈l.aM,oZ s=true∧s.l.length≤12
 ptw:∀s∈l.aV,oZ s=true∧s.l.length≤12
 scw:∀s∈l.Sections,oZ s.Name=true∧s.Name.l.length≤12
 std:l.aM.Nodup
 ptd:l.aV.Nodup
 scd:(l.Sections.map (·.Name)).Nodup
 scs:∀s∈l.Sections,-1≤s.pQ∧s.pQ<l.aM.length
 pos:∀k∈l.Links,k.Pos=0∨k.Pos=1∧k.Point≠ -1
theorem aas{α β:Type}(f:α→β){l:List α}(h:(l.map f).Nodup):l.Nodup:=by
 induction l with
 |nil=>exact .nil
 |cons x l ih=>
  rw[List.map_cons,List.nodup_cons] at h
  exact List.nodup_cons.2 ⟨fun hm=>h.1 (List.mem_map.2 ⟨x,hm,rfl⟩),ih h.2⟩
theorem aqa{l:Layout}(h:ko (iY l)=0):C8 l:=by
 have hv:=ag0 h
 have hl:=h
 unfold ko at h
 split at h
 ·cases h
 split at h
 ·cases h
 split at h
 ·rename_i h1;exact absurd h h1
 rename_i hst
 split at h
 ·rename_i h1;exact absurd h h1
 rename_i hpt
 split at h
 ·rename_i h1;exact absurd h h1
 rename_i hs
 simp only[Decidable.not_not] at hs hst hpt
 have rO:=aaq _ _ hst
 have npt:=aaq _ _ hpt
 have nsc:=agl _ _ _ hs
 refine {toVal:=hv,stw:=fun s hm=>?_,ptw:=fun s hm=>?_,scw:=fun s hm=>?_,std:=aas Str.ba rO.2,ptd:=aas Str.ba npt.2,scd:=?_,scs:=fun s hm=>?_,pos:=fun k hm=>?_}
 ·exact QX (rO.1 s.ba (List.mem_map.2 ⟨s,hm,rfl⟩)).1
 ·exact QX (npt.1 s.ba (List.mem_map.2 ⟨s,hm,rfl⟩)).1
 ·exact QX (nsc.1 (xS s) (List.mem_map.2 ⟨s,hm,rfl⟩)).1
 ·have:=nsc.2
  refine aas Str.ba ?_
  have e:(iY l).sections.map (·.name)=(l.Sections.map (·.Name)).map Str.ba:=by simp[iY,xS]
  rwa [e] at this
 ·have:=abl _ _ _ hs (xS s) (List.mem_map.2 ⟨s,hm,rfl⟩)
  unfold Bl xS at this
  simp only[iY,List.length_map,Bool.and_eq_true,decide_eq_true_eq] at this
  exact⟨this.1.2,this.2⟩
 ·have:=(aam _ _ _ h (Ml k) (List.mem_map.2 ⟨k,hm,rfl⟩)).1
  unfold yI Ml at this
  simp only[Bool.and_eq_true,Bool.or_eq_true,decide_eq_true_eq] at this
  exact this.2
end Go.Proofs.YtcalibhfgdncaaaGreatDoor
namespace Go.Proofs.YtcalibhfgdncaaaGreatDoor
open Go.Dc
theorem Ym:∀(k m:Nat) (s:List UInt8),m<k→0<m→Ar m s=Lib.decDigits m++s
 |0,_,_,h,_=>by omega
 |k+1,m,s,h,h0=>by
  rw[Lc h0]
  by_cases h1:m<10
  ·have e:m / 10=0:=by omega
   rw[e,Jb,Lib.decDigits_one h1,Nat.mod_eq_of_lt h1]
   rfl
  ·rw[Ym k (m / 10) _ (by omega) (by omega)]
   conv=>rhs;rw[Lib.decDigits,dif_neg h1]
   simp
theorem aiv(v:Int)(h1: -9223372036854775808≤v)(h2:v≤9223372036854775807):Kj v=some ⟨Lib.itoa v⟩:=by
 by_cases hs:0≤v∧v<10
 ·have key:∀k:Fin 10,Kj (k.val:Int)=some ⟨[UInt8.ofNat (48+k.val)]⟩:=by decide+kernel
  have:=key ⟨v.toNat,by omega⟩
  simp only at this
  rw[Int.toNat_of_nonneg hs.1] at this
  rw[this]
  have e:v=((v.toNat:Nat):Int):=(Int.toNat_of_nonneg hs.1).symm
  conv=>rhs;rw[e]
  rw[Lib.itoa_nonneg,Lib.decDigits_one (by omega)]
 ·have h0:0<v.natAbs:=by omega
  have hp:v.natAbs*10 ^ ([]:List UInt8).length≤9223372036854775808:=by simp;omega
  have hloop:=acN v (decide (v<0)) FUEL v.natAbs [] (by have:FUEL=18446744073709551616:=rfl;omega) hp (by simp)
  have ev:(if decide (v<0)=true then-(v.natAbs:Int) else (v.natAbs:Int))=v:=by
   by_cases hv:v<0
   ·rw[if_pos (by simpa using hv)];omega
   ·rw[if_neg (by simpa using hv)];omega
  have hlen:=Um 20 v.natAbs [] (by have:(10:Nat) ^ 20=100000000000000000000:=(by decide);omega)
  simp only[List.length_nil,Nat.zero_add] at hlen
  rw[ev] at hloop
  have hd:=Ym (v.natAbs+1) v.natAbs [] (by omega) h0
  rw[List.append_nil] at hd
  rw[hd] at hloop hlen
  unfold Kj
  rw[if_neg (by simp;omega),hloop]
  unfold VQ VT
  by_cases hv:v<0
  ·have c1:vM ⟨[45]⟩ ⟨Lib.decDigits v.natAbs⟩=some ⟨45::Lib.decDigits v.natAbs⟩:=by
    unfold vM
    rw[if_pos (by simp only[List.length_singleton];omega)]
    rfl
   rw[if_pos (by simpa using hv),c1,Option.bind_some]
   have:Lib.itoa v=45::Lib.decDigits v.natAbs:=by unfold Lib.itoa;rw[if_pos hv]
   rw[this]
  ·rw[if_neg (by simpa using hv)]
   have:Lib.itoa v=Lib.decDigits v.natAbs:=by
    unfold Lib.itoa
    rw[if_neg hv]
    congr 1
    omega
   rw[this]
theorem Yo:∀(k m:Nat),m<k→(Lib.decDigits m).all yM=true∧Lib.decDigits m≠[]
 |0,_,h=>by omega
 |k+1,m,h=>by
  have hd:∀d:Nat,d<10→yM (UInt8.ofNat (48+d))=true:=fun d hd=>by
   have key:∀q:Fin 10,yM (UInt8.ofNat (48+q.val))=true:=by decide
   exact key ⟨d,hd⟩
  by_cases h1:m<10
  ·rw[Lib.decDigits_one h1]
   exact⟨by simp only[List.all_cons,List.all_nil,Bool.and_true];exact hd m h1,by simp⟩
  ·rw[Lib.decDigits,dif_neg h1]
   obtain⟨a,b⟩:=Yo k (m / 10) (by omega)
   refine⟨?_,by simp⟩
   rw[List.all_append,a]
   simp only[List.all_cons,List.all_nil,Bool.and_true,Bool.true_and]
   exact hd (m % 10) (by omega)
theorem ZL(v:Int):oZ ⟨Lib.itoa v⟩=true:=by
 unfold oZ Lib.itoa
 split
 ·obtain⟨a,b⟩:=Yo (v.natAbs+1) v.natAbs (by omega)
  simp only[Bool.and_eq_true,decide_eq_true_eq,List.all_cons]
  exact⟨by simp,by decide,a⟩
 ·obtain⟨a,b⟩:=Yo (v.toNat+1) v.toNat (by omega)
  simp only[Bool.and_eq_true,decide_eq_true_eq]
  exact⟨b,a⟩
theorem LG(v:Int)(h1: -9223372036854775808≤v)(h2:v≤9223372036854775807):(Lib.itoa v).length≤21:=by
 have hd:∀m:Nat,0<m→m≤9223372036854775808→(Lib.decDigits m).length≤20:=fun m hm hb=>by
  have:=Um 20 m [] (by have:(10:Nat) ^ 20=100000000000000000000:=(by decide);omega)
  rw[Ym (m+1) m [] (by omega) hm] at this
  simpa using this
 unfold Lib.itoa
 split
 ·have:=hd v.natAbs (by omega) (by omega)
  simp only[List.length_cons];omega
 ·by_cases h0:v=0
  ·subst h0
   simp[Lib.decDigits_one]
  ·have:=hd v.toNat (by omega) (by omega)
   omega
theorem ZK(v:Int)(h1: -1099511627776≤v)(h2:v≤1099511627776):Fg (Lib.itoa v)=(v,true):=by
 obtain⟨y,hy,hn⟩:=aiw v (by omega) (by omega)
 rw[aiv v (by omega) (by omega)] at hy
 obtain rfl:=Option.some.inj hy
 rw[if_neg (by omega),JL _ (by have:=LG v (by omega) (by omega);simp only;omega)] at hn
 exact Option.some.inj hn
end Go.Proofs.YtcalibhfgdncaaaGreatDoor
