/- Several parts of the engine, one behind the other. -/
import Derived.Test.YtcalibhfgdncaaaGreatDoorRe
import Derived.Test.YtcalibhfgdncaaaGreatDoorVw
import Derived.Lib.ItoaMem
set_option linter.all false
namespace Go.Proofs.YtcalibhfgdncaaaGreatDoor
open Go.Dc
def jv(l:Layout)(s:Step):Bool:=(decide (0≤s.Section)&&decide (s.Section<(l.Sections.length:Int)))&&(decide (s.Dir=0)||decide (s.Dir=1))
def qx(s:Step):lW:=if s.Dir=0 then ⟨s.Section,1⟩ else ⟨s.Section,0⟩
def Bo(s:Step):Step:=if s.Dir=0 then ⟨s.Section,1⟩ else ⟨s.Section,0⟩
def Oh(f t:lW)(k:Link):Bool:=(decide (lW.mk k.A k.dD=f)&&decide (lW.mk k.B k.dN=t))||(decide (lW.mk k.A k.dD=t)&&decide (lW.mk k.B k.dN=f))
def QO(f t:lW):List Link→Int×Bool
 |[]=>(0,false)
 |k::r=>if Oh f t k then (k.Point,true) else QO f t r
def tr(l:Layout)(s t:Step):Int×Bool:=QO (qx s) (qx (Bo t)) l.Links
theorem ah7(s:Step):QD s=some (qx s):=by
 unfold QD qx
 by_cases h:s.Dir=0<;>simp[h]
theorem au8(s:Step):Ug s=some (Bo s):=by
 unfold Ug Bo
 by_cases h:s.Dir=0<;>simp[h]
theorem awR(l:Layout)(s t:Step)(hl:l.Links.length≤1000):Wy l s t=some (tr l s t):=by
 unfold Wy
 rw[ah7,au8]
 simp only[Option.bind_some]
 rw[ah7]
 simp only[Option.bind_some]
 unfold aaD tr
 have:=jF (B:=Wx l (qx s).sP (qx s).side (qx (Bo t)).sP (qx (Bo t)).side) (fun (_:Unit) i=>i) l.Links (fun _ _=>True) (fun _ r=>some (QO (qx s) (qx (Bo t)) r)) ?_ ?_ FUEL () 0 trivial (by omega) (fD (by omega))
 ·simpa using this
 ·intro c _ i k r _ _ hi hx hc
  simp only[Wx]
  rw[if_pos (by simp;omega),hx]
  simp only[Option.bind_some,QO]
  have hc':=hc () trivial
  show (if Oh (qx s) (qx (Bo t)) k=true then some (k.Point,true) else c (i+1))=_
  by_cases hj:Oh (qx s) (qx (Bo t)) k=true
  ·rw[if_pos hj,if_pos hj]
  ·rw[if_neg hj,if_neg hj,←hc']
 ·intro c _ _
  simp only[Wx]
  rw[if_neg (by simp)]
  rfl
def Bf(l:Layout):Step→List Step→Option (List Int)
 |_,[]=>some []
 |a,b::r=>if (tr l a b).2 then (Bf l b r).map ((tr l a b).1:: ·) else none
def Pq(l:Layout):List Step→Option (List Int)
 |[]=>some []
 |a::r=>Bf l a r
def qX:List Int→List Step→Bool
 |_,[]=>false
 |seen,s::r=>decide (s.Section∈seen)||qX (s.Section::seen) r
def uK(l:Layout)(r:aG):List Int×Int:=
 match Pq l r.Steps with
 |none=>([],11)
 |some q=>(q,0)
def jf(l:Layout)(r:aG):List Int×Int:=
 if jB (dZ l)≠0 then ([],1) else
 if 24<r.Steps.length∨2<r.Overlap then ([],7) else
 if r.Overlap<0∨(r.Steps.length:Int)-r.Overlap<2 then ([],4) else
 if r.Steps.all (jv l)=false then ([],4) else
 if qX [] r.Steps=true then ([],5) else uK l r
theorem RJ{l:Layout}(h:jB (dZ l)=0):l.aT.length≤24∧l.bE.length≤48∧l.Sections.length≤96∧l.Links.length≤192∧0<l.Sections.length:=by
 unfold jB at h
 by_cases hf:wm (dZ l)=true
 ·rw[if_pos hf] at h;omega
 ·rw[if_neg hf] at h
  unfold wm at hf
  simp only[dZ,List.length_map,decide_eq_true_eq] at hf h
  by_cases h0:l.Sections.length=0
  ·rw[if_pos h0] at h;omega
  ·omega
theorem auq(l:Layout)(r:aG)(hl:l.Links.length≤1000)(h2:2≤r.Steps.length)(uj:r.Steps.length≤24):
  aaC r l ()=some (uK l r):=by
 unfold aaC
 have hs:sub r.Steps 1 (r.Steps.length:Int)=some (r.Steps.drop 1):=by
  unfold sub;rw[if_pos (by omega)]
  simp
 rw[hs]
 simp only[Option.bind_some]
 obtain⟨a,rest,hS⟩:∃a rest,r.Steps=a::rest:=by
  cases h:r.Steps with
  |nil=>rw[h] at h2;simp at h2
  |cons a rest=>exact⟨a,rest,rfl⟩
 have hd:r.Steps.drop 1=rest:=by rw[hS];rfl
 rw[hd]
 have hrl:r.Steps.length=rest.length+1:=by rw[hS];rfl
 have:=jF (B:=Wu rest r l) (fun (s:List Int×Step) i=>(s.1,i)) rest (fun s i=>r.Steps[i]?=some s.2∧s.1.length≤i)
  (fun s q=>some (match Bf l s.2 q with|none=>([],11)|some z=>(s.1++z,0))) ?_ ?_ FUEL ([],a) 0 ⟨by rw[hS];rfl,by simp⟩ (by omega) (fD (by omega))
 ·simp only[List.nil_append,List.drop_zero] at this
  rw[this]
  unfold uK
  rw[hS]
  rfl
 ·rintro c ⟨s,p⟩ i x q ⟨hp,hsl⟩ hdr hi hx hc
  simp only at hp hsl
  simp only[Wu]
  rw[if_pos (by simp;omega),hx]
  simp only[Option.bind_some]
  rw[kF,hp]
  simp only[Option.bind_some]
  rw[awR l p x hl]
  simp only[Option.bind_some,Bf]
  by_cases ht:(tr l p x).2=true
  ·rw[if_neg (by simp[ht]),bH (by simp;omega),if_pos ht]
   have hn:r.Steps[i+1]?=some x:=by
    rw[hS,List.getElem?_cons_succ]
    have:=hx
    rw[kF] at this
    exact this
   have h:=hc (s++[(tr l p x).1],x) ⟨hn,by simp;omega⟩
   simp only at h
   rw[h]
   cases Bf l x q with
   |none=>rfl
   |some z=>simp
  ·have hf:(tr l p x).2=false:=by simpa using ht
   rw[if_pos (by simp[hf]),if_neg ht]
 ·rintro c ⟨s,p⟩ _
  simp only[Wu]
  rw[if_neg (by simp)]
  simp[afn,Bf]
theorem aup(l:Layout)(r:aG)(hc:jB (dZ l)=0)(h2:2≤r.Steps.length)(uj:r.Steps.length≤24)(ha:r.Steps.all (jv l)=true):
  aaB l r ()=some (if qX [] r.Steps=true then (([]:List Int),(5:Int)) else uK l r):=by
 have hf:=RJ hc
 unfold aaB
 rw[as2 (by omega) (by omega)]
 simp only[Option.bind_some]
 have:=jF (B:=Wt r l) (fun (s:List Bool×List Int) i=>(s.1,i)) r.Steps (fun s _=>s.1.length=l.Sections.length∧∀x:Int,0≤x→x<l.Sections.length→(gb s.1 x=true↔x∈s.2))
  (fun s q=>some (if qX s.2 q=true then (([]:List Int),(5:Int)) else uK l r)) ?_ ?_ FUEL (List.replicate (l.Sections.length:Int).toNat false,[]) 0 ⟨by simp,fun x x0 x1=>by simp[anG _ _ x x0 (by omega)]⟩ (by omega) (fD (by omega))
 ·simp only[List.drop_zero] at this
  exact this
 ·rintro c ⟨s,seen⟩ i x q ⟨hl,hs⟩ hdr hi hx hk
  simp only at hl hs
  simp only[Wt]
  have hm:x∈r.Steps:=List.mem_of_mem_drop (i:=i) (by rw[hdr];exact List.mem_cons_self)
  have hx1:jv l x=true:=List.all_eq_true.1 ha x hm
  unfold jv at hx1
  simp only[Bool.and_eq_true,Bool.or_eq_true,decide_eq_true_eq] at hx1
  rw[if_pos (by simp;omega),hx]
  simp only[Option.bind_some]
  have hb:idx s x.Section=some (gb s x.Section):=by
   have:x.Section.toNat<s.length:=by omega
   simp[idx,hx1.1.1,gb,this]
  rw[hb]
  simp only[Option.bind_some]
  have hdd:qX seen (x::q)=(decide (x.Section∈seen)||qX (x.Section::seen) q):=rfl
  have hg:=hs x.Section hx1.1.1 hx1.1.2
  by_cases hd:gb s x.Section=true
  ·rw[if_pos hd]
   rw[if_pos (show qX seen (x::q)=true by rw[hdd];simp[hg.1 hd])]
  ·rw[if_neg hd]
   have hn:¬x.Section∈seen:=fun h=>hd (hg.2 h)
   have h:=hk (s.set x.Section.toNat true,x.Section::seen) ⟨by simp[hl],fun z z0 z1=>by
    rw[ahn _ _ _ _ hx1.1.1 z0 (by omega)]
    by_cases e:z=x.Section
    ·simp[e]
    ·rw[if_neg e,hs z z0 z1];simp[e]⟩
   simp only at h
   rw[h,hdd]
   simp[hn]
 ·rintro c ⟨s,seen⟩ _
  simp only[Wt]
  rw[if_neg (by simp),auq l r (by omega) h2 uj]
  simp[qX]
theorem aug(l:Layout)(r:aG):Ww l r=some (jf l r):=by
 unfold Ww Oy
 simp only[Option.bind_some]
 by_cases hc:jB (dZ l)=0
 ·have hf:=RJ hc
  have n1:¬jB (dZ l)≠0:=by simp[hc]
  rw[if_neg (by simp[hc])]
  by_cases uj:24<r.Steps.length
  ·have e:jf l r=([],7):=by unfold jf;rw[if_neg n1,if_pos (.inl uj)]
   rw[e,if_pos (by simp;omega)]
   unfold QE
   rw[if_pos (by simp;omega)]
  ·rw[if_neg (by simp;omega)]
   unfold QE
   by_cases ho:2<r.Overlap
   ·have e:jf l r=([],7):=by unfold jf;rw[if_neg n1,if_pos (.inr ho)]
    rw[e,if_pos (by simp;omega)]
   ·rw[if_neg (by simp;omega)]
    unfold Wv
    by_cases h0:r.Overlap<0
    ·have e:jf l r=([],4):=by unfold jf;rw[if_neg n1,if_neg (by omega),if_pos (.inl h0)]
     rw[e,if_pos (by simp;omega),if_pos (by simp;omega)]
    ·rw[if_neg (by simp;omega),bH (bO (by omega) (by omega))]
     by_cases h2:(r.Steps.length:Int)-r.Overlap<2
     ·have e:jf l r=([],4):=by unfold jf;rw[if_neg n1,if_neg (by omega),if_pos (.inr h2)]
      rw[e,if_pos (by simp;omega)]
     ·have e:jf l r=if r.Steps.all (jv l)=false then ([],4) else if qX [] r.Steps=true then ([],5) else uK l r:=by unfold jf;rw[if_neg n1,if_neg (by omega),if_neg (by omega)]
      rw[e,if_neg (by simp;omega)]
      have:=jF (B:=Ws r l) (fun (_:Unit) i=>i) r.Steps (fun _ i=>(r.Steps.take i).all (jv l)=true)
       (fun _ q=>some (if q.all (jv l)=false then (([]:List Int),(4:Int)) else if qX [] r.Steps=true then ([],5) else uK l r)) ?_ ?_ FUEL () 0 (by simp) (by omega) (fD (by omega))
      ·simp only[List.drop_zero] at this
       exact this
      ·intro c _ i x q hI hdr hi hx hk
       simp only[Ws]
       rw[if_pos (by simp;omega),hx]
       simp only[Option.bind_some,aaA]
       by_cases hb:jv l x=true
       ·have hb':=hb
        unfold jv at hb'
        rw[if_neg (by simp[hb'])]
        have ht:r.Steps.take (i+1)=r.Steps.take i++[x]:=by
         rw[List.take_succ_eq_append_getElem hi]
         rw[kF,List.getElem?_eq_getElem hi] at hx
         cases hx;rfl
        have h:=hk () (by rw[ht,List.all_append,hI];simp[hb])
        rw[h]
        simp[hb]
       ·have hb':=hb
        unfold jv at hb'
        rw[if_pos (by simp at hb' ⊢;omega)]
        simp[hb]
      ·intro c _ hI
       simp only[Ws]
       rw[List.take_length] at hI
       rw[if_neg (by simp),aup l r hc (by omega) (by omega) hI]
       simp
 ·have e:jf l r=([],1):=by unfold jf;rw[if_pos hc]
  rw[e,if_pos (by simp[hc])]
theorem ajG(l:Layout)(r:aG):QC l r=some (jf l r).2:=by
 unfold QC
 rw[aug]
 rfl
theorem X7{s:Str}{i:Nat}(h:i<s.l.length):kD s (i:Int)=some (Go.Dc.oJ.bt s.ba i):=by
 simp[kD,Go.Dc.oJ.bt,Str.ba,h,idx]
theorem ah8(c:Int):Qb c=some (ru c):=by
 unfold Qb ru
 rw[Bool.or_comm]
theorem anc(c:Int):MN c=some (Ap c):=rfl
theorem aeh(s:Str):MK s=some (kW s.ba):=by
 unfold MK kW
 rw[Str.F5]
 by_cases h:1≤s.l.length∧s.l.length≤12
 ·have hg:(!(decide ((s.l.length:Int)<1)||decide (12<(s.l.length:Int))))=true:=by simp;omega
  rw[jP hg]
  have h0:=X7 (s:=s) (i:=0) (by omega)
  rw[show ((0:Nat):Int)=0 from rfl] at h0
  rw[h0]
  simp only[Option.bind_some]
  rw[jP hg,ah8]
  simp only[Option.bind_some]
  by_cases hL:ru (Go.Dc.oJ.bt s.ba 0)=true
  ·rw[if_neg (by simp[hL];omega)]
   have:=jF (B:=Vn s) (fun (_:Unit) i=>i) (List.range s.l.length) (fun _ _=>True) (fun _ r=>some (r.all fun i=>qW (Go.Dc.oJ.bt s.ba i))) ?_ ?_ FUEL () 1 trivial (by simp;omega) (fD (by simp;omega))
   ·rw[this]
    have hr:List.range s.l.length=0::(List.range s.l.length).drop 1:=by
     have:=List.drop_eq_getElem_cons (l:=List.range s.l.length) (i:=0) (by simp;omega)
     simpa using this
    congr 1
    conv=>rhs;rw[hr]
    have hc0:qW (Go.Dc.oJ.bt s.ba 0)=true:=by unfold qW;simp[hL]
    simp[hL,h.1,h.2,hc0]
   ·intro c _ i x r _ hdr hi hx hk
    simp only[List.length_range] at hi
    have hxi:x=i:=by
     have:=List.getElem?_drop (xs:=List.range s.l.length) (i:=i) (j:=0)
     rw[hdr] at this
     simp[hi] at this
     omega
    subst hxi
    have hb:=X7 (s:=s) (i:=x) hi
    simp only[Vn]
    rw[if_pos (by simp;omega),hb]
    simp only[Option.bind_some]
    rw[ah8]
    simp only[Option.bind_some]
    by_cases a1:ru (Go.Dc.oJ.bt s.ba x)=true
    ·rw[oU (by simp[a1])]
     simp only[Option.bind_some]
     rw[oU (by simp[a1])]
     simp only[Option.bind_some]
     rw[oU (by simp[a1])]
     simp only[Option.bind_some]
     rw[if_neg (by simp[a1]),bH (bO (by omega) (by omega)),hk () trivial]
     simp[qW,a1]
    ·have a1':ru (Go.Dc.oJ.bt s.ba x)=false:=by simpa using a1
     rw[jP (by simp[a1'])]
     simp only[Option.bind_some]
     rw[jP (by simp[a1']),anc]
     simp only[Option.bind_some]
     by_cases a2:Ap (Go.Dc.oJ.bt s.ba x)=true
     ·rw[oU (by simp[a2])]
      simp only[Option.bind_some]
      rw[if_neg (by simp[a2]),bH (bO (by omega) (by omega)),hk () trivial]
      simp[qW,a2]
     ·have KE:Ap (Go.Dc.oJ.bt s.ba x)=false:=by simpa using a2
      rw[jP (by simp[a1',KE])]
      simp only[Option.bind_some]
      by_cases a3:Go.Dc.oJ.bt s.ba x=95
      ·rw[if_neg (by simp[a3]),bH (bO (by omega) (by omega)),hk () trivial]
       simp[qW,a3]
      ·rw[if_pos (by simp[a1',KE,a3])]
       simp[qW,a1',KE,a3]
   ·intro c _ _
    simp only[Vn]
    rw[if_neg (by simp)]
    rfl
  ·have hL':ru (Go.Dc.oJ.bt s.ba 0)=false:=by simpa using hL
   rw[if_pos (by simp[hL'])]
   simp[hL']
 ·have hg:(!(decide ((s.l.length:Int)<1)||decide (12<(s.l.length:Int))))=false:=by simp;omega
  rw[oU hg]
  simp only[Option.bind_some]
  rw[oU hg]
  simp only[Option.bind_some]
  rw[if_pos (by simp[Int.not_lt.mp,h]<;>omega)]
  have:(decide (1≤s.l.length)&&decide (s.l.length≤12))=false:=by simp;omega
  simp[this]
theorem air{s:Str}{l:List Str}:s.ba∈l.map Str.ba↔s∈l:=by
 simp only[List.mem_map]
 constructor
 ·rintro⟨t,h,e⟩;rw[←Str.abO e];exact h
 ·intro h;exact⟨s,h,rfl⟩
theorem aix(l:List Str)(i:Nat)(hi:i<l.length)(hl:l.length≤1000):Jy l i=some (ng l[i].ba ((l.take i).map Str.ba)):=by
 unfold Jy ng
 rw[kF,List.getElem?_eq_getElem hi]
 simp only[Option.bind_some]
 rw[aeh]
 simp only[Option.bind_some]
 by_cases hn:kW l[i].ba=true
 ·rw[if_neg (by simp[hn])]
  rw[if_neg (by simp[hn])]
  have hlt:(l.take i).length=i:=by rw[List.length_take];omega
  have:=jF (B:=Vt i l) (fun (_:Unit) i=>i) (l.take i) (fun _ _=>True) (fun _ r=>some (if l[i]∈r then (5:Int) else 0)) ?_ ?_ FUEL () 0 trivial (by omega) (fD (by omega))
  ·simp only[List.drop_zero] at this
   rw[this]
   by_cases hm:l[i]∈l.take i
   ·rw[if_pos hm,if_pos (air.2 hm)]
   ·rw[if_neg hm,if_neg (fun h=>hm (air.1 h))]
  ·intro c _ j x r _ hdr hj hx hk
   simp only[Vt]
   rw[hlt] at hj
   rw[if_pos (by simp;omega)]
   have hxj:idx l (j:Int)=some x:=by
    rw[kF] at hx ⊢
    rw[List.getElem?_take,if_pos hj] at hx
    exact hx
   rw[hxj]
   simp only[Option.bind_some]
   rw[kF,List.getElem?_eq_getElem hi]
   simp only[Option.bind_some]
   by_cases e:x=l[i]
   ·rw[if_pos (by simp[e])]
    simp[e]
   ·rw[if_neg (by simp[e]),bH (bO (by omega) (by omega)),hk () trivial]
    have e':¬l[i]=x:=fun h=>e h.symm
    simp[e']
  ·intro c _ _
   simp only[Vt]
   rw[if_neg (by simp;omega)]
   rfl
 ·have hn':kW l[i].ba=false:=by simpa using hn
  rw[if_pos (by simp[hn']),if_pos hn']
theorem av1(l:Layout)(hl:l.Sections.length≤1000):Qc l=some (l.Sections.map (·.Name)):=by
 unfold Qc
 have:=jF (B:=Vw l) (fun (s:List Str) i=>(s,i)) l.Sections (fun s i=>s.length≤i) (fun s r=>some (s++r.map (·.Name))) ?_ ?_ FUEL [] 0 (by simp) (by omega) (fD (by omega))
 ·simpa using this
 ·intro c s i x r hs hdr hi hx hk
  simp only[Vw]
  rw[if_pos (by simp;omega),hx]
  simp only[Option.bind_some]
  rw[bH (by simp;omega),bH (bO (by omega) (by omega)),hk (s++[x.Name]) (by simp;omega)]
  simp
 ·intro c s _
  simp only[Vw]
  rw[if_neg (by simp)]
  simp[ae3]
theorem QU{α:Type}(g:Bool)(d v:α):dH g d (some v)=some (bif g then v else d):=by cases g<;>rfl
def hasB(x:oW)(k:Link):Bool:=(decide (k.A=x.sP)&&decide (k.dD=x.end_))||(decide (k.B=x.sP)&&decide (k.dN=x.end_))
theorem ahw(k:Link)(x:oW):Qa k x=some (hasB x k):=rfl
def xK(k:Link):List Link→Bool
 |[]=>true
 |[y]=>(decide (0≤k.Point)&&decide (y.Point=k.Point))&&decide (y.Pos≠k.Pos)
 |_=>false
set_option maxRecDepth 100000 in
theorem ahm(l:Layout)(i:Nat)(hi:i<l.Links.length)(hl:l.Links.length≤1000)(x:oW):P9 l i x=some (xK l.Links[i] ((l.Links.take i).filter (hasB x))):=by
 unfold P9
 rw[kF,List.getElem?_eq_getElem hi]
 simp only[Option.bind_some]
 have hlt:(l.Links.take i).length=i:=by rw[List.length_take];omega
 have:=jF (B:=Vp i l x l.Links[i]) (fun (s:(Int×Int×Int×Int×Int×Int×Int)×List Link) j=>(s.1.1,s.1.2.1,s.1.2.2.1,s.1.2.2.2.1,s.1.2.2.2.2.1,s.1.2.2.2.2.2.1,s.1.2.2.2.2.2.2,j)) (l.Links.take i)
  (fun s j=>s.1.1=s.2.length∧s.2.length≤j∧∀y,s.2=[y]→s.1.2.2.2.2.2.1=y.Point∧s.1.2.2.2.2.2.2=y.Pos) (fun s r=>some (xK l.Links[i] (s.2++r.filter (hasB x)))) ?_ ?_ FUEL ((0,0,0,0,0,0,0),[]) 0 ⟨rfl,by simp,fun y h=>by simp at h⟩ (by omega) (fD (by omega))
 ·simpa using this
 ·rintro c ⟨⟨m,o0,o1,o2,o3,o4,o5⟩,ys⟩ j q r ⟨hm,hy,ho⟩ hdr hj hq hk
  simp only at hm hy ho
  simp only[Vp]
  rw[hlt] at hj
  rw[if_pos (by simp;omega)]
  have hqj:idx l.Links (j:Int)=some q:=by
   rw[kF] at hq ⊢
   rw[List.getElem?_take,if_pos hj] at hq
   exact hq
  rw[hqj,Option.bind_some,ahw,Option.bind_some]
  by_cases hb:hasB x q=true
  ·rw[if_pos hb,Option.bind_some,bH (bO (by omega) (by omega))]
   simp only[P8]
   rw[bH (bO (by omega) (by omega))]
   have h:=hk ((m+1,q.A,q.dD,q.B,q.dN,q.Point,q.Pos),ys++[q]) ⟨by simp[hm],by simp;omega,fun y h=>by
    have:ys=[]:=by
     cases ys with
     |nil=>rfl
     |cons a t=>simp at h
    subst this
    simp at h
    subst h
    exact⟨rfl,rfl⟩⟩
   simp only at h
   rw[h,List.filter_cons_of_pos hb]
   simp
  ·rw[if_neg hb]
   simp only[P8]
   rw[bH (bO (by omega) (by omega))]
   have h:=hk ((m,o0,o1,o2,o3,o4,o5),ys) ⟨hm,by simp only;omega,ho⟩
   simp only at h
   rw[h,List.filter_cons_of_neg (by simpa using hb)]
 ·rintro c ⟨⟨m,o0,o1,o2,o3,o4,o5⟩,ys⟩ ⟨hm,hy,ho⟩
  simp only at hm hy ho
  simp only[Vp]
  rw[if_neg (by simp;omega)]
  simp only[aeZ,List.filter_nil,List.append_nil]
  cases ys with
  |nil=>simp[hm,xK]
  |cons y t=>
   cases t with
   |nil=>
    have:=ho y rfl
    simp[hm,xK,this.1,this.2]
   |cons z t=>
    have h1:¬m=0:=by rw[hm];simp;omega
    have h2:¬m=1:=by rw[hm];simp;omega
    simp[h1,h2,xK]
def zT(l:Layout)(done:List Link)(k:Link):Int:=
 if oC (dZ l) (jG k)=false then 4 else if k.A=k.B∧k.dD=k.dN then 1 else
 if done.any (fun q=>hasB ⟨k.A,k.dD⟩ q&&hasB ⟨k.B,k.dN⟩ q)=true then 5 else
 if (!xK k (done.filter (hasB ⟨k.A,k.dD⟩))|| !xK k (done.filter (hasB ⟨k.B,k.dN⟩)))=true then 11 else 0
theorem arL:∀y6 y9 dR y13 fP jc z:Bool,
 (((((((!y6)||(!(bif (!(!y6)) then y9 else default)))||(!(bif (!((!y6)||(!(bif (!(!y6)) then y9 else default)))) then dR else default)))||(!(bif (!(((!y6)||(!(bif (!(!y6)) then y9 else default)))||(!(bif (!((!y6)||(!(bif (!(!y6)) then y9 else default)))) then dR else default)))) then y13 else default)))||(!(bif (!((((!y6)||(!(bif (!(!y6)) then y9 else default)))||(!(bif (!((!y6)||(!(bif (!(!y6)) then y9 else default)))) then dR else default)))||(!(bif (!(((!y6)||(!(bif (!(!y6)) then y9 else default)))||(!(bif (!((!y6)||(!(bif (!(!y6)) then y9 else default)))) then dR else default)))) then y13 else default)))) then fP else default)))||(!(bif (!(((((!y6)||(!(bif (!(!y6)) then y9 else default)))||(!(bif (!((!y6)||(!(bif (!(!y6)) then y9 else default)))) then dR else default)))||(!(bif (!(((!y6)||(!(bif (!(!y6)) then y9 else default)))||(!(bif (!((!y6)||(!(bif (!(!y6)) then y9 else default)))) then dR else default)))) then y13 else default)))||(!(bif (!((((!y6)||(!(bif (!(!y6)) then y9 else default)))||(!(bif (!((!y6)||(!(bif (!(!y6)) then y9 else default)))) then dR else default)))||(!(bif (!(((!y6)||(!(bif (!(!y6)) then y9 else default)))||(!(bif (!((!y6)||(!(bif (!(!y6)) then y9 else default)))) then dR else default)))) then y13 else default)))) then fP else default)))) then jc else default)))||z)= !(y6&&y9&&dR&&y13&&fP&&jc&& !z):=by decide
theorem asL(l:Layout)(i:Nat)(hi:i<l.Links.length)(hl:l.Links.length≤1000)(hs:l.Sections.length≤1000)(hp:l.bE.length≤1000):Vs l i=some (zT l (l.Links.take i) l.Links[i]):=by
 have hlt:(l.Links.take i).length=i:=by rw[List.length_take];omega
 unfold Vs
 rw[kF,List.getElem?_eq_getElem hi]
 generalize hK:l.Links[i]=k
 simp only[Option.bind_some]
 have hi1:aX ((l.Sections.length:Int)-1)=true:=bO (by omega) (by omega)
 have hi2:aX ((l.bE.length:Int)-1)=true:=bO (by omega) (by omega)
 simp only[hi1,hi2,Bool.or_true,bH rfl,Ac,Option.bind_some,QU]
 rw[arL]
 have hB:((decide (0≤k.A)&&decide (k.A≤(l.Sections.length:Int)-1))&&(decide (0≤k.B)&&decide (k.B≤(l.Sections.length:Int)-1))&&(decide (0≤k.dD)&&decide (k.dD≤1))&&(decide (0≤k.dN)&&decide (k.dN≤1))&&(decide (-1≤k.Point)&&decide (k.Point≤(l.bE.length:Int)-1))&&(decide (0≤k.Pos)&&decide (k.Pos≤1))&& !(decide (k.Point<0)&&decide (k.Pos≠0)))=oC (dZ l) (jG k):=by
  rw[Bool.eq_iff_iff]
  unfold oC jG dZ
  simp only[List.length_map,Bool.and_eq_true,Bool.or_eq_true,Bool.not_eq_true',decide_eq_true_eq,Bool.and_eq_false_iff,decide_eq_false_iff_not]
  omega
 rw[hB]
 unfold zT
 by_cases h4:oC (dZ l) (jG k)=false
 ·rw[if_pos (by simp[h4]),if_pos h4]
 ·have h4':oC (dZ l) (jG k)=true:=by simpa using h4
  rw[if_neg (by simp[h4']),if_neg h4]
  unfold ZV
  by_cases h1:k.A=k.B∧k.dD=k.dN
  ·rw[if_pos (by simp[h1.1,h1.2]),if_pos h1]
  ·rw[if_neg (by simpa using h1),if_neg h1]
   have:=jF (B:=Vr i l k) (fun (_:Unit) j=>j) (l.Links.take i) (fun _ _=>True)
    (fun _ r=>some (if r.any (fun q=>hasB ⟨k.A,k.dD⟩ q&&hasB ⟨k.B,k.dN⟩ q)=true then (5:Int) else if (!xK k ((l.Links.take i).filter (hasB ⟨k.A,k.dD⟩))|| !xK k ((l.Links.take i).filter (hasB ⟨k.B,k.dN⟩)))=true then 11 else 0)) ?_ ?_ FUEL () 0 trivial (by omega) (fD (by omega))
   ·simp only[List.drop_zero] at this
    exact this
   ·intro c _ j q r _ hdr hj hq hk
    simp only[Vr]
    rw[hlt] at hj
    rw[if_pos (by simp;omega)]
    have hqj:idx l.Links (j:Int)=some q:=by
     rw[kF] at hq ⊢
     rw[List.getElem?_take,if_pos hj] at hq
     exact hq
    rw[hqj]
    simp only[Option.bind_some,ahw,QU]
    by_cases h5:(hasB ⟨k.A,k.dD⟩ q&&hasB ⟨k.B,k.dN⟩ q)=true
    ·simp only[Bool.and_eq_true] at h5
     rw[if_pos (by simp[h5.1,h5.2]),if_pos (by simp[h5.1,h5.2])]
    ·have h5':(hasB ⟨k.A,k.dD⟩ q&&hasB ⟨k.B,k.dN⟩ q)=false:=by simpa using h5
     rw[if_neg (by
      cases e:hasB ⟨k.A,k.dD⟩ q with
      |false=>simp
      |true=>rw[e] at h5';simp at h5' ⊢;exact h5'),bH (bO (by omega) (by omega)),hk () trivial]
     simp only[List.any_cons,h5',Bool.false_or]
   ·intro c _ _
    simp only[Vr]
    rw[if_neg (by simp;omega)]
    simp only[ae1]
    have f1:=ahm l i hi hl ⟨k.A,k.dD⟩
    have f2:=ahm l i hi hl ⟨k.B,k.dN⟩
    rw[hK] at f1 f2
    rw[f1]
    simp only[Option.bind_some]
    rw[f2,QU]
    simp only[Option.bind_some,List.any_nil,Bool.false_eq_true,if_false]
    generalize xK k ((l.Links.take i).filter (hasB ⟨k.A,k.dD⟩))=p
    generalize xK k ((l.Links.take i).filter (hasB ⟨k.B,k.dN⟩))=q
    cases p<;>cases q<;>rfl
theorem asK(l:Layout)(done:List Link)(k:Link)(r:List fK)(hd:∀q∈done,oC (dZ l) (jG q)=true):
  pz (dZ l) (done.map jG) (jG k::r)=if zT l done k≠0 then zT l done k else pz (dZ l) ((done++[k]).map jG) r:=by
 have L:pz (dZ l) (done.map jG) (jG k::r)=(if oC (dZ l) (jG k)=false then 4 else if k.A=k.B∧k.dD=k.dN then 1 else
   if (atEnd (done.map jG) (2*k.A+k.dD)).any (LC k.A k.dD k.B k.dN)=true then 5 else
   if yG (jG k) (atEnd (done.map jG) (2*k.A+k.dD))=false∨yG (jG k) (atEnd (done.map jG) (2*k.B+k.dN))=false then 11 else pz (dZ l) (done.map jG++[jG k]) r):=rfl
 rw[L]
 by_cases h4:oC (dZ l) (jG k)=false
 ·have e:zT l done k=4:=by unfold zT;rw[if_pos h4]
  rw[if_pos h4,e];rfl
 ·have h4':oC (dZ l) (jG k)=true:=by simpa using h4
  rw[if_neg h4]
  have hkk:0≤k.A∧0≤k.B∧(k.dD=0∨k.dD=1)∧(k.dN=0∨k.dN=1)∧ -1≤k.Point:=by
   unfold oC jG at h4'
   simp only[Bool.and_eq_true,Bool.or_eq_true,decide_eq_true_eq] at h4'
   omega
  by_cases h1:k.A=k.B∧k.dD=k.dN
  ·have e:zT l done k=1:=by unfold zT;rw[if_neg h4,if_pos h1]
   rw[if_pos h1,e];rfl
  ·rw[if_neg h1]
   have hq:∀q∈done,0≤q.A∧0≤q.B∧(q.dD=0∨q.dD=1)∧(q.dN=0∨q.dN=1):=by
    intro q hm
    have:=hd q hm
    unfold oC jG at this
    simp only[Bool.and_eq_true,Bool.or_eq_true,decide_eq_true_eq] at this
    omega
   have ace:∀(a e:Int),0≤a→(e=0∨e=1)→atEnd (done.map jG) (2*a+e)=(done.filter (hasB ⟨a,e⟩)).map jG:=by
    intro a e ha he
    unfold atEnd
    rw[List.filter_map]
    congr 1
    refine List.filter_congr fun q hm=>?_
    have:=hq q hm
    rw[Bool.eq_iff_iff]
    show (decide (2*q.A+q.dD=2*a+e)||decide (2*q.B+q.dN=2*a+e))=true↔((decide (q.A=a)&&decide (q.dD=e))||(decide (q.B=a)&&decide (q.dN=e)))=true
    simp only[Bool.or_eq_true,Bool.and_eq_true,decide_eq_true_eq]
    omega
   have fit:∀ys:List Link,yG (jG k) (ys.map jG)=xK k ys:=by
    intro ys
    cases ys with
    |nil=>rfl
    |cons y t=>
     cases t with
     |nil=>
      rw[Bool.eq_iff_iff]
      show ((decide (k.Point≠ -1)&&decide (k.Point=y.Point))&&decide (k.Pos≠y.Pos))=true↔((decide (0≤k.Point)&&decide (y.Point=k.Point))&&decide (y.Pos≠k.Pos))=true
      simp only[Bool.and_eq_true,decide_eq_true_eq]
      omega
     |cons z t=>rfl
   have e5:((atEnd (done.map jG) (2*k.A+k.dD)).any (LC k.A k.dD k.B k.dN)=true)↔(done.any (fun q=>hasB ⟨k.A,k.dD⟩ q&&hasB ⟨k.B,k.dN⟩ q)=true):=by
    rw[ace k.A k.dD hkk.1 hkk.2.2.1,List.any_map,List.any_filter]
    simp only[List.any_eq_true]
    constructor
    ·rintro⟨q,hm,hj⟩
     refine⟨q,hm,?_⟩
     have hj':(((decide (q.A=k.A)&&decide (q.dD=k.dD))||(decide (q.B=k.A)&&decide (q.dN=k.dD)))&&((decide (k.A=q.A∧k.dD=q.dD)&&decide (k.B=q.B∧k.dN=q.dN))||(decide (k.A=q.B∧k.dD=q.dN)&&decide (k.B=q.A∧k.dN=q.dD))))=true:=hj
     show (((decide (q.A=k.A)&&decide (q.dD=k.dD))||(decide (q.B=k.A)&&decide (q.dN=k.dD)))&&((decide (q.A=k.B)&&decide (q.dD=k.dN))||(decide (q.B=k.B)&&decide (q.dN=k.dN))))=true
     simp only[Bool.or_eq_true,Bool.and_eq_true,decide_eq_true_eq] at hj' ⊢
     omega
    ·rintro⟨q,hm,hj⟩
     refine⟨q,hm,?_⟩
     have hj':(((decide (q.A=k.A)&&decide (q.dD=k.dD))||(decide (q.B=k.A)&&decide (q.dN=k.dD)))&&((decide (q.A=k.B)&&decide (q.dD=k.dN))||(decide (q.B=k.B)&&decide (q.dN=k.dN))))=true:=hj
     show (((decide (q.A=k.A)&&decide (q.dD=k.dD))||(decide (q.B=k.A)&&decide (q.dN=k.dD)))&&((decide (k.A=q.A∧k.dD=q.dD)&&decide (k.B=q.B∧k.dN=q.dN))||(decide (k.A=q.B∧k.dD=q.dN)&&decide (k.B=q.A∧k.dN=q.dD))))=true
     simp only[Bool.or_eq_true,Bool.and_eq_true,decide_eq_true_eq] at hj' ⊢
     omega
   by_cases h5:done.any (fun q=>hasB ⟨k.A,k.dD⟩ q&&hasB ⟨k.B,k.dN⟩ q)=true
   ·have e:zT l done k=5:=by unfold zT;rw[if_neg h4,if_neg h1,if_pos h5]
    rw[if_pos (e5.2 h5),e];rfl
   ·have e:zT l done k=if (!xK k (done.filter (hasB ⟨k.A,k.dD⟩))|| !xK k (done.filter (hasB ⟨k.B,k.dN⟩)))=true then 11 else 0:=by unfold zT;rw[if_neg h4,if_neg h1,if_neg h5]
    rw[if_neg (fun h=>h5 (e5.1 h)),e]
    rw[ace _ _ hkk.1 hkk.2.2.1,ace _ _ hkk.2.1 hkk.2.2.2.1,fit,fit]
    generalize xK k (done.filter (hasB ⟨k.A,k.dD⟩))=p
    generalize xK k (done.filter (hasB ⟨k.B,k.dN⟩))=q
    rw[List.map_append]
    cases p<;>cases q<;>rfl
theorem asO(l:Layout)(hl:l.Links.length≤1000)(hs:l.Sections.length≤1000)(hp:l.bE.length≤1000):ZM l ()=some (pz (dZ l) [] (l.Links.map jG)):=by
 unfold ZM
 have:=jF (B:=Vh l) (fun (_:List Link) j=>j) l.Links (fun s i=>s=l.Links.take i∧∀q∈s,oC (dZ l) (jG q)=true) (fun s r=>some (pz (dZ l) (s.map jG) (r.map jG))) ?_ ?_ FUEL [] 0 ⟨rfl,fun q h=>by simp at h⟩ (by omega) (fD (by omega))
 ·simpa using this
 ·rintro c s i k r ⟨hs',hq⟩ hdr hi hx hk
  simp only[Vh]
  have hki:l.Links[i]=k:=by
   rw[kF,List.getElem?_eq_getElem hi] at hx
   exact Option.some.inj hx
  rw[if_pos (by simp;omega),asL l i hi hl hs hp,hki,←hs']
  simp only[Option.bind_some,List.map_cons]
  rw[asK l s k _ hq]
  by_cases h0:zT l s k=0
  ·rw[if_neg (by simp[h0]),if_neg (by simp[h0]),bH (bO (by omega) (by omega))]
   have hb:oC (dZ l) (jG k)=true:=by
    unfold zT at h0
    by_cases h4:oC (dZ l) (jG k)=false
    ·rw[if_pos h4] at h0;cases h0
    ·simpa using h4
   exact hk (s++[k]) ⟨by rw[hs',List.take_succ_eq_append_getElem hi,hki],fun q hm=>by
    rcases List.mem_append.1 hm with h|h
    ·exact hq q h
    ·simp at h;rw[h];exact hb⟩
  ·rw[if_pos (by simp[h0]),if_pos h0]
 ·rintro c s ⟨hs',_⟩
  simp only[Vh]
  rw[if_neg (by simp)]
  rfl
theorem aiv{B:(Nat→Option Int)→Nat→Option Int}(l:List Str)(K:Option Int)(hl:l.length≤1000)
  (hB:∀c i,B c i=if decide ((i:Int)<(l.length:Int)) then ((Jy l (i:Int)).bind fun y=>if decide (y≠0) then (some y) else (aO (aX ((i:Int)+1))<|c (i+1))) else K):
  iter B FUEL 0=if jN [] (l.map Str.ba)≠0 then some (jN [] (l.map Str.ba)) else K:=by
 have:=jF (B:=B) (fun (_:List Str) j=>j) l (fun s i=>s=l.take i) (fun s r=>if jN (s.map Str.ba) (r.map Str.ba)≠0 then some (jN (s.map Str.ba) (r.map Str.ba)) else K) ?_ ?_ FUEL [] 0 rfl (by omega) (fD (by omega))
 ·simpa using this
 ·intro c s i x r hs hdr hi hx hk
  have hxi:l[i]=x:=by
   rw[kF,List.getElem?_eq_getElem hi] at hx
   exact Option.some.inj hx
  rw[hB,if_pos (by simp;omega),aix l i hi hl,hxi,←hs]
  simp only[Option.bind_some,List.map_cons,jN]
  by_cases h0:ng x.ba (s.map Str.ba)=0
  ·rw[if_neg (by simp[h0]),bH (bO (by omega) (by omega)),hk (s++[x]) (by rw[hs,List.take_succ_eq_append_getElem hi,hxi])]
   simp[h0]
  ·rw[if_pos (by simp[h0])]
   simp[h0]
 ·intro c s _
  rw[hB,if_neg (by simp)]
  simp[jN]
theorem av4(l:Layout)(hl:l.Links.length≤1000)(hs:l.Sections.length≤1000)(hp:l.bE.length≤1000)(ht:l.aT.length≤1000):
  Vi l ()=if mh l.aT.length [] (l.Sections.map pF)≠0 then some (mh l.aT.length [] (l.Sections.map pF)) else some (pz (dZ l) [] (l.Links.map jG)):=by
 unfold Vi
 rw[av1 l hs]
 simp only[Option.bind_some]
 have:=jF (B:=Vg l (l.Sections.map (·.Name))) (fun (_:List Section) j=>j) l.Sections (fun s i=>s=l.Sections.take i)
  (fun s r=>if mh l.aT.length (s.map (·.Name.ba)) (r.map pF)≠0 then some (mh l.aT.length (s.map (·.Name.ba)) (r.map pF)) else some (pz (dZ l) [] (l.Links.map jG))) ?_ ?_ FUEL [] 0 rfl (by omega) (fD (by omega))
 ·simpa using this
 ·intro c s i x r hs' hdr hi hx hk
  have hxi:l.Sections[i]=x:=by
   rw[kF,List.getElem?_eq_getElem hi] at hx
   exact Option.some.inj hx
  simp only[Vg]
  have hn:=aix (l.Sections.map (·.Name)) i (by simpa using hi) (by simpa using hs)
  have hnm:((l.Sections.map (·.Name)).take i).map Str.ba=s.map (·.Name.ba):=by rw[←List.map_take,←hs',List.map_map];rfl
  rw[hnm] at hn
  simp only[List.getElem_map,hxi] at hn
  rw[if_pos (by simp;omega),hn]
  simp only[Option.bind_some,List.map_cons,mh]
  have hsn:(pF x).name=x.Name.ba:=rfl
  rw[hsn]
  by_cases h0:ng x.Name.ba (s.map (·.Name.ba))=0
  ·rw[if_neg (by simp[h0]),hx]
   have hi2:aX ((l.aT.length:Int)-1)=true:=bO (by omega) (by omega)
   simp only[hi2,Bool.or_true,bH rfl,Ac,Option.bind_some,QU]
   have hB:((((!(decide (1≤x.Length)&&decide (x.Length≤400)))||(!(bif (!(!(decide (1≤x.Length)&&decide (x.Length≤400)))) then (decide (1000≤x.Limit)&&decide (x.Limit≤100000)) else default)))||(!(bif (!((!(decide (1≤x.Length)&&decide (x.Length≤400)))||(!(bif (!(!(decide (1≤x.Length)&&decide (x.Length≤400)))) then (decide (1000≤x.Limit)&&decide (x.Limit≤100000)) else default)))) then (decide ((-40)≤x.jM)&&decide (x.jM≤40)) else default)))||(!(bif (!(((!(decide (1≤x.Length)&&decide (x.Length≤400)))||(!(bif (!(!(decide (1≤x.Length)&&decide (x.Length≤400)))) then (decide (1000≤x.Limit)&&decide (x.Limit≤100000)) else default)))||(!(bif (!((!(decide (1≤x.Length)&&decide (x.Length≤400)))||(!(bif (!(!(decide (1≤x.Length)&&decide (x.Length≤400)))) then (decide (1000≤x.Limit)&&decide (x.Limit≤100000)) else default)))) then (decide ((-40)≤x.jM)&&decide (x.jM≤40)) else default)))) then (decide ((-1)≤x.nH)&&decide (x.nH≤(l.aT.length:Int)-1)) else default)))= !yh l.aT.length (pF x):=by
    have ch:∀a b d e:Bool,((((!a)||(!(bif (!(!a)) then b else default)))||(!(bif (!((!a)||(!(bif (!(!a)) then b else default)))) then d else default)))||(!(bif (!(((!a)||(!(bif (!(!a)) then b else default)))||(!(bif (!((!a)||(!(bif (!(!a)) then b else default)))) then d else default)))) then e else default)))= !(a&&b&&d&&e):=by decide
    rw[ch]
    congr 1
    rw[Bool.eq_iff_iff]
    unfold yh pF
    simp only[Bool.and_eq_true,decide_eq_true_eq]
    omega
   rw[hB]
   by_cases h4:yh l.aT.length (pF x)=false
   ·rw[if_pos (by simp[h4])]
    simp[h0,h4]
   ·have h4':yh l.aT.length (pF x)=true:=by simpa using h4
    rw[if_neg (by simp[h4']),bH (bO (by omega) (by omega)),hk (s++[x]) (by rw[hs',List.take_succ_eq_append_getElem hi,hxi])]
    simp[h0,h4']
  ·rw[if_pos (by simp[h0])]
   simp[h0]
 ·intro c s _
  simp only[Vg]
  rw[if_neg (by simp),asO l hl hs hp]
  simp[mh]
theorem abW(l:Layout):Jw l=some (jB (dZ l)):=by
 unfold Jw jB
 by_cases hf:wm (dZ l)=true
 ·rw[if_pos hf]
  unfold wm dZ at hf
  simp only[List.length_map,decide_eq_true_eq] at hf
  rw[if_pos (by simp;omega)]
 ·rw[if_neg hf]
  unfold wm dZ at hf
  simp only[List.length_map,decide_eq_true_eq] at hf
  rw[if_neg (by simp;omega)]
  have h0':(dZ l).sections.length=l.Sections.length:=by simp[dZ]
  by_cases h0:l.Sections.length=0
  ·rw[if_pos (by simp[h0]),if_pos (by rw[h0'];exact h0)]
  ·have h0i:¬((l.Sections.length:Int)=0):=by omega
   rw[if_neg (by rw[decide_eq_true_eq];exact h0i),if_neg (by rw[h0'];exact h0)]
   rw[aiv (B:=aeM l) l.aT (ZL l ()) (by omega) (fun c i=>rfl)]
   have e1:(dZ l).nN=l.aT.map Str.ba:=rfl
   have e2:(dZ l).points=l.bE.map Str.ba:=rfl
   have e3:(dZ l).sections=l.Sections.map pF:=rfl
   have e4:(dZ l).links=l.Links.map jG:=rfl
   rw[e1,e2,e3,e4,List.length_map]
   by_cases hn:jN [] (l.aT.map Str.ba)=0
   ·rw[if_neg (by simp[hn]),if_neg (by simp[hn])]
    unfold ZL
    rw[aiv (B:=aeN l) l.bE (Vi l ()) (by omega) (fun c i=>rfl)]
    by_cases hn2:jN [] (l.bE.map Str.ba)=0
    ·rw[if_neg (by simp[hn2]),if_neg (by simp[hn2]),av4 l (by omega) (by omega) (by omega) (by omega)]
     by_cases YG:mh l.aT.length [] (l.Sections.map pF)=0
     ·rw[if_neg (by simp[YG]),if_neg (by simp[YG])]
     ·rw[if_pos YG,if_pos YG]
    ·rw[if_pos hn2,if_pos hn2]
   ·rw[if_pos hn,if_pos hn]
theorem aeb(L:Lay):∀(ks done:List fK),pz L done ks=0→∀k∈ks,oC L k=true∧¬(k.a=k.b∧k.lg=k.mF)
 |[],_,_,k,hm=>by simp at hm
 |q::ks,done,h,k,hm=>by
  unfold pz at h
  by_cases h4:oC L q=false
  ·rw[if_pos h4] at h;cases h
  ·rw[if_neg h4] at h
   by_cases h1:q.a=q.b∧q.lg=q.mF
   ·rw[if_pos h1] at h;cases h
   ·rw[if_neg h1] at h
    split at h
    ·cases h
    ·split at h
     ·cases h
     ·rcases List.mem_cons.1 hm with e|e
      ·subst e;exact⟨by simpa using h4,h1⟩
      ·exact aeb L ks _ h k e
theorem afw(n:Nat):∀(ss:List mO) (seen:List ByteArray),mh n seen ss=0→∀s∈ss,yh n s=true
 |[],_,_,s,hm=>by simp at hm
 |q::ss,seen,h,s,hm=>by
  unfold mh at h
  by_cases h1:ng q.name seen≠0
  ·rw[if_pos h1] at h;exact absurd h h1
  ·rw[if_neg h1] at h
   by_cases h4:yh n q=false
   ·rw[if_pos h4] at h;cases h
   ·rw[if_neg h4] at h
    rcases List.mem_cons.1 hm with e|e
    ·subst e;simpa using h4
    ·exact afw n ss _ h s e
structure Val(l:Layout):Prop where
 full:l.aT.length≤24∧l.bE.length≤48∧l.Sections.length≤96∧l.Links.length≤192∧0<l.Sections.length
 secs:∀s∈l.Sections,1≤s.Length∧s.Length≤400∧1000≤s.Limit∧s.Limit≤100000∧ -40≤s.jM∧s.jM≤40
 links:∀k∈l.Links,(0≤k.A∧k.A<l.Sections.length)∧(0≤k.B∧k.B<l.Sections.length)∧(k.dD=0∨k.dD=1)∧(k.dN=0∨k.dN=1)∧(-1≤k.Point∧k.Point<l.bE.length)∧¬(k.A=k.B∧k.dD=k.dN)
theorem abx{l:Layout}(h:jB (dZ l)=0):Val l:=by
 have hf:=RJ h
 unfold jB at h
 split at h
 ·cases h
 split at h
 ·cases h
 split at h
 ·rename_i h1;exact absurd h h1
 split at h
 ·rename_i h1;exact absurd h h1
 split at h
 ·rename_i h1;exact absurd h h1
 rename_i hs
 simp only[Decidable.not_not] at hs
 refine⟨hf,fun s hm=>?_,fun k hm=>?_⟩
 ·have:=afw _ _ _ hs (pF s) (List.mem_map.2 ⟨s,hm,rfl⟩)
  unfold yh pF at this
  simp only[Bool.and_eq_true,decide_eq_true_eq] at this
  omega
 ·have:=aeb _ _ _ h (jG k) (List.mem_map.2 ⟨k,hm,rfl⟩)
  have h1:=this.1
  have h2:¬(k.A=k.B∧k.dD=k.dN):=this.2
  unfold oC jG dZ at h1
  simp only[List.length_map,Bool.and_eq_true,Bool.or_eq_true,decide_eq_true_eq] at h1
  exact⟨by omega,by omega,by omega,by omega,by omega,h2⟩
def Lh(k:Link)(x y:Int):Option Hop:=if 0≤x then some ⟨⟨x,if y=1 then 1 else 0⟩,k.Point,k.Pos⟩ else none
def AP(s:Step)(k:Link):Option Hop:=
 if k.A=s.Section∧k.dD=(if s.Dir=1 then 0 else 1) then Lh k k.B k.dN
 else if k.B=s.Section∧k.dN=(if s.Dir=1 then 0 else 1) then Lh k k.A k.dD else none
def Li(l:Layout)(s:Step):List Hop:=l.Links.filterMap (AP s)
theorem ac4(lh:List Hop)(k:Link)(i:Nat)(c:(List Hop×Nat)→Option (List Hop))(x y:Int)(hl:lh.length≤1000)(hi:i≤1000):
  Fg lh k i c (x,y)=c (lh++(Lh k x y).toList,i+1):=by
 simp only[Fg,Lh]
 by_cases h0:0≤x
 ·rw[if_pos (by simpa using h0),if_pos h0]
  by_cases h1:y=1
  ·rw[if_pos (by simpa using h1),if_pos h1]
   simp only[PV,MJ]
   rw[bH (by simp;omega),bH (bO (by omega) (by omega))]
   rfl
  ·rw[if_neg (by simpa using h1),if_neg h1]
   simp only[PV,MJ]
   rw[bH (by simp;omega),bH (bO (by omega) (by omega))]
   rfl
 ·rw[if_neg (by simpa using h0),if_neg h0]
  simp only[MJ]
  rw[bH (bO (by omega) (by omega))]
  simp
theorem apJ(l:Layout)(s:Step)(hl:l.Links.length≤1000):Vl l s=some (Li l s):=by
 have key:∀e:Int,e=(if s.Dir=1 then 0 else 1)→PU l s e=some (Li l s):=by
  intro e he
  unfold PU Li
  have:=jF (B:=Vk l s e) (fun (q:List Hop) i=>(q,i)) l.Links (fun q i=>q.length≤i) (fun q r=>some (q++r.filterMap (AP s))) ?_ ?_ FUEL [] 0 (by simp) (by omega) (fD (by omega))
  ·simpa using this
  ·intro c q i k r hq hdr hi hx hk
   simp only[Vk]
   rw[if_pos (by simp;omega),hx,Option.bind_some]
   have hh:(if (decide (k.A=s.Section)&&decide (k.dD=e))=true then Fg q k i c (k.B,k.dN) else if (decide (k.B=s.Section)&&decide (k.dN=e))=true then Fg q k i c (k.A,k.dD) else Fg q k i c (-1,0))=c (q++(AP s k).toList,i+1):=by
    unfold AP
    rw[←he]
    by_cases h1:k.A=s.Section∧k.dD=e
    ·rw[if_pos (by simpa using h1),if_pos h1,ac4 _ _ _ _ _ _ (by omega) (by omega)]
    ·rw[if_neg (by simpa using h1),if_neg h1]
     by_cases h2:k.B=s.Section∧k.dN=e
     ·rw[if_pos (by simpa using h2),if_pos h2,ac4 _ _ _ _ _ _ (by omega) (by omega)]
     ·rw[if_neg (by simpa using h2),if_neg h2,ac4 _ _ _ _ _ _ (by omega) (by omega)]
      rfl
   rw[hh,hk _ (by cases AP s k<;>simp<;>omega)]
   cases h:AP s k with
   |none=>simp[List.filterMap_cons,h]
   |some z=>simp[List.filterMap_cons,h]
  ·intro c q _
   simp only[Vk]
   rw[if_neg (by simp)]
   simp[aeO]
 unfold Vl
 by_cases h1:s.Dir=1
 ·rw[if_pos (by simpa using h1)];exact key 0 (by rw[if_pos h1])
 ·rw[if_neg (by simpa using h1)];exact key 1 (by rw[if_neg h1])
def Og(l:Layout)(a b:Step):Hop×Bool:=
 match (Li l a).find? (fun h=>decide (h.To=b)) with
 |some h=>(h,true)
 |none=>(Hop.mk (Step.mk 0 0) 0 0,false)
theorem ar2(l:Layout)(a b:Step)(hl:l.Links.length≤1000):VG l a b=some (Og l a b):=by
 unfold VG Og
 rw[apJ l a hl,Option.bind_some]
 have hlen:(Li l a).length≤1000:=Nat.le_trans (List.length_filterMap_le _ _) hl
 generalize Li l a=hs at hlen
 have:=jF (B:=VF hs b) (fun (_:Unit) i=>i) hs (fun _ _=>True) (fun _ r=>some (match r.find? (fun h=>decide (h.To=b)) with|some h=>(h,true)|none=>(Hop.mk (Step.mk 0 0) 0 0,false))) ?_ ?_ FUEL () 0 trivial (by omega) (fD (by omega))
 ·simpa using this
 ·intro c _ i x r _ hdr hi hx hk
  simp only[VF]
  rw[if_pos (by simp;omega),hx,Option.bind_some,Option.bind_some]
  by_cases h:x.To=b
  ·rw[if_pos (by simpa using h)]
   simp[List.find?_cons,h]
  ·rw[if_neg (by simpa using h),bH (bO (by omega) (by omega)),hk () trivial]
   simp[List.find?_cons,h]
 ·intro c _ _
  simp only[VF]
  rw[if_neg (by simp)]
  rfl
theorem ar1{l:Layout}(v:Val l){a b:Step}(ha:jv l a=true)(hb:jv l b=true):tr l a b=((Og l a b).1.Point,(Og l a b).2):=by
 unfold jv at ha hb
 simp only[Bool.and_eq_true,Bool.or_eq_true,decide_eq_true_eq] at ha hb
 unfold tr Og Li
 have key:∀ks:List Link,(∀k∈ks,k∈l.Links)→QO (qx a) (qx (Bo b)) ks=(match (ks.filterMap (AP a)).find? (fun h=>decide (h.To=b)) with|some h=>(h.Point,true)|none=>(0,false)):=by
  intro ks
  induction ks with
  |nil=>intro _;rfl
  |cons k ks ih=>
   intro hk
   have vk:=v.links k (hk k List.mem_cons_self)
   have ih':=ih (fun q h=>hk q (List.mem_cons_of_mem _ h))
   have hl1:qx a=⟨a.Section,if a.Dir=1 then 0 else 1⟩:=by
    unfold qx
    rcases ha.2 with h|h
    ·rw[if_pos h,if_neg (by omega)]
    ·rw[if_neg (by omega),if_pos h]
   have hl2:qx (Bo b)=⟨b.Section,b.Dir⟩:=by
    unfold qx Bo
    rcases hb.2 with h|h
    ·simp[h]
    ·simp[h]
   have hstep:∀(x y:Int),(y=0∨y=1)→((Step.mk x (if y=1 then 1 else 0)=b)↔(x=b.Section∧y=b.Dir)):=by
    intro x y hy
    obtain⟨bs,bd⟩:=b
    simp only[Step.mk.injEq]
    rcases hy with h|h<;>simp[h]
   have hj:Oh (qx a) (qx (Bo b)) k=true↔∃h,AP a k=some h∧h.To=b:=by
    rw[hl1,hl2]
    unfold Oh
    simp only[Bool.or_eq_true,Bool.and_eq_true,decide_eq_true_eq,lW.mk.injEq]
    unfold AP Lh
    by_cases h1:k.A=a.Section∧k.dD=(if a.Dir=1 then 0 else 1)
    ·rw[if_pos h1,if_pos vk.2.1.1]
     simp only[Option.some.injEq,exists_eq_left']
     rw[hstep _ _ vk.2.2.2.1]
     constructor
     ·rintro (⟨_,h⟩|⟨h2,h3⟩)
      ·exact h
      ·exact absurd ⟨h1.1.trans h3.1.symm,h1.2.trans h3.2.symm⟩ vk.2.2.2.2.2
     ·intro h;exact .inl ⟨h1,h⟩
    ·rw[if_neg h1]
     by_cases h2:k.B=a.Section∧k.dN=(if a.Dir=1 then 0 else 1)
     ·rw[if_pos h2,if_pos vk.1.1]
      simp only[Option.some.injEq,exists_eq_left']
      rw[hstep _ _ vk.2.2.1]
      constructor
      ·rintro (⟨h,_⟩|⟨h,_⟩)
       ·exact absurd h h1
       ·exact h
      ·intro h;exact .inr ⟨h,h2⟩
     ·rw[if_neg h2]
      simp only[reduceCtorEq,false_and,exists_false,iff_false]
      rintro (⟨h,_⟩|⟨_,h⟩)
      ·exact h1 h
      ·exact h2 h
   have ht:∀x y h,Lh k x y=some h→h.Point=k.Point:=by
    intro x y h e
    unfold Lh at e
    by_cases h0:0≤x
    ·rw[if_pos h0] at e;cases e;rfl
    ·rw[if_neg h0] at e;cases e
   have hp:∀h,AP a k=some h→h.Point=k.Point:=by
    intro h e
    unfold AP at e
    by_cases h1:k.A=a.Section∧k.dD=(if a.Dir=1 then 0 else 1)
    ·rw[if_pos h1] at e;exact ht _ _ _ e
    ·rw[if_neg h1] at e
     by_cases h2:k.B=a.Section∧k.dN=(if a.Dir=1 then 0 else 1)
     ·rw[if_pos h2] at e;exact ht _ _ _ e
     ·rw[if_neg h2] at e;cases e
   simp only[QO]
   by_cases hjk:Oh (qx a) (qx (Bo b)) k=true
   ·rw[if_pos hjk]
    obtain⟨h,e1,e2⟩:=hj.1 hjk
    rw[List.filterMap_cons,e1]
    simp[List.find?_cons,e2,hp h e1]
   ·rw[if_neg hjk,ih',List.filterMap_cons]
    cases e:AP a k with
    |none=>rfl
    |some h=>
     have hne:¬h.To=b:=fun e2=>hjk (hj.2 ⟨h,e,e2⟩)
     simp[List.find?_cons,hne]
 rw[key l.Links (fun k h=>h)]
 cases (l.Links.filterMap (AP a)).find? (fun h=>decide (h.To=b))<;>rfl
theorem cr4{l:Layout}(v:Val l)(r:aG)(h2:2≤r.Steps.length)(uj:r.Steps.length≤24)(ha:r.Steps.all (jv l)=true):ZY r l ()=some (uK l r).2:=by
 have hl:l.Links.length≤1000:=by have:=v.full;omega
 unfold ZY
 obtain⟨a,rest,hS⟩:∃a rest,r.Steps=a::rest:=by
  cases h:r.Steps with
  |nil=>rw[h] at h2;simp at h2
  |cons a rest=>exact⟨a,rest,rfl⟩
 have:=jF (B:=VD r l) (fun (_:Step) i=>i) r.Steps (fun p i=>1≤i∧r.Steps[i-1]?=some p∧jv l p=true)
  (fun p q=>some (match Bf l p q with|none=>(11:Int)|some _=>0)) ?_ ?_ FUEL a 1 ⟨by omega,by rw[hS];rfl,List.all_eq_true.1 ha a (by rw[hS];exact List.mem_cons_self)⟩ (by omega) (fD (by omega))
 ·rw[this,hS]
  unfold uK Pq
  rw[hS]
  simp only[List.drop_succ_cons,List.drop_zero]
  cases Bf l a rest<;>rfl
 ·rintro c p i x q ⟨h1,hp,hps⟩ hdr hi hx hk
  have hm:x∈r.Steps:=List.mem_of_mem_drop (i:=i) (by rw[hdr];exact List.mem_cons_self)
  have hxs:jv l x=true:=List.all_eq_true.1 ha x hm
  simp only[VD]
  have hp':idx r.Steps ((i:Int)-1)=some p:=by
   rw[show (i:Int)-1=((i-1:Nat):Int) by omega,kF];exact hp
  rw[if_pos (by simp;omega),bH (bO (by omega) (by omega)),hp',Option.bind_some,hx,Option.bind_some,ar2 l p x hl,Option.bind_some]
  have ht:=ar1 v hps hxs
  unfold Z0
  have h2':(tr l p x).2=(Og l p x).2:=by rw[ht]
  rw[←h2']
  simp only[Bf]
  by_cases hb:(tr l p x).2=true
  ·rw[if_neg (by simp[hb]),if_pos hb,bH (bO (by omega) (by omega)),hk x ⟨by omega,by rw[Nat.add_sub_cancel];rw[kF] at hx;exact hx,hxs⟩]
   cases Bf l x q<;>rfl
  ·have hb':(tr l p x).2=false:=by simpa using hb
   rw[if_pos (by simp[hb']),if_neg hb]
 ·rintro c p ⟨_,_,_⟩
  simp only[VD]
  rw[if_neg (by simp)]
  rfl
theorem cr3(r:aG)(i:Nat)(hi:i<r.Steps.length)(uj:r.Steps.length≤24)(c:Nat→Option Int):
  iter (Qd i r c) FUEL 0=if r.Steps[i].Section∈(r.Steps.take i).map (·.Section) then some 5 else c (i+1):=by
 have hlt:(r.Steps.take i).length=i:=by rw[List.length_take];omega
 have:=jF (B:=Qd i r c) (fun (_:Unit) k=>k) (r.Steps.take i) (fun _ _=>True) (fun _ q=>if r.Steps[i].Section∈q.map (·.Section) then some 5 else c (i+1)) ?_ ?_ FUEL () 0 trivial (by omega) (fD (by omega))
 ·simpa using this
 ·intro c3 _ k x q _ hdr hk hx hc
  rw[hlt] at hk
  have hxk:idx r.Steps (k:Int)=some x:=by
   rw[kF] at hx ⊢
   rw[List.getElem?_take,if_pos hk] at hx
   exact hx
  simp only[Qd]
  rw[if_pos (by simp;omega),hxk,Option.bind_some,kF,List.getElem?_eq_getElem hi,Option.bind_some]
  by_cases e:x.Section=r.Steps[i].Section
  ·rw[if_pos (by simpa using e),if_pos (by simp[e])]
  ·rw[if_neg (by simpa using e),bH (bO (by omega) (by omega)),hc () trivial]
   have e':¬r.Steps[i].Section=x.Section:=fun h=>e h.symm
   simp[e']
 ·intro c3 _ _
  simp only[Qd]
  rw[if_neg (by simp;omega)]
  simp only[ae6]
  rw[bH (bO (by omega) (by omega))]
  simp
theorem cr2{l:Layout}(v:Val l)(r:aG)(h2:2≤r.Steps.length)(uj:r.Steps.length≤24)(ha:r.Steps.all (jv l)=true):
  ZX r l ()=some (if qX [] r.Steps=true then (5:Int) else (uK l r).2):=by
 unfold ZX
 have:=jF (B:=VB r l) (fun (_:List Int) k=>k) r.Steps (fun s i=>∀z,z∈s↔z∈(r.Steps.take i).map (·.Section)) (fun s q=>some (if qX s q=true then (5:Int) else (uK l r).2)) ?_ ?_ FUEL [] 0 (by simp) (by omega) (fD (by omega))
 ·simpa using this
 ·intro c s i x q hs hdr hi hx hk
  have hxi:r.Steps[i]=x:=by
   rw[kF,List.getElem?_eq_getElem hi] at hx
   exact Option.some.inj hx
  simp only[VB]
  rw[if_pos (by simp;omega),cr3 r i hi uj,hxi]
  have hdd:qX s (x::q)=(decide (x.Section∈s)||qX (x.Section::s) q):=rfl
  by_cases hm:x.Section∈s
  ·rw[if_pos ((hs _).1 hm),if_pos (show qX s (x::q)=true by rw[hdd];simp[hm])]
  ·rw[if_neg (fun h=>hm ((hs _).2 h)),hk (x.Section::s) (fun z=>by
    rw[List.take_succ_eq_append_getElem hi,hxi,List.map_append,List.mem_append,List.mem_cons,←hs z]
    simp[or_comm]),hdd]
   simp[hm]
 ·intro c s _
  simp only[VB]
  rw[if_neg (by simp),cr4 v r h2 uj ha]
  simp[qX]
theorem abV(l:Layout)(r:aG):MP l r=some (jf l r).2:=by
 unfold MP
 rw[abW,Option.bind_some]
 by_cases hc:jB (dZ l)=0
 ·have v:=abx hc
  have hf:=v.full
  have n1:¬jB (dZ l)≠0:=by simp[hc]
  rw[if_neg (by simp[hc])]
  by_cases uj:24<r.Steps.length∨2<r.Overlap
  ·have e:jf l r=([],7):=by unfold jf;rw[if_neg n1,if_pos uj]
   rw[e,if_pos (by simp;omega)]
  ·rw[if_neg (by simp;omega)]
   by_cases h2:r.Overlap<0∨(r.Steps.length:Int)-r.Overlap<2
   ·have e:jf l r=([],4):=by unfold jf;rw[if_neg n1,if_neg uj,if_pos h2]
    rw[e,bH (by simp[aX];omega),if_pos (by simpa using h2)]
   ·have e:jf l r=if r.Steps.all (jv l)=false then ([],4) else if qX [] r.Steps=true then ([],5) else uK l r:=by unfold jf;rw[if_neg n1,if_neg uj,if_neg h2]
    rw[e,bH (by simp[aX];omega),if_neg (by simpa using h2)]
    have:=jF (B:=VA r l) (fun (_:Unit) i=>i) r.Steps (fun _ i=>(r.Steps.take i).all (jv l)=true)
     (fun _ q=>some (if q.all (jv l)=false then (([]:List Int),(4:Int)) else if qX [] r.Steps=true then ([],5) else uK l r).2) ?_ ?_ FUEL () 0 (by simp) (by omega) (fD (by omega))
    ·simp only[List.drop_zero] at this
     exact this
    ·intro c _ i x q hI hdr hi hx hk
     simp only[VA]
     rw[if_pos (by simp;omega),hx,Option.bind_some,bH (bO (by omega) (by omega))]
     simp only[Fp]
     rw[Option.bind_some,QU,Option.bind_some,QU,Option.bind_some]
     have hb:jv l x=((decide (0≤x.Section)&&decide (x.Section≤(l.Sections.length:Int)-1))&&(decide (0≤x.Dir)&&decide (x.Dir≤1))):=by
      rw[Bool.eq_iff_iff]
      unfold jv
      simp only[Bool.and_eq_true,Bool.or_eq_true,decide_eq_true_eq]
      omega
     cases hy:(decide (0≤x.Section)&&decide (x.Section≤(l.Sections.length:Int)-1)) with
     |false=>
      rw[hy] at hb
      simp[hb]
     |true=>
      rw[hy] at hb
      simp only[Bool.true_and] at hb
      simp only[Bool.not_true,Bool.not_false,cond_true,Bool.false_or]
      rw[←hb]
      by_cases hs:jv l x=true
      ·have ht:r.Steps.take (i+1)=r.Steps.take i++[x]:=by
        rw[List.take_succ_eq_append_getElem hi]
        rw[kF,List.getElem?_eq_getElem hi] at hx
        cases hx;rfl
       rw[if_neg (by simp[hs]),bH (bO (by omega) (by omega)),hk () (by rw[ht,List.all_append,hI];simp[hs])]
       simp[hs]
      ·rw[if_pos (by simpa using hs)]
       simp[hs]
    ·intro c _ hI
     simp only[VA]
     rw[List.take_length] at hI
     rw[if_neg (by simp),cr2 v r (by omega) (by omega) hI]
     by_cases hd:qX [] r.Steps=true<;>simp[hd]
 ·have e:jf l r=([],1):=by unfold jf;rw[if_pos hc]
  rw[e,if_pos (by simp[hc])]
set_option maxRecDepth 100000
theorem as4:∀k:Fin 401,XZ (IntKind.u64.wrap ((1:Nat):Int)) (IntKind.u64.wrap ((k.val:Nat):Int))=some (0,((k.val:Nat):Int)):=by decide+kernel
theorem wrap_small:∀k:Fin 401,IntKind.i64.wrap ((k.val:Nat):Int)=((k.val:Nat):Int):=by decide+kernel
theorem as3{p:Int}{x:Cell}(h0:0≤p)(h:p≤1000000):mk (α:=Cell) x p=some (List.replicate p.toNat x):=by
 unfold mk
 rw[if_pos]
 refine⟨h0,?_⟩
 show p*16≤_
 omega
theorem au6(c:Cell)(k:Nat)(h1:1≤k)(h2:k≤400):WL [c] (k:Int)=some (List.replicate k c):=by
 unfold WL
 rw[if_neg (by simp)]
 unfold aaW
 have hm:=as4 ⟨k,by omega⟩
 simp only at hm
 rw[show (([c]:List Cell).length:Int)=((1:Nat):Int) from rfl,hm,Option.bind_some,if_neg (by simp;omega)]
 unfold aaX
 have hw:=wrap_small ⟨k,by omega⟩
 simp only at hw
 rw[show ((0:Int),(k:Int)).2=(k:Int) from rfl,hw,as3 (by omega) (by omega),Option.bind_some]
 simp only[Int.toNat_natCast,List.length_replicate]
 have hc0:EH (List.replicate k (Cell.mk 0 0)) 0 k [c]=some (List.replicate 1 c++List.replicate (k-1) (Cell.mk 0 0)):=by
  unfold EH EG
  rw[if_pos (by simp)]
  obtain⟨j,rfl⟩:∃j,k=j+1:=⟨k-1,by omega⟩
  simp[List.replicate_succ]
 rw[hc0,Option.bind_some]
 have hmin:Nat.min ([c]:List Cell).length k=1:=by show Nat.min 1 k=1;exact Nat.min_eq_left h1
 rw[hmin]
 have key:WP (iter aaV FUEL (List.replicate 1 c++List.replicate (k-1) (Cell.mk 0 0),((1:Nat):Int))) (fun y=>y=List.replicate k c):=by
  refine BR (fun (q:List Cell×Int)=>∃n:Nat,q.2=n∧1≤n∧n≤k∧q.1=List.replicate n c++List.replicate (k-n) (Cell.mk 0 0)) (fun q=>k-q.2.toNat) _ ?_ FUEL _ ⟨1,rfl,by omega,h1,rfl⟩ (fD (by simp only;omega))
  rintro ct ⟨q,n'⟩ ⟨n,hn,n1,nk,hq⟩ hct
  simp only at hn hq hct
  subst hn hq
  have hlen:(List.replicate n c++List.replicate (k-n) (Cell.mk 0 0)).length=k:=by simp;omega
  simp only[aaV]
  rw[hlen]
  refine gX (fun h=>?_) (fun h=>?_)
  ·simp only[decide_eq_true_eq] at h
   have s1:sub (List.replicate n c++List.replicate (k-n) (Cell.mk 0 0)) (n:Int) (k:Int)=some (List.replicate (k-n) (Cell.mk 0 0)):=by
    unfold sub
    rw[if_pos (by rw[hlen];omega)]
    congr 1
    rw[Int.toNat_natCast,Int.toNat_natCast,List.take_of_length_le (by rw[hlen];omega)]
    rw[List.drop_append_of_le_length (by simp)]
    simp
   have s2:sub (List.replicate n c++List.replicate (k-n) (Cell.mk 0 0)) 0 (n:Int)=some (List.replicate n c):=by
    unfold sub
    rw[if_pos (by rw[hlen];omega)]
    congr 1
    rw[Int.toNat_natCast,List.take_append_of_le_length (by simp)]
    simp
   rw[s1,Option.bind_some,s2,Option.bind_some]
   simp only[List.length_replicate,Int.toNat_natCast]
   have hM:∃m,Nat.min n (k-n)=m∧1≤m∧n+m≤k:=⟨Nat.min n (k-n),rfl,by
    have h1:1≤k-n:=by omega
    exact Nat.le_min.2 ⟨n1,h1⟩,by
    have:=Nat.min_le_right n (k-n)
    have h1:Nat.min n (k-n)≤k-n:=this
    omega⟩
   obtain⟨m,hm,m1,m2⟩:=hM
   have hcp:EH (List.replicate n c++List.replicate (k-n) (Cell.mk 0 0)) n (k-n) (List.replicate n c)=some (List.replicate (n+m) c++List.replicate (k-(n+m)) (Cell.mk 0 0)):=by
    unfold EH EG
    rw[if_pos (by rw[hlen];omega),List.take_replicate,show min (k-n) n=m by rw[Nat.min_comm];exact hm]
    congr 1
    rw[List.take_append_of_le_length (by simp),List.take_of_length_le (by simp),List.length_replicate,List.drop_append,List.length_replicate]
    rw[List.drop_of_length_le (by simp),List.nil_append,show n+m-n=m by omega,List.drop_replicate,List.replicate_append_replicate]
    congr 2
    omega
   rw[hcp,Option.bind_some,hm]
   refine iM (by omega) (hct _ ⟨n+m,by simp,by omega,m2,rfl⟩ (by simp only;omega))
  ·simp only[decide_eq_false_iff_not] at h
   have:n=k:=by omega
   subst this
   exact gD (by simp)
 obtain⟨y,e,rfl⟩:=key
 exact e
def iV(l:Layout)(s:Step):Section:=l.Sections.getD s.Section.toNat default
def cellOf(l:Layout)(s:Step):Cell:=⟨(iV l s).Limit,if s.Dir=1 then-(iV l s).jM else (iV l s).jM⟩
def Dt(l:Layout)(ss:List Step):List Cell:=ss.flatMap fun s=>List.replicate (iV l s).Length.toNat (cellOf l s)
def cellsE(l:Layout)(r:aG)(cs:List Cell):List Cell×Int×Int:=
 if 4000<cs.length then ([],0,7) else (cs,(iV l (r.Steps.getD 0 default)).Length,0)
def yD(l:Layout)(r:aG):List Cell×Int×Int:=
 if (jf l r).2≠0 then ([],0,(jf l r).2) else cellsE l r (Dt l (r.Steps.take ((r.Steps.length:Int)-r.Overlap).toNat))
structure yx(l:Layout)(r:aG):Prop where
 ck:jB (dZ l)=0
 v:Val l
 len:r.Steps.length≤24
 ov:0≤r.Overlap∧r.Overlap≤2
 two:2≤(r.Steps.length:Int)-r.Overlap
 st:∀s∈r.Steps,jv l s=true
 dup:qX [] r.Steps=false
 pts:Pq l r.Steps=some (jf l r).1
theorem CO{l:Layout}{r:aG}(h:(jf l r).2=0):yx l r:=by
 by_cases hc:jB (dZ l)=0
 ·by_cases uj:24<r.Steps.length∨2<r.Overlap
  ·have e:jf l r=([],7):=by unfold jf;rw[if_neg (by simp[hc]),if_pos uj]
   rw[e] at h;cases h
  ·by_cases h2:r.Overlap<0∨(r.Steps.length:Int)-r.Overlap<2
   ·have e:jf l r=([],4):=by unfold jf;rw[if_neg (by simp[hc]),if_neg uj,if_pos h2]
    rw[e] at h;cases h
   ·by_cases ha:r.Steps.all (jv l)=false
    ·have e:jf l r=([],4):=by unfold jf;rw[if_neg (by simp[hc]),if_neg uj,if_neg h2,if_pos ha]
     rw[e] at h;cases h
    ·by_cases hd:qX [] r.Steps=true
     ·have e:jf l r=([],5):=by unfold jf;rw[if_neg (by simp[hc]),if_neg uj,if_neg h2,if_neg ha,if_pos hd]
      rw[e] at h;cases h
     ·have e:jf l r=uK l r:=by unfold jf;rw[if_neg (by simp[hc]),if_neg uj,if_neg h2,if_neg ha,if_neg hd]
      refine⟨hc,abx hc,by omega,by omega,by omega,fun s hm=>List.all_eq_true.1 (by simpa using ha) s hm,by simpa using hd,?_⟩
      rw[e] at h ⊢
      unfold uK at h ⊢
      cases hp:Pq l r.Steps with
      |none=>rw[hp] at h;cases h
      |some q=>rfl
 ·have e:jf l r=([],1):=by unfold jf;rw[if_pos hc]
  rw[e] at h;cases h
theorem M8{l:Layout}(v:Val l){s:Step}(h:jv l s=true):idx l.Sections s.Section=some (iV l s)∧1≤(iV l s).Length∧(iV l s).Length≤400∧ -40≤(iV l s).jM∧(iV l s).jM≤40:=by
 unfold jv at h
 simp only[Bool.and_eq_true,decide_eq_true_eq] at h
 have hlt:s.Section.toNat<l.Sections.length:=by omega
 have hm:iV l s∈l.Sections:=by unfold iV;simp[hlt]
 have:=v.secs _ hm
 exact⟨tJ h.1.1 h.1.2,this.1,this.2.1,this.2.2.2.2.1,this.2.2.2.2.2⟩
theorem auB(l:Layout)(r:aG):Wq l r=some (yD l r):=by
 unfold Wq yD
 rw[ajG,Option.bind_some]
 by_cases h0:(jf l r).2=0
 ·have o:=CO h0
  have v:=o.v
  rw[if_neg (by simp[h0]),if_neg (by simp[h0])]
  have:=o.len;have:=o.ov;have:=o.two
  have hs:sub r.Steps 0 ((r.Steps.length:Int)-r.Overlap)=some (r.Steps.take ((r.Steps.length:Int)-r.Overlap).toNat):=by
   unfold sub
   rw[if_pos (by omega)]
   simp
  rw[bH (bO (by omega) (by omega)),hs,Option.bind_some]
  generalize hT:r.Steps.take ((r.Steps.length:Int)-r.Overlap).toNat=T
  have hTl:T.length≤24:=by rw[←hT,List.length_take];omega
  have hTm:∀s∈T,jv l s=true:=fun s hm=>o.st s (List.mem_of_mem_take (by rw[←hT] at hm;exact hm))
  have:=jF (B:=Wp T l r) (fun (s:List Cell) i=>(s,i)) T (fun s i=>s.length≤400*i) (fun s q=>some (cellsE l r (s++Dt l q))) ?_ ?_ FUEL [] 0 (by simp) (by omega) (fD (by omega))
  ·simpa using this
  ·intro c s i x q hI hdr hi hx hk
   have hm:x∈T:=List.mem_of_mem_drop (i:=i) (by rw[hdr];exact List.mem_cons_self)
   obtain⟨hsx,s1,s2,s3,s4⟩:=M8 v (hTm x hm)
   simp only[Wp]
   rw[if_pos (by simp;omega),hx,Option.bind_some,hsx,Option.bind_some]
   have hrep:∀g:Int,JL (iV l x) s c i g=c (s++List.replicate (iV l x).Length.toNat (Cell.mk (iV l x).Limit g),i+1):=by
    intro g
    unfold JL
    have:=au6 (Cell.mk (iV l x).Limit g) (iV l x).Length.toNat (by omega) (by omega)
    rw[Int.toNat_of_nonneg (by omega)] at this
    rw[this,Option.bind_some,bH (by simp;omega)]
   have hgo:(if decide (x.Dir=1)=true then aO (aX (-(iV l x).jM)) (JL (iV l x) s c i (-(iV l x).jM)) else JL (iV l x) s c i (iV l x).jM)=c (s++List.replicate (iV l x).Length.toNat (cellOf l x),i+1):=by
    unfold cellOf
    by_cases hd:x.Dir=1
    ·rw[if_pos (by simpa using hd),if_pos hd,bH (bO (by omega) (by omega)),hrep]
    ·rw[if_neg (by simpa using hd),if_neg hd,hrep]
   rw[hgo,hk _ (by simp;omega)]
   simp[Dt,List.flatMap_cons]
  ·intro c s hI
   simp only[Wp]
   rw[if_neg (by simp)]
   unfold afm cellsE
   simp only[Dt,List.flatMap_nil,List.append_nil]
   by_cases hb:4000<s.length
   ·rw[if_pos (by simp;omega),if_pos hb]
   ·rw[if_neg (by simp;omega),if_neg hb]
    have h00:0<r.Steps.length:=by omega
    have hi0:idx r.Steps 0=some (r.Steps.getD 0 default):=tJ (by omega) (by omega)
    have hm0:r.Steps.getD 0 default∈r.Steps:=by simp[h00]
    rw[hi0,Option.bind_some,(M8 v (o.st _ hm0)).1,Option.bind_some]
 ·rw[if_pos (by simp[h0]),if_pos h0]
theorem au4(l:Layout)(r:aG):Vz l r=some (yD l r):=by
 unfold Vz yD
 rw[abV,Option.bind_some]
 by_cases h0:(jf l r).2=0
 ·have o:=CO h0
  have v:=o.v
  rw[if_neg (by simp[h0]),if_neg (by simp[h0])]
  have:=o.len;have:=o.ov;have:=o.two
  generalize hT:r.Steps.take ((r.Steps.length:Int)-r.Overlap).toNat=T
  have hTl:(T.length:Int)=(r.Steps.length:Int)-r.Overlap:=by rw[←hT,List.length_take];omega
  have hTm:∀s∈T,jv l s=true:=fun s hm=>o.st s (List.mem_of_mem_take (by rw[←hT] at hm;exact hm))
  have:=jF (B:=Vx r l) (fun (s:List Cell) i=>(s,i)) T (fun s i=>s.length≤400*i) (fun s q=>some (cellsE l r (s++Dt l q))) ?_ ?_ FUEL [] 0 (by simp) (by omega) (fD (by omega))
  ·simpa using this
  ·intro c s i x q hI hdr hi hx hk
   have hm:x∈T:=List.mem_of_mem_drop (i:=i) (by rw[hdr];exact List.mem_cons_self)
   obtain⟨hsx,s1,s2,s3,s4⟩:=M8 v (hTm x hm)
   have hx':idx r.Steps (i:Int)=some x:=by
    rw[kF] at hx ⊢
    rw[←hT,List.getElem?_take,if_pos (by omega)] at hx
    exact hx
   simp only[Vx]
   rw[bH (bO (by omega) (by omega)),if_pos (by simp;omega),hx',Option.bind_some,hsx,Option.bind_some,Option.bind_some]
   have hrep:∀g:Int,JA (iV l x) i c s g=c (s++List.replicate (iV l x).Length.toNat (Cell.mk (iV l x).Limit g),i+1):=by
    intro g
    unfold JA
    have:=jF (B:=Vy (iV l x) g i c) (fun (z:List Cell) k=>(z,k)) (List.replicate (iV l x).Length.toNat (Cell.mk (iV l x).Limit g)) (fun z k=>z.length≤400*i+k) (fun z q=>c (z++q,i+1)) ?_ ?_ FUEL s 0 (by omega) (by omega) (fD (by simp;omega))
    ·simpa using this
    ·intro c2 z k y q hz hdr hk hy hc
     rw[List.length_replicate] at hk
     have hyy:y=Cell.mk (iV l x).Limit g:=by
      have:y∈List.replicate (iV l x).Length.toNat (Cell.mk (iV l x).Limit g):=List.mem_of_mem_drop (i:=k) (by rw[hdr];exact List.mem_cons_self)
      exact List.eq_of_mem_replicate this
     simp only[Vy]
     rw[if_pos (by simp;omega),bH (by simp;omega),bH (bO (by omega) (by omega)),hc _ (by simp;omega),hyy]
     simp
    ·intro c2 z _
     simp only[Vy,List.length_replicate]
     rw[if_neg (by simp;omega)]
     simp only[ae5]
     rw[bH (bO (by omega) (by omega))]
     simp
   have hgo:(if decide (x.Dir=1)=true then aO (aX (-(iV l x).jM)) (JA (iV l x) i c s (-(iV l x).jM)) else JA (iV l x) i c s (iV l x).jM)=c (s++List.replicate (iV l x).Length.toNat (cellOf l x),i+1):=by
    unfold cellOf
    by_cases hd:x.Dir=1
    ·rw[if_pos (by simpa using hd),if_pos hd,bH (bO (by omega) (by omega)),hrep]
    ·rw[if_neg (by simpa using hd),if_neg hd,hrep]
   rw[hgo,hk _ (by simp;omega)]
   simp[Dt,List.flatMap_cons]
  ·intro c s hI
   simp only[Vx]
   rw[bH (bO (by omega) (by omega)),if_neg (by simp;omega)]
   unfold ae4 cellsE
   simp only[Dt,List.flatMap_nil,List.append_nil]
   by_cases hb:4000<s.length
   ·rw[if_pos (by simp;omega),if_pos hb]
   ·rw[if_neg (by simp;omega),if_neg hb]
    have h00:0<r.Steps.length:=by omega
    have hi0:idx r.Steps 0=some (r.Steps.getD 0 default):=tJ (by omega) (by omega)
    have hm0:r.Steps.getD 0 default∈r.Steps:=by simp[h00]
    rw[hi0,Option.bind_some,(M8 v (o.st _ hm0)).1,Option.bind_some]
 ·rw[if_pos (by simp[h0]),if_pos h0]
theorem ahN(c:Int):Xi c=some (ru c):=rfl
theorem arQ(c:Int):Nw c=some (Ap c):=rfl
theorem aiw(s:Str):QW s=some (kW s.ba):=by
 unfold QW kW
 rw[Str.F5]
 by_cases h:1≤s.l.length∧s.l.length≤12
 ·have hg:(!(decide ((s.l.length:Int)<1)||decide (12<(s.l.length:Int))))=true:=by simp;omega
  rw[jP hg]
  have h0:=X7 (s:=s) (i:=0) (by omega)
  rw[show ((0:Nat):Int)=0 from rfl] at h0
  rw[h0]
  simp only[Option.bind_some]
  rw[jP hg,ahN]
  simp only[Option.bind_some]
  by_cases hL:ru (Go.Dc.oJ.bt s.ba 0)=true
  ·rw[if_neg (by simp[hL];omega),bH (by simp;omega)]
   have:=jF (B:=Xe s) (fun (_:Unit) i=>i) (List.range s.l.length) (fun _ _=>True) (fun _ r=>some (r.all fun i=>qW (Go.Dc.oJ.bt s.ba i))) ?_ ?_ FUEL () 0 trivial (by omega) (fD (by simp;omega))
   ·rw[this,List.drop_zero]
    simp[hL,h.1,h.2]
   ·intro c _ i x r _ hdr hi hx hk
    simp only[List.length_range] at hi
    have hxi:x=i:=by
     have:=List.getElem?_drop (xs:=List.range s.l.length) (i:=i) (j:=0)
     rw[hdr] at this
     simp[hi] at this
     omega
    subst hxi
    have hb:=X7 (s:=s) (i:=x) hi
    simp only[Xe]
    rw[if_pos (by simp;omega),hb]
    simp only[Option.bind_some]
    rw[ahN]
    simp only[Option.bind_some]
    by_cases a1:ru (Go.Dc.oJ.bt s.ba x)=true
    ·rw[oU (by simp[a1])]
     simp only[Option.bind_some]
     rw[oU (by simp[a1])]
     simp only[Option.bind_some]
     rw[oU (by simp[a1])]
     simp only[Option.bind_some]
     rw[if_neg (by simp[a1]),hk () trivial]
     simp[qW,a1]
    ·have a1':ru (Go.Dc.oJ.bt s.ba x)=false:=by simpa using a1
     rw[jP (by simp[a1'])]
     simp only[Option.bind_some]
     rw[jP (by simp[a1']),arQ]
     simp only[Option.bind_some]
     by_cases a2:Ap (Go.Dc.oJ.bt s.ba x)=true
     ·rw[oU (by simp[a2])]
      simp only[Option.bind_some]
      rw[if_neg (by simp[a2]),hk () trivial]
      simp[qW,a2]
     ·have KE:Ap (Go.Dc.oJ.bt s.ba x)=false:=by simpa using a2
      rw[jP (by simp[a1',KE])]
      simp only[Option.bind_some]
      by_cases a3:Go.Dc.oJ.bt s.ba x=95
      ·rw[if_neg (by simp[a3]),hk () trivial]
       simp[qW,a3]
      ·rw[if_pos (by simp[a1',KE,a3])]
       simp[qW,a1',KE,a3]
   ·intro c _ _
    simp only[Xe]
    rw[if_neg (by simp)]
    rfl
  ·have hL':ru (Go.Dc.oJ.bt s.ba 0)=false:=by simpa using hL
   rw[if_pos (by simp[hL'])]
   simp[hL']
 ·have hg:(!(decide ((s.l.length:Int)<1)||decide (12<(s.l.length:Int))))=false:=by simp;omega
  rw[oU hg]
  simp only[Option.bind_some]
  rw[oU hg]
  simp only[Option.bind_some]
  rw[if_pos (by simp[Int.not_lt.mp,h]<;>omega)]
  have:(decide (1≤s.l.length)&&decide (s.l.length≤12))=false:=by simp;omega
  simp[this]
theorem aiu{s:ByteArray}{seen:List ByteArray}(h:ng s seen=0):kW s=true∧s∉seen:=by
 unfold ng at h
 split at h
 ·cases h
 ·rename_i h1
  split at h
  ·cases h
  ·rename_i h2;exact⟨by simpa using h1,h2⟩
theorem aei:∀(l seen:List ByteArray),jN seen l=0→(∀s∈l,kW s=true∧s∉seen)∧l.Nodup
 |[],_,_=>⟨by simp,.nil⟩
 |q::l,seen,h=>by
  unfold jN at h
  by_cases h1:ng q seen≠0
  ·rw[if_pos h1] at h;exact absurd h h1
  ·rw[if_neg h1] at h
   obtain⟨a,b⟩:=aei l _ h
   have hq:=aiu (Classical.not_not.1 h1)
   refine⟨fun s hs=>?_,List.nodup_cons.2 ⟨fun hm=>?_,b⟩⟩
   ·rcases List.mem_cons.1 hs with e|e
    ·subst e;exact hq
    ·exact⟨(a s e).1,fun hm=>(a s e).2 (List.mem_append.2 (.inl hm))⟩
   ·exact (a q hm).2 (List.mem_append.2 (.inr (List.mem_singleton.2 rfl)))
theorem akC(n:Nat):∀(l:List mO) (seen:List ByteArray),mh n seen l=0→(∀s∈l,kW s.name=true∧s.name∉seen)∧(l.map (·.name)).Nodup
 |[],_,_=>⟨by simp,.nil⟩
 |q::l,seen,h=>by
  unfold mh at h
  by_cases h1:ng q.name seen≠0
  ·rw[if_pos h1] at h;exact absurd h h1
  ·rw[if_neg h1] at h
   by_cases h4:yh n q=false
   ·rw[if_pos h4] at h;cases h
   ·rw[if_neg h4] at h
    obtain⟨a,b⟩:=akC n l _ h
    have hq:=aiu (Classical.not_not.1 h1)
    refine⟨fun s hs=>?_,List.nodup_cons.2 ⟨fun hm=>?_,b⟩⟩
    ·rcases List.mem_cons.1 hs with e|e
     ·subst e;exact hq
     ·exact⟨(a s e).1,fun hm=>(a s e).2 (List.mem_append.2 (.inl hm))⟩
    ·obtain⟨s,hs,e⟩:=List.mem_map.1 hm
     exact (a s hs).2 (List.mem_append.2 (.inr (List.mem_singleton.2 e)))
theorem amI(c:UInt8)(h:qW (c.toNat:Int)=true):xW c=true:=by
 unfold qW ru Ap at h
 unfold xW I7
 simp only[Bool.or_eq_true,Bool.and_eq_true,decide_eq_true_eq] at h ⊢
 omega
theorem Ur{s:Str}(h:kW s.ba=true):FJ s=true∧s.l.length≤12:=by
 unfold kW at h
 simp only[Bool.and_eq_true,decide_eq_true_eq,List.all_eq_true,List.mem_range,Str.F5] at h
 obtain⟨⟨⟨h1,h2⟩,_⟩,h4⟩:=h
 refine⟨?_,h2⟩
 unfold FJ
 simp only[Bool.and_eq_true,decide_eq_true_eq,List.all_eq_true]
 refine⟨fun e=>by rw[e] at h1;simp at h1,fun c hc=>?_⟩
 obtain⟨i,hi,rfl⟩:=List.getElem_of_mem hc
 have:=h4 i hi
 unfold Go.Dc.oJ.bt at this
 have e:s.ba.data.toList.getD i 0=s.l[i]:=by simp[Str.ba,List.getD,hi]
 rw[e] at this
 exact amI _ this
structure Ie(l:Layout):Prop extends Val l where
 stw:∀s∈l.aT,FJ s=true∧s.l.length≤12
 ptw:∀s∈l.bE,FJ s=true∧s.l.length≤12
 scw:∀s∈l.Sections,FJ s.Name=true∧s.Name.l.length≤12
 std:l.aT.Nodup
 ptd:l.bE.Nodup
 scd:(l.Sections.map (·.Name)).Nodup
 scs:∀s∈l.Sections,-1≤s.nH∧s.nH<l.aT.length
 pos:∀k∈l.Links,k.Pos=0∨k.Pos=1∧k.Point≠ -1
theorem ael{α β:Type}(f:α→β){l:List α}(h:(l.map f).Nodup):l.Nodup:=by
 induction l with
 |nil=>exact .nil
 |cons x l ih=>
  rw[List.map_cons,List.nodup_cons] at h
  exact List.nodup_cons.2 ⟨fun hm=>h.1 (List.mem_map.2 ⟨x,hm,rfl⟩),ih h.2⟩
theorem alq{l:Layout}(h:jB (dZ l)=0):Ie l:=by
 have hv:=abx h
 have hl:=h
 unfold jB at h
 split at h
 ·cases h
 split at h
 ·cases h
 split at h
 ·rename_i h1;exact absurd h h1
 rename_i hst
 split at h
 ·rename_i h1;exact absurd h h1
 rename_i hpt
 split at h
 ·rename_i h1;exact absurd h h1
 rename_i hs
 simp only[Decidable.not_not] at hs hst hpt
 have sK:=aei _ _ hst
 have npt:=aei _ _ hpt
 have nsc:=akC _ _ _ hs
 refine {toVal:=hv,stw:=fun s hm=>?_,ptw:=fun s hm=>?_,scw:=fun s hm=>?_,std:=ael Str.ba sK.2,ptd:=ael Str.ba npt.2,scd:=?_,scs:=fun s hm=>?_,pos:=fun k hm=>?_}
 ·exact Ur (sK.1 s.ba (List.mem_map.2 ⟨s,hm,rfl⟩)).1
 ·exact Ur (npt.1 s.ba (List.mem_map.2 ⟨s,hm,rfl⟩)).1
 ·exact Ur (nsc.1 (pF s) (List.mem_map.2 ⟨s,hm,rfl⟩)).1
 ·have:=nsc.2
  refine ael Str.ba ?_
  have e:(dZ l).sections.map (·.name)=(l.Sections.map (·.Name)).map Str.ba:=by simp[dZ,pF]
  rwa [e] at this
 ·have:=afw _ _ _ hs (pF s) (List.mem_map.2 ⟨s,hm,rfl⟩)
  unfold yh pF at this
  simp only[dZ,List.length_map,Bool.and_eq_true,decide_eq_true_eq] at this
  exact⟨this.1.2,this.2⟩
 ·have:=(aeb _ _ _ h (jG k) (List.mem_map.2 ⟨k,hm,rfl⟩)).1
  unfold oC jG at this
  simp only[Bool.and_eq_true,Bool.or_eq_true,decide_eq_true_eq] at this
  exact this.2
theorem abY:∀(k m:Nat) (s:List UInt8),m<k→0<m→Ga m s=Lib.decDigits m++s
 |0,_,_,h,_=>by omega
 |k+1,m,s,h,h0=>by
  rw[ab0 h0]
  by_cases h1:m<10
  ·have e:m / 10=0:=by omega
   rw[e,Yb,Lib.decDigits_one h1,Nat.mod_eq_of_lt h1]
   rfl
  ·rw[abY k (m / 10) _ (by omega) (by omega)]
   conv=>rhs;rw[Lib.decDigits,dif_neg h1]
   simp
theorem Yc(v:Int)(h1: -9223372036854775808≤v)(h2:v≤9223372036854775807):GQ v=some ⟨Lib.itoa v⟩:=by
 by_cases hs:0≤v∧v<10
 ·have key:∀k:Fin 10,GQ (k.val:Int)=some ⟨[UInt8.ofNat (48+k.val)]⟩:=by decide+kernel
  have:=key ⟨v.toNat,by omega⟩
  simp only at this
  rw[Int.toNat_of_nonneg hs.1] at this
  rw[this]
  have e:v=((v.toNat:Nat):Int):=(Int.toNat_of_nonneg hs.1).symm
  conv=>rhs;rw[e]
  rw[Lib.itoa_nonneg,Lib.decDigits_one (by omega)]
 ·have h0:0<v.natAbs:=by omega
  have hp:v.natAbs*10 ^ ([]:List UInt8).length≤9223372036854775808:=by simp;omega
  have hloop:=ana v (decide (v<0)) FUEL v.natAbs [] (by have:FUEL=18446744073709551616:=rfl;omega) hp (by simp)
  have ev:(if decide (v<0)=true then-(v.natAbs:Int) else (v.natAbs:Int))=v:=by
   by_cases hv:v<0
   ·rw[if_pos (by simpa using hv)];omega
   ·rw[if_neg (by simpa using hv)];omega
  have hlen:=abZ 20 v.natAbs [] (by have:(10:Nat) ^ 20=100000000000000000000:=(by decide);omega)
  simp only[List.length_nil,Nat.zero_add] at hlen
  rw[ev] at hloop
  have hd:=abY (v.natAbs+1) v.natAbs [] (by omega) h0
  rw[List.append_nil] at hd
  rw[hd] at hloop hlen
  unfold GQ
  rw[if_neg (by simp;omega),hloop]
  unfold ZO Vj
  by_cases hv:v<0
  ·have c1:dM ⟨[45]⟩ ⟨Lib.decDigits v.natAbs⟩=some ⟨45::Lib.decDigits v.natAbs⟩:=by
    unfold dM
    rw[if_pos (by simp only[List.length_singleton];omega)]
    rfl
   rw[if_pos (by simpa using hv),c1,Option.bind_some]
   have:Lib.itoa v=45::Lib.decDigits v.natAbs:=by unfold Lib.itoa;rw[if_pos hv]
   rw[this]
  ·rw[if_neg (by simpa using hv)]
   have:Lib.itoa v=Lib.decDigits v.natAbs:=by
    unfold Lib.itoa
    rw[if_neg hv]
    congr 1
    omega
   rw[this]
theorem ab2:∀(k m:Nat),m<k→(Lib.decDigits m).all xW=true∧Lib.decDigits m≠[]
 |0,_,h=>by omega
 |k+1,m,h=>by
  have hd:∀d:Nat,d<10→xW (UInt8.ofNat (48+d))=true:=fun d hd=>by
   have key:∀q:Fin 10,xW (UInt8.ofNat (48+q.val))=true:=by decide
   exact key ⟨d,hd⟩
  by_cases h1:m<10
  ·rw[Lib.decDigits_one h1]
   exact⟨by simp only[List.all_cons,List.all_nil,Bool.and_true];exact hd m h1,by simp⟩
  ·rw[Lib.decDigits,dif_neg h1]
   obtain⟨a,b⟩:=ab2 k (m / 10) (by omega)
   refine⟨?_,by simp⟩
   rw[List.all_append,a]
   simp only[List.all_cons,List.all_nil,Bool.and_true,Bool.true_and]
   exact hd (m % 10) (by omega)
theorem adA(v:Int):FJ ⟨Lib.itoa v⟩=true:=by
 unfold FJ Lib.itoa
 split
 ·obtain⟨a,b⟩:=ab2 (v.natAbs+1) v.natAbs (by omega)
  simp only[Bool.and_eq_true,decide_eq_true_eq,List.all_cons]
  exact⟨by simp,by decide,a⟩
 ·obtain⟨a,b⟩:=ab2 (v.toNat+1) v.toNat (by omega)
  simp only[Bool.and_eq_true,decide_eq_true_eq]
  exact⟨b,a⟩
theorem Tq(v:Int)(h1: -9223372036854775808≤v)(h2:v≤9223372036854775807):(Lib.itoa v).length≤21:=by
 have hd:∀m:Nat,0<m→m≤9223372036854775808→(Lib.decDigits m).length≤20:=fun m hm hb=>by
  have:=abZ 20 m [] (by have:(10:Nat) ^ 20=100000000000000000000:=(by decide);omega)
  rw[abY (m+1) m [] (by omega) hm] at this
  simpa using this
 unfold Lib.itoa
 split
 ·have:=hd v.natAbs (by omega) (by omega)
  simp only[List.length_cons];omega
 ·by_cases h0:v=0
  ·subst h0
   simp[Lib.decDigits_one]
  ·have:=hd v.toNat (by omega) (by omega)
   omega
end Go.Proofs.YtcalibhfgdncaaaGreatDoor
