/- Several parts of the engine, one behind the other. -/
import Derived.Test.YtcalibhfgdncaaaGreatQ1
import Derived.Test.YtcalibhfgdncaaaGreatRd
import Derived.Test.YtcalibhfgdncaaaGreatRb
import Derived.Test.YtcalibhfgdncaaaGreatLm
import Derived.Test.YtcalibhfgdncaaaGreatRo
import Derived.Test.YtcalibhfgdncaaaGreatRe
import Derived.Test.YtcalibhfgdncaaaGreatWa
set_option linter.all false
namespace Go.Proofs.YtcalibhfgdncaaaGreat
open Go.Dc
def kF(l:Layout)(s:Step):Bool:=(decide (0≤s.Section)&&decide (s.Section<(l.Sections.length:Int)))&&(decide (s.Dir=0)||decide (s.Dir=1))
def rG(s:Step):mM:=if s.Dir=0 then ⟨s.Section,1⟩ else ⟨s.Section,0⟩
def Bp(s:Step):Step:=if s.Dir=0 then ⟨s.Section,1⟩ else ⟨s.Section,0⟩
def Lx(f t:mM)(k:Link):Bool:=(decide (mM.mk k.A k.dQ=f)&&decide (mM.mk k.B k.dV=t))||(decide (mM.mk k.A k.dQ=t)&&decide (mM.mk k.B k.dV=f))
def NQ(f t:mM):List Link→Int×Bool
 |[]=>(0,false)
 |k::r=>if Lx f t k then (k.Point,true) else NQ f t r
def tr(l:Layout)(s t:Step):Int×Bool:=NQ (rG s) (rG (Bp t)) l.Links
theorem aeK(s:Step):Nl s=some (rG s):=by
 unfold Nl rG
 by_cases h:s.Dir=0<;>simp[h]
theorem amP(s:Step):Qh s=some (Bp s):=by
 unfold Qh Bp
 by_cases h:s.Dir=0<;>simp[h]
theorem anT(l:Layout)(s t:Step)(hl:l.Links.length≤1000):RN l s t=some (tr l s t):=by
 unfold RN
 rw[aeK,amP]
 simp only[Option.bind_some]
 rw[aeK]
 simp only[Option.bind_some]
 unfold VW tr
 have:=oH (B:=RL l (rG s).tZ (rG s).side (rG (Bp t)).tZ (rG (Bp t)).side) (fun (_:Unit) i=>i) l.Links (fun _ _=>True) (fun _ r=>some (NQ (rG s) (rG (Bp t)) r)) ?_ ?_ FUEL () 0 trivial (by omega) (jo (by omega))
 ·simpa using this
 ·intro c _ i k r _ _ hi hx hc
  simp only[RL]
  rw[if_pos (by simp;omega),hx]
  simp only[Option.bind_some,NQ]
  have hc':=hc () trivial
  show (if Lx (rG s) (rG (Bp t)) k=true then some (k.Point,true) else c (i+1))=_
  by_cases hj:Lx (rG s) (rG (Bp t)) k=true
  ·rw[if_pos hj,if_pos hj]
  ·rw[if_neg hj,if_neg hj,←hc']
 ·intro c _ _
  simp only[RL]
  rw[if_neg (by simp)]
  rfl
def Bg(l:Layout):Step→List Step→Option (List Int)
 |_,[]=>some []
 |a,b::r=>if (tr l a b).2 then (Bg l b r).map ((tr l a b).1:: ·) else none
def ML(l:Layout):List Step→Option (List Int)
 |[]=>some []
 |a::r=>Bg l a r
def sO:List Int→List Step→Bool
 |_,[]=>false
 |seen,s::r=>decide (s.Section∈seen)||sO (s.Section::seen) r
def vo(l:Layout)(r:aO):List Int×Int:=
 match ML l r.Steps with
 |none=>([],11)
 |some q=>(q,0)
def jR(l:Layout)(r:aO):List Int×Int:=
 if kZ (fG l)≠0 then ([],1) else
 if 24<r.Steps.length∨2<r.Overlap then ([],7) else
 if r.Overlap<0∨(r.Steps.length:Int)-r.Overlap<2 then ([],4) else
 if r.Steps.all (kF l)=false then ([],4) else
 if sO [] r.Steps=true then ([],5) else vo l r
theorem XK{l:Layout}(h:kZ (fG l)=0):l.bB.length≤24∧l.bN.length≤48∧l.Sections.length≤96∧l.Links.length≤192∧0<l.Sections.length:=by
 unfold kZ at h
 by_cases hf:wQ (fG l)=true
 ·rw[if_pos hf] at h;omega
 ·rw[if_neg hf] at h
  unfold wQ at hf
  simp only[fG,List.length_map,decide_eq_true_eq] at hf h
  by_cases h0:l.Sections.length=0
  ·rw[if_pos h0] at h;omega
  ·omega
theorem ams(l:Layout)(r:aO)(hl:l.Links.length≤1000)(h2:2≤r.Steps.length)(uP:r.Steps.length≤24):
  VU r l ()=some (vo l r):=by
 unfold VU
 have hs:sub r.Steps 1 (r.Steps.length:Int)=some (r.Steps.drop 1):=by
  unfold sub;rw[if_pos (by omega)]
  simp
 rw[hs]
 simp only[Option.bind_some]
 obtain⟨a,rest,hS⟩:∃a rest,r.Steps=a::rest:=by
  cases h:r.Steps with
  |nil=>rw[h] at h2;simp at h2
  |cons a rest=>exact⟨a,rest,rfl⟩
 have hd:r.Steps.drop 1=rest:=by rw[hS];rfl
 rw[hd]
 have hrl:r.Steps.length=rest.length+1:=by rw[hS];rfl
 have:=oH (B:=RH rest r l) (fun (s:List Int×Step) i=>(s.1,i)) rest (fun s i=>r.Steps[i]?=some s.2∧s.1.length≤i)
  (fun s q=>some (match Bg l s.2 q with|none=>([],11)|some z=>(s.1++z,0))) ?_ ?_ FUEL ([],a) 0 ⟨by rw[hS];rfl,by simp⟩ (by omega) (jo (by omega))
 ·simp only[List.nil_append,List.drop_zero] at this
  rw[this]
  unfold vo
  rw[hS]
  rfl
 ·rintro c ⟨s,p⟩ i x q ⟨hp,hsl⟩ hdr hi hx hc
  simp only at hp hsl
  simp only[RH]
  rw[if_pos (by simp;omega),hx]
  simp only[Option.bind_some]
  rw[nO,hp]
  simp only[Option.bind_some]
  rw[anT l p x hl]
  simp only[Option.bind_some,Bg]
  by_cases ht:(tr l p x).2=true
  ·rw[if_neg (by simp[ht]),dM (by simp;omega),if_pos ht]
   have hn:r.Steps[i+1]?=some x:=by
    rw[hS,List.getElem?_cons_succ]
    have:=hx
    rw[nO] at this
    exact this
   have h:=hc (s++[(tr l p x).1],x) ⟨hn,by simp;omega⟩
   simp only at h
   rw[h]
   cases Bg l x q with
   |none=>rfl
   |some z=>simp
  ·have hf:(tr l p x).2=false:=by simpa using ht
   rw[if_pos (by simp[hf]),if_neg ht]
 ·rintro c ⟨s,p⟩ _
  simp only[RH]
  rw[if_neg (by simp)]
  simp[aaT,Bg]
theorem amr(l:Layout)(r:aO)(hc:kZ (fG l)=0)(h2:2≤r.Steps.length)(uP:r.Steps.length≤24)(ha:r.Steps.all (kF l)=true):
  VT l r ()=some (if sO [] r.Steps=true then (([]:List Int),(5:Int)) else vo l r):=by
 have hf:=XK hc
 unfold VT
 rw[alM (by omega) (by omega)]
 simp only[Option.bind_some]
 have:=oH (B:=RG r l) (fun (s:List Bool×List Int) i=>(s.1,i)) r.Steps (fun s _=>s.1.length=l.Sections.length∧∀x:Int,0≤x→x<l.Sections.length→(gb s.1 x=true↔x∈s.2))
  (fun s q=>some (if sO s.2 q=true then (([]:List Int),(5:Int)) else vo l r)) ?_ ?_ FUEL (List.replicate (l.Sections.length:Int).toNat false,[]) 0 ⟨by simp,fun x x0 x1=>by simp[aiI _ _ x x0 (by omega)]⟩ (by omega) (jo (by omega))
 ·simp only[List.drop_zero] at this
  exact this
 ·rintro c ⟨s,seen⟩ i x q ⟨hl,hs⟩ hdr hi hx hk
  simp only at hl hs
  simp only[RG]
  have hm:x∈r.Steps:=List.mem_of_mem_drop (i:=i) (by rw[hdr];exact List.mem_cons_self)
  have hx1:kF l x=true:=List.all_eq_true.1 ha x hm
  unfold kF at hx1
  simp only[Bool.and_eq_true,Bool.or_eq_true,decide_eq_true_eq] at hx1
  rw[if_pos (by simp;omega),hx]
  simp only[Option.bind_some]
  have hb:idx s x.Section=some (gb s x.Section):=by
   have:x.Section.toNat<s.length:=by omega
   simp[idx,hx1.1.1,gb,this]
  rw[hb]
  simp only[Option.bind_some]
  have hdd:sO seen (x::q)=(decide (x.Section∈seen)||sO (x.Section::seen) q):=rfl
  have hg:=hs x.Section hx1.1.1 hx1.1.2
  by_cases hd:gb s x.Section=true
  ·rw[if_pos hd]
   rw[if_pos (show sO seen (x::q)=true by rw[hdd];simp[hg.1 hd])]
  ·rw[if_neg hd]
   have hn:¬x.Section∈seen:=fun h=>hd (hg.2 h)
   have h:=hk (s.set x.Section.toNat true,x.Section::seen) ⟨by simp[hl],fun z z0 z1=>by
    rw[adL _ _ _ _ hx1.1.1 z0 (by omega)]
    by_cases e:z=x.Section
    ·simp[e]
    ·rw[if_neg e,hs z z0 z1];simp[e]⟩
   simp only at h
   rw[h,hdd]
   simp[hn]
 ·rintro c ⟨s,seen⟩ _
  simp only[RG]
  rw[if_neg (by simp),ams l r (by omega) h2 uP]
  simp[sO]
theorem amq(l:Layout)(r:aO):RJ l r=some (jR l r):=by
 unfold RJ Qg
 simp only[Option.bind_some]
 by_cases hc:kZ (fG l)=0
 ·have hf:=XK hc
  have n1:¬kZ (fG l)≠0:=by simp[hc]
  rw[if_neg (by simp[hc])]
  by_cases uP:24<r.Steps.length
  ·have e:jR l r=([],7):=by unfold jR;rw[if_neg n1,if_pos (.inl uP)]
   rw[e,if_pos (by simp;omega)]
   unfold Nn
   rw[if_pos (by simp;omega)]
  ·rw[if_neg (by simp;omega)]
   unfold Nn
   by_cases ho:2<r.Overlap
   ·have e:jR l r=([],7):=by unfold jR;rw[if_neg n1,if_pos (.inr ho)]
    rw[e,if_pos (by simp;omega)]
   ·rw[if_neg (by simp;omega)]
    unfold RI
    by_cases h0:r.Overlap<0
    ·have e:jR l r=([],4):=by unfold jR;rw[if_neg n1,if_neg (by omega),if_pos (.inl h0)]
     rw[e,if_pos (by simp;omega),if_pos (by simp;omega)]
    ·rw[if_neg (by simp;omega),dM (fq (by omega) (by omega))]
     by_cases h2:(r.Steps.length:Int)-r.Overlap<2
     ·have e:jR l r=([],4):=by unfold jR;rw[if_neg n1,if_neg (by omega),if_pos (.inr h2)]
      rw[e,if_pos (by simp;omega)]
     ·have e:jR l r=if r.Steps.all (kF l)=false then ([],4) else if sO [] r.Steps=true then ([],5) else vo l r:=by unfold jR;rw[if_neg n1,if_neg (by omega),if_neg (by omega)]
      rw[e,if_neg (by simp;omega)]
      have:=oH (B:=RF r l) (fun (_:Unit) i=>i) r.Steps (fun _ i=>(r.Steps.take i).all (kF l)=true)
       (fun _ q=>some (if q.all (kF l)=false then (([]:List Int),(4:Int)) else if sO [] r.Steps=true then ([],5) else vo l r)) ?_ ?_ FUEL () 0 (by simp) (by omega) (jo (by omega))
      ·simp only[List.drop_zero] at this
       exact this
      ·intro c _ i x q hI hdr hi hx hk
       simp only[RF]
       rw[if_pos (by simp;omega),hx]
       simp only[Option.bind_some,VR]
       by_cases hb:kF l x=true
       ·have hb':=hb
        unfold kF at hb'
        rw[if_neg (by simp[hb'])]
        have ht:r.Steps.take (i+1)=r.Steps.take i++[x]:=by
         rw[List.take_succ_eq_append_getElem hi]
         rw[nO,List.getElem?_eq_getElem hi] at hx
         cases hx;rfl
        have h:=hk () (by rw[ht,List.all_append,hI];simp[hb])
        rw[h]
        simp[hb]
       ·have hb':=hb
        unfold kF at hb'
        rw[if_pos (by simp at hb' ⊢;omega)]
        simp[hb]
      ·intro c _ hI
       simp only[RF]
       rw[List.take_length] at hI
       rw[if_neg (by simp),amr l r hc (by omega) (by omega) hI]
       simp
 ·have e:jR l r=([],1):=by unfold jR;rw[if_pos hc]
  rw[e,if_pos (by simp[hc])]
theorem afp(l:Layout)(r:aO):Nk l r=some (jR l r).2:=by
 unfold Nk
 rw[amq]
 rfl
end Go.Proofs.YtcalibhfgdncaaaGreat
namespace Go.Proofs.YtcalibhfgdncaaaGreat
open Go.Dc
theorem Tg{s:Str}{i:Nat}(h:i<s.l.length):Au s (i:Int)=some (Go.iD.bt s.ba i):=by
 simp[Au,Go.iD.bt,Str.ba,h,idx]
theorem aeM(c:Int):M7 c=some (tQ c):=by
 unfold M7 tQ
 rw[Bool.or_comm]
theorem ah9(c:Int):Vh c=some (BM c):=rfl
theorem aai(s:Str):J3 s=some (qd s.ba):=by
 unfold J3 qd
 rw[Str.I6]
 by_cases h:1≤s.l.length∧s.l.length≤12
 ·have hg:(!(decide ((s.l.length:Int)<1)||decide (12<(s.l.length:Int))))=true:=by simp;omega
  rw[sH hg]
  have h0:=Tg (s:=s) (i:=0) (by omega)
  rw[show ((0:Nat):Int)=0 from rfl] at h0
  rw[h0]
  simp only[Option.bind_some]
  rw[sH hg,aeM]
  simp only[Option.bind_some]
  by_cases hL:tQ (Go.iD.bt s.ba 0)=true
  ·rw[if_neg (by simp[hL];omega)]
   have:=oH (B:=Q5 s) (fun (_:Unit) i=>i) (List.range s.l.length) (fun _ _=>True) (fun _ r=>some (r.all fun i=>uq (Go.iD.bt s.ba i))) ?_ ?_ FUEL () 1 trivial (by simp;omega) (jo (by simp;omega))
   ·rw[this]
    have hr:List.range s.l.length=0::(List.range s.l.length).drop 1:=by
     have:=List.drop_eq_getElem_cons (l:=List.range s.l.length) (i:=0) (by simp;omega)
     simpa using this
    congr 1
    conv=>rhs;rw[hr]
    have hc0:uq (Go.iD.bt s.ba 0)=true:=by unfold uq;simp[hL]
    simp[hL,h.1,h.2,hc0]
   ·intro c _ i x r _ hdr hi hx hk
    simp only[List.length_range] at hi
    have hxi:x=i:=by
     have:=List.getElem?_drop (xs:=List.range s.l.length) (i:=i) (j:=0)
     rw[hdr] at this
     simp[hi] at this
     omega
    subst hxi
    have hb:=Tg (s:=s) (i:=x) hi
    simp only[Q5]
    rw[if_pos (by simp;omega),hb]
    simp only[Option.bind_some]
    rw[aeM]
    simp only[Option.bind_some]
    by_cases a1:tQ (Go.iD.bt s.ba x)=true
    ·rw[wK (by simp[a1])]
     simp only[Option.bind_some]
     rw[wK (by simp[a1])]
     simp only[Option.bind_some]
     rw[wK (by simp[a1])]
     simp only[Option.bind_some]
     rw[if_neg (by simp[a1]),dM (fq (by omega) (by omega)),hk () trivial]
     simp[uq,a1]
    ·have a1':tQ (Go.iD.bt s.ba x)=false:=by simpa using a1
     rw[sH (by simp[a1'])]
     simp only[Option.bind_some]
     rw[sH (by simp[a1']),ah9]
     simp only[Option.bind_some]
     by_cases a2:BM (Go.iD.bt s.ba x)=true
     ·rw[wK (by simp[a2])]
      simp only[Option.bind_some]
      rw[if_neg (by simp[a2]),dM (fq (by omega) (by omega)),hk () trivial]
      simp[uq,a2]
     ·have IV:BM (Go.iD.bt s.ba x)=false:=by simpa using a2
      rw[sH (by simp[a1',IV])]
      simp only[Option.bind_some]
      by_cases a3:Go.iD.bt s.ba x=95
      ·rw[if_neg (by simp[a3]),dM (fq (by omega) (by omega)),hk () trivial]
       simp[uq,a3]
      ·rw[if_pos (by simp[a1',IV,a3])]
       simp[uq,a1',IV,a3]
   ·intro c _ _
    simp only[Q5]
    rw[if_neg (by simp)]
    rfl
  ·have hL':tQ (Go.iD.bt s.ba 0)=false:=by simpa using hL
   rw[if_pos (by simp[hL'])]
   simp[hL']
 ·have hg:(!(decide ((s.l.length:Int)<1)||decide (12<(s.l.length:Int))))=false:=by simp;omega
  rw[wK hg]
  simp only[Option.bind_some]
  rw[wK hg]
  simp only[Option.bind_some]
  rw[if_pos (by simp[Int.not_lt.mp,h]<;>omega)]
  have:(decide (1≤s.l.length)&&decide (s.l.length≤12))=false:=by simp;omega
  simp[this]
theorem aeU{s:Str}{l:List Str}:s.ba∈l.map Str.ba↔s∈l:=by
 simp only[List.mem_map]
 constructor
 ·rintro⟨t,h,e⟩;rw[←Str.XE e];exact h
 ·intro h;exact⟨s,h,rfl⟩
theorem aeY(l:List Str)(i:Nat)(hi:i<l.length)(hl:l.length≤1000):H9 l i=some (qg l[i].ba ((l.take i).map Str.ba)):=by
 unfold H9 qg
 rw[nO,List.getElem?_eq_getElem hi]
 simp only[Option.bind_some]
 rw[aai]
 simp only[Option.bind_some]
 by_cases hn:qd l[i].ba=true
 ·rw[if_neg (by simp[hn])]
  rw[if_neg (by simp[hn])]
  have hlt:(l.take i).length=i:=by rw[List.length_take];omega
  have:=oH (B:=Q9 i l) (fun (_:Unit) i=>i) (l.take i) (fun _ _=>True) (fun _ r=>some (if l[i]∈r then (5:Int) else 0)) ?_ ?_ FUEL () 0 trivial (by omega) (jo (by omega))
  ·simp only[List.drop_zero] at this
   rw[this]
   by_cases hm:l[i]∈l.take i
   ·rw[if_pos hm,if_pos (aeU.2 hm)]
   ·rw[if_neg hm,if_neg (fun h=>hm (aeU.1 h))]
  ·intro c _ j x r _ hdr hj hx hk
   simp only[Q9]
   rw[hlt] at hj
   rw[if_pos (by simp;omega)]
   have hxj:idx l (j:Int)=some x:=by
    rw[nO] at hx ⊢
    rw[List.getElem?_take,if_pos hj] at hx
    exact hx
   rw[hxj]
   simp only[Option.bind_some]
   rw[nO,List.getElem?_eq_getElem hi]
   simp only[Option.bind_some]
   by_cases e:x=l[i]
   ·rw[if_pos (by simp[e])]
    simp[e]
   ·rw[if_neg (by simp[e]),dM (fq (by omega) (by omega)),hk () trivial]
    have e':¬l[i]=x:=fun h=>e h.symm
    simp[e']
  ·intro c _ _
   simp only[Q9]
   rw[if_neg (by simp;omega)]
   rfl
 ·have hn':qd l[i].ba=false:=by simpa using hn
  rw[if_pos (by simp[hn']),if_pos hn']
theorem ang(l:Layout)(hl:l.Sections.length≤1000):Rb l=some (l.Sections.map (·.Name)):=by
 unfold Rb
 have:=oH (B:=Ra l) (fun (s:List Str) i=>(s,i)) l.Sections (fun s i=>s.length≤i) (fun s r=>some (s++r.map (·.Name))) ?_ ?_ FUEL [] 0 (by simp) (by omega) (jo (by omega))
 ·simpa using this
 ·intro c s i x r hs hdr hi hx hk
  simp only[Ra]
  rw[if_pos (by simp;omega),hx]
  simp only[Option.bind_some]
  rw[dM (by simp;omega),dM (fq (by omega) (by omega)),hk (s++[x.Name]) (by simp;omega)]
  simp
 ·intro c s _
  simp only[Ra]
  rw[if_neg (by simp)]
  simp[aaF]
end Go.Proofs.YtcalibhfgdncaaaGreat
namespace Go.Proofs.YtcalibhfgdncaaaGreat
open Go.Dc
theorem NS{α:Type}(g:Bool)(d v:α):dW g d (some v)=some (bif g then v else d):=by cases g<;>rfl
def hasB(x:qp)(k:Link):Bool:=(decide (k.A=x.tZ)&&decide (k.dQ=x.end_))||(decide (k.B=x.tZ)&&decide (k.dV=x.end_))
theorem ad4(k:Link)(x:qp):M6 k x=some (hasB x k):=rfl
def xI(k:Link):List Link→Bool
 |[]=>true
 |[y]=>(decide (0≤k.Point)&&decide (y.Point=k.Point))&&decide (y.Pos≠k.Pos)
 |_=>false
set_option maxRecDepth 100000 in
theorem adK(l:Layout)(i:Nat)(hi:i<l.Links.length)(hl:l.Links.length≤1000)(x:qp):M5 l i x=some (xI l.Links[i] ((l.Links.take i).filter (hasB x))):=by
 unfold M5
 rw[nO,List.getElem?_eq_getElem hi]
 simp only[Option.bind_some]
 have hlt:(l.Links.take i).length=i:=by rw[List.length_take];omega
 have:=oH (B:=Q6 i l x l.Links[i]) (fun (s:(Int×Int×Int×Int×Int×Int×Int)×List Link) j=>(s.1.1,s.1.2.1,s.1.2.2.1,s.1.2.2.2.1,s.1.2.2.2.2.1,s.1.2.2.2.2.2.1,s.1.2.2.2.2.2.2,j)) (l.Links.take i)
  (fun s j=>s.1.1=s.2.length∧s.2.length≤j∧∀y,s.2=[y]→s.1.2.2.2.2.2.1=y.Point∧s.1.2.2.2.2.2.2=y.Pos) (fun s r=>some (xI l.Links[i] (s.2++r.filter (hasB x)))) ?_ ?_ FUEL ((0,0,0,0,0,0,0),[]) 0 ⟨rfl,by simp,fun y h=>by simp at h⟩ (by omega) (jo (by omega))
 ·simpa using this
 ·rintro c ⟨⟨m,o0,o1,o2,o3,o4,o5⟩,ys⟩ j q r ⟨hm,hy,ho⟩ hdr hj hq hk
  simp only at hm hy ho
  simp only[Q6]
  rw[hlt] at hj
  rw[if_pos (by simp;omega)]
  have hqj:idx l.Links (j:Int)=some q:=by
   rw[nO] at hq ⊢
   rw[List.getElem?_take,if_pos hj] at hq
   exact hq
  rw[hqj,Option.bind_some,ad4,Option.bind_some]
  by_cases hb:hasB x q=true
  ·rw[if_pos hb,Option.bind_some,dM (fq (by omega) (by omega))]
   simp only[M4]
   rw[dM (fq (by omega) (by omega))]
   have h:=hk ((m+1,q.A,q.dQ,q.B,q.dV,q.Point,q.Pos),ys++[q]) ⟨by simp[hm],by simp;omega,fun y h=>by
    have:ys=[]:=by
     cases ys with
     |nil=>rfl
     |cons a t=>simp at h
    subst this
    simp at h
    subst h
    exact⟨rfl,rfl⟩⟩
   simp only at h
   rw[h,List.filter_cons_of_pos hb]
   simp
  ·rw[if_neg hb]
   simp only[M4]
   rw[dM (fq (by omega) (by omega))]
   have h:=hk ((m,o0,o1,o2,o3,o4,o5),ys) ⟨hm,by simp only;omega,ho⟩
   simp only at h
   rw[h,List.filter_cons_of_neg (by simpa using hb)]
 ·rintro c ⟨⟨m,o0,o1,o2,o3,o4,o5⟩,ys⟩ ⟨hm,hy,ho⟩
  simp only at hm hy ho
  simp only[Q6]
  rw[if_neg (by simp;omega)]
  simp only[aaB,List.filter_nil,List.append_nil]
  cases ys with
  |nil=>simp[hm,xI]
  |cons y t=>
   cases t with
   |nil=>
    have:=ho y rfl
    simp[hm,xI,this.1,this.2]
   |cons z t=>
    have h1:¬m=0:=by rw[hm];simp;omega
    have h2:¬m=1:=by rw[hm];simp;omega
    simp[h1,h2,xI]
def zX(l:Layout)(done:List Link)(k:Link):Int:=
 if qc (fG l) (kJ k)=false then 4 else if k.A=k.B∧k.dQ=k.dV then 1 else
 if done.any (fun q=>hasB ⟨k.A,k.dQ⟩ q&&hasB ⟨k.B,k.dV⟩ q)=true then 5 else
 if (!xI k (done.filter (hasB ⟨k.A,k.dQ⟩))|| !xI k (done.filter (hasB ⟨k.B,k.dV⟩)))=true then 11 else 0
theorem akZ:∀y6 y9 fF y13 qo jE z:Bool,
 (((((((!y6)||(!(bif (!(!y6)) then y9 else default)))||(!(bif (!((!y6)||(!(bif (!(!y6)) then y9 else default)))) then fF else default)))||(!(bif (!(((!y6)||(!(bif (!(!y6)) then y9 else default)))||(!(bif (!((!y6)||(!(bif (!(!y6)) then y9 else default)))) then fF else default)))) then y13 else default)))||(!(bif (!((((!y6)||(!(bif (!(!y6)) then y9 else default)))||(!(bif (!((!y6)||(!(bif (!(!y6)) then y9 else default)))) then fF else default)))||(!(bif (!(((!y6)||(!(bif (!(!y6)) then y9 else default)))||(!(bif (!((!y6)||(!(bif (!(!y6)) then y9 else default)))) then fF else default)))) then y13 else default)))) then qo else default)))||(!(bif (!(((((!y6)||(!(bif (!(!y6)) then y9 else default)))||(!(bif (!((!y6)||(!(bif (!(!y6)) then y9 else default)))) then fF else default)))||(!(bif (!(((!y6)||(!(bif (!(!y6)) then y9 else default)))||(!(bif (!((!y6)||(!(bif (!(!y6)) then y9 else default)))) then fF else default)))) then y13 else default)))||(!(bif (!((((!y6)||(!(bif (!(!y6)) then y9 else default)))||(!(bif (!((!y6)||(!(bif (!(!y6)) then y9 else default)))) then fF else default)))||(!(bif (!(((!y6)||(!(bif (!(!y6)) then y9 else default)))||(!(bif (!((!y6)||(!(bif (!(!y6)) then y9 else default)))) then fF else default)))) then y13 else default)))) then qo else default)))) then jE else default)))||z)= !(y6&&y9&&fF&&y13&&qo&&jE&& !z):=by decide
theorem alA(l:Layout)(i:Nat)(hi:i<l.Links.length)(hl:l.Links.length≤1000)(hs:l.Sections.length≤1000)(hp:l.bN.length≤1000):Q8 l i=some (zX l (l.Links.take i) l.Links[i]):=by
 have hlt:(l.Links.take i).length=i:=by rw[List.length_take];omega
 unfold Q8
 rw[nO,List.getElem?_eq_getElem hi]
 generalize hK:l.Links[i]=k
 simp only[Option.bind_some]
 have hi1:bA ((l.Sections.length:Int)-1)=true:=fq (by omega) (by omega)
 have hi2:bA ((l.bN.length:Int)-1)=true:=fq (by omega) (by omega)
 simp only[hi1,hi2,Bool.or_true,dM rfl,Aa,Option.bind_some,NS]
 rw[akZ]
 have hB:((decide (0≤k.A)&&decide (k.A≤(l.Sections.length:Int)-1))&&(decide (0≤k.B)&&decide (k.B≤(l.Sections.length:Int)-1))&&(decide (0≤k.dQ)&&decide (k.dQ≤1))&&(decide (0≤k.dV)&&decide (k.dV≤1))&&(decide (-1≤k.Point)&&decide (k.Point≤(l.bN.length:Int)-1))&&(decide (0≤k.Pos)&&decide (k.Pos≤1))&& !(decide (k.Point<0)&&decide (k.Pos≠0)))=qc (fG l) (kJ k):=by
  rw[Bool.eq_iff_iff]
  unfold qc kJ fG
  simp only[List.length_map,Bool.and_eq_true,Bool.or_eq_true,Bool.not_eq_true',decide_eq_true_eq,Bool.and_eq_false_iff,decide_eq_false_iff_not]
  omega
 rw[hB]
 unfold zX
 by_cases h4:qc (fG l) (kJ k)=false
 ·rw[if_pos (by simp[h4]),if_pos h4]
 ·have h4':qc (fG l) (kJ k)=true:=by simpa using h4
  rw[if_neg (by simp[h4']),if_neg h4]
  unfold Vi
  by_cases h1:k.A=k.B∧k.dQ=k.dV
  ·rw[if_pos (by simp[h1.1,h1.2]),if_pos h1]
  ·rw[if_neg (by simpa using h1),if_neg h1]
   have:=oH (B:=Q7 i l k) (fun (_:Unit) j=>j) (l.Links.take i) (fun _ _=>True)
    (fun _ r=>some (if r.any (fun q=>hasB ⟨k.A,k.dQ⟩ q&&hasB ⟨k.B,k.dV⟩ q)=true then (5:Int) else if (!xI k ((l.Links.take i).filter (hasB ⟨k.A,k.dQ⟩))|| !xI k ((l.Links.take i).filter (hasB ⟨k.B,k.dV⟩)))=true then 11 else 0)) ?_ ?_ FUEL () 0 trivial (by omega) (jo (by omega))
   ·simp only[List.drop_zero] at this
    exact this
   ·intro c _ j q r _ hdr hj hq hk
    simp only[Q7]
    rw[hlt] at hj
    rw[if_pos (by simp;omega)]
    have hqj:idx l.Links (j:Int)=some q:=by
     rw[nO] at hq ⊢
     rw[List.getElem?_take,if_pos hj] at hq
     exact hq
    rw[hqj]
    simp only[Option.bind_some,ad4,NS]
    by_cases h5:(hasB ⟨k.A,k.dQ⟩ q&&hasB ⟨k.B,k.dV⟩ q)=true
    ·simp only[Bool.and_eq_true] at h5
     rw[if_pos (by simp[h5.1,h5.2]),if_pos (by simp[h5.1,h5.2])]
    ·have h5':(hasB ⟨k.A,k.dQ⟩ q&&hasB ⟨k.B,k.dV⟩ q)=false:=by simpa using h5
     rw[if_neg (by
      cases e:hasB ⟨k.A,k.dQ⟩ q with
      |false=>simp
      |true=>rw[e] at h5';simp at h5' ⊢;exact h5'),dM (fq (by omega) (by omega)),hk () trivial]
     simp only[List.any_cons,h5',Bool.false_or]
   ·intro c _ _
    simp only[Q7]
    rw[if_neg (by simp;omega)]
    simp only[aaD]
    have f1:=adK l i hi hl ⟨k.A,k.dQ⟩
    have f2:=adK l i hi hl ⟨k.B,k.dV⟩
    rw[hK] at f1 f2
    rw[f1]
    simp only[Option.bind_some]
    rw[f2,NS]
    simp only[Option.bind_some,List.any_nil,Bool.false_eq_true,if_false]
    generalize xI k ((l.Links.take i).filter (hasB ⟨k.A,k.dQ⟩))=p
    generalize xI k ((l.Links.take i).filter (hasB ⟨k.B,k.dV⟩))=q
    cases p<;>cases q<;>rfl
theorem alz(l:Layout)(done:List Link)(k:Link)(r:List fU)(hd:∀q∈done,qc (fG l) (kJ q)=true):
  qD (fG l) (done.map kJ) (kJ k::r)=if zX l done k≠0 then zX l done k else qD (fG l) ((done++[k]).map kJ) r:=by
 have L:qD (fG l) (done.map kJ) (kJ k::r)=(if qc (fG l) (kJ k)=false then 4 else if k.A=k.B∧k.dQ=k.dV then 1 else
   if (atEnd (done.map kJ) (2*k.A+k.dQ)).any (Jr k.A k.dQ k.B k.dV)=true then 5 else
   if yJ (kJ k) (atEnd (done.map kJ) (2*k.A+k.dQ))=false∨yJ (kJ k) (atEnd (done.map kJ) (2*k.B+k.dV))=false then 11 else qD (fG l) (done.map kJ++[kJ k]) r):=rfl
 rw[L]
 by_cases h4:qc (fG l) (kJ k)=false
 ·have e:zX l done k=4:=by unfold zX;rw[if_pos h4]
  rw[if_pos h4,e];rfl
 ·have h4':qc (fG l) (kJ k)=true:=by simpa using h4
  rw[if_neg h4]
  have hkk:0≤k.A∧0≤k.B∧(k.dQ=0∨k.dQ=1)∧(k.dV=0∨k.dV=1)∧ -1≤k.Point:=by
   unfold qc kJ at h4'
   simp only[Bool.and_eq_true,Bool.or_eq_true,decide_eq_true_eq] at h4'
   omega
  by_cases h1:k.A=k.B∧k.dQ=k.dV
  ·have e:zX l done k=1:=by unfold zX;rw[if_neg h4,if_pos h1]
   rw[if_pos h1,e];rfl
  ·rw[if_neg h1]
   have hq:∀q∈done,0≤q.A∧0≤q.B∧(q.dQ=0∨q.dQ=1)∧(q.dV=0∨q.dV=1):=by
    intro q hm
    have:=hd q hm
    unfold qc kJ at this
    simp only[Bool.and_eq_true,Bool.or_eq_true,decide_eq_true_eq] at this
    omega
   have X4:∀(a e:Int),0≤a→(e=0∨e=1)→atEnd (done.map kJ) (2*a+e)=(done.filter (hasB ⟨a,e⟩)).map kJ:=by
    intro a e ha he
    unfold atEnd
    rw[List.filter_map]
    congr 1
    refine List.filter_congr fun q hm=>?_
    have:=hq q hm
    rw[Bool.eq_iff_iff]
    show (decide (2*q.A+q.dQ=2*a+e)||decide (2*q.B+q.dV=2*a+e))=true↔((decide (q.A=a)&&decide (q.dQ=e))||(decide (q.B=a)&&decide (q.dV=e)))=true
    simp only[Bool.or_eq_true,Bool.and_eq_true,decide_eq_true_eq]
    omega
   have fit:∀ys:List Link,yJ (kJ k) (ys.map kJ)=xI k ys:=by
    intro ys
    cases ys with
    |nil=>rfl
    |cons y t=>
     cases t with
     |nil=>
      rw[Bool.eq_iff_iff]
      show ((decide (k.Point≠ -1)&&decide (k.Point=y.Point))&&decide (k.Pos≠y.Pos))=true↔((decide (0≤k.Point)&&decide (y.Point=k.Point))&&decide (y.Pos≠k.Pos))=true
      simp only[Bool.and_eq_true,decide_eq_true_eq]
      omega
     |cons z t=>rfl
   have e5:((atEnd (done.map kJ) (2*k.A+k.dQ)).any (Jr k.A k.dQ k.B k.dV)=true)↔(done.any (fun q=>hasB ⟨k.A,k.dQ⟩ q&&hasB ⟨k.B,k.dV⟩ q)=true):=by
    rw[X4 k.A k.dQ hkk.1 hkk.2.2.1,List.any_map,List.any_filter]
    simp only[List.any_eq_true]
    constructor
    ·rintro⟨q,hm,hj⟩
     refine⟨q,hm,?_⟩
     have hj':(((decide (q.A=k.A)&&decide (q.dQ=k.dQ))||(decide (q.B=k.A)&&decide (q.dV=k.dQ)))&&((decide (k.A=q.A∧k.dQ=q.dQ)&&decide (k.B=q.B∧k.dV=q.dV))||(decide (k.A=q.B∧k.dQ=q.dV)&&decide (k.B=q.A∧k.dV=q.dQ))))=true:=hj
     show (((decide (q.A=k.A)&&decide (q.dQ=k.dQ))||(decide (q.B=k.A)&&decide (q.dV=k.dQ)))&&((decide (q.A=k.B)&&decide (q.dQ=k.dV))||(decide (q.B=k.B)&&decide (q.dV=k.dV))))=true
     simp only[Bool.or_eq_true,Bool.and_eq_true,decide_eq_true_eq] at hj' ⊢
     omega
    ·rintro⟨q,hm,hj⟩
     refine⟨q,hm,?_⟩
     have hj':(((decide (q.A=k.A)&&decide (q.dQ=k.dQ))||(decide (q.B=k.A)&&decide (q.dV=k.dQ)))&&((decide (q.A=k.B)&&decide (q.dQ=k.dV))||(decide (q.B=k.B)&&decide (q.dV=k.dV))))=true:=hj
     show (((decide (q.A=k.A)&&decide (q.dQ=k.dQ))||(decide (q.B=k.A)&&decide (q.dV=k.dQ)))&&((decide (k.A=q.A∧k.dQ=q.dQ)&&decide (k.B=q.B∧k.dV=q.dV))||(decide (k.A=q.B∧k.dQ=q.dV)&&decide (k.B=q.A∧k.dV=q.dQ))))=true
     simp only[Bool.or_eq_true,Bool.and_eq_true,decide_eq_true_eq] at hj' ⊢
     omega
   by_cases h5:done.any (fun q=>hasB ⟨k.A,k.dQ⟩ q&&hasB ⟨k.B,k.dV⟩ q)=true
   ·have e:zX l done k=5:=by unfold zX;rw[if_neg h4,if_neg h1,if_pos h5]
    rw[if_pos (e5.2 h5),e];rfl
   ·have e:zX l done k=if (!xI k (done.filter (hasB ⟨k.A,k.dQ⟩))|| !xI k (done.filter (hasB ⟨k.B,k.dV⟩)))=true then 11 else 0:=by unfold zX;rw[if_neg h4,if_neg h1,if_neg h5]
    rw[if_neg (fun h=>h5 (e5.1 h)),e]
    rw[X4 _ _ hkk.1 hkk.2.2.1,X4 _ _ hkk.2.1 hkk.2.2.2.1,fit,fit]
    generalize xI k (done.filter (hasB ⟨k.A,k.dQ⟩))=p
    generalize xI k (done.filter (hasB ⟨k.B,k.dV⟩))=q
    rw[List.map_append]
    cases p<;>cases q<;>rfl
theorem alD(l:Layout)(hl:l.Links.length≤1000)(hs:l.Sections.length≤1000)(hp:l.bN.length≤1000):Vg l ()=some (qD (fG l) [] (l.Links.map kJ)):=by
 unfold Vg
 have:=oH (B:=QX l) (fun (_:List Link) j=>j) l.Links (fun s i=>s=l.Links.take i∧∀q∈s,qc (fG l) (kJ q)=true) (fun s r=>some (qD (fG l) (s.map kJ) (r.map kJ))) ?_ ?_ FUEL [] 0 ⟨rfl,fun q h=>by simp at h⟩ (by omega) (jo (by omega))
 ·simpa using this
 ·rintro c s i k r ⟨hs',hq⟩ hdr hi hx hk
  simp only[QX]
  have hki:l.Links[i]=k:=by
   rw[nO,List.getElem?_eq_getElem hi] at hx
   exact Option.some.inj hx
  rw[if_pos (by simp;omega),alA l i hi hl hs hp,hki,←hs']
  simp only[Option.bind_some,List.map_cons]
  rw[alz l s k _ hq]
  by_cases h0:zX l s k=0
  ·rw[if_neg (by simp[h0]),if_neg (by simp[h0]),dM (fq (by omega) (by omega))]
   have hb:qc (fG l) (kJ k)=true:=by
    unfold zX at h0
    by_cases h4:qc (fG l) (kJ k)=false
    ·rw[if_pos h4] at h0;cases h0
    ·simpa using h4
   exact hk (s++[k]) ⟨by rw[hs',List.take_succ_eq_append_getElem hi,hki],fun q hm=>by
    rcases List.mem_append.1 hm with h|h
    ·exact hq q h
    ·simp at h;rw[h];exact hb⟩
  ·rw[if_pos (by simp[h0]),if_pos h0]
 ·rintro c s ⟨hs',_⟩
  simp only[QX]
  rw[if_neg (by simp)]
  rfl
theorem aeW{B:(Nat→Option Int)→Nat→Option Int}(l:List Str)(K:Option Int)(hl:l.length≤1000)
  (hB:∀c i,B c i=if decide ((i:Int)<(l.length:Int)) then ((H9 l (i:Int)).bind fun y=>if decide (y≠0) then (some y) else (aX (bA ((i:Int)+1))<|c (i+1))) else K):
  iter B FUEL 0=if lu [] (l.map Str.ba)≠0 then some (lu [] (l.map Str.ba)) else K:=by
 have:=oH (B:=B) (fun (_:List Str) j=>j) l (fun s i=>s=l.take i) (fun s r=>if lu (s.map Str.ba) (r.map Str.ba)≠0 then some (lu (s.map Str.ba) (r.map Str.ba)) else K) ?_ ?_ FUEL [] 0 rfl (by omega) (jo (by omega))
 ·simpa using this
 ·intro c s i x r hs hdr hi hx hk
  have hxi:l[i]=x:=by
   rw[nO,List.getElem?_eq_getElem hi] at hx
   exact Option.some.inj hx
  rw[hB,if_pos (by simp;omega),aeY l i hi hl,hxi,←hs]
  simp only[Option.bind_some,List.map_cons,lu]
  by_cases h0:qg x.ba (s.map Str.ba)=0
  ·rw[if_neg (by simp[h0]),dM (fq (by omega) (by omega)),hk (s++[x]) (by rw[hs,List.take_succ_eq_append_getElem hi,hxi])]
   simp[h0]
  ·rw[if_pos (by simp[h0])]
   simp[h0]
 ·intro c s _
  rw[hB,if_neg (by simp)]
  simp[lu]
theorem anj(l:Layout)(hl:l.Links.length≤1000)(hs:l.Sections.length≤1000)(hp:l.bN.length≤1000)(ht:l.bB.length≤1000):
  QY l ()=if nJ l.bB.length [] (l.Sections.map rR)≠0 then some (nJ l.bB.length [] (l.Sections.map rR)) else some (qD (fG l) [] (l.Links.map kJ)):=by
 unfold QY
 rw[ang l hs]
 simp only[Option.bind_some]
 have:=oH (B:=QW l (l.Sections.map (·.Name))) (fun (_:List Section) j=>j) l.Sections (fun s i=>s=l.Sections.take i)
  (fun s r=>if nJ l.bB.length (s.map (·.Name.ba)) (r.map rR)≠0 then some (nJ l.bB.length (s.map (·.Name.ba)) (r.map rR)) else some (qD (fG l) [] (l.Links.map kJ))) ?_ ?_ FUEL [] 0 rfl (by omega) (jo (by omega))
 ·simpa using this
 ·intro c s i x r hs' hdr hi hx hk
  have hxi:l.Sections[i]=x:=by
   rw[nO,List.getElem?_eq_getElem hi] at hx
   exact Option.some.inj hx
  simp only[QW]
  have hn:=aeY (l.Sections.map (·.Name)) i (by simpa using hi) (by simpa using hs)
  have hnm:((l.Sections.map (·.Name)).take i).map Str.ba=s.map (·.Name.ba):=by rw[←List.map_take,←hs',List.map_map];rfl
  rw[hnm] at hn
  simp only[List.getElem_map,hxi] at hn
  rw[if_pos (by simp;omega),hn]
  simp only[Option.bind_some,List.map_cons,nJ]
  have hsn:(rR x).name=x.Name.ba:=rfl
  rw[hsn]
  by_cases h0:qg x.Name.ba (s.map (·.Name.ba))=0
  ·rw[if_neg (by simp[h0]),hx]
   have hi2:bA ((l.bB.length:Int)-1)=true:=fq (by omega) (by omega)
   simp only[hi2,Bool.or_true,dM rfl,Aa,Option.bind_some,NS]
   have hB:((((!(decide (1≤x.Length)&&decide (x.Length≤400)))||(!(bif (!(!(decide (1≤x.Length)&&decide (x.Length≤400)))) then (decide (1000≤x.Limit)&&decide (x.Limit≤100000)) else default)))||(!(bif (!((!(decide (1≤x.Length)&&decide (x.Length≤400)))||(!(bif (!(!(decide (1≤x.Length)&&decide (x.Length≤400)))) then (decide (1000≤x.Limit)&&decide (x.Limit≤100000)) else default)))) then (decide ((-40)≤x.kr)&&decide (x.kr≤40)) else default)))||(!(bif (!(((!(decide (1≤x.Length)&&decide (x.Length≤400)))||(!(bif (!(!(decide (1≤x.Length)&&decide (x.Length≤400)))) then (decide (1000≤x.Limit)&&decide (x.Limit≤100000)) else default)))||(!(bif (!((!(decide (1≤x.Length)&&decide (x.Length≤400)))||(!(bif (!(!(decide (1≤x.Length)&&decide (x.Length≤400)))) then (decide (1000≤x.Limit)&&decide (x.Limit≤100000)) else default)))) then (decide ((-40)≤x.kr)&&decide (x.kr≤40)) else default)))) then (decide ((-1)≤x.nN)&&decide (x.nN≤(l.bB.length:Int)-1)) else default)))= !zh l.bB.length (rR x):=by
    have ch:∀a b d e:Bool,((((!a)||(!(bif (!(!a)) then b else default)))||(!(bif (!((!a)||(!(bif (!(!a)) then b else default)))) then d else default)))||(!(bif (!(((!a)||(!(bif (!(!a)) then b else default)))||(!(bif (!((!a)||(!(bif (!(!a)) then b else default)))) then d else default)))) then e else default)))= !(a&&b&&d&&e):=by decide
    rw[ch]
    congr 1
    rw[Bool.eq_iff_iff]
    unfold zh rR
    simp only[Bool.and_eq_true,decide_eq_true_eq]
    omega
   rw[hB]
   by_cases h4:zh l.bB.length (rR x)=false
   ·rw[if_pos (by simp[h4])]
    simp[h0,h4]
   ·have h4':zh l.bB.length (rR x)=true:=by simpa using h4
    rw[if_neg (by simp[h4']),dM (fq (by omega) (by omega)),hk (s++[x]) (by rw[hs',List.take_succ_eq_append_getElem hi,hxi])]
    simp[h0,h4']
  ·rw[if_pos (by simp[h0])]
   simp[h0]
 ·intro c s _
  simp only[QW]
  rw[if_neg (by simp),alD l hl hs hp]
  simp[nJ]
theorem abW(l:Layout):MX l=some (kZ (fG l)):=by
 unfold MX kZ
 by_cases hf:wQ (fG l)=true
 ·rw[if_pos hf]
  unfold wQ fG at hf
  simp only[List.length_map,decide_eq_true_eq] at hf
  rw[if_pos (by simp;omega)]
 ·rw[if_neg hf]
  unfold wQ fG at hf
  simp only[List.length_map,decide_eq_true_eq] at hf
  rw[if_neg (by simp;omega)]
  have h0':(fG l).sections.length=l.Sections.length:=by simp[fG]
  by_cases h0:l.Sections.length=0
  ·rw[if_pos (by simp[h0]),if_pos (by rw[h0'];exact h0)]
  ·have h0i:¬((l.Sections.length:Int)=0):=by omega
   rw[if_neg (by rw[decide_eq_true_eq];exact h0i),if_neg (by rw[h0'];exact h0)]
   rw[aeW (B:=aax l) l.bB (Vf l ()) (by omega) (fun c i=>rfl)]
   have e1:(fG l).ow=l.bB.map Str.ba:=rfl
   have e2:(fG l).points=l.bN.map Str.ba:=rfl
   have e3:(fG l).sections=l.Sections.map rR:=rfl
   have e4:(fG l).links=l.Links.map kJ:=rfl
   rw[e1,e2,e3,e4,List.length_map]
   by_cases hn:lu [] (l.bB.map Str.ba)=0
   ·rw[if_neg (by simp[hn]),if_neg (by simp[hn])]
    unfold Vf
    rw[aeW (B:=aay l) l.bN (QY l ()) (by omega) (fun c i=>rfl)]
    by_cases hn2:lu [] (l.bN.map Str.ba)=0
    ·rw[if_neg (by simp[hn2]),if_neg (by simp[hn2]),anj l (by omega) (by omega) (by omega) (by omega)]
     by_cases Ug:nJ l.bB.length [] (l.Sections.map rR)=0
     ·rw[if_neg (by simp[Ug]),if_neg (by simp[Ug])]
     ·rw[if_pos Ug,if_pos Ug]
    ·rw[if_pos hn2,if_pos hn2]
   ·rw[if_pos hn,if_pos hn]
end Go.Proofs.YtcalibhfgdncaaaGreat
namespace Go.Proofs.YtcalibhfgdncaaaGreat
open Go.Dc
theorem aeQ(L:Lay):∀(ks done:List fU),qD L done ks=0→∀k∈ks,qc L k=true∧¬(k.a=k.b∧k.lW=k.mY)
 |[],_,_,k,hm=>by simp at hm
 |q::ks,done,h,k,hm=>by
  unfold qD at h
  by_cases h4:qc L q=false
  ·rw[if_pos h4] at h;cases h
  ·rw[if_neg h4] at h
   by_cases h1:q.a=q.b∧q.lW=q.mY
   ·rw[if_pos h1] at h;cases h
   ·rw[if_neg h1] at h
    split at h
    ·cases h
    ·split at h
     ·cases h
     ·rcases List.mem_cons.1 hm with e|e
      ·subst e;exact⟨by simpa using h4,h1⟩
      ·exact aeQ L ks _ h k e
theorem aa1(n:Nat):∀(ss:List nM) (seen:List ByteArray),nJ n seen ss=0→∀s∈ss,zh n s=true
 |[],_,_,s,hm=>by simp at hm
 |q::ss,seen,h,s,hm=>by
  unfold nJ at h
  by_cases h1:qg q.name seen≠0
  ·rw[if_pos h1] at h;exact absurd h h1
  ·rw[if_neg h1] at h
   by_cases h4:zh n q=false
   ·rw[if_pos h4] at h;cases h
   ·rw[if_neg h4] at h
    rcases List.mem_cons.1 hm with e|e
    ·subst e;simpa using h4
    ·exact aa1 n ss _ h s e
structure Val(l:Layout):Prop where
 full:l.bB.length≤24∧l.bN.length≤48∧l.Sections.length≤96∧l.Links.length≤192∧0<l.Sections.length
 secs:∀s∈l.Sections,1≤s.Length∧s.Length≤400∧1000≤s.Limit∧s.Limit≤100000∧ -40≤s.kr∧s.kr≤40
 links:∀k∈l.Links,(0≤k.A∧k.A<l.Sections.length)∧(0≤k.B∧k.B<l.Sections.length)∧(k.dQ=0∨k.dQ=1)∧(k.dV=0∨k.dV=1)∧(-1≤k.Point∧k.Point<l.bN.length)∧¬(k.A=k.B∧k.dQ=k.dV)
theorem abk{l:Layout}(h:kZ (fG l)=0):Val l:=by
 have hf:=XK h
 unfold kZ at h
 split at h
 ·cases h
 split at h
 ·cases h
 split at h
 ·rename_i h1;exact absurd h h1
 split at h
 ·rename_i h1;exact absurd h h1
 split at h
 ·rename_i h1;exact absurd h h1
 rename_i hs
 simp only[Decidable.not_not] at hs
 refine⟨hf,fun s hm=>?_,fun k hm=>?_⟩
 ·have:=aa1 _ _ _ hs (rR s) (List.mem_map.2 ⟨s,hm,rfl⟩)
  unfold zh rR at this
  simp only[Bool.and_eq_true,decide_eq_true_eq] at this
  omega
 ·have:=aeQ _ _ _ h (kJ k) (List.mem_map.2 ⟨k,hm,rfl⟩)
  have h1:=this.1
  have h2:¬(k.A=k.B∧k.dQ=k.dV):=this.2
  unfold qc kJ fG at h1
  simp only[List.length_map,Bool.and_eq_true,Bool.or_eq_true,decide_eq_true_eq] at h1
  exact⟨by omega,by omega,by omega,by omega,by omega,h2⟩
def Ji(k:Link)(x y:Int):Option Hop:=if 0≤x then some ⟨⟨x,if y=1 then 1 else 0⟩,k.Point,k.Pos⟩ else none
def AL(s:Step)(k:Link):Option Hop:=
 if k.A=s.Section∧k.dQ=(if s.Dir=1 then 0 else 1) then Ji k k.B k.dV
 else if k.B=s.Section∧k.dV=(if s.Dir=1 then 0 else 1) then Ji k k.A k.dQ else none
def Jj(l:Layout)(s:Step):List Hop:=l.Links.filterMap (AL s)
theorem Y7(lh:List Hop)(k:Link)(i:Nat)(c:(List Hop×Nat)→Option (List Hop))(x y:Int)(hl:lh.length≤1000)(hi:i≤1000):
  EX lh k i c (x,y)=c (lh++(Ji k x y).toList,i+1):=by
 simp only[EX,Ji]
 by_cases h0:0≤x
 ·rw[if_pos (by simpa using h0),if_pos h0]
  by_cases h1:y=1
  ·rw[if_pos (by simpa using h1),if_pos h1]
   simp only[M0,J2]
   rw[dM (by simp;omega),dM (fq (by omega) (by omega))]
   rfl
  ·rw[if_neg (by simpa using h1),if_neg h1]
   simp only[M0,J2]
   rw[dM (by simp;omega),dM (fq (by omega) (by omega))]
   rfl
 ·rw[if_neg (by simpa using h0),if_neg h0]
  simp only[J2]
  rw[dM (fq (by omega) (by omega))]
  simp
theorem akw(l:Layout)(s:Step)(hl:l.Links.length≤1000):Q0 l s=some (Jj l s):=by
 have key:∀e:Int,e=(if s.Dir=1 then 0 else 1)→MZ l s e=some (Jj l s):=by
  intro e he
  unfold MZ Jj
  have:=oH (B:=QZ l s e) (fun (q:List Hop) i=>(q,i)) l.Links (fun q i=>q.length≤i) (fun q r=>some (q++r.filterMap (AL s))) ?_ ?_ FUEL [] 0 (by simp) (by omega) (jo (by omega))
  ·simpa using this
  ·intro c q i k r hq hdr hi hx hk
   simp only[QZ]
   rw[if_pos (by simp;omega),hx,Option.bind_some]
   have hh:(if (decide (k.A=s.Section)&&decide (k.dQ=e))=true then EX q k i c (k.B,k.dV) else if (decide (k.B=s.Section)&&decide (k.dV=e))=true then EX q k i c (k.A,k.dQ) else EX q k i c (-1,0))=c (q++(AL s k).toList,i+1):=by
    unfold AL
    rw[←he]
    by_cases h1:k.A=s.Section∧k.dQ=e
    ·rw[if_pos (by simpa using h1),if_pos h1,Y7 _ _ _ _ _ _ (by omega) (by omega)]
    ·rw[if_neg (by simpa using h1),if_neg h1]
     by_cases h2:k.B=s.Section∧k.dV=e
     ·rw[if_pos (by simpa using h2),if_pos h2,Y7 _ _ _ _ _ _ (by omega) (by omega)]
     ·rw[if_neg (by simpa using h2),if_neg h2,Y7 _ _ _ _ _ _ (by omega) (by omega)]
      rfl
   rw[hh,hk _ (by cases AL s k<;>simp<;>omega)]
   cases h:AL s k with
   |none=>simp[List.filterMap_cons,h]
   |some z=>simp[List.filterMap_cons,h]
  ·intro c q _
   simp only[QZ]
   rw[if_neg (by simp)]
   simp[aaz]
 unfold Q0
 by_cases h1:s.Dir=1
 ·rw[if_pos (by simpa using h1)];exact key 0 (by rw[if_pos h1])
 ·rw[if_neg (by simpa using h1)];exact key 1 (by rw[if_neg h1])
def Lv(l:Layout)(a b:Step):Hop×Bool:=
 match (Jj l a).find? (fun h=>decide (h.To=b)) with
 |some h=>(h,true)
 |none=>(Hop.mk (Step.mk 0 0) 0 0,false)
theorem ald(l:Layout)(a b:Step)(hl:l.Links.length≤1000):Rs l a b=some (Lv l a b):=by
 unfold Rs Lv
 rw[akw l a hl,Option.bind_some]
 have hlen:(Jj l a).length≤1000:=Nat.le_trans (List.length_filterMap_le _ _) hl
 generalize Jj l a=hs at hlen
 have:=oH (B:=Rq hs b) (fun (_:Unit) i=>i) hs (fun _ _=>True) (fun _ r=>some (match r.find? (fun h=>decide (h.To=b)) with|some h=>(h,true)|none=>(Hop.mk (Step.mk 0 0) 0 0,false))) ?_ ?_ FUEL () 0 trivial (by omega) (jo (by omega))
 ·simpa using this
 ·intro c _ i x r _ hdr hi hx hk
  simp only[Rq]
  rw[if_pos (by simp;omega),hx,Option.bind_some,Option.bind_some]
  by_cases h:x.To=b
  ·rw[if_pos (by simpa using h)]
   simp[List.find?_cons,h]
  ·rw[if_neg (by simpa using h),dM (fq (by omega) (by omega)),hk () trivial]
   simp[List.find?_cons,h]
 ·intro c _ _
  simp only[Rq]
  rw[if_neg (by simp)]
  rfl
theorem alc{l:Layout}(v:Val l){a b:Step}(ha:kF l a=true)(hb:kF l b=true):tr l a b=((Lv l a b).1.Point,(Lv l a b).2):=by
 unfold kF at ha hb
 simp only[Bool.and_eq_true,Bool.or_eq_true,decide_eq_true_eq] at ha hb
 unfold tr Lv Jj
 have key:∀ks:List Link,(∀k∈ks,k∈l.Links)→NQ (rG a) (rG (Bp b)) ks=(match (ks.filterMap (AL a)).find? (fun h=>decide (h.To=b)) with|some h=>(h.Point,true)|none=>(0,false)):=by
  intro ks
  induction ks with
  |nil=>intro _;rfl
  |cons k ks ih=>
   intro hk
   have vk:=v.links k (hk k List.mem_cons_self)
   have ih':=ih (fun q h=>hk q (List.mem_cons_of_mem _ h))
   have hl1:rG a=⟨a.Section,if a.Dir=1 then 0 else 1⟩:=by
    unfold rG
    rcases ha.2 with h|h
    ·rw[if_pos h,if_neg (by omega)]
    ·rw[if_neg (by omega),if_pos h]
   have hl2:rG (Bp b)=⟨b.Section,b.Dir⟩:=by
    unfold rG Bp
    rcases hb.2 with h|h
    ·simp[h]
    ·simp[h]
   have hstep:∀(x y:Int),(y=0∨y=1)→((Step.mk x (if y=1 then 1 else 0)=b)↔(x=b.Section∧y=b.Dir)):=by
    intro x y hy
    obtain⟨bs,bd⟩:=b
    simp only[Step.mk.injEq]
    rcases hy with h|h<;>simp[h]
   have hj:Lx (rG a) (rG (Bp b)) k=true↔∃h,AL a k=some h∧h.To=b:=by
    rw[hl1,hl2]
    unfold Lx
    simp only[Bool.or_eq_true,Bool.and_eq_true,decide_eq_true_eq,mM.mk.injEq]
    unfold AL Ji
    by_cases h1:k.A=a.Section∧k.dQ=(if a.Dir=1 then 0 else 1)
    ·rw[if_pos h1,if_pos vk.2.1.1]
     simp only[Option.some.injEq,exists_eq_left']
     rw[hstep _ _ vk.2.2.2.1]
     constructor
     ·rintro (⟨_,h⟩|⟨h2,h3⟩)
      ·exact h
      ·exact absurd ⟨h1.1.trans h3.1.symm,h1.2.trans h3.2.symm⟩ vk.2.2.2.2.2
     ·intro h;exact .inl ⟨h1,h⟩
    ·rw[if_neg h1]
     by_cases h2:k.B=a.Section∧k.dV=(if a.Dir=1 then 0 else 1)
     ·rw[if_pos h2,if_pos vk.1.1]
      simp only[Option.some.injEq,exists_eq_left']
      rw[hstep _ _ vk.2.2.1]
      constructor
      ·rintro (⟨h,_⟩|⟨h,_⟩)
       ·exact absurd h h1
       ·exact h
      ·intro h;exact .inr ⟨h,h2⟩
     ·rw[if_neg h2]
      simp only[reduceCtorEq,false_and,exists_false,iff_false]
      rintro (⟨h,_⟩|⟨_,h⟩)
      ·exact h1 h
      ·exact h2 h
   have ht:∀x y h,Ji k x y=some h→h.Point=k.Point:=by
    intro x y h e
    unfold Ji at e
    by_cases h0:0≤x
    ·rw[if_pos h0] at e;cases e;rfl
    ·rw[if_neg h0] at e;cases e
   have hp:∀h,AL a k=some h→h.Point=k.Point:=by
    intro h e
    unfold AL at e
    by_cases h1:k.A=a.Section∧k.dQ=(if a.Dir=1 then 0 else 1)
    ·rw[if_pos h1] at e;exact ht _ _ _ e
    ·rw[if_neg h1] at e
     by_cases h2:k.B=a.Section∧k.dV=(if a.Dir=1 then 0 else 1)
     ·rw[if_pos h2] at e;exact ht _ _ _ e
     ·rw[if_neg h2] at e;cases e
   simp only[NQ]
   by_cases hjk:Lx (rG a) (rG (Bp b)) k=true
   ·rw[if_pos hjk]
    obtain⟨h,e1,e2⟩:=hj.1 hjk
    rw[List.filterMap_cons,e1]
    simp[List.find?_cons,e2,hp h e1]
   ·rw[if_neg hjk,ih',List.filterMap_cons]
    cases e:AL a k with
    |none=>rfl
    |some h=>
     have hne:¬h.To=b:=fun e2=>hjk (hj.2 ⟨h,e,e2⟩)
     simp[List.find?_cons,hne]
 rw[key l.Links (fun k h=>h)]
 cases (l.Links.filterMap (AL a)).find? (fun h=>decide (h.To=b))<;>rfl
end Go.Proofs.YtcalibhfgdncaaaGreat
namespace Go.Proofs.YtcalibhfgdncaaaGreat
open Go.Dc
theorem cr4{l:Layout}(v:Val l)(r:aO)(h2:2≤r.Steps.length)(uP:r.Steps.length≤24)(ha:r.Steps.all (kF l)=true):Vr r l ()=some (vo l r).2:=by
 have hl:l.Links.length≤1000:=by have:=v.full;omega
 unfold Vr
 obtain⟨a,rest,hS⟩:∃a rest,r.Steps=a::rest:=by
  cases h:r.Steps with
  |nil=>rw[h] at h2;simp at h2
  |cons a rest=>exact⟨a,rest,rfl⟩
 have:=oH (B:=Ro r l) (fun (_:Step) i=>i) r.Steps (fun p i=>1≤i∧r.Steps[i-1]?=some p∧kF l p=true)
  (fun p q=>some (match Bg l p q with|none=>(11:Int)|some _=>0)) ?_ ?_ FUEL a 1 ⟨by omega,by rw[hS];rfl,List.all_eq_true.1 ha a (by rw[hS];exact List.mem_cons_self)⟩ (by omega) (jo (by omega))
 ·rw[this,hS]
  unfold vo ML
  rw[hS]
  simp only[List.drop_succ_cons,List.drop_zero]
  cases Bg l a rest<;>rfl
 ·rintro c p i x q ⟨h1,hp,hps⟩ hdr hi hx hk
  have hm:x∈r.Steps:=List.mem_of_mem_drop (i:=i) (by rw[hdr];exact List.mem_cons_self)
  have hxs:kF l x=true:=List.all_eq_true.1 ha x hm
  simp only[Ro]
  have hp':idx r.Steps ((i:Int)-1)=some p:=by
   rw[show (i:Int)-1=((i-1:Nat):Int) by omega,nO];exact hp
  rw[if_pos (by simp;omega),dM (fq (by omega) (by omega)),hp',Option.bind_some,hx,Option.bind_some,ald l p x hl,Option.bind_some]
  have ht:=alc v hps hxs
  unfold Vs
  have h2':(tr l p x).2=(Lv l p x).2:=by rw[ht]
  rw[←h2']
  simp only[Bg]
  by_cases hb:(tr l p x).2=true
  ·rw[if_neg (by simp[hb]),if_pos hb,dM (fq (by omega) (by omega)),hk x ⟨by omega,by rw[Nat.add_sub_cancel];rw[nO] at hx;exact hx,hxs⟩]
   cases Bg l x q<;>rfl
  ·have hb':(tr l p x).2=false:=by simpa using hb
   rw[if_pos (by simp[hb']),if_neg hb]
 ·rintro c p ⟨_,_,_⟩
  simp only[Ro]
  rw[if_neg (by simp)]
  rfl
theorem cr3(r:aO)(i:Nat)(hi:i<r.Steps.length)(uP:r.Steps.length≤24)(c:Nat→Option Int):
  iter (M8 i r c) FUEL 0=if r.Steps[i].Section∈(r.Steps.take i).map (·.Section) then some 5 else c (i+1):=by
 have hlt:(r.Steps.take i).length=i:=by rw[List.length_take];omega
 have:=oH (B:=M8 i r c) (fun (_:Unit) k=>k) (r.Steps.take i) (fun _ _=>True) (fun _ q=>if r.Steps[i].Section∈q.map (·.Section) then some 5 else c (i+1)) ?_ ?_ FUEL () 0 trivial (by omega) (jo (by omega))
 ·simpa using this
 ·intro c3 _ k x q _ hdr hk hx hc
  rw[hlt] at hk
  have hxk:idx r.Steps (k:Int)=some x:=by
   rw[nO] at hx ⊢
   rw[List.getElem?_take,if_pos hk] at hx
   exact hx
  simp only[M8]
  rw[if_pos (by simp;omega),hxk,Option.bind_some,nO,List.getElem?_eq_getElem hi,Option.bind_some]
  by_cases e:x.Section=r.Steps[i].Section
  ·rw[if_pos (by simpa using e),if_pos (by simp[e])]
  ·rw[if_neg (by simpa using e),dM (fq (by omega) (by omega)),hc () trivial]
   have e':¬r.Steps[i].Section=x.Section:=fun h=>e h.symm
   simp[e']
 ·intro c3 _ _
  simp only[M8]
  rw[if_neg (by simp;omega)]
  simp only[aaL]
  rw[dM (fq (by omega) (by omega))]
  simp
theorem cr2{l:Layout}(v:Val l)(r:aO)(h2:2≤r.Steps.length)(uP:r.Steps.length≤24)(ha:r.Steps.all (kF l)=true):
  Vq r l ()=some (if sO [] r.Steps=true then (5:Int) else (vo l r).2):=by
 unfold Vq
 have:=oH (B:=Rn r l) (fun (_:List Int) k=>k) r.Steps (fun s i=>∀z,z∈s↔z∈(r.Steps.take i).map (·.Section)) (fun s q=>some (if sO s q=true then (5:Int) else (vo l r).2)) ?_ ?_ FUEL [] 0 (by simp) (by omega) (jo (by omega))
 ·simpa using this
 ·intro c s i x q hs hdr hi hx hk
  have hxi:r.Steps[i]=x:=by
   rw[nO,List.getElem?_eq_getElem hi] at hx
   exact Option.some.inj hx
  simp only[Rn]
  rw[if_pos (by simp;omega),cr3 r i hi uP,hxi]
  have hdd:sO s (x::q)=(decide (x.Section∈s)||sO (x.Section::s) q):=rfl
  by_cases hm:x.Section∈s
  ·rw[if_pos ((hs _).1 hm),if_pos (show sO s (x::q)=true by rw[hdd];simp[hm])]
  ·rw[if_neg (fun h=>hm ((hs _).2 h)),hk (x.Section::s) (fun z=>by
    rw[List.take_succ_eq_append_getElem hi,hxi,List.map_append,List.mem_append,List.mem_cons,←hs z]
    simp[or_comm]),hdd]
   simp[hm]
 ·intro c s _
  simp only[Rn]
  rw[if_neg (by simp),cr4 v r h2 uP ha]
  simp[sO]
theorem XJ(l:Layout)(r:aO):J4 l r=some (jR l r).2:=by
 unfold J4
 rw[abW,Option.bind_some]
 by_cases hc:kZ (fG l)=0
 ·have v:=abk hc
  have hf:=v.full
  have n1:¬kZ (fG l)≠0:=by simp[hc]
  rw[if_neg (by simp[hc])]
  by_cases uP:24<r.Steps.length∨2<r.Overlap
  ·have e:jR l r=([],7):=by unfold jR;rw[if_neg n1,if_pos uP]
   rw[e,if_pos (by simp;omega)]
  ·rw[if_neg (by simp;omega)]
   by_cases h2:r.Overlap<0∨(r.Steps.length:Int)-r.Overlap<2
   ·have e:jR l r=([],4):=by unfold jR;rw[if_neg n1,if_neg uP,if_pos h2]
    rw[e,dM (by simp[bA];omega),if_pos (by simpa using h2)]
   ·have e:jR l r=if r.Steps.all (kF l)=false then ([],4) else if sO [] r.Steps=true then ([],5) else vo l r:=by unfold jR;rw[if_neg n1,if_neg uP,if_neg h2]
    rw[e,dM (by simp[bA];omega),if_neg (by simpa using h2)]
    have:=oH (B:=Rm r l) (fun (_:Unit) i=>i) r.Steps (fun _ i=>(r.Steps.take i).all (kF l)=true)
     (fun _ q=>some (if q.all (kF l)=false then (([]:List Int),(4:Int)) else if sO [] r.Steps=true then ([],5) else vo l r).2) ?_ ?_ FUEL () 0 (by simp) (by omega) (jo (by omega))
    ·simp only[List.drop_zero] at this
     exact this
    ·intro c _ i x q hI hdr hi hx hk
     simp only[Rm]
     rw[if_pos (by simp;omega),hx,Option.bind_some,dM (fq (by omega) (by omega))]
     simp only[EZ]
     rw[Option.bind_some,NS,Option.bind_some,NS,Option.bind_some]
     have hb:kF l x=((decide (0≤x.Section)&&decide (x.Section≤(l.Sections.length:Int)-1))&&(decide (0≤x.Dir)&&decide (x.Dir≤1))):=by
      rw[Bool.eq_iff_iff]
      unfold kF
      simp only[Bool.and_eq_true,Bool.or_eq_true,decide_eq_true_eq]
      omega
     cases hy:(decide (0≤x.Section)&&decide (x.Section≤(l.Sections.length:Int)-1)) with
     |false=>
      rw[hy] at hb
      simp[hb]
     |true=>
      rw[hy] at hb
      simp only[Bool.true_and] at hb
      simp only[Bool.not_true,Bool.not_false,cond_true,Bool.false_or]
      rw[←hb]
      by_cases hs:kF l x=true
      ·have ht:r.Steps.take (i+1)=r.Steps.take i++[x]:=by
        rw[List.take_succ_eq_append_getElem hi]
        rw[nO,List.getElem?_eq_getElem hi] at hx
        cases hx;rfl
       rw[if_neg (by simp[hs]),dM (fq (by omega) (by omega)),hk () (by rw[ht,List.all_append,hI];simp[hs])]
       simp[hs]
      ·rw[if_pos (by simpa using hs)]
       simp[hs]
    ·intro c _ hI
     simp only[Rm]
     rw[List.take_length] at hI
     rw[if_neg (by simp),cr2 v r (by omega) (by omega) hI]
     by_cases hd:sO [] r.Steps=true<;>simp[hd]
 ·have e:jR l r=([],1):=by unfold jR;rw[if_pos hc]
  rw[e,if_pos (by simp[hc])]
end Go.Proofs.YtcalibhfgdncaaaGreat
namespace Go.Proofs.YtcalibhfgdncaaaGreat
open Go.Dc
set_option maxRecDepth 100000
theorem alP:∀k:Fin 401,Te (IntKind.u64.wrap ((1:Nat):Int)) (IntKind.u64.wrap ((k.val:Nat):Int))=some (0,((k.val:Nat):Int)):=by decide+kernel
theorem wrap_small:∀k:Fin 401,IntKind.i64.wrap ((k.val:Nat):Int)=((k.val:Nat):Int):=by decide+kernel
theorem alN{p:Int}{x:Cell}(h0:0≤p)(h:p≤1000000):mk (α:=Cell) x p=some (List.replicate p.toNat x):=by
 unfold mk
 rw[if_pos]
 refine⟨h0,?_⟩
 show p*16≤_
 omega
theorem amO(c:Cell)(k:Nat)(h1:1≤k)(h2:k≤400):R7 [c] (k:Int)=some (List.replicate k c):=by
 unfold R7
 rw[if_neg (by simp)]
 unfold Wj
 have hm:=alP ⟨k,by omega⟩
 simp only at hm
 rw[show (([c]:List Cell).length:Int)=((1:Nat):Int) from rfl,hm,Option.bind_some,if_neg (by simp;omega)]
 unfold Wm
 have hw:=wrap_small ⟨k,by omega⟩
 simp only at hw
 rw[show ((0:Int),(k:Int)).2=(k:Int) from rfl,hw,alN (by omega) (by omega),Option.bind_some]
 simp only[Int.toNat_natCast,List.length_replicate]
 have hc0:Et (List.replicate k (Cell.mk 0 0)) 0 k [c]=some (List.replicate 1 c++List.replicate (k-1) (Cell.mk 0 0)):=by
  unfold Et Es
  rw[if_pos (by simp)]
  obtain⟨j,rfl⟩:∃j,k=j+1:=⟨k-1,by omega⟩
  simp[List.replicate_succ]
 rw[hc0,Option.bind_some]
 have hmin:Nat.min ([c]:List Cell).length k=1:=by show Nat.min 1 k=1;exact Nat.min_eq_left h1
 rw[hmin]
 have key:WP (iter Wi FUEL (List.replicate 1 c++List.replicate (k-1) (Cell.mk 0 0),((1:Nat):Int))) (fun y=>y=List.replicate k c):=by
  refine CP (fun (q:List Cell×Int)=>∃n:Nat,q.2=n∧1≤n∧n≤k∧q.1=List.replicate n c++List.replicate (k-n) (Cell.mk 0 0)) (fun q=>k-q.2.toNat) _ ?_ FUEL _ ⟨1,rfl,by omega,h1,rfl⟩ (jo (by simp only;omega))
  rintro ct ⟨q,n'⟩ ⟨n,hn,n1,nk,hq⟩ hct
  simp only at hn hq hct
  subst hn hq
  have hlen:(List.replicate n c++List.replicate (k-n) (Cell.mk 0 0)).length=k:=by simp;omega
  simp only[Wi]
  rw[hlen]
  refine tH (fun h=>?_) (fun h=>?_)
  ·simp only[decide_eq_true_eq] at h
   have s1:sub (List.replicate n c++List.replicate (k-n) (Cell.mk 0 0)) (n:Int) (k:Int)=some (List.replicate (k-n) (Cell.mk 0 0)):=by
    unfold sub
    rw[if_pos (by rw[hlen];omega)]
    congr 1
    rw[Int.toNat_natCast,Int.toNat_natCast,List.take_of_length_le (by rw[hlen];omega)]
    rw[List.drop_append_of_le_length (by simp)]
    simp
   have s2:sub (List.replicate n c++List.replicate (k-n) (Cell.mk 0 0)) 0 (n:Int)=some (List.replicate n c):=by
    unfold sub
    rw[if_pos (by rw[hlen];omega)]
    congr 1
    rw[Int.toNat_natCast,List.take_append_of_le_length (by simp)]
    simp
   rw[s1,Option.bind_some,s2,Option.bind_some]
   simp only[List.length_replicate,Int.toNat_natCast]
   have hM:∃m,Nat.min n (k-n)=m∧1≤m∧n+m≤k:=⟨Nat.min n (k-n),rfl,by
    have h1:1≤k-n:=by omega
    exact Nat.le_min.2 ⟨n1,h1⟩,by
    have:=Nat.min_le_right n (k-n)
    have h1:Nat.min n (k-n)≤k-n:=this
    omega⟩
   obtain⟨m,hm,m1,m2⟩:=hM
   have hcp:Et (List.replicate n c++List.replicate (k-n) (Cell.mk 0 0)) n (k-n) (List.replicate n c)=some (List.replicate (n+m) c++List.replicate (k-(n+m)) (Cell.mk 0 0)):=by
    unfold Et Es
    rw[if_pos (by rw[hlen];omega),List.take_replicate,show min (k-n) n=m by rw[Nat.min_comm];exact hm]
    congr 1
    rw[List.take_append_of_le_length (by simp),List.take_of_length_le (by simp),List.length_replicate,List.drop_append,List.length_replicate]
    rw[List.drop_of_length_le (by simp),List.nil_append,show n+m-n=m by omega,List.drop_replicate,List.replicate_append_replicate]
    congr 2
    omega
   rw[hcp,Option.bind_some,hm]
   refine jJ (by omega) (hct _ ⟨n+m,by simp,by omega,m2,rfl⟩ (by simp only;omega))
  ·simp only[decide_eq_false_iff_not] at h
   have:n=k:=by omega
   subst this
   exact Sw (by simp)
 obtain⟨y,e,rfl⟩:=key
 exact e
def jI(l:Layout)(s:Step):Section:=l.Sections.getD s.Section.toNat default
def cellOf(l:Layout)(s:Step):Cell:=⟨(jI l s).Limit,if s.Dir=1 then-(jI l s).kr else (jI l s).kr⟩
def Dj(l:Layout)(ss:List Step):List Cell:=ss.flatMap fun s=>List.replicate (jI l s).Length.toNat (cellOf l s)
def cellsE(l:Layout)(r:aO)(cs:List Cell):List Cell×Int×Int:=
 if 4000<cs.length then ([],0,7) else (cs,(jI l (r.Steps.getD 0 default)).Length,0)
def yH(l:Layout)(r:aO):List Cell×Int×Int:=
 if (jR l r).2≠0 then ([],0,(jR l r).2) else cellsE l r (Dj l (r.Steps.take ((r.Steps.length:Int)-r.Overlap).toNat))
structure Al(l:Layout)(r:aO):Prop where
 ck:kZ (fG l)=0
 v:Val l
 len:r.Steps.length≤24
 ov:0≤r.Overlap∧r.Overlap≤2
 two:2≤(r.Steps.length:Int)-r.Overlap
 st:∀s∈r.Steps,kF l s=true
 dup:sO [] r.Steps=false
 pts:ML l r.Steps=some (jR l r).1
theorem J8{l:Layout}{r:aO}(h:(jR l r).2=0):Al l r:=by
 by_cases hc:kZ (fG l)=0
 ·by_cases uP:24<r.Steps.length∨2<r.Overlap
  ·have e:jR l r=([],7):=by unfold jR;rw[if_neg (by simp[hc]),if_pos uP]
   rw[e] at h;cases h
  ·by_cases h2:r.Overlap<0∨(r.Steps.length:Int)-r.Overlap<2
   ·have e:jR l r=([],4):=by unfold jR;rw[if_neg (by simp[hc]),if_neg uP,if_pos h2]
    rw[e] at h;cases h
   ·by_cases ha:r.Steps.all (kF l)=false
    ·have e:jR l r=([],4):=by unfold jR;rw[if_neg (by simp[hc]),if_neg uP,if_neg h2,if_pos ha]
     rw[e] at h;cases h
    ·by_cases hd:sO [] r.Steps=true
     ·have e:jR l r=([],5):=by unfold jR;rw[if_neg (by simp[hc]),if_neg uP,if_neg h2,if_neg ha,if_pos hd]
      rw[e] at h;cases h
     ·have e:jR l r=vo l r:=by unfold jR;rw[if_neg (by simp[hc]),if_neg uP,if_neg h2,if_neg ha,if_neg hd]
      refine⟨hc,abk hc,by omega,by omega,by omega,fun s hm=>List.all_eq_true.1 (by simpa using ha) s hm,by simpa using hd,?_⟩
      rw[e] at h ⊢
      unfold vo at h ⊢
      cases hp:ML l r.Steps with
      |none=>rw[hp] at h;cases h
      |some q=>rfl
 ·have e:jR l r=([],1):=by unfold jR;rw[if_pos hc]
  rw[e] at h;cases h
theorem Ko{l:Layout}(v:Val l){s:Step}(h:kF l s=true):idx l.Sections s.Section=some (jI l s)∧1≤(jI l s).Length∧(jI l s).Length≤400∧ -40≤(jI l s).kr∧(jI l s).kr≤40:=by
 unfold kF at h
 simp only[Bool.and_eq_true,decide_eq_true_eq] at h
 have hlt:s.Section.toNat<l.Sections.length:=by omega
 have hm:jI l s∈l.Sections:=by unfold jI;simp[hlt]
 have:=v.secs _ hm
 exact⟨rF h.1.1 h.1.2,this.1,this.2.1,this.2.2.2.2.1,this.2.2.2.2.2⟩
theorem amu(l:Layout)(r:aO):RD l r=some (yH l r):=by
 unfold RD yH
 rw[afp,Option.bind_some]
 by_cases h0:(jR l r).2=0
 ·have o:=J8 h0
  have v:=o.v
  rw[if_neg (by simp[h0]),if_neg (by simp[h0])]
  have:=o.len;have:=o.ov;have:=o.two
  have hs:sub r.Steps 0 ((r.Steps.length:Int)-r.Overlap)=some (r.Steps.take ((r.Steps.length:Int)-r.Overlap).toNat):=by
   unfold sub
   rw[if_pos (by omega)]
   simp
  rw[dM (fq (by omega) (by omega)),hs,Option.bind_some]
  generalize hT:r.Steps.take ((r.Steps.length:Int)-r.Overlap).toNat=T
  have hTl:T.length≤24:=by rw[←hT,List.length_take];omega
  have YB:∀s∈T,kF l s=true:=fun s hm=>o.st s (List.mem_of_mem_take (by rw[←hT] at hm;exact hm))
  have:=oH (B:=RB T l r) (fun (s:List Cell) i=>(s,i)) T (fun s i=>s.length≤400*i) (fun s q=>some (cellsE l r (s++Dj l q))) ?_ ?_ FUEL [] 0 (by simp) (by omega) (jo (by omega))
  ·simpa using this
  ·intro c s i x q hI hdr hi hx hk
   have hm:x∈T:=List.mem_of_mem_drop (i:=i) (by rw[hdr];exact List.mem_cons_self)
   obtain⟨hsx,s1,s2,s3,s4⟩:=Ko v (YB x hm)
   simp only[RB]
   rw[if_pos (by simp;omega),hx,Option.bind_some,hsx,Option.bind_some]
   have hrep:∀g:Int,Ih (jI l x) s c i g=c (s++List.replicate (jI l x).Length.toNat (Cell.mk (jI l x).Limit g),i+1):=by
    intro g
    unfold Ih
    have:=amO (Cell.mk (jI l x).Limit g) (jI l x).Length.toNat (by omega) (by omega)
    rw[Int.toNat_of_nonneg (by omega)] at this
    rw[this,Option.bind_some,dM (by simp;omega)]
   have hgo:(if decide (x.Dir=1)=true then aX (bA (-(jI l x).kr)) (Ih (jI l x) s c i (-(jI l x).kr)) else Ih (jI l x) s c i (jI l x).kr)=c (s++List.replicate (jI l x).Length.toNat (cellOf l x),i+1):=by
    unfold cellOf
    by_cases hd:x.Dir=1
    ·rw[if_pos (by simpa using hd),if_pos hd,dM (fq (by omega) (by omega)),hrep]
    ·rw[if_neg (by simpa using hd),if_neg hd,hrep]
   rw[hgo,hk _ (by simp;omega)]
   simp[Dj,List.flatMap_cons]
  ·intro c s hI
   simp only[RB]
   rw[if_neg (by simp)]
   unfold aaS cellsE
   simp only[Dj,List.flatMap_nil,List.append_nil]
   by_cases hb:4000<s.length
   ·rw[if_pos (by simp;omega),if_pos hb]
   ·rw[if_neg (by simp;omega),if_neg hb]
    have h00:0<r.Steps.length:=by omega
    have hi0:idx r.Steps 0=some (r.Steps.getD 0 default):=rF (by omega) (by omega)
    have hm0:r.Steps.getD 0 default∈r.Steps:=by simp[h00]
    rw[hi0,Option.bind_some,(Ko v (o.st _ hm0)).1,Option.bind_some]
 ·rw[if_pos (by simp[h0]),if_pos h0]
theorem amN(l:Layout)(r:aO):Rl l r=some (yH l r):=by
 unfold Rl yH
 rw[XJ,Option.bind_some]
 by_cases h0:(jR l r).2=0
 ·have o:=J8 h0
  have v:=o.v
  rw[if_neg (by simp[h0]),if_neg (by simp[h0])]
  have:=o.len;have:=o.ov;have:=o.two
  generalize hT:r.Steps.take ((r.Steps.length:Int)-r.Overlap).toNat=T
  have hTl:(T.length:Int)=(r.Steps.length:Int)-r.Overlap:=by rw[←hT,List.length_take];omega
  have YB:∀s∈T,kF l s=true:=fun s hm=>o.st s (List.mem_of_mem_take (by rw[←hT] at hm;exact hm))
  have:=oH (B:=Rj r l) (fun (s:List Cell) i=>(s,i)) T (fun s i=>s.length≤400*i) (fun s q=>some (cellsE l r (s++Dj l q))) ?_ ?_ FUEL [] 0 (by simp) (by omega) (jo (by omega))
  ·simpa using this
  ·intro c s i x q hI hdr hi hx hk
   have hm:x∈T:=List.mem_of_mem_drop (i:=i) (by rw[hdr];exact List.mem_cons_self)
   obtain⟨hsx,s1,s2,s3,s4⟩:=Ko v (YB x hm)
   have hx':idx r.Steps (i:Int)=some x:=by
    rw[nO] at hx ⊢
    rw[←hT,List.getElem?_take,if_pos (by omega)] at hx
    exact hx
   simp only[Rj]
   rw[dM (fq (by omega) (by omega)),if_pos (by simp;omega),hx',Option.bind_some,hsx,Option.bind_some,Option.bind_some]
   have hrep:∀g:Int,Ia (jI l x) i c s g=c (s++List.replicate (jI l x).Length.toNat (Cell.mk (jI l x).Limit g),i+1):=by
    intro g
    unfold Ia
    have:=oH (B:=Rk (jI l x) g i c) (fun (z:List Cell) k=>(z,k)) (List.replicate (jI l x).Length.toNat (Cell.mk (jI l x).Limit g)) (fun z k=>z.length≤400*i+k) (fun z q=>c (z++q,i+1)) ?_ ?_ FUEL s 0 (by omega) (by omega) (jo (by simp;omega))
    ·simpa using this
    ·intro c2 z k y q hz hdr hk hy hc
     rw[List.length_replicate] at hk
     have hyy:y=Cell.mk (jI l x).Limit g:=by
      have:y∈List.replicate (jI l x).Length.toNat (Cell.mk (jI l x).Limit g):=List.mem_of_mem_drop (i:=k) (by rw[hdr];exact List.mem_cons_self)
      exact List.eq_of_mem_replicate this
     simp only[Rk]
     rw[if_pos (by simp;omega),dM (by simp;omega),dM (fq (by omega) (by omega)),hc _ (by simp;omega),hyy]
     simp
    ·intro c2 z _
     simp only[Rk,List.length_replicate]
     rw[if_neg (by simp;omega)]
     simp only[aaK]
     rw[dM (fq (by omega) (by omega))]
     simp
   have hgo:(if decide (x.Dir=1)=true then aX (bA (-(jI l x).kr)) (Ia (jI l x) i c s (-(jI l x).kr)) else Ia (jI l x) i c s (jI l x).kr)=c (s++List.replicate (jI l x).Length.toNat (cellOf l x),i+1):=by
    unfold cellOf
    by_cases hd:x.Dir=1
    ·rw[if_pos (by simpa using hd),if_pos hd,dM (fq (by omega) (by omega)),hrep]
    ·rw[if_neg (by simpa using hd),if_neg hd,hrep]
   rw[hgo,hk _ (by simp;omega)]
   simp[Dj,List.flatMap_cons]
  ·intro c s hI
   simp only[Rj]
   rw[dM (fq (by omega) (by omega)),if_neg (by simp;omega)]
   unfold aaJ cellsE
   simp only[Dj,List.flatMap_nil,List.append_nil]
   by_cases hb:4000<s.length
   ·rw[if_pos (by simp;omega),if_pos hb]
   ·rw[if_neg (by simp;omega),if_neg hb]
    have h00:0<r.Steps.length:=by omega
    have hi0:idx r.Steps 0=some (r.Steps.getD 0 default):=rF (by omega) (by omega)
    have hm0:r.Steps.getD 0 default∈r.Steps:=by simp[h00]
    rw[hi0,Option.bind_some,(Ko v (o.st _ hm0)).1,Option.bind_some]
 ·rw[if_pos (by simp[h0]),if_pos h0]
end Go.Proofs.YtcalibhfgdncaaaGreat
namespace Go.Proofs.YtcalibhfgdncaaaGreat
open Go.Dc
theorem aes(c:Int):Sr c=some (tQ c):=rfl
theorem ak2(c:Int):WV c=some (BM c):=rfl
theorem aeX(s:Str):NT s=some (qd s.ba):=by
 unfold NT qd
 rw[Str.I6]
 by_cases h:1≤s.l.length∧s.l.length≤12
 ·have hg:(!(decide ((s.l.length:Int)<1)||decide (12<(s.l.length:Int))))=true:=by simp;omega
  rw[sH hg]
  have h0:=Tg (s:=s) (i:=0) (by omega)
  rw[show ((0:Nat):Int)=0 from rfl] at h0
  rw[h0]
  simp only[Option.bind_some]
  rw[sH hg,aes]
  simp only[Option.bind_some]
  by_cases hL:tQ (Go.iD.bt s.ba 0)=true
  ·rw[if_neg (by simp[hL];omega),dM (by simp;omega)]
   have:=oH (B:=Sq s) (fun (_:Unit) i=>i) (List.range s.l.length) (fun _ _=>True) (fun _ r=>some (r.all fun i=>uq (Go.iD.bt s.ba i))) ?_ ?_ FUEL () 0 trivial (by omega) (jo (by simp;omega))
   ·rw[this,List.drop_zero]
    simp[hL,h.1,h.2]
   ·intro c _ i x r _ hdr hi hx hk
    simp only[List.length_range] at hi
    have hxi:x=i:=by
     have:=List.getElem?_drop (xs:=List.range s.l.length) (i:=i) (j:=0)
     rw[hdr] at this
     simp[hi] at this
     omega
    subst hxi
    have hb:=Tg (s:=s) (i:=x) hi
    simp only[Sq]
    rw[if_pos (by simp;omega),hb]
    simp only[Option.bind_some]
    rw[aes]
    simp only[Option.bind_some]
    by_cases a1:tQ (Go.iD.bt s.ba x)=true
    ·rw[wK (by simp[a1])]
     simp only[Option.bind_some]
     rw[wK (by simp[a1])]
     simp only[Option.bind_some]
     rw[wK (by simp[a1])]
     simp only[Option.bind_some]
     rw[if_neg (by simp[a1]),hk () trivial]
     simp[uq,a1]
    ·have a1':tQ (Go.iD.bt s.ba x)=false:=by simpa using a1
     rw[sH (by simp[a1'])]
     simp only[Option.bind_some]
     rw[sH (by simp[a1']),ak2]
     simp only[Option.bind_some]
     by_cases a2:BM (Go.iD.bt s.ba x)=true
     ·rw[wK (by simp[a2])]
      simp only[Option.bind_some]
      rw[if_neg (by simp[a2]),hk () trivial]
      simp[uq,a2]
     ·have IV:BM (Go.iD.bt s.ba x)=false:=by simpa using a2
      rw[sH (by simp[a1',IV])]
      simp only[Option.bind_some]
      by_cases a3:Go.iD.bt s.ba x=95
      ·rw[if_neg (by simp[a3]),hk () trivial]
       simp[uq,a3]
      ·rw[if_pos (by simp[a1',IV,a3])]
       simp[uq,a1',IV,a3]
   ·intro c _ _
    simp only[Sq]
    rw[if_neg (by simp)]
    rfl
  ·have hL':tQ (Go.iD.bt s.ba 0)=false:=by simpa using hL
   rw[if_pos (by simp[hL'])]
   simp[hL']
 ·have hg:(!(decide ((s.l.length:Int)<1)||decide (12<(s.l.length:Int))))=false:=by simp;omega
  rw[wK hg]
  simp only[Option.bind_some]
  rw[wK hg]
  simp only[Option.bind_some]
  rw[if_pos (by simp[Int.not_lt.mp,h]<;>omega)]
  have:(decide (1≤s.l.length)&&decide (s.l.length≤12))=false:=by simp;omega
  simp[this]
end Go.Proofs.YtcalibhfgdncaaaGreat
