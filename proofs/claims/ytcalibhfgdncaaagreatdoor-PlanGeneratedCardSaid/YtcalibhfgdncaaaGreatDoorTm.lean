/- Several parts of the engine, one behind the other. -/
import Derived.Test.YtcalibhfgdncaaaGreatDoorQ1
import Derived.Test.YtcalibhfgdncaaaGreatDoorRd
import Derived.Test.YtcalibhfgdncaaaGreatDoorRb
import Derived.Test.YtcalibhfgdncaaaGreatDoorLm
import Derived.Test.YtcalibhfgdncaaaGreatDoorRo
import Derived.Test.YtcalibhfgdncaaaGreatDoorRe
import Derived.Test.YtcalibhfgdncaaaGreatDoorWa
import Derived.Test.YtcalibhfgdncaaaGreatDoorVw
import Derived.Lib.ItoaMem
set_option linter.all false
namespace Go.Proofs.YtcalibhfgdncaaaGreatDoor
open Go.Dc
def iR(l:Layout)(s:Step):Bool:=(decide (0≤s.Section)&&decide (s.Section<(l.Sections.length:Int)))&&(decide (s.Dir=0)||decide (s.Dir=1))
def qF(s:Step):mK:=if s.Dir=0 then ⟨s.Section,1⟩ else ⟨s.Section,0⟩
def Am(s:Step):Step:=if s.Dir=0 then ⟨s.Section,1⟩ else ⟨s.Section,0⟩
def MB(f t:mK)(k:Link):Bool:=(decide (mK.mk k.A k.dN=f)&&decide (mK.mk k.B k.dV=t))||(decide (mK.mk k.A k.dN=t)&&decide (mK.mk k.B k.dV=f))
def OJ(f t:mK):List Link→Int×Bool
 |[]=>(0,false)
 |k::r=>if MB f t k then (k.Point,true) else OJ f t r
def tr(l:Layout)(s t:Step):Int×Bool:=OJ (qF s) (qF (Am t)) l.Links
theorem afs(s:Step):Ow s=some (qF s):=by
 unfold Ow qF
 by_cases h:s.Dir=0<;>simp[h]
theorem aqw(s:Step):Rj s=some (Am s):=by
 unfold Rj Am
 by_cases h:s.Dir=0<;>simp[h]
theorem arP(l:Layout)(s t:Step)(hl:l.Links.length≤1000):TJ l s t=some (tr l s t):=by
 unfold TJ
 rw[afs,aqw]
 simp only[Option.bind_some]
 rw[afs]
 simp only[Option.bind_some]
 unfold Xm tr
 have:=nu (B:=TI l (qF s).rX (qF s).side (qF (Am t)).rX (qF (Am t)).side) (fun (_:Unit) i=>i) l.Links (fun _ _=>True) (fun _ r=>some (OJ (qF s) (qF (Am t)) r)) ?_ ?_ FUEL () 0 trivial (by omega) (jh (by omega))
 ·simpa using this
 ·intro c _ i k r _ _ hi hx hc
  simp only[TI]
  rw[if_pos (by simp;omega),hx]
  simp only[Option.bind_some,OJ]
  have hc':=hc () trivial
  show (if MB (qF s) (qF (Am t)) k=true then some (k.Point,true) else c (i+1))=_
  by_cases hj:MB (qF s) (qF (Am t)) k=true
  ·rw[if_pos hj,if_pos hj]
  ·rw[if_neg hj,if_neg hj,←hc']
 ·intro c _ _
  simp only[TI]
  rw[if_neg (by simp)]
  rfl
def Ag(l:Layout):Step→List Step→Option (List Int)
 |_,[]=>some []
 |a,b::r=>if (tr l a b).2 then (Ag l b r).map ((tr l a b).1:: ·) else none
def Nv(l:Layout):List Step→Option (List Int)
 |[]=>some []
 |a::r=>Ag l a r
def rF:List Int→List Step→Bool
 |_,[]=>false
 |seen,s::r=>decide (s.Section∈seen)||rF (s.Section::seen) r
def uD(l:Layout)(r:aO):List Int×Int:=
 match Nv l r.Steps with
 |none=>([],11)
 |some q=>(q,0)
def jH(l:Layout)(r:aO):List Int×Int:=
 if kR (fG l)≠0 then ([],1) else
 if 24<r.Steps.length∨2<r.Overlap then ([],7) else
 if r.Overlap<0∨(r.Steps.length:Int)-r.Overlap<2 then ([],4) else
 if r.Steps.all (iR l)=false then ([],4) else
 if rF [] r.Steps=true then ([],5) else uD l r
theorem YR{l:Layout}(h:kR (fG l)=0):l.aU.length≤24∧l.bG.length≤48∧l.Sections.length≤96∧l.Links.length≤192∧0<l.Sections.length:=by
 unfold kR at h
 by_cases hf:vQ (fG l)=true
 ·rw[if_pos hf] at h;omega
 ·rw[if_neg hf] at h
  unfold vQ at hf
  simp only[fG,List.length_map,decide_eq_true_eq] at hf h
  by_cases h0:l.Sections.length=0
  ·rw[if_pos h0] at h;omega
  ·omega
theorem ap8(l:Layout)(r:aO)(hl:l.Links.length≤1000)(h2:2≤r.Steps.length)(tV:r.Steps.length≤24):
  Xl r l ()=some (uD l r):=by
 unfold Xl
 have hs:sub r.Steps 1 (r.Steps.length:Int)=some (r.Steps.drop 1):=by
  unfold sub;rw[if_pos (by omega)]
  simp
 rw[hs]
 simp only[Option.bind_some]
 obtain⟨a,rest,hS⟩:∃a rest,r.Steps=a::rest:=by
  cases h:r.Steps with
  |nil=>rw[h] at h2;simp at h2
  |cons a rest=>exact⟨a,rest,rfl⟩
 have hd:r.Steps.drop 1=rest:=by rw[hS];rfl
 rw[hd]
 have hrl:r.Steps.length=rest.length+1:=by rw[hS];rfl
 have:=nu (B:=TF rest r l) (fun (s:List Int×Step) i=>(s.1,i)) rest (fun s i=>r.Steps[i]?=some s.2∧s.1.length≤i)
  (fun s q=>some (match Ag l s.2 q with|none=>([],11)|some z=>(s.1++z,0))) ?_ ?_ FUEL ([],a) 0 ⟨by rw[hS];rfl,by simp⟩ (by omega) (jh (by omega))
 ·simp only[List.nil_append,List.drop_zero] at this
  rw[this]
  unfold uD
  rw[hS]
  rfl
 ·rintro c ⟨s,p⟩ i x q ⟨hp,hsl⟩ hdr hi hx hc
  simp only at hp hsl
  simp only[TF]
  rw[if_pos (by simp;omega),hx]
  simp only[Option.bind_some]
  rw[mR,hp]
  simp only[Option.bind_some]
  rw[arP l p x hl]
  simp only[Option.bind_some,Ag]
  by_cases ht:(tr l p x).2=true
  ·rw[if_neg (by simp[ht]),cO (by simp;omega),if_pos ht]
   have hn:r.Steps[i+1]?=some x:=by
    rw[hS,List.getElem?_cons_succ]
    have:=hx
    rw[mR] at this
    exact this
   have h:=hc (s++[(tr l p x).1],x) ⟨hn,by simp;omega⟩
   simp only at h
   rw[h]
   cases Ag l x q with
   |none=>rfl
   |some z=>simp
  ·have hf:(tr l p x).2=false:=by simpa using ht
   rw[if_pos (by simp[hf]),if_neg ht]
 ·rintro c ⟨s,p⟩ _
  simp only[TF]
  rw[if_neg (by simp)]
  simp[ach,Ag]
theorem ap7(l:Layout)(r:aO)(hc:kR (fG l)=0)(h2:2≤r.Steps.length)(tV:r.Steps.length≤24)(ha:r.Steps.all (iR l)=true):
  Xk l r ()=some (if rF [] r.Steps=true then (([]:List Int),(5:Int)) else uD l r):=by
 have hf:=YR hc
 unfold Xk
 rw[apm (by omega) (by omega)]
 simp only[Option.bind_some]
 have:=nu (B:=TD r l) (fun (s:List Bool×List Int) i=>(s.1,i)) r.Steps (fun s _=>s.1.length=l.Sections.length∧∀x:Int,0≤x→x<l.Sections.length→(gb s.1 x=true↔x∈s.2))
  (fun s q=>some (if rF s.2 q=true then (([]:List Int),(5:Int)) else uD l r)) ?_ ?_ FUEL (List.replicate (l.Sections.length:Int).toNat false,[]) 0 ⟨by simp,fun x x0 x1=>by simp[aj5 _ _ x x0 (by omega)]⟩ (by omega) (jh (by omega))
 ·simp only[List.drop_zero] at this
  exact this
 ·rintro c ⟨s,seen⟩ i x q ⟨hl,hs⟩ hdr hi hx hk
  simp only at hl hs
  simp only[TD]
  have hm:x∈r.Steps:=List.mem_of_mem_drop (i:=i) (by rw[hdr];exact List.mem_cons_self)
  have hx1:iR l x=true:=List.all_eq_true.1 ha x hm
  unfold iR at hx1
  simp only[Bool.and_eq_true,Bool.or_eq_true,decide_eq_true_eq] at hx1
  rw[if_pos (by simp;omega),hx]
  simp only[Option.bind_some]
  have hb:idx s x.Section=some (gb s x.Section):=by
   have:x.Section.toNat<s.length:=by omega
   simp[idx,hx1.1.1,gb,this]
  rw[hb]
  simp only[Option.bind_some]
  have hdd:rF seen (x::q)=(decide (x.Section∈seen)||rF (x.Section::seen) q):=rfl
  have hg:=hs x.Section hx1.1.1 hx1.1.2
  by_cases hd:gb s x.Section=true
  ·rw[if_pos hd]
   rw[if_pos (show rF seen (x::q)=true by rw[hdd];simp[hg.1 hd])]
  ·rw[if_neg hd]
   have hn:¬x.Section∈seen:=fun h=>hd (hg.2 h)
   have h:=hk (s.set x.Section.toNat true,x.Section::seen) ⟨by simp[hl],fun z z0 z1=>by
    rw[aei _ _ _ _ hx1.1.1 z0 (by omega)]
    by_cases e:z=x.Section
    ·simp[e]
    ·rw[if_neg e,hs z z0 z1];simp[e]⟩
   simp only at h
   rw[h,hdd]
   simp[hn]
 ·rintro c ⟨s,seen⟩ _
  simp only[TD]
  rw[if_neg (by simp),ap8 l r (by omega) h2 tV]
  simp[rF]
theorem ap6(l:Layout)(r:aO):TH l r=some (jH l r):=by
 unfold TH Ri
 simp only[Option.bind_some]
 by_cases hc:kR (fG l)=0
 ·have hf:=YR hc
  have n1:¬kR (fG l)≠0:=by simp[hc]
  rw[if_neg (by simp[hc])]
  by_cases tV:24<r.Steps.length
  ·have e:jH l r=([],7):=by unfold jH;rw[if_neg n1,if_pos (.inl tV)]
   rw[e,if_pos (by simp;omega)]
   unfold Ox
   rw[if_pos (by simp;omega)]
  ·rw[if_neg (by simp;omega)]
   unfold Ox
   by_cases ho:2<r.Overlap
   ·have e:jH l r=([],7):=by unfold jH;rw[if_neg n1,if_pos (.inr ho)]
    rw[e,if_pos (by simp;omega)]
   ·rw[if_neg (by simp;omega)]
    unfold TG
    by_cases h0:r.Overlap<0
    ·have e:jH l r=([],4):=by unfold jH;rw[if_neg n1,if_neg (by omega),if_pos (.inl h0)]
     rw[e,if_pos (by simp;omega),if_pos (by simp;omega)]
    ·rw[if_neg (by simp;omega),cO (eB (by omega) (by omega))]
     by_cases h2:(r.Steps.length:Int)-r.Overlap<2
     ·have e:jH l r=([],4):=by unfold jH;rw[if_neg n1,if_neg (by omega),if_pos (.inr h2)]
      rw[e,if_pos (by simp;omega)]
     ·have e:jH l r=if r.Steps.all (iR l)=false then ([],4) else if rF [] r.Steps=true then ([],5) else uD l r:=by unfold jH;rw[if_neg n1,if_neg (by omega),if_neg (by omega)]
      rw[e,if_neg (by simp;omega)]
      have:=nu (B:=TB r l) (fun (_:Unit) i=>i) r.Steps (fun _ i=>(r.Steps.take i).all (iR l)=true)
       (fun _ q=>some (if q.all (iR l)=false then (([]:List Int),(4:Int)) else if rF [] r.Steps=true then ([],5) else uD l r)) ?_ ?_ FUEL () 0 (by simp) (by omega) (jh (by omega))
      ·simp only[List.drop_zero] at this
       exact this
      ·intro c _ i x q hI hdr hi hx hk
       simp only[TB]
       rw[if_pos (by simp;omega),hx]
       simp only[Option.bind_some,Xj]
       by_cases hb:iR l x=true
       ·have hb':=hb
        unfold iR at hb'
        rw[if_neg (by simp[hb'])]
        have ht:r.Steps.take (i+1)=r.Steps.take i++[x]:=by
         rw[List.take_succ_eq_append_getElem hi]
         rw[mR,List.getElem?_eq_getElem hi] at hx
         cases hx;rfl
        have h:=hk () (by rw[ht,List.all_append,hI];simp[hb])
        rw[h]
        simp[hb]
       ·have hb':=hb
        unfold iR at hb'
        rw[if_pos (by simp at hb' ⊢;omega)]
        simp[hb]
      ·intro c _ hI
       simp only[TB]
       rw[List.take_length] at hI
       rw[if_neg (by simp),ap7 l r hc (by omega) (by omega) hI]
       simp
 ·have e:jH l r=([],1):=by unfold jH;rw[if_pos hc]
  rw[e,if_pos (by simp[hc])]
theorem agT(l:Layout)(r:aO):Ov l r=some (jH l r).2:=by
 unfold Ov
 rw[ap6]
 rfl
end Go.Proofs.YtcalibhfgdncaaaGreatDoor
namespace Go.Proofs.YtcalibhfgdncaaaGreatDoor
open Go.Dc
theorem U5{s:Str}{i:Nat}(h:i<s.l.length):pK s (i:Int)=some (Go.gQ.bt s.ba i):=by
 simp[pK,Go.gQ.bt,Str.ba,h,idx]
theorem afu(c:Int):NU c=some (rH c):=by
 unfold NU rH
 rw[Bool.or_comm]
theorem ajy(c:Int):SA c=some (zH c):=rfl
theorem abh(s:Str):Kz s=some (lJ s.ba):=by
 unfold Kz lJ
 rw[Str.EX]
 by_cases h:1≤s.l.length∧s.l.length≤12
 ·have hg:(!(decide ((s.l.length:Int)<1)||decide (12<(s.l.length:Int))))=true:=by simp;omega
  rw[vH hg]
  have h0:=U5 (s:=s) (i:=0) (by omega)
  rw[show ((0:Nat):Int)=0 from rfl] at h0
  rw[h0]
  simp only[Option.bind_some]
  rw[vH hg,afu]
  simp only[Option.bind_some]
  by_cases hL:rH (Go.gQ.bt s.ba 0)=true
  ·rw[if_neg (by simp[hL];omega)]
   have:=nu (B:=Sv s) (fun (_:Unit) i=>i) (List.range s.l.length) (fun _ _=>True) (fun _ r=>some (r.all fun i=>rE (Go.gQ.bt s.ba i))) ?_ ?_ FUEL () 1 trivial (by simp;omega) (jh (by simp;omega))
   ·rw[this]
    have hr:List.range s.l.length=0::(List.range s.l.length).drop 1:=by
     have:=List.drop_eq_getElem_cons (l:=List.range s.l.length) (i:=0) (by simp;omega)
     simpa using this
    congr 1
    conv=>rhs;rw[hr]
    have hc0:rE (Go.gQ.bt s.ba 0)=true:=by unfold rE;simp[hL]
    simp[hL,h.1,h.2,hc0]
   ·intro c _ i x r _ hdr hi hx hk
    simp only[List.length_range] at hi
    have hxi:x=i:=by
     have:=List.getElem?_drop (xs:=List.range s.l.length) (i:=i) (j:=0)
     rw[hdr] at this
     simp[hi] at this
     omega
    subst hxi
    have hb:=U5 (s:=s) (i:=x) hi
    simp only[Sv]
    rw[if_pos (by simp;omega),hb]
    simp only[Option.bind_some]
    rw[afu]
    simp only[Option.bind_some]
    by_cases a1:rH (Go.gQ.bt s.ba x)=true
    ·rw[vF (by simp[a1])]
     simp only[Option.bind_some]
     rw[vF (by simp[a1])]
     simp only[Option.bind_some]
     rw[vF (by simp[a1])]
     simp only[Option.bind_some]
     rw[if_neg (by simp[a1]),cO (eB (by omega) (by omega)),hk () trivial]
     simp[rE,a1]
    ·have a1':rH (Go.gQ.bt s.ba x)=false:=by simpa using a1
     rw[vH (by simp[a1'])]
     simp only[Option.bind_some]
     rw[vH (by simp[a1']),ajy]
     simp only[Option.bind_some]
     by_cases a2:zH (Go.gQ.bt s.ba x)=true
     ·rw[vF (by simp[a2])]
      simp only[Option.bind_some]
      rw[if_neg (by simp[a2]),cO (eB (by omega) (by omega)),hk () trivial]
      simp[rE,a2]
     ·have Jb:zH (Go.gQ.bt s.ba x)=false:=by simpa using a2
      rw[vH (by simp[a1',Jb])]
      simp only[Option.bind_some]
      by_cases a3:Go.gQ.bt s.ba x=95
      ·rw[if_neg (by simp[a3]),cO (eB (by omega) (by omega)),hk () trivial]
       simp[rE,a3]
      ·rw[if_pos (by simp[a1',Jb,a3])]
       simp[rE,a1',Jb,a3]
   ·intro c _ _
    simp only[Sv]
    rw[if_neg (by simp)]
    rfl
  ·have hL':rH (Go.gQ.bt s.ba 0)=false:=by simpa using hL
   rw[if_pos (by simp[hL'])]
   simp[hL']
 ·have hg:(!(decide ((s.l.length:Int)<1)||decide (12<(s.l.length:Int))))=false:=by simp;omega
  rw[vF hg]
  simp only[Option.bind_some]
  rw[vF hg]
  simp only[Option.bind_some]
  rw[if_pos (by simp[Int.not_lt.mp,h]<;>omega)]
  have:(decide (1≤s.l.length)&&decide (s.l.length≤12))=false:=by simp;omega
  simp[this]
theorem afD{s:Str}{l:List Str}:s.ba∈l.map Str.ba↔s∈l:=by
 simp only[List.mem_map]
 constructor
 ·rintro⟨t,h,e⟩;rw[←Str.YJ e];exact h
 ·intro h;exact⟨s,h,rfl⟩
theorem afI(l:List Str)(i:Nat)(hi:i<l.length)(hl:l.length≤1000):H8 l i=some (nK l[i].ba ((l.take i).map Str.ba)):=by
 unfold H8 nK
 rw[mR,List.getElem?_eq_getElem hi]
 simp only[Option.bind_some]
 rw[abh]
 simp only[Option.bind_some]
 by_cases hn:lJ l[i].ba=true
 ·rw[if_neg (by simp[hn])]
  rw[if_neg (by simp[hn])]
  have hlt:(l.take i).length=i:=by rw[List.length_take];omega
  have:=nu (B:=SG i l) (fun (_:Unit) i=>i) (l.take i) (fun _ _=>True) (fun _ r=>some (if l[i]∈r then (5:Int) else 0)) ?_ ?_ FUEL () 0 trivial (by omega) (jh (by omega))
  ·simp only[List.drop_zero] at this
   rw[this]
   by_cases hm:l[i]∈l.take i
   ·rw[if_pos hm,if_pos (afD.2 hm)]
   ·rw[if_neg hm,if_neg (fun h=>hm (afD.1 h))]
  ·intro c _ j x r _ hdr hj hx hk
   simp only[SG]
   rw[hlt] at hj
   rw[if_pos (by simp;omega)]
   have hxj:idx l (j:Int)=some x:=by
    rw[mR] at hx ⊢
    rw[List.getElem?_take,if_pos hj] at hx
    exact hx
   rw[hxj]
   simp only[Option.bind_some]
   rw[mR,List.getElem?_eq_getElem hi]
   simp only[Option.bind_some]
   by_cases e:x=l[i]
   ·rw[if_pos (by simp[e])]
    simp[e]
   ·rw[if_neg (by simp[e]),cO (eB (by omega) (by omega)),hk () trivial]
    have e':¬l[i]=x:=fun h=>e h.symm
    simp[e']
  ·intro c _ _
   simp only[SG]
   rw[if_neg (by simp;omega)]
   rfl
 ·have hn':lJ l[i].ba=false:=by simpa using hn
  rw[if_pos (by simp[hn']),if_pos hn']
theorem aq7(l:Layout)(hl:l.Sections.length≤1000):NV l=some (l.Sections.map (·.Name)):=by
 unfold NV
 have:=nu (B:=SI l) (fun (s:List Str) i=>(s,i)) l.Sections (fun s i=>s.length≤i) (fun s r=>some (s++r.map (·.Name))) ?_ ?_ FUEL [] 0 (by simp) (by omega) (jh (by omega))
 ·simpa using this
 ·intro c s i x r hs hdr hi hx hk
  simp only[SI]
  rw[if_pos (by simp;omega),hx]
  simp only[Option.bind_some]
  rw[cO (by simp;omega),cO (eB (by omega) (by omega)),hk (s++[x.Name]) (by simp;omega)]
  simp
 ·intro c s _
  simp only[SI]
  rw[if_neg (by simp)]
  simp[abX]
end Go.Proofs.YtcalibhfgdncaaaGreatDoor
namespace Go.Proofs.YtcalibhfgdncaaaGreatDoor
open Go.Dc
theorem OT{α:Type}(g:Bool)(d v:α):fK g d (some v)=some (bif g then v else d):=by cases g<;>rfl
def hasB(x:pG)(k:Link):Bool:=(decide (k.A=x.rX)&&decide (k.dN=x.end_))||(decide (k.B=x.rX)&&decide (k.dV=x.end_))
theorem aeA(k:Link)(x:pG):NT k x=some (hasB x k):=rfl
def wM(k:Link):List Link→Bool
 |[]=>true
 |[y]=>(decide (0≤k.Point)&&decide (y.Point=k.Point))&&decide (y.Pos≠k.Pos)
 |_=>false
set_option maxRecDepth 100000 in
theorem aeh(l:Layout)(i:Nat)(hi:i<l.Links.length)(hl:l.Links.length≤1000)(x:pG):NS l i x=some (wM l.Links[i] ((l.Links.take i).filter (hasB x))):=by
 unfold NS
 rw[mR,List.getElem?_eq_getElem hi]
 simp only[Option.bind_some]
 have hlt:(l.Links.take i).length=i:=by rw[List.length_take];omega
 have:=nu (B:=SB i l x l.Links[i]) (fun (s:(Int×Int×Int×Int×Int×Int×Int)×List Link) j=>(s.1.1,s.1.2.1,s.1.2.2.1,s.1.2.2.2.1,s.1.2.2.2.2.1,s.1.2.2.2.2.2.1,s.1.2.2.2.2.2.2,j)) (l.Links.take i)
  (fun s j=>s.1.1=s.2.length∧s.2.length≤j∧∀y,s.2=[y]→s.1.2.2.2.2.2.1=y.Point∧s.1.2.2.2.2.2.2=y.Pos) (fun s r=>some (wM l.Links[i] (s.2++r.filter (hasB x)))) ?_ ?_ FUEL ((0,0,0,0,0,0,0),[]) 0 ⟨rfl,by simp,fun y h=>by simp at h⟩ (by omega) (jh (by omega))
 ·simpa using this
 ·rintro c ⟨⟨m,o0,o1,o2,o3,o4,o5⟩,ys⟩ j q r ⟨hm,hy,ho⟩ hdr hj hq hk
  simp only at hm hy ho
  simp only[SB]
  rw[hlt] at hj
  rw[if_pos (by simp;omega)]
  have hqj:idx l.Links (j:Int)=some q:=by
   rw[mR] at hq ⊢
   rw[List.getElem?_take,if_pos hj] at hq
   exact hq
  rw[hqj,Option.bind_some,aeA,Option.bind_some]
  by_cases hb:hasB x q=true
  ·rw[if_pos hb,Option.bind_some,cO (eB (by omega) (by omega))]
   simp only[NR]
   rw[cO (eB (by omega) (by omega))]
   have h:=hk ((m+1,q.A,q.dN,q.B,q.dV,q.Point,q.Pos),ys++[q]) ⟨by simp[hm],by simp;omega,fun y h=>by
    have:ys=[]:=by
     cases ys with
     |nil=>rfl
     |cons a t=>simp at h
    subst this
    simp at h
    subst h
    exact⟨rfl,rfl⟩⟩
   simp only at h
   rw[h,List.filter_cons_of_pos hb]
   simp
  ·rw[if_neg hb]
   simp only[NR]
   rw[cO (eB (by omega) (by omega))]
   have h:=hk ((m,o0,o1,o2,o3,o4,o5),ys) ⟨hm,by simp only;omega,ho⟩
   simp only at h
   rw[h,List.filter_cons_of_neg (by simpa using hb)]
 ·rintro c ⟨⟨m,o0,o1,o2,o3,o4,o5⟩,ys⟩ ⟨hm,hy,ho⟩
  simp only at hm hy ho
  simp only[SB]
  rw[if_neg (by simp;omega)]
  simp only[abS,List.filter_nil,List.append_nil]
  cases ys with
  |nil=>simp[hm,wM]
  |cons y t=>
   cases t with
   |nil=>
    have:=ho y rfl
    simp[hm,wM,this.1,this.2]
   |cons z t=>
    have h1:¬m=0:=by rw[hm];simp;omega
    have h2:¬m=1:=by rw[hm];simp;omega
    simp[h1,h2,wM]
def yU(l:Layout)(done:List Link)(k:Link):Int:=
 if oM (fG l) (jR k)=false then 4 else if k.A=k.B∧k.dN=k.dV then 1 else
 if done.any (fun q=>hasB ⟨k.A,k.dN⟩ q&&hasB ⟨k.B,k.dV⟩ q)=true then 5 else
 if (!wM k (done.filter (hasB ⟨k.A,k.dN⟩))|| !wM k (done.filter (hasB ⟨k.B,k.dV⟩)))=true then 11 else 0
theorem aos:∀y6 y9 eU y13 qw jW z:Bool,
 (((((((!y6)||(!(bif (!(!y6)) then y9 else default)))||(!(bif (!((!y6)||(!(bif (!(!y6)) then y9 else default)))) then eU else default)))||(!(bif (!(((!y6)||(!(bif (!(!y6)) then y9 else default)))||(!(bif (!((!y6)||(!(bif (!(!y6)) then y9 else default)))) then eU else default)))) then y13 else default)))||(!(bif (!((((!y6)||(!(bif (!(!y6)) then y9 else default)))||(!(bif (!((!y6)||(!(bif (!(!y6)) then y9 else default)))) then eU else default)))||(!(bif (!(((!y6)||(!(bif (!(!y6)) then y9 else default)))||(!(bif (!((!y6)||(!(bif (!(!y6)) then y9 else default)))) then eU else default)))) then y13 else default)))) then qw else default)))||(!(bif (!(((((!y6)||(!(bif (!(!y6)) then y9 else default)))||(!(bif (!((!y6)||(!(bif (!(!y6)) then y9 else default)))) then eU else default)))||(!(bif (!(((!y6)||(!(bif (!(!y6)) then y9 else default)))||(!(bif (!((!y6)||(!(bif (!(!y6)) then y9 else default)))) then eU else default)))) then y13 else default)))||(!(bif (!((((!y6)||(!(bif (!(!y6)) then y9 else default)))||(!(bif (!((!y6)||(!(bif (!(!y6)) then y9 else default)))) then eU else default)))||(!(bif (!(((!y6)||(!(bif (!(!y6)) then y9 else default)))||(!(bif (!((!y6)||(!(bif (!(!y6)) then y9 else default)))) then eU else default)))) then y13 else default)))) then qw else default)))) then jW else default)))||z)= !(y6&&y9&&eU&&y13&&qw&&jW&& !z):=by decide
theorem ao9(l:Layout)(i:Nat)(hi:i<l.Links.length)(hl:l.Links.length≤1000)(hs:l.Sections.length≤1000)(hp:l.bG.length≤1000):SF l i=some (yU l (l.Links.take i) l.Links[i]):=by
 have hlt:(l.Links.take i).length=i:=by rw[List.length_take];omega
 unfold SF
 rw[mR,List.getElem?_eq_getElem hi]
 generalize hK:l.Links[i]=k
 simp only[Option.bind_some]
 have hi1:bJ ((l.Sections.length:Int)-1)=true:=eB (by omega) (by omega)
 have hi2:bJ ((l.bG.length:Int)-1)=true:=eB (by omega) (by omega)
 simp only[hi1,hi2,Bool.or_true,cO rfl,zf,Option.bind_some,OT]
 rw[aos]
 have hB:((decide (0≤k.A)&&decide (k.A≤(l.Sections.length:Int)-1))&&(decide (0≤k.B)&&decide (k.B≤(l.Sections.length:Int)-1))&&(decide (0≤k.dN)&&decide (k.dN≤1))&&(decide (0≤k.dV)&&decide (k.dV≤1))&&(decide (-1≤k.Point)&&decide (k.Point≤(l.bG.length:Int)-1))&&(decide (0≤k.Pos)&&decide (k.Pos≤1))&& !(decide (k.Point<0)&&decide (k.Pos≠0)))=oM (fG l) (jR k):=by
  rw[Bool.eq_iff_iff]
  unfold oM jR fG
  simp only[List.length_map,Bool.and_eq_true,Bool.or_eq_true,Bool.not_eq_true',decide_eq_true_eq,Bool.and_eq_false_iff,decide_eq_false_iff_not]
  omega
 rw[hB]
 unfold yU
 by_cases h4:oM (fG l) (jR k)=false
 ·rw[if_pos (by simp[h4]),if_pos h4]
 ·have h4':oM (fG l) (jR k)=true:=by simpa using h4
  rw[if_neg (by simp[h4']),if_neg h4]
  unfold WG
  by_cases h1:k.A=k.B∧k.dN=k.dV
  ·rw[if_pos (by simp[h1.1,h1.2]),if_pos h1]
  ·rw[if_neg (by simpa using h1),if_neg h1]
   have:=nu (B:=SE i l k) (fun (_:Unit) j=>j) (l.Links.take i) (fun _ _=>True)
    (fun _ r=>some (if r.any (fun q=>hasB ⟨k.A,k.dN⟩ q&&hasB ⟨k.B,k.dV⟩ q)=true then (5:Int) else if (!wM k ((l.Links.take i).filter (hasB ⟨k.A,k.dN⟩))|| !wM k ((l.Links.take i).filter (hasB ⟨k.B,k.dV⟩)))=true then 11 else 0)) ?_ ?_ FUEL () 0 trivial (by omega) (jh (by omega))
   ·simp only[List.drop_zero] at this
    exact this
   ·intro c _ j q r _ hdr hj hq hk
    simp only[SE]
    rw[hlt] at hj
    rw[if_pos (by simp;omega)]
    have hqj:idx l.Links (j:Int)=some q:=by
     rw[mR] at hq ⊢
     rw[List.getElem?_take,if_pos hj] at hq
     exact hq
    rw[hqj]
    simp only[Option.bind_some,aeA,OT]
    by_cases h5:(hasB ⟨k.A,k.dN⟩ q&&hasB ⟨k.B,k.dV⟩ q)=true
    ·simp only[Bool.and_eq_true] at h5
     rw[if_pos (by simp[h5.1,h5.2]),if_pos (by simp[h5.1,h5.2])]
    ·have h5':(hasB ⟨k.A,k.dN⟩ q&&hasB ⟨k.B,k.dV⟩ q)=false:=by simpa using h5
     rw[if_neg (by
      cases e:hasB ⟨k.A,k.dN⟩ q with
      |false=>simp
      |true=>rw[e] at h5';simp at h5' ⊢;exact h5'),cO (eB (by omega) (by omega)),hk () trivial]
     simp only[List.any_cons,h5',Bool.false_or]
   ·intro c _ _
    simp only[SE]
    rw[if_neg (by simp;omega)]
    simp only[abU]
    have f1:=aeh l i hi hl ⟨k.A,k.dN⟩
    have f2:=aeh l i hi hl ⟨k.B,k.dV⟩
    rw[hK] at f1 f2
    rw[f1]
    simp only[Option.bind_some]
    rw[f2,OT]
    simp only[Option.bind_some,List.any_nil,Bool.false_eq_true,if_false]
    generalize wM k ((l.Links.take i).filter (hasB ⟨k.A,k.dN⟩))=p
    generalize wM k ((l.Links.take i).filter (hasB ⟨k.B,k.dV⟩))=q
    cases p<;>cases q<;>rfl
theorem ao8(l:Layout)(done:List Link)(k:Link)(r:List fQ)(hd:∀q∈done,oM (fG l) (jR q)=true):
  pQ (fG l) (done.map jR) (jR k::r)=if yU l done k≠0 then yU l done k else pQ (fG l) ((done++[k]).map jR) r:=by
 have L:pQ (fG l) (done.map jR) (jR k::r)=(if oM (fG l) (jR k)=false then 4 else if k.A=k.B∧k.dN=k.dV then 1 else
   if (atEnd (done.map jR) (2*k.A+k.dN)).any (JJ k.A k.dN k.B k.dV)=true then 5 else
   if xK (jR k) (atEnd (done.map jR) (2*k.A+k.dN))=false∨xK (jR k) (atEnd (done.map jR) (2*k.B+k.dV))=false then 11 else pQ (fG l) (done.map jR++[jR k]) r):=rfl
 rw[L]
 by_cases h4:oM (fG l) (jR k)=false
 ·have e:yU l done k=4:=by unfold yU;rw[if_pos h4]
  rw[if_pos h4,e];rfl
 ·have h4':oM (fG l) (jR k)=true:=by simpa using h4
  rw[if_neg h4]
  have hkk:0≤k.A∧0≤k.B∧(k.dN=0∨k.dN=1)∧(k.dV=0∨k.dV=1)∧ -1≤k.Point:=by
   unfold oM jR at h4'
   simp only[Bool.and_eq_true,Bool.or_eq_true,decide_eq_true_eq] at h4'
   omega
  by_cases h1:k.A=k.B∧k.dN=k.dV
  ·have e:yU l done k=1:=by unfold yU;rw[if_neg h4,if_pos h1]
   rw[if_pos h1,e];rfl
  ·rw[if_neg h1]
   have hq:∀q∈done,0≤q.A∧0≤q.B∧(q.dN=0∨q.dN=1)∧(q.dV=0∨q.dV=1):=by
    intro q hm
    have:=hd q hm
    unfold oM jR at this
    simp only[Bool.and_eq_true,Bool.or_eq_true,decide_eq_true_eq] at this
    omega
   have Za:∀(a e:Int),0≤a→(e=0∨e=1)→atEnd (done.map jR) (2*a+e)=(done.filter (hasB ⟨a,e⟩)).map jR:=by
    intro a e ha he
    unfold atEnd
    rw[List.filter_map]
    congr 1
    refine List.filter_congr fun q hm=>?_
    have:=hq q hm
    rw[Bool.eq_iff_iff]
    show (decide (2*q.A+q.dN=2*a+e)||decide (2*q.B+q.dV=2*a+e))=true↔((decide (q.A=a)&&decide (q.dN=e))||(decide (q.B=a)&&decide (q.dV=e)))=true
    simp only[Bool.or_eq_true,Bool.and_eq_true,decide_eq_true_eq]
    omega
   have fit:∀ys:List Link,xK (jR k) (ys.map jR)=wM k ys:=by
    intro ys
    cases ys with
    |nil=>rfl
    |cons y t=>
     cases t with
     |nil=>
      rw[Bool.eq_iff_iff]
      show ((decide (k.Point≠ -1)&&decide (k.Point=y.Point))&&decide (k.Pos≠y.Pos))=true↔((decide (0≤k.Point)&&decide (y.Point=k.Point))&&decide (y.Pos≠k.Pos))=true
      simp only[Bool.and_eq_true,decide_eq_true_eq]
      omega
     |cons z t=>rfl
   have e5:((atEnd (done.map jR) (2*k.A+k.dN)).any (JJ k.A k.dN k.B k.dV)=true)↔(done.any (fun q=>hasB ⟨k.A,k.dN⟩ q&&hasB ⟨k.B,k.dV⟩ q)=true):=by
    rw[Za k.A k.dN hkk.1 hkk.2.2.1,List.any_map,List.any_filter]
    simp only[List.any_eq_true]
    constructor
    ·rintro⟨q,hm,hj⟩
     refine⟨q,hm,?_⟩
     have hj':(((decide (q.A=k.A)&&decide (q.dN=k.dN))||(decide (q.B=k.A)&&decide (q.dV=k.dN)))&&((decide (k.A=q.A∧k.dN=q.dN)&&decide (k.B=q.B∧k.dV=q.dV))||(decide (k.A=q.B∧k.dN=q.dV)&&decide (k.B=q.A∧k.dV=q.dN))))=true:=hj
     show (((decide (q.A=k.A)&&decide (q.dN=k.dN))||(decide (q.B=k.A)&&decide (q.dV=k.dN)))&&((decide (q.A=k.B)&&decide (q.dN=k.dV))||(decide (q.B=k.B)&&decide (q.dV=k.dV))))=true
     simp only[Bool.or_eq_true,Bool.and_eq_true,decide_eq_true_eq] at hj' ⊢
     omega
    ·rintro⟨q,hm,hj⟩
     refine⟨q,hm,?_⟩
     have hj':(((decide (q.A=k.A)&&decide (q.dN=k.dN))||(decide (q.B=k.A)&&decide (q.dV=k.dN)))&&((decide (q.A=k.B)&&decide (q.dN=k.dV))||(decide (q.B=k.B)&&decide (q.dV=k.dV))))=true:=hj
     show (((decide (q.A=k.A)&&decide (q.dN=k.dN))||(decide (q.B=k.A)&&decide (q.dV=k.dN)))&&((decide (k.A=q.A∧k.dN=q.dN)&&decide (k.B=q.B∧k.dV=q.dV))||(decide (k.A=q.B∧k.dN=q.dV)&&decide (k.B=q.A∧k.dV=q.dN))))=true
     simp only[Bool.or_eq_true,Bool.and_eq_true,decide_eq_true_eq] at hj' ⊢
     omega
   by_cases h5:done.any (fun q=>hasB ⟨k.A,k.dN⟩ q&&hasB ⟨k.B,k.dV⟩ q)=true
   ·have e:yU l done k=5:=by unfold yU;rw[if_neg h4,if_neg h1,if_pos h5]
    rw[if_pos (e5.2 h5),e];rfl
   ·have e:yU l done k=if (!wM k (done.filter (hasB ⟨k.A,k.dN⟩))|| !wM k (done.filter (hasB ⟨k.B,k.dV⟩)))=true then 11 else 0:=by unfold yU;rw[if_neg h4,if_neg h1,if_neg h5]
    rw[if_neg (fun h=>h5 (e5.1 h)),e]
    rw[Za _ _ hkk.1 hkk.2.2.1,Za _ _ hkk.2.1 hkk.2.2.2.1,fit,fit]
    generalize wM k (done.filter (hasB ⟨k.A,k.dN⟩))=p
    generalize wM k (done.filter (hasB ⟨k.B,k.dV⟩))=q
    rw[List.map_append]
    cases p<;>cases q<;>rfl
theorem apc(l:Layout)(hl:l.Links.length≤1000)(hs:l.Sections.length≤1000)(hp:l.bG.length≤1000):Ww l ()=some (pQ (fG l) [] (l.Links.map jR)):=by
 unfold Ww
 have:=nu (B:=Sj l) (fun (_:List Link) j=>j) l.Links (fun s i=>s=l.Links.take i∧∀q∈s,oM (fG l) (jR q)=true) (fun s r=>some (pQ (fG l) (s.map jR) (r.map jR))) ?_ ?_ FUEL [] 0 ⟨rfl,fun q h=>by simp at h⟩ (by omega) (jh (by omega))
 ·simpa using this
 ·rintro c s i k r ⟨hs',hq⟩ hdr hi hx hk
  simp only[Sj]
  have hki:l.Links[i]=k:=by
   rw[mR,List.getElem?_eq_getElem hi] at hx
   exact Option.some.inj hx
  rw[if_pos (by simp;omega),ao9 l i hi hl hs hp,hki,←hs']
  simp only[Option.bind_some,List.map_cons]
  rw[ao8 l s k _ hq]
  by_cases h0:yU l s k=0
  ·rw[if_neg (by simp[h0]),if_neg (by simp[h0]),cO (eB (by omega) (by omega))]
   have hb:oM (fG l) (jR k)=true:=by
    unfold yU at h0
    by_cases h4:oM (fG l) (jR k)=false
    ·rw[if_pos h4] at h0;cases h0
    ·simpa using h4
   exact hk (s++[k]) ⟨by rw[hs',List.take_succ_eq_append_getElem hi,hki],fun q hm=>by
    rcases List.mem_append.1 hm with h|h
    ·exact hq q h
    ·simp at h;rw[h];exact hb⟩
  ·rw[if_pos (by simp[h0]),if_pos h0]
 ·rintro c s ⟨hs',_⟩
  simp only[Sj]
  rw[if_neg (by simp)]
  rfl
theorem afG{B:(Nat→Option Int)→Nat→Option Int}(l:List Str)(K:Option Int)(hl:l.length≤1000)
  (hB:∀c i,B c i=if decide ((i:Int)<(l.length:Int)) then ((H8 l (i:Int)).bind fun y=>if decide (y≠0) then (some y) else (bq (bJ ((i:Int)+1))<|c (i+1))) else K):
  iter B FUEL 0=if kr [] (l.map Str.ba)≠0 then some (kr [] (l.map Str.ba)) else K:=by
 have:=nu (B:=B) (fun (_:List Str) j=>j) l (fun s i=>s=l.take i) (fun s r=>if kr (s.map Str.ba) (r.map Str.ba)≠0 then some (kr (s.map Str.ba) (r.map Str.ba)) else K) ?_ ?_ FUEL [] 0 rfl (by omega) (jh (by omega))
 ·simpa using this
 ·intro c s i x r hs hdr hi hx hk
  have hxi:l[i]=x:=by
   rw[mR,List.getElem?_eq_getElem hi] at hx
   exact Option.some.inj hx
  rw[hB,if_pos (by simp;omega),afI l i hi hl,hxi,←hs]
  simp only[Option.bind_some,List.map_cons,kr]
  by_cases h0:nK x.ba (s.map Str.ba)=0
  ·rw[if_neg (by simp[h0]),cO (eB (by omega) (by omega)),hk (s++[x]) (by rw[hs,List.take_succ_eq_append_getElem hi,hxi])]
   simp[h0]
  ·rw[if_pos (by simp[h0])]
   simp[h0]
 ·intro c s _
  rw[hB,if_neg (by simp)]
  simp[kr]
theorem ara(l:Layout)(hl:l.Links.length≤1000)(hs:l.Sections.length≤1000)(hp:l.bG.length≤1000)(ht:l.aU.length≤1000):
  Sm l ()=if mO l.aU.length [] (l.Sections.map pX)≠0 then some (mO l.aU.length [] (l.Sections.map pX)) else some (pQ (fG l) [] (l.Links.map jR)):=by
 unfold Sm
 rw[aq7 l hs]
 simp only[Option.bind_some]
 have:=nu (B:=Si l (l.Sections.map (·.Name))) (fun (_:List Section) j=>j) l.Sections (fun s i=>s=l.Sections.take i)
  (fun s r=>if mO l.aU.length (s.map (·.Name.ba)) (r.map pX)≠0 then some (mO l.aU.length (s.map (·.Name.ba)) (r.map pX)) else some (pQ (fG l) [] (l.Links.map jR))) ?_ ?_ FUEL [] 0 rfl (by omega) (jh (by omega))
 ·simpa using this
 ·intro c s i x r hs' hdr hi hx hk
  have hxi:l.Sections[i]=x:=by
   rw[mR,List.getElem?_eq_getElem hi] at hx
   exact Option.some.inj hx
  simp only[Si]
  have hn:=afI (l.Sections.map (·.Name)) i (by simpa using hi) (by simpa using hs)
  have hnm:((l.Sections.map (·.Name)).take i).map Str.ba=s.map (·.Name.ba):=by rw[←List.map_take,←hs',List.map_map];rfl
  rw[hnm] at hn
  simp only[List.getElem_map,hxi] at hn
  rw[if_pos (by simp;omega),hn]
  simp only[Option.bind_some,List.map_cons,mO]
  have hsn:(pX x).name=x.Name.ba:=rfl
  rw[hsn]
  by_cases h0:nK x.Name.ba (s.map (·.Name.ba))=0
  ·rw[if_neg (by simp[h0]),hx]
   have hi2:bJ ((l.aU.length:Int)-1)=true:=eB (by omega) (by omega)
   simp only[hi2,Bool.or_true,cO rfl,zf,Option.bind_some,OT]
   have hB:((((!(decide (1≤x.Length)&&decide (x.Length≤400)))||(!(bif (!(!(decide (1≤x.Length)&&decide (x.Length≤400)))) then (decide (1000≤x.Limit)&&decide (x.Limit≤100000)) else default)))||(!(bif (!((!(decide (1≤x.Length)&&decide (x.Length≤400)))||(!(bif (!(!(decide (1≤x.Length)&&decide (x.Length≤400)))) then (decide (1000≤x.Limit)&&decide (x.Limit≤100000)) else default)))) then (decide ((-40)≤x.jQ)&&decide (x.jQ≤40)) else default)))||(!(bif (!(((!(decide (1≤x.Length)&&decide (x.Length≤400)))||(!(bif (!(!(decide (1≤x.Length)&&decide (x.Length≤400)))) then (decide (1000≤x.Limit)&&decide (x.Limit≤100000)) else default)))||(!(bif (!((!(decide (1≤x.Length)&&decide (x.Length≤400)))||(!(bif (!(!(decide (1≤x.Length)&&decide (x.Length≤400)))) then (decide (1000≤x.Limit)&&decide (x.Limit≤100000)) else default)))) then (decide ((-40)≤x.jQ)&&decide (x.jQ≤40)) else default)))) then (decide ((-1)≤x.nG)&&decide (x.nG≤(l.aU.length:Int)-1)) else default)))= !xq l.aU.length (pX x):=by
    have ch:∀a b d e:Bool,((((!a)||(!(bif (!(!a)) then b else default)))||(!(bif (!((!a)||(!(bif (!(!a)) then b else default)))) then d else default)))||(!(bif (!(((!a)||(!(bif (!(!a)) then b else default)))||(!(bif (!((!a)||(!(bif (!(!a)) then b else default)))) then d else default)))) then e else default)))= !(a&&b&&d&&e):=by decide
    rw[ch]
    congr 1
    rw[Bool.eq_iff_iff]
    unfold xq pX
    simp only[Bool.and_eq_true,decide_eq_true_eq]
    omega
   rw[hB]
   by_cases h4:xq l.aU.length (pX x)=false
   ·rw[if_pos (by simp[h4])]
    simp[h0,h4]
   ·have h4':xq l.aU.length (pX x)=true:=by simpa using h4
    rw[if_neg (by simp[h4']),cO (eB (by omega) (by omega)),hk (s++[x]) (by rw[hs',List.take_succ_eq_append_getElem hi,hxi])]
    simp[h0,h4']
  ·rw[if_pos (by simp[h0])]
   simp[h0]
 ·intro c s _
  simp only[Si]
  rw[if_neg (by simp),apc l hl hs hp]
  simp[mO]
theorem adS(l:Layout):Kw l=some (kR (fG l)):=by
 unfold Kw kR
 by_cases hf:vQ (fG l)=true
 ·rw[if_pos hf]
  unfold vQ fG at hf
  simp only[List.length_map,decide_eq_true_eq] at hf
  rw[if_pos (by simp;omega)]
 ·rw[if_neg hf]
  unfold vQ fG at hf
  simp only[List.length_map,decide_eq_true_eq] at hf
  rw[if_neg (by simp;omega)]
  have h0':(fG l).sections.length=l.Sections.length:=by simp[fG]
  by_cases h0:l.Sections.length=0
  ·rw[if_pos (by simp[h0]),if_pos (by rw[h0'];exact h0)]
  ·have h0i:¬((l.Sections.length:Int)=0):=by omega
   rw[if_neg (by rw[decide_eq_true_eq];exact h0i),if_neg (by rw[h0'];exact h0)]
   rw[afG (B:=abG l) l.aU (Wv l ()) (by omega) (fun c i=>rfl)]
   have e1:(fG l).nU=l.aU.map Str.ba:=rfl
   have e2:(fG l).points=l.bG.map Str.ba:=rfl
   have e3:(fG l).sections=l.Sections.map pX:=rfl
   have e4:(fG l).links=l.Links.map jR:=rfl
   rw[e1,e2,e3,e4,List.length_map]
   by_cases hn:kr [] (l.aU.map Str.ba)=0
   ·rw[if_neg (by simp[hn]),if_neg (by simp[hn])]
    unfold Wv
    rw[afG (B:=abH l) l.bG (Sm l ()) (by omega) (fun c i=>rfl)]
    by_cases hn2:kr [] (l.bG.map Str.ba)=0
    ·rw[if_neg (by simp[hn2]),if_neg (by simp[hn2]),ara l (by omega) (by omega) (by omega) (by omega)]
     by_cases Vv:mO l.aU.length [] (l.Sections.map pX)=0
     ·rw[if_neg (by simp[Vv]),if_neg (by simp[Vv])]
     ·rw[if_pos Vv,if_pos Vv]
    ·rw[if_pos hn2,if_pos hn2]
   ·rw[if_pos hn,if_pos hn]
end Go.Proofs.YtcalibhfgdncaaaGreatDoor
namespace Go.Proofs.YtcalibhfgdncaaaGreatDoor
open Go.Dc
theorem aa9(L:Lay):∀(ks done:List fQ),pQ L done ks=0→∀k∈ks,oM L k=true∧¬(k.a=k.b∧k.lS=k.mQ)
 |[],_,_,k,hm=>by simp at hm
 |q::ks,done,h,k,hm=>by
  unfold pQ at h
  by_cases h4:oM L q=false
  ·rw[if_pos h4] at h;cases h
  ·rw[if_neg h4] at h
   by_cases h1:q.a=q.b∧q.lS=q.mQ
   ·rw[if_pos h1] at h;cases h
   ·rw[if_neg h1] at h
    split at h
    ·cases h
    ·split at h
     ·cases h
     ·rcases List.mem_cons.1 hm with e|e
      ·subst e;exact⟨by simpa using h4,h1⟩
      ·exact aa9 L ks _ h k e
theorem acr(n:Nat):∀(ss:List mZ) (seen:List ByteArray),mO n seen ss=0→∀s∈ss,xq n s=true
 |[],_,_,s,hm=>by simp at hm
 |q::ss,seen,h,s,hm=>by
  unfold mO at h
  by_cases h1:nK q.name seen≠0
  ·rw[if_pos h1] at h;exact absurd h h1
  ·rw[if_neg h1] at h
   by_cases h4:xq n q=false
   ·rw[if_pos h4] at h;cases h
   ·rw[if_neg h4] at h
    rcases List.mem_cons.1 hm with e|e
    ·subst e;simpa using h4
    ·exact acr n ss _ h s e
structure Val(l:Layout):Prop where
 full:l.aU.length≤24∧l.bG.length≤48∧l.Sections.length≤96∧l.Links.length≤192∧0<l.Sections.length
 secs:∀s∈l.Sections,1≤s.Length∧s.Length≤400∧1000≤s.Limit∧s.Limit≤100000∧ -40≤s.jQ∧s.jQ≤40
 links:∀k∈l.Links,(0≤k.A∧k.A<l.Sections.length)∧(0≤k.B∧k.B<l.Sections.length)∧(k.dN=0∨k.dN=1)∧(k.dV=0∨k.dV=1)∧(-1≤k.Point∧k.Point<l.bG.length)∧¬(k.A=k.B∧k.dN=k.dV)
theorem Ya{l:Layout}(h:kR (fG l)=0):Val l:=by
 have hf:=YR h
 unfold kR at h
 split at h
 ·cases h
 split at h
 ·cases h
 split at h
 ·rename_i h1;exact absurd h h1
 split at h
 ·rename_i h1;exact absurd h h1
 split at h
 ·rename_i h1;exact absurd h h1
 rename_i hs
 simp only[Decidable.not_not] at hs
 refine⟨hf,fun s hm=>?_,fun k hm=>?_⟩
 ·have:=acr _ _ _ hs (pX s) (List.mem_map.2 ⟨s,hm,rfl⟩)
  unfold xq pX at this
  simp only[Bool.and_eq_true,decide_eq_true_eq] at this
  omega
 ·have:=aa9 _ _ _ h (jR k) (List.mem_map.2 ⟨k,hm,rfl⟩)
  have h1:=this.1
  have h2:¬(k.A=k.B∧k.dN=k.dV):=this.2
  unfold oM jR fG at h1
  simp only[List.length_map,Bool.and_eq_true,Bool.or_eq_true,decide_eq_true_eq] at h1
  exact⟨by omega,by omega,by omega,by omega,by omega,h2⟩
def Jz(k:Link)(x y:Int):Option Hop:=if 0≤x then some ⟨⟨x,if y=1 then 1 else 0⟩,k.Point,k.Pos⟩ else none
def zQ(s:Step)(k:Link):Option Hop:=
 if k.A=s.Section∧k.dN=(if s.Dir=1 then 0 else 1) then Jz k k.B k.dV
 else if k.B=s.Section∧k.dV=(if s.Dir=1 then 0 else 1) then Jz k k.A k.dN else none
def JA(l:Layout)(s:Step):List Hop:=l.Links.filterMap (zQ s)
theorem ZV(lh:List Hop)(k:Link)(i:Nat)(c:(List Hop×Nat)→Option (List Hop))(x y:Int)(hl:lh.length≤1000)(hi:i≤1000):
  Ew lh k i c (x,y)=c (lh++(Jz k x y).toList,i+1):=by
 simp only[Ew,Jz]
 by_cases h0:0≤x
 ·rw[if_pos (by simpa using h0),if_pos h0]
  by_cases h1:y=1
  ·rw[if_pos (by simpa using h1),if_pos h1]
   simp only[NP,Ky]
   rw[cO (by simp;omega),cO (eB (by omega) (by omega))]
   rfl
  ·rw[if_neg (by simpa using h1),if_neg h1]
   simp only[NP,Ky]
   rw[cO (by simp;omega),cO (eB (by omega) (by omega))]
   rfl
 ·rw[if_neg (by simpa using h0),if_neg h0]
  simp only[Ky]
  rw[cO (eB (by omega) (by omega))]
  simp
theorem amw(l:Layout)(s:Step)(hl:l.Links.length≤1000):Sr l s=some (JA l s):=by
 have key:∀e:Int,e=(if s.Dir=1 then 0 else 1)→NM l s e=some (JA l s):=by
  intro e he
  unfold NM JA
  have:=nu (B:=Sq l s e) (fun (q:List Hop) i=>(q,i)) l.Links (fun q i=>q.length≤i) (fun q r=>some (q++r.filterMap (zQ s))) ?_ ?_ FUEL [] 0 (by simp) (by omega) (jh (by omega))
  ·simpa using this
  ·intro c q i k r hq hdr hi hx hk
   simp only[Sq]
   rw[if_pos (by simp;omega),hx,Option.bind_some]
   have hh:(if (decide (k.A=s.Section)&&decide (k.dN=e))=true then Ew q k i c (k.B,k.dV) else if (decide (k.B=s.Section)&&decide (k.dV=e))=true then Ew q k i c (k.A,k.dN) else Ew q k i c (-1,0))=c (q++(zQ s k).toList,i+1):=by
    unfold zQ
    rw[←he]
    by_cases h1:k.A=s.Section∧k.dN=e
    ·rw[if_pos (by simpa using h1),if_pos h1,ZV _ _ _ _ _ _ (by omega) (by omega)]
    ·rw[if_neg (by simpa using h1),if_neg h1]
     by_cases h2:k.B=s.Section∧k.dV=e
     ·rw[if_pos (by simpa using h2),if_pos h2,ZV _ _ _ _ _ _ (by omega) (by omega)]
     ·rw[if_neg (by simpa using h2),if_neg h2,ZV _ _ _ _ _ _ (by omega) (by omega)]
      rfl
   rw[hh,hk _ (by cases zQ s k<;>simp<;>omega)]
   cases h:zQ s k with
   |none=>simp[List.filterMap_cons,h]
   |some z=>simp[List.filterMap_cons,h]
  ·intro c q _
   simp only[Sq]
   rw[if_neg (by simp)]
   simp[abJ]
 unfold Sr
 by_cases h1:s.Dir=1
 ·rw[if_pos (by simpa using h1)];exact key 0 (by rw[if_pos h1])
 ·rw[if_neg (by simpa using h1)];exact key 1 (by rw[if_neg h1])
def Mx(l:Layout)(a b:Step):Hop×Bool:=
 match (JA l a).find? (fun h=>decide (h.To=b)) with
 |some h=>(h,true)
 |none=>(Hop.mk (Step.mk 0 0) 0 0,false)
theorem aoK(l:Layout)(a b:Step)(hl:l.Links.length≤1000):S9 l a b=some (Mx l a b):=by
 unfold S9 Mx
 rw[amw l a hl,Option.bind_some]
 have hlen:(JA l a).length≤1000:=Nat.le_trans (List.length_filterMap_le _ _) hl
 generalize JA l a=hs at hlen
 have:=nu (B:=SY hs b) (fun (_:Unit) i=>i) hs (fun _ _=>True) (fun _ r=>some (match r.find? (fun h=>decide (h.To=b)) with|some h=>(h,true)|none=>(Hop.mk (Step.mk 0 0) 0 0,false))) ?_ ?_ FUEL () 0 trivial (by omega) (jh (by omega))
 ·simpa using this
 ·intro c _ i x r _ hdr hi hx hk
  simp only[SY]
  rw[if_pos (by simp;omega),hx,Option.bind_some,Option.bind_some]
  by_cases h:x.To=b
  ·rw[if_pos (by simpa using h)]
   simp[List.find?_cons,h]
  ·rw[if_neg (by simpa using h),cO (eB (by omega) (by omega)),hk () trivial]
   simp[List.find?_cons,h]
 ·intro c _ _
  simp only[SY]
  rw[if_neg (by simp)]
  rfl
theorem aoJ{l:Layout}(v:Val l){a b:Step}(ha:iR l a=true)(hb:iR l b=true):tr l a b=((Mx l a b).1.Point,(Mx l a b).2):=by
 unfold iR at ha hb
 simp only[Bool.and_eq_true,Bool.or_eq_true,decide_eq_true_eq] at ha hb
 unfold tr Mx JA
 have key:∀ks:List Link,(∀k∈ks,k∈l.Links)→OJ (qF a) (qF (Am b)) ks=(match (ks.filterMap (zQ a)).find? (fun h=>decide (h.To=b)) with|some h=>(h.Point,true)|none=>(0,false)):=by
  intro ks
  induction ks with
  |nil=>intro _;rfl
  |cons k ks ih=>
   intro hk
   have vk:=v.links k (hk k List.mem_cons_self)
   have ih':=ih (fun q h=>hk q (List.mem_cons_of_mem _ h))
   have hl1:qF a=⟨a.Section,if a.Dir=1 then 0 else 1⟩:=by
    unfold qF
    rcases ha.2 with h|h
    ·rw[if_pos h,if_neg (by omega)]
    ·rw[if_neg (by omega),if_pos h]
   have hl2:qF (Am b)=⟨b.Section,b.Dir⟩:=by
    unfold qF Am
    rcases hb.2 with h|h
    ·simp[h]
    ·simp[h]
   have hstep:∀(x y:Int),(y=0∨y=1)→((Step.mk x (if y=1 then 1 else 0)=b)↔(x=b.Section∧y=b.Dir)):=by
    intro x y hy
    obtain⟨bs,bd⟩:=b
    simp only[Step.mk.injEq]
    rcases hy with h|h<;>simp[h]
   have hj:MB (qF a) (qF (Am b)) k=true↔∃h,zQ a k=some h∧h.To=b:=by
    rw[hl1,hl2]
    unfold MB
    simp only[Bool.or_eq_true,Bool.and_eq_true,decide_eq_true_eq,mK.mk.injEq]
    unfold zQ Jz
    by_cases h1:k.A=a.Section∧k.dN=(if a.Dir=1 then 0 else 1)
    ·rw[if_pos h1,if_pos vk.2.1.1]
     simp only[Option.some.injEq,exists_eq_left']
     rw[hstep _ _ vk.2.2.2.1]
     constructor
     ·rintro (⟨_,h⟩|⟨h2,h3⟩)
      ·exact h
      ·exact absurd ⟨h1.1.trans h3.1.symm,h1.2.trans h3.2.symm⟩ vk.2.2.2.2.2
     ·intro h;exact .inl ⟨h1,h⟩
    ·rw[if_neg h1]
     by_cases h2:k.B=a.Section∧k.dV=(if a.Dir=1 then 0 else 1)
     ·rw[if_pos h2,if_pos vk.1.1]
      simp only[Option.some.injEq,exists_eq_left']
      rw[hstep _ _ vk.2.2.1]
      constructor
      ·rintro (⟨h,_⟩|⟨h,_⟩)
       ·exact absurd h h1
       ·exact h
      ·intro h;exact .inr ⟨h,h2⟩
     ·rw[if_neg h2]
      simp only[reduceCtorEq,false_and,exists_false,iff_false]
      rintro (⟨h,_⟩|⟨_,h⟩)
      ·exact h1 h
      ·exact h2 h
   have ht:∀x y h,Jz k x y=some h→h.Point=k.Point:=by
    intro x y h e
    unfold Jz at e
    by_cases h0:0≤x
    ·rw[if_pos h0] at e;cases e;rfl
    ·rw[if_neg h0] at e;cases e
   have hp:∀h,zQ a k=some h→h.Point=k.Point:=by
    intro h e
    unfold zQ at e
    by_cases h1:k.A=a.Section∧k.dN=(if a.Dir=1 then 0 else 1)
    ·rw[if_pos h1] at e;exact ht _ _ _ e
    ·rw[if_neg h1] at e
     by_cases h2:k.B=a.Section∧k.dV=(if a.Dir=1 then 0 else 1)
     ·rw[if_pos h2] at e;exact ht _ _ _ e
     ·rw[if_neg h2] at e;cases e
   simp only[OJ]
   by_cases hjk:MB (qF a) (qF (Am b)) k=true
   ·rw[if_pos hjk]
    obtain⟨h,e1,e2⟩:=hj.1 hjk
    rw[List.filterMap_cons,e1]
    simp[List.find?_cons,e2,hp h e1]
   ·rw[if_neg hjk,ih',List.filterMap_cons]
    cases e:zQ a k with
    |none=>rfl
    |some h=>
     have hne:¬h.To=b:=fun e2=>hjk (hj.2 ⟨h,e,e2⟩)
     simp[List.find?_cons,hne]
 rw[key l.Links (fun k h=>h)]
 cases (l.Links.filterMap (zQ a)).find? (fun h=>decide (h.To=b))<;>rfl
end Go.Proofs.YtcalibhfgdncaaaGreatDoor
namespace Go.Proofs.YtcalibhfgdncaaaGreatDoor
open Go.Dc
theorem cr4{l:Layout}(v:Val l)(r:aO)(h2:2≤r.Steps.length)(tV:r.Steps.length≤24)(ha:r.Steps.all (iR l)=true):WJ r l ()=some (uD l r).2:=by
 have hl:l.Links.length≤1000:=by have:=v.full;omega
 unfold WJ
 obtain⟨a,rest,hS⟩:∃a rest,r.Steps=a::rest:=by
  cases h:r.Steps with
  |nil=>rw[h] at h2;simp at h2
  |cons a rest=>exact⟨a,rest,rfl⟩
 have:=nu (B:=SV r l) (fun (_:Step) i=>i) r.Steps (fun p i=>1≤i∧r.Steps[i-1]?=some p∧iR l p=true)
  (fun p q=>some (match Ag l p q with|none=>(11:Int)|some _=>0)) ?_ ?_ FUEL a 1 ⟨by omega,by rw[hS];rfl,List.all_eq_true.1 ha a (by rw[hS];exact List.mem_cons_self)⟩ (by omega) (jh (by omega))
 ·rw[this,hS]
  unfold uD Nv
  rw[hS]
  simp only[List.drop_succ_cons,List.drop_zero]
  cases Ag l a rest<;>rfl
 ·rintro c p i x q ⟨h1,hp,hps⟩ hdr hi hx hk
  have hm:x∈r.Steps:=List.mem_of_mem_drop (i:=i) (by rw[hdr];exact List.mem_cons_self)
  have hxs:iR l x=true:=List.all_eq_true.1 ha x hm
  simp only[SV]
  have hp':idx r.Steps ((i:Int)-1)=some p:=by
   rw[show (i:Int)-1=((i-1:Nat):Int) by omega,mR];exact hp
  rw[if_pos (by simp;omega),cO (eB (by omega) (by omega)),hp',Option.bind_some,hx,Option.bind_some,aoK l p x hl,Option.bind_some]
  have ht:=aoJ v hps hxs
  unfold WK
  have h2':(tr l p x).2=(Mx l p x).2:=by rw[ht]
  rw[←h2']
  simp only[Ag]
  by_cases hb:(tr l p x).2=true
  ·rw[if_neg (by simp[hb]),if_pos hb,cO (eB (by omega) (by omega)),hk x ⟨by omega,by rw[Nat.add_sub_cancel];rw[mR] at hx;exact hx,hxs⟩]
   cases Ag l x q<;>rfl
  ·have hb':(tr l p x).2=false:=by simpa using hb
   rw[if_pos (by simp[hb']),if_neg hb]
 ·rintro c p ⟨_,_,_⟩
  simp only[SV]
  rw[if_neg (by simp)]
  rfl
theorem cr3(r:aO)(i:Nat)(hi:i<r.Steps.length)(tV:r.Steps.length≤24)(c:Nat→Option Int):
  iter (NW i r c) FUEL 0=if r.Steps[i].Section∈(r.Steps.take i).map (·.Section) then some 5 else c (i+1):=by
 have hlt:(r.Steps.take i).length=i:=by rw[List.length_take];omega
 have:=nu (B:=NW i r c) (fun (_:Unit) k=>k) (r.Steps.take i) (fun _ _=>True) (fun _ q=>if r.Steps[i].Section∈q.map (·.Section) then some 5 else c (i+1)) ?_ ?_ FUEL () 0 trivial (by omega) (jh (by omega))
 ·simpa using this
 ·intro c3 _ k x q _ hdr hk hx hc
  rw[hlt] at hk
  have hxk:idx r.Steps (k:Int)=some x:=by
   rw[mR] at hx ⊢
   rw[List.getElem?_take,if_pos hk] at hx
   exact hx
  simp only[NW]
  rw[if_pos (by simp;omega),hxk,Option.bind_some,mR,List.getElem?_eq_getElem hi,Option.bind_some]
  by_cases e:x.Section=r.Steps[i].Section
  ·rw[if_pos (by simpa using e),if_pos (by simp[e])]
  ·rw[if_neg (by simpa using e),cO (eB (by omega) (by omega)),hc () trivial]
   have e':¬r.Steps[i].Section=x.Section:=fun h=>e h.symm
   simp[e']
 ·intro c3 _ _
  simp only[NW]
  rw[if_neg (by simp;omega)]
  simp only[ab0]
  rw[cO (eB (by omega) (by omega))]
  simp
theorem cr2{l:Layout}(v:Val l)(r:aO)(h2:2≤r.Steps.length)(tV:r.Steps.length≤24)(ha:r.Steps.all (iR l)=true):
  WI r l ()=some (if rF [] r.Steps=true then (5:Int) else (uD l r).2):=by
 unfold WI
 have:=nu (B:=SS r l) (fun (_:List Int) k=>k) r.Steps (fun s i=>∀z,z∈s↔z∈(r.Steps.take i).map (·.Section)) (fun s q=>some (if rF s q=true then (5:Int) else (uD l r).2)) ?_ ?_ FUEL [] 0 (by simp) (by omega) (jh (by omega))
 ·simpa using this
 ·intro c s i x q hs hdr hi hx hk
  have hxi:r.Steps[i]=x:=by
   rw[mR,List.getElem?_eq_getElem hi] at hx
   exact Option.some.inj hx
  simp only[SS]
  rw[if_pos (by simp;omega),cr3 r i hi tV,hxi]
  have hdd:rF s (x::q)=(decide (x.Section∈s)||rF (x.Section::s) q):=rfl
  by_cases hm:x.Section∈s
  ·rw[if_pos ((hs _).1 hm),if_pos (show rF s (x::q)=true by rw[hdd];simp[hm])]
  ·rw[if_neg (fun h=>hm ((hs _).2 h)),hk (x.Section::s) (fun z=>by
    rw[List.take_succ_eq_append_getElem hi,hxi,List.map_append,List.mem_append,List.mem_cons,←hs z]
    simp[or_comm]),hdd]
   simp[hm]
 ·intro c s _
  simp only[SS]
  rw[if_neg (by simp),cr4 v r h2 tV ha]
  simp[rF]
theorem YQ(l:Layout)(r:aO):KA l r=some (jH l r).2:=by
 unfold KA
 rw[adS,Option.bind_some]
 by_cases hc:kR (fG l)=0
 ·have v:=Ya hc
  have hf:=v.full
  have n1:¬kR (fG l)≠0:=by simp[hc]
  rw[if_neg (by simp[hc])]
  by_cases tV:24<r.Steps.length∨2<r.Overlap
  ·have e:jH l r=([],7):=by unfold jH;rw[if_neg n1,if_pos tV]
   rw[e,if_pos (by simp;omega)]
  ·rw[if_neg (by simp;omega)]
   by_cases h2:r.Overlap<0∨(r.Steps.length:Int)-r.Overlap<2
   ·have e:jH l r=([],4):=by unfold jH;rw[if_neg n1,if_neg tV,if_pos h2]
    rw[e,cO (by simp[bJ];omega),if_pos (by simpa using h2)]
   ·have e:jH l r=if r.Steps.all (iR l)=false then ([],4) else if rF [] r.Steps=true then ([],5) else uD l r:=by unfold jH;rw[if_neg n1,if_neg tV,if_neg h2]
    rw[e,cO (by simp[bJ];omega),if_neg (by simpa using h2)]
    have:=nu (B:=SQ r l) (fun (_:Unit) i=>i) r.Steps (fun _ i=>(r.Steps.take i).all (iR l)=true)
     (fun _ q=>some (if q.all (iR l)=false then (([]:List Int),(4:Int)) else if rF [] r.Steps=true then ([],5) else uD l r).2) ?_ ?_ FUEL () 0 (by simp) (by omega) (jh (by omega))
    ·simp only[List.drop_zero] at this
     exact this
    ·intro c _ i x q hI hdr hi hx hk
     simp only[SQ]
     rw[if_pos (by simp;omega),hx,Option.bind_some,cO (eB (by omega) (by omega))]
     simp only[Ez]
     rw[Option.bind_some,OT,Option.bind_some,OT,Option.bind_some]
     have hb:iR l x=((decide (0≤x.Section)&&decide (x.Section≤(l.Sections.length:Int)-1))&&(decide (0≤x.Dir)&&decide (x.Dir≤1))):=by
      rw[Bool.eq_iff_iff]
      unfold iR
      simp only[Bool.and_eq_true,Bool.or_eq_true,decide_eq_true_eq]
      omega
     cases hy:(decide (0≤x.Section)&&decide (x.Section≤(l.Sections.length:Int)-1)) with
     |false=>
      rw[hy] at hb
      simp[hb]
     |true=>
      rw[hy] at hb
      simp only[Bool.true_and] at hb
      simp only[Bool.not_true,Bool.not_false,cond_true,Bool.false_or]
      rw[←hb]
      by_cases hs:iR l x=true
      ·have ht:r.Steps.take (i+1)=r.Steps.take i++[x]:=by
        rw[List.take_succ_eq_append_getElem hi]
        rw[mR,List.getElem?_eq_getElem hi] at hx
        cases hx;rfl
       rw[if_neg (by simp[hs]),cO (eB (by omega) (by omega)),hk () (by rw[ht,List.all_append,hI];simp[hs])]
       simp[hs]
      ·rw[if_pos (by simpa using hs)]
       simp[hs]
    ·intro c _ hI
     simp only[SQ]
     rw[List.take_length] at hI
     rw[if_neg (by simp),cr2 v r (by omega) (by omega) hI]
     by_cases hd:rF [] r.Steps=true<;>simp[hd]
 ·have e:jH l r=([],1):=by unfold jH;rw[if_pos hc]
  rw[e,if_pos (by simp[hc])]
end Go.Proofs.YtcalibhfgdncaaaGreatDoor
namespace Go.Proofs.YtcalibhfgdncaaaGreatDoor
open Go.Dc
set_option maxRecDepth 100000
theorem apo:∀k:Fin 401,U3 (IntKind.u64.wrap ((1:Nat):Int)) (IntKind.u64.wrap ((k.val:Nat):Int))=some (0,((k.val:Nat):Int)):=by decide+kernel
theorem wrap_small:∀k:Fin 401,IntKind.i64.wrap ((k.val:Nat):Int)=((k.val:Nat):Int):=by decide+kernel
theorem apn{p:Int}{x:Cell}(h0:0≤p)(h:p≤1000000):mk (α:=Cell) x p=some (List.replicate p.toNat x):=by
 unfold mk
 rw[if_pos]
 refine⟨h0,?_⟩
 show p*16≤_
 omega
theorem aqv(c:Cell)(k:Nat)(h1:1≤k)(h2:k≤400):Ua [c] (k:Int)=some (List.replicate k c):=by
 unfold Ua
 rw[if_neg (by simp)]
 unfold XB
 have hm:=apo ⟨k,by omega⟩
 simp only at hm
 rw[show (([c]:List Cell).length:Int)=((1:Nat):Int) from rfl,hm,Option.bind_some,if_neg (by simp;omega)]
 unfold XC
 have hw:=wrap_small ⟨k,by omega⟩
 simp only at hw
 rw[show ((0:Int),(k:Int)).2=(k:Int) from rfl,hw,apn (by omega) (by omega),Option.bind_some]
 simp only[Int.toNat_natCast,List.length_replicate]
 have hc0:DZ (List.replicate k (Cell.mk 0 0)) 0 k [c]=some (List.replicate 1 c++List.replicate (k-1) (Cell.mk 0 0)):=by
  unfold DZ DY
  rw[if_pos (by simp)]
  obtain⟨j,rfl⟩:∃j,k=j+1:=⟨k-1,by omega⟩
  simp[List.replicate_succ]
 rw[hc0,Option.bind_some]
 have hmin:Nat.min ([c]:List Cell).length k=1:=by show Nat.min 1 k=1;exact Nat.min_eq_left h1
 rw[hmin]
 have key:WP (iter XA FUEL (List.replicate 1 c++List.replicate (k-1) (Cell.mk 0 0),((1:Nat):Int))) (fun y=>y=List.replicate k c):=by
  refine EI (fun (q:List Cell×Int)=>∃n:Nat,q.2=n∧1≤n∧n≤k∧q.1=List.replicate n c++List.replicate (k-n) (Cell.mk 0 0)) (fun q=>k-q.2.toNat) _ ?_ FUEL _ ⟨1,rfl,by omega,h1,rfl⟩ (jh (by simp only;omega))
  rintro ct ⟨q,n'⟩ ⟨n,hn,n1,nk,hq⟩ hct
  simp only at hn hq hct
  subst hn hq
  have hlen:(List.replicate n c++List.replicate (k-n) (Cell.mk 0 0)).length=k:=by simp;omega
  simp only[XA]
  rw[hlen]
  refine nN (fun h=>?_) (fun h=>?_)
  ·simp only[decide_eq_true_eq] at h
   have s1:sub (List.replicate n c++List.replicate (k-n) (Cell.mk 0 0)) (n:Int) (k:Int)=some (List.replicate (k-n) (Cell.mk 0 0)):=by
    unfold sub
    rw[if_pos (by rw[hlen];omega)]
    congr 1
    rw[Int.toNat_natCast,Int.toNat_natCast,List.take_of_length_le (by rw[hlen];omega)]
    rw[List.drop_append_of_le_length (by simp)]
    simp
   have s2:sub (List.replicate n c++List.replicate (k-n) (Cell.mk 0 0)) 0 (n:Int)=some (List.replicate n c):=by
    unfold sub
    rw[if_pos (by rw[hlen];omega)]
    congr 1
    rw[Int.toNat_natCast,List.take_append_of_le_length (by simp)]
    simp
   rw[s1,Option.bind_some,s2,Option.bind_some]
   simp only[List.length_replicate,Int.toNat_natCast]
   have hM:∃m,Nat.min n (k-n)=m∧1≤m∧n+m≤k:=⟨Nat.min n (k-n),rfl,by
    have h1:1≤k-n:=by omega
    exact Nat.le_min.2 ⟨n1,h1⟩,by
    have:=Nat.min_le_right n (k-n)
    have h1:Nat.min n (k-n)≤k-n:=this
    omega⟩
   obtain⟨m,hm,m1,m2⟩:=hM
   have hcp:DZ (List.replicate n c++List.replicate (k-n) (Cell.mk 0 0)) n (k-n) (List.replicate n c)=some (List.replicate (n+m) c++List.replicate (k-(n+m)) (Cell.mk 0 0)):=by
    unfold DZ DY
    rw[if_pos (by rw[hlen];omega),List.take_replicate,show min (k-n) n=m by rw[Nat.min_comm];exact hm]
    congr 1
    rw[List.take_append_of_le_length (by simp),List.take_of_length_le (by simp),List.length_replicate,List.drop_append,List.length_replicate]
    rw[List.drop_of_length_le (by simp),List.nil_append,show n+m-n=m by omega,List.drop_replicate,List.replicate_append_replicate]
    congr 2
    omega
   rw[hcp,Option.bind_some,hm]
   refine gX (by omega) (hct _ ⟨n+m,by simp,by omega,m2,rfl⟩ (by simp only;omega))
  ·simp only[decide_eq_false_iff_not] at h
   have:n=k:=by omega
   subst this
   exact Ll (by simp)
 obtain⟨y,e,rfl⟩:=key
 exact e
def jE(l:Layout)(s:Step):Section:=l.Sections.getD s.Section.toNat default
def cellOf(l:Layout)(s:Step):Cell:=⟨(jE l s).Limit,if s.Dir=1 then-(jE l s).jQ else (jE l s).jQ⟩
def BS(l:Layout)(ss:List Step):List Cell:=ss.flatMap fun s=>List.replicate (jE l s).Length.toNat (cellOf l s)
def cellsE(l:Layout)(r:aO)(cs:List Cell):List Cell×Int×Int:=
 if 4000<cs.length then ([],0,7) else (cs,(jE l (r.Steps.getD 0 default)).Length,0)
def xI(l:Layout)(r:aO):List Cell×Int×Int:=
 if (jH l r).2≠0 then ([],0,(jH l r).2) else cellsE l r (BS l (r.Steps.take ((r.Steps.length:Int)-r.Overlap).toNat))
structure wI(l:Layout)(r:aO):Prop where
 ck:kR (fG l)=0
 v:Val l
 len:r.Steps.length≤24
 ov:0≤r.Overlap∧r.Overlap≤2
 two:2≤(r.Steps.length:Int)-r.Overlap
 st:∀s∈r.Steps,iR l s=true
 dup:rF [] r.Steps=false
 pts:Nv l r.Steps=some (jH l r).1
theorem Ap{l:Layout}{r:aO}(h:(jH l r).2=0):wI l r:=by
 by_cases hc:kR (fG l)=0
 ·by_cases tV:24<r.Steps.length∨2<r.Overlap
  ·have e:jH l r=([],7):=by unfold jH;rw[if_neg (by simp[hc]),if_pos tV]
   rw[e] at h;cases h
  ·by_cases h2:r.Overlap<0∨(r.Steps.length:Int)-r.Overlap<2
   ·have e:jH l r=([],4):=by unfold jH;rw[if_neg (by simp[hc]),if_neg tV,if_pos h2]
    rw[e] at h;cases h
   ·by_cases ha:r.Steps.all (iR l)=false
    ·have e:jH l r=([],4):=by unfold jH;rw[if_neg (by simp[hc]),if_neg tV,if_neg h2,if_pos ha]
     rw[e] at h;cases h
    ·by_cases hd:rF [] r.Steps=true
     ·have e:jH l r=([],5):=by unfold jH;rw[if_neg (by simp[hc]),if_neg tV,if_neg h2,if_neg ha,if_pos hd]
      rw[e] at h;cases h
     ·have e:jH l r=uD l r:=by unfold jH;rw[if_neg (by simp[hc]),if_neg tV,if_neg h2,if_neg ha,if_neg hd]
      refine⟨hc,Ya hc,by omega,by omega,by omega,fun s hm=>List.all_eq_true.1 (by simpa using ha) s hm,by simpa using hd,?_⟩
      rw[e] at h ⊢
      unfold uD at h ⊢
      cases hp:Nv l r.Steps with
      |none=>rw[hp] at h;cases h
      |some q=>rfl
 ·have e:jH l r=([],1):=by unfold jH;rw[if_pos hc]
  rw[e] at h;cases h
theorem KX{l:Layout}(v:Val l){s:Step}(h:iR l s=true):idx l.Sections s.Section=some (jE l s)∧1≤(jE l s).Length∧(jE l s).Length≤400∧ -40≤(jE l s).jQ∧(jE l s).jQ≤40:=by
 unfold iR at h
 simp only[Bool.and_eq_true,decide_eq_true_eq] at h
 have hlt:s.Section.toNat<l.Sections.length:=by omega
 have hm:jE l s∈l.Sections:=by unfold jE;simp[hlt]
 have:=v.secs _ hm
 exact⟨uq h.1.1 h.1.2,this.1,this.2.1,this.2.2.2.2.1,this.2.2.2.2.2⟩
theorem aqb(l:Layout)(r:aO):TA l r=some (xI l r):=by
 unfold TA xI
 rw[agT,Option.bind_some]
 by_cases h0:(jH l r).2=0
 ·have o:=Ap h0
  have v:=o.v
  rw[if_neg (by simp[h0]),if_neg (by simp[h0])]
  have:=o.len;have:=o.ov;have:=o.two
  have hs:sub r.Steps 0 ((r.Steps.length:Int)-r.Overlap)=some (r.Steps.take ((r.Steps.length:Int)-r.Overlap).toNat):=by
   unfold sub
   rw[if_pos (by omega)]
   simp
  rw[cO (eB (by omega) (by omega)),hs,Option.bind_some]
  generalize hT:r.Steps.take ((r.Steps.length:Int)-r.Overlap).toNat=T
  have hTl:T.length≤24:=by rw[←hT,List.length_take];omega
  have Zq:∀s∈T,iR l s=true:=fun s hm=>o.st s (List.mem_of_mem_take (by rw[←hT] at hm;exact hm))
  have:=nu (B:=Tz T l r) (fun (s:List Cell) i=>(s,i)) T (fun s i=>s.length≤400*i) (fun s q=>some (cellsE l r (s++BS l q))) ?_ ?_ FUEL [] 0 (by simp) (by omega) (jh (by omega))
  ·simpa using this
  ·intro c s i x q hI hdr hi hx hk
   have hm:x∈T:=List.mem_of_mem_drop (i:=i) (by rw[hdr];exact List.mem_cons_self)
   obtain⟨hsx,s1,s2,s3,s4⟩:=KX v (Zq x hm)
   simp only[Tz]
   rw[if_pos (by simp;omega),hx,Option.bind_some,hsx,Option.bind_some]
   have hrep:∀g:Int,Ij (jE l x) s c i g=c (s++List.replicate (jE l x).Length.toNat (Cell.mk (jE l x).Limit g),i+1):=by
    intro g
    unfold Ij
    have:=aqv (Cell.mk (jE l x).Limit g) (jE l x).Length.toNat (by omega) (by omega)
    rw[Int.toNat_of_nonneg (by omega)] at this
    rw[this,Option.bind_some,cO (by simp;omega)]
   have hgo:(if decide (x.Dir=1)=true then bq (bJ (-(jE l x).jQ)) (Ij (jE l x) s c i (-(jE l x).jQ)) else Ij (jE l x) s c i (jE l x).jQ)=c (s++List.replicate (jE l x).Length.toNat (cellOf l x),i+1):=by
    unfold cellOf
    by_cases hd:x.Dir=1
    ·rw[if_pos (by simpa using hd),if_pos hd,cO (eB (by omega) (by omega)),hrep]
    ·rw[if_neg (by simpa using hd),if_neg hd,hrep]
   rw[hgo,hk _ (by simp;omega)]
   simp[BS,List.flatMap_cons]
  ·intro c s hI
   simp only[Tz]
   rw[if_neg (by simp)]
   unfold acg cellsE
   simp only[BS,List.flatMap_nil,List.append_nil]
   by_cases hb:4000<s.length
   ·rw[if_pos (by simp;omega),if_pos hb]
   ·rw[if_neg (by simp;omega),if_neg hb]
    have h00:0<r.Steps.length:=by omega
    have hi0:idx r.Steps 0=some (r.Steps.getD 0 default):=uq (by omega) (by omega)
    have hm0:r.Steps.getD 0 default∈r.Steps:=by simp[h00]
    rw[hi0,Option.bind_some,(KX v (o.st _ hm0)).1,Option.bind_some]
 ·rw[if_pos (by simp[h0]),if_pos h0]
theorem aqu(l:Layout)(r:aO):SN l r=some (xI l r):=by
 unfold SN xI
 rw[YQ,Option.bind_some]
 by_cases h0:(jH l r).2=0
 ·have o:=Ap h0
  have v:=o.v
  rw[if_neg (by simp[h0]),if_neg (by simp[h0])]
  have:=o.len;have:=o.ov;have:=o.two
  generalize hT:r.Steps.take ((r.Steps.length:Int)-r.Overlap).toNat=T
  have hTl:(T.length:Int)=(r.Steps.length:Int)-r.Overlap:=by rw[←hT,List.length_take];omega
  have Zq:∀s∈T,iR l s=true:=fun s hm=>o.st s (List.mem_of_mem_take (by rw[←hT] at hm;exact hm))
  have:=nu (B:=SK r l) (fun (s:List Cell) i=>(s,i)) T (fun s i=>s.length≤400*i) (fun s q=>some (cellsE l r (s++BS l q))) ?_ ?_ FUEL [] 0 (by simp) (by omega) (jh (by omega))
  ·simpa using this
  ·intro c s i x q hI hdr hi hx hk
   have hm:x∈T:=List.mem_of_mem_drop (i:=i) (by rw[hdr];exact List.mem_cons_self)
   obtain⟨hsx,s1,s2,s3,s4⟩:=KX v (Zq x hm)
   have hx':idx r.Steps (i:Int)=some x:=by
    rw[mR] at hx ⊢
    rw[←hT,List.getElem?_take,if_pos (by omega)] at hx
    exact hx
   simp only[SK]
   rw[cO (eB (by omega) (by omega)),if_pos (by simp;omega),hx',Option.bind_some,hsx,Option.bind_some,Option.bind_some]
   have hrep:∀g:Int,H9 (jE l x) i c s g=c (s++List.replicate (jE l x).Length.toNat (Cell.mk (jE l x).Limit g),i+1):=by
    intro g
    unfold H9
    have:=nu (B:=SL (jE l x) g i c) (fun (z:List Cell) k=>(z,k)) (List.replicate (jE l x).Length.toNat (Cell.mk (jE l x).Limit g)) (fun z k=>z.length≤400*i+k) (fun z q=>c (z++q,i+1)) ?_ ?_ FUEL s 0 (by omega) (by omega) (jh (by simp;omega))
    ·simpa using this
    ·intro c2 z k y q hz hdr hk hy hc
     rw[List.length_replicate] at hk
     have hyy:y=Cell.mk (jE l x).Limit g:=by
      have:y∈List.replicate (jE l x).Length.toNat (Cell.mk (jE l x).Limit g):=List.mem_of_mem_drop (i:=k) (by rw[hdr];exact List.mem_cons_self)
      exact List.eq_of_mem_replicate this
     simp only[SL]
     rw[if_pos (by simp;omega),cO (by simp;omega),cO (eB (by omega) (by omega)),hc _ (by simp;omega),hyy]
     simp
    ·intro c2 z _
     simp only[SL,List.length_replicate]
     rw[if_neg (by simp;omega)]
     simp only[abZ]
     rw[cO (eB (by omega) (by omega))]
     simp
   have hgo:(if decide (x.Dir=1)=true then bq (bJ (-(jE l x).jQ)) (H9 (jE l x) i c s (-(jE l x).jQ)) else H9 (jE l x) i c s (jE l x).jQ)=c (s++List.replicate (jE l x).Length.toNat (cellOf l x),i+1):=by
    unfold cellOf
    by_cases hd:x.Dir=1
    ·rw[if_pos (by simpa using hd),if_pos hd,cO (eB (by omega) (by omega)),hrep]
    ·rw[if_neg (by simpa using hd),if_neg hd,hrep]
   rw[hgo,hk _ (by simp;omega)]
   simp[BS,List.flatMap_cons]
  ·intro c s hI
   simp only[SK]
   rw[cO (eB (by omega) (by omega)),if_neg (by simp;omega)]
   unfold abY cellsE
   simp only[BS,List.flatMap_nil,List.append_nil]
   by_cases hb:4000<s.length
   ·rw[if_pos (by simp;omega),if_pos hb]
   ·rw[if_neg (by simp;omega),if_neg hb]
    have h00:0<r.Steps.length:=by omega
    have hi0:idx r.Steps 0=some (r.Steps.getD 0 default):=uq (by omega) (by omega)
    have hm0:r.Steps.getD 0 default∈r.Steps:=by simp[h00]
    rw[hi0,Option.bind_some,(KX v (o.st _ hm0)).1,Option.bind_some]
 ·rw[if_pos (by simp[h0]),if_pos h0]
end Go.Proofs.YtcalibhfgdncaaaGreatDoor
namespace Go.Proofs.YtcalibhfgdncaaaGreatDoor
open Go.Dc
theorem afd(c:Int):Ut c=some (rH c):=rfl
theorem aov(c:Int):Yd c=some (zH c):=rfl
theorem afH(s:Str):OX s=some (lJ s.ba):=by
 unfold OX lJ
 rw[Str.EX]
 by_cases h:1≤s.l.length∧s.l.length≤12
 ·have hg:(!(decide ((s.l.length:Int)<1)||decide (12<(s.l.length:Int))))=true:=by simp;omega
  rw[vH hg]
  have h0:=U5 (s:=s) (i:=0) (by omega)
  rw[show ((0:Nat):Int)=0 from rfl] at h0
  rw[h0]
  simp only[Option.bind_some]
  rw[vH hg,afd]
  simp only[Option.bind_some]
  by_cases hL:rH (Go.gQ.bt s.ba 0)=true
  ·rw[if_neg (by simp[hL];omega),cO (by simp;omega)]
   have:=nu (B:=Us s) (fun (_:Unit) i=>i) (List.range s.l.length) (fun _ _=>True) (fun _ r=>some (r.all fun i=>rE (Go.gQ.bt s.ba i))) ?_ ?_ FUEL () 0 trivial (by omega) (jh (by simp;omega))
   ·rw[this,List.drop_zero]
    simp[hL,h.1,h.2]
   ·intro c _ i x r _ hdr hi hx hk
    simp only[List.length_range] at hi
    have hxi:x=i:=by
     have:=List.getElem?_drop (xs:=List.range s.l.length) (i:=i) (j:=0)
     rw[hdr] at this
     simp[hi] at this
     omega
    subst hxi
    have hb:=U5 (s:=s) (i:=x) hi
    simp only[Us]
    rw[if_pos (by simp;omega),hb]
    simp only[Option.bind_some]
    rw[afd]
    simp only[Option.bind_some]
    by_cases a1:rH (Go.gQ.bt s.ba x)=true
    ·rw[vF (by simp[a1])]
     simp only[Option.bind_some]
     rw[vF (by simp[a1])]
     simp only[Option.bind_some]
     rw[vF (by simp[a1])]
     simp only[Option.bind_some]
     rw[if_neg (by simp[a1]),hk () trivial]
     simp[rE,a1]
    ·have a1':rH (Go.gQ.bt s.ba x)=false:=by simpa using a1
     rw[vH (by simp[a1'])]
     simp only[Option.bind_some]
     rw[vH (by simp[a1']),aov]
     simp only[Option.bind_some]
     by_cases a2:zH (Go.gQ.bt s.ba x)=true
     ·rw[vF (by simp[a2])]
      simp only[Option.bind_some]
      rw[if_neg (by simp[a2]),hk () trivial]
      simp[rE,a2]
     ·have Jb:zH (Go.gQ.bt s.ba x)=false:=by simpa using a2
      rw[vH (by simp[a1',Jb])]
      simp only[Option.bind_some]
      by_cases a3:Go.gQ.bt s.ba x=95
      ·rw[if_neg (by simp[a3]),hk () trivial]
       simp[rE,a3]
      ·rw[if_pos (by simp[a1',Jb,a3])]
       simp[rE,a1',Jb,a3]
   ·intro c _ _
    simp only[Us]
    rw[if_neg (by simp)]
    rfl
  ·have hL':rH (Go.gQ.bt s.ba 0)=false:=by simpa using hL
   rw[if_pos (by simp[hL'])]
   simp[hL']
 ·have hg:(!(decide ((s.l.length:Int)<1)||decide (12<(s.l.length:Int))))=false:=by simp;omega
  rw[vF hg]
  simp only[Option.bind_some]
  rw[vF hg]
  simp only[Option.bind_some]
  rw[if_pos (by simp[Int.not_lt.mp,h]<;>omega)]
  have:(decide (1≤s.l.length)&&decide (s.l.length≤12))=false:=by simp;omega
  simp[this]
end Go.Proofs.YtcalibhfgdncaaaGreatDoor
namespace Go.Proofs.YtcalibhfgdncaaaGreatDoor
open Go.Dc
theorem afF{s:ByteArray}{seen:List ByteArray}(h:nK s seen=0):lJ s=true∧s∉seen:=by
 unfold nK at h
 split at h
 ·cases h
 ·rename_i h1
  split at h
  ·cases h
  ·rename_i h2;exact⟨by simpa using h1,h2⟩
theorem abj:∀(l seen:List ByteArray),kr seen l=0→(∀s∈l,lJ s=true∧s∉seen)∧l.Nodup
 |[],_,_=>⟨by simp,.nil⟩
 |q::l,seen,h=>by
  unfold kr at h
  by_cases h1:nK q seen≠0
  ·rw[if_pos h1] at h;exact absurd h h1
  ·rw[if_neg h1] at h
   obtain⟨a,b⟩:=abj l _ h
   have hq:=afF (Classical.not_not.1 h1)
   refine⟨fun s hs=>?_,List.nodup_cons.2 ⟨fun hm=>?_,b⟩⟩
   ·rcases List.mem_cons.1 hs with e|e
    ·subst e;exact hq
    ·exact⟨(a s e).1,fun hm=>(a s e).2 (List.mem_append.2 (.inl hm))⟩
   ·exact (a q hm).2 (List.mem_append.2 (.inr (List.mem_singleton.2 rfl)))
theorem ahI(n:Nat):∀(l:List mZ) (seen:List ByteArray),mO n seen l=0→(∀s∈l,lJ s.name=true∧s.name∉seen)∧(l.map (·.name)).Nodup
 |[],_,_=>⟨by simp,.nil⟩
 |q::l,seen,h=>by
  unfold mO at h
  by_cases h1:nK q.name seen≠0
  ·rw[if_pos h1] at h;exact absurd h h1
  ·rw[if_neg h1] at h
   by_cases h4:xq n q=false
   ·rw[if_pos h4] at h;cases h
   ·rw[if_neg h4] at h
    obtain⟨a,b⟩:=ahI n l _ h
    have hq:=afF (Classical.not_not.1 h1)
    refine⟨fun s hs=>?_,List.nodup_cons.2 ⟨fun hm=>?_,b⟩⟩
    ·rcases List.mem_cons.1 hs with e|e
     ·subst e;exact hq
     ·exact⟨(a s e).1,fun hm=>(a s e).2 (List.mem_append.2 (.inl hm))⟩
    ·obtain⟨s,hs,e⟩:=List.mem_map.1 hm
     exact (a s hs).2 (List.mem_append.2 (.inr (List.mem_singleton.2 e)))
theorem ajc(c:UInt8)(h:rE (c.toNat:Int)=true):Es c=true:=by
 unfold rE rH zH at h
 unfold Es GY
 simp only[Bool.or_eq_true,Bool.and_eq_true,decide_eq_true_eq] at h ⊢
 omega
theorem Rq{s:Str}(h:lJ s.ba=true):uM s=true∧s.l.length≤12:=by
 unfold lJ at h
 simp only[Bool.and_eq_true,decide_eq_true_eq,List.all_eq_true,List.mem_range,Str.EX] at h
 obtain⟨⟨⟨h1,h2⟩,_⟩,h4⟩:=h
 refine⟨?_,h2⟩
 unfold uM
 simp only[Bool.and_eq_true,decide_eq_true_eq,List.all_eq_true]
 refine⟨fun e=>by rw[e] at h1;simp at h1,fun c hc=>?_⟩
 obtain⟨i,hi,rfl⟩:=List.getElem_of_mem hc
 have:=h4 i hi
 unfold Go.gQ.bt at this
 have e:s.ba.data.toList.getD i 0=s.l[i]:=by simp[Str.ba,List.getD,hi]
 rw[e] at this
 exact ajc _ this
structure Gp(l:Layout):Prop extends Val l where
 stw:∀s∈l.aU,uM s=true∧s.l.length≤12
 ptw:∀s∈l.bG,uM s=true∧s.l.length≤12
 scw:∀s∈l.Sections,uM s.Name=true∧s.Name.l.length≤12
 std:l.aU.Nodup
 ptd:l.bG.Nodup
 scd:(l.Sections.map (·.Name)).Nodup
 scs:∀s∈l.Sections,-1≤s.nG∧s.nG<l.aU.length
 pos:∀k∈l.Links,k.Pos=0∨k.Pos=1∧k.Point≠ -1
theorem abk{α β:Type}(f:α→β){l:List α}(h:(l.map f).Nodup):l.Nodup:=by
 induction l with
 |nil=>exact .nil
 |cons x l ih=>
  rw[List.map_cons,List.nodup_cons] at h
  exact List.nodup_cons.2 ⟨fun hm=>h.1 (List.mem_map.2 ⟨x,hm,rfl⟩),ih h.2⟩
theorem aif{l:Layout}(h:kR (fG l)=0):Gp l:=by
 have hv:=Ya h
 have hl:=h
 unfold kR at h
 split at h
 ·cases h
 split at h
 ·cases h
 split at h
 ·rename_i h1;exact absurd h h1
 rename_i hst
 split at h
 ·rename_i h1;exact absurd h h1
 rename_i hpt
 split at h
 ·rename_i h1;exact absurd h h1
 rename_i hs
 simp only[Decidable.not_not] at hs hst hpt
 have rW:=abj _ _ hst
 have npt:=abj _ _ hpt
 have nsc:=ahI _ _ _ hs
 refine {toVal:=hv,stw:=fun s hm=>?_,ptw:=fun s hm=>?_,scw:=fun s hm=>?_,std:=abk Str.ba rW.2,ptd:=abk Str.ba npt.2,scd:=?_,scs:=fun s hm=>?_,pos:=fun k hm=>?_}
 ·exact Rq (rW.1 s.ba (List.mem_map.2 ⟨s,hm,rfl⟩)).1
 ·exact Rq (npt.1 s.ba (List.mem_map.2 ⟨s,hm,rfl⟩)).1
 ·exact Rq (nsc.1 (pX s) (List.mem_map.2 ⟨s,hm,rfl⟩)).1
 ·have:=nsc.2
  refine abk Str.ba ?_
  have e:(fG l).sections.map (·.name)=(l.Sections.map (·.Name)).map Str.ba:=by simp[fG,pX]
  rwa [e] at this
 ·have:=acr _ _ _ hs (pX s) (List.mem_map.2 ⟨s,hm,rfl⟩)
  unfold xq pX at this
  simp only[fG,List.length_map,Bool.and_eq_true,decide_eq_true_eq] at this
  exact⟨this.1.2,this.2⟩
 ·have:=(aa9 _ _ _ h (jR k) (List.mem_map.2 ⟨k,hm,rfl⟩)).1
  unfold oM jR at this
  simp only[Bool.and_eq_true,Bool.or_eq_true,decide_eq_true_eq] at this
  exact this.2
end Go.Proofs.YtcalibhfgdncaaaGreatDoor
namespace Go.Proofs.YtcalibhfgdncaaaGreatDoor
open Go.Dc
theorem YU:∀(k m:Nat) (s:List UInt8),m<k→0<m→E9 m s=Lib.decDigits m++s
 |0,_,_,h,_=>by omega
 |k+1,m,s,h,h0=>by
  rw[YW h0]
  by_cases h1:m<10
  ·have e:m / 10=0:=by omega
   rw[e,U7,Lib.decDigits_one h1,Nat.mod_eq_of_lt h1]
   rfl
  ·rw[YU k (m / 10) _ (by omega) (by omega)]
   conv=>rhs;rw[Lib.decDigits,dif_neg h1]
   simp
theorem U8(v:Int)(h1: -9223372036854775808≤v)(h2:v≤9223372036854775807):FP v=some ⟨Lib.itoa v⟩:=by
 by_cases hs:0≤v∧v<10
 ·have key:∀k:Fin 10,FP (k.val:Int)=some ⟨[UInt8.ofNat (48+k.val)]⟩:=by decide+kernel
  have:=key ⟨v.toNat,by omega⟩
  simp only at this
  rw[Int.toNat_of_nonneg hs.1] at this
  rw[this]
  have e:v=((v.toNat:Nat):Int):=(Int.toNat_of_nonneg hs.1).symm
  conv=>rhs;rw[e]
  rw[Lib.itoa_nonneg,Lib.decDigits_one (by omega)]
 ·have h0:0<v.natAbs:=by omega
  have hp:v.natAbs*10 ^ ([]:List UInt8).length≤9223372036854775808:=by simp;omega
  have hloop:=ajx v (decide (v<0)) FUEL v.natAbs [] (by have:FUEL=18446744073709551616:=rfl;omega) hp (by simp)
  have ev:(if decide (v<0)=true then-(v.natAbs:Int) else (v.natAbs:Int))=v:=by
   by_cases hv:v<0
   ·rw[if_pos (by simpa using hv)];omega
   ·rw[if_neg (by simpa using hv)];omega
  have hlen:=YV 20 v.natAbs [] (by have:(10:Nat) ^ 20=100000000000000000000:=(by decide);omega)
  simp only[List.length_nil,Nat.zero_add] at hlen
  rw[ev] at hloop
  have hd:=YU (v.natAbs+1) v.natAbs [] (by omega) h0
  rw[List.append_nil] at hd
  rw[hd] at hloop hlen
  unfold FP
  rw[if_neg (by simp;omega),hloop]
  unfold Wx Sn
  by_cases hv:v<0
  ·have c1:dX ⟨[45]⟩ ⟨Lib.decDigits v.natAbs⟩=some ⟨45::Lib.decDigits v.natAbs⟩:=by
    unfold dX
    rw[if_pos (by simp only[List.length_singleton];omega)]
    rfl
   rw[if_pos (by simpa using hv),c1,Option.bind_some]
   have:Lib.itoa v=45::Lib.decDigits v.natAbs:=by unfold Lib.itoa;rw[if_pos hv]
   rw[this]
  ·rw[if_neg (by simpa using hv)]
   have:Lib.itoa v=Lib.decDigits v.natAbs:=by
    unfold Lib.itoa
    rw[if_neg hv]
    congr 1
    omega
   rw[this]
theorem YZ:∀(k m:Nat),m<k→(Lib.decDigits m).all Es=true∧Lib.decDigits m≠[]
 |0,_,h=>by omega
 |k+1,m,h=>by
  have hd:∀d:Nat,d<10→Es (UInt8.ofNat (48+d))=true:=fun d hd=>by
   have key:∀q:Fin 10,Es (UInt8.ofNat (48+q.val))=true:=by decide
   exact key ⟨d,hd⟩
  by_cases h1:m<10
  ·rw[Lib.decDigits_one h1]
   exact⟨by simp only[List.all_cons,List.all_nil,Bool.and_true];exact hd m h1,by simp⟩
  ·rw[Lib.decDigits,dif_neg h1]
   obtain⟨a,b⟩:=YZ k (m / 10) (by omega)
   refine⟨?_,by simp⟩
   rw[List.all_append,a]
   simp only[List.all_cons,List.all_nil,Bool.and_true,Bool.true_and]
   exact hd (m % 10) (by omega)
theorem aaG(v:Int):uM ⟨Lib.itoa v⟩=true:=by
 unfold uM Lib.itoa
 split
 ·obtain⟨a,b⟩:=YZ (v.natAbs+1) v.natAbs (by omega)
  simp only[Bool.and_eq_true,decide_eq_true_eq,List.all_cons]
  exact⟨by simp,by decide,a⟩
 ·obtain⟨a,b⟩:=YZ (v.toNat+1) v.toNat (by omega)
  simp only[Bool.and_eq_true,decide_eq_true_eq]
  exact⟨b,a⟩
theorem JI(v:Int)(h1: -9223372036854775808≤v)(h2:v≤9223372036854775807):(Lib.itoa v).length≤21:=by
 have hd:∀m:Nat,0<m→m≤9223372036854775808→(Lib.decDigits m).length≤20:=fun m hm hb=>by
  have:=YV 20 m [] (by have:(10:Nat) ^ 20=100000000000000000000:=(by decide);omega)
  rw[YU (m+1) m [] (by omega) hm] at this
  simpa using this
 unfold Lib.itoa
 split
 ·have:=hd v.natAbs (by omega) (by omega)
  simp only[List.length_cons];omega
 ·by_cases h0:v=0
  ·subst h0
   simp[Lib.decDigits_one]
  ·have:=hd v.toNat (by omega) (by omega)
   omega
end Go.Proofs.YtcalibhfgdncaaaGreatDoor
