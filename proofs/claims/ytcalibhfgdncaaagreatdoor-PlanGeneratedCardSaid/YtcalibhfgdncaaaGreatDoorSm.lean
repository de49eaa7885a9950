/- Several parts of the engine, one behind the other. -/
import Derived.Test.YtcalibhfgdncaaaGreatDoorQ1
import Derived.Test.YtcalibhfgdncaaaGreatDoorTm
import Derived.Test.YtcalibhfgdncaaaGreatDoorPs
import Derived.Test.YtcalibhfgdncaaaGreatDoorYc
import Derived.Test.YtcalibhfgdncaaaGreatDoorYx
import Derived.Test.YtcalibhfgdncaaaGreatDoorYd
set_option linter.all false
namespace Go.Dc
def errs(g:Nat→Option Int)(k:Option Int):Nat→Nat→Option Int
 |0,_=>k
 |m+1,i=>(g i).bind fun e=>if decide (e≠0) then some e else errs g k m (i+1)
theorem aoB{B:(Nat→Option Int)→Nat→Option Int}{n:Nat}{g:Nat→Option Int}{k:Option Int}
  (hs:∀c i,i<n→B c i=(g i).bind fun e=>if decide (e≠0) then some e else c (i+1))(he:∀c,B c n=k):
  ∀m i f,i+m=n→m<f→iter B f i=errs g k m i:=by
 intro m
 induction m with
 |zero=>
  intro i f hi hf
  obtain⟨f,rfl⟩:∃x,f=x+1:=⟨f-1,by omega⟩
  show B (iter B f) i=k
  rw[show i=n by omega,he]
 |succ m ih=>
  intro i f hi hf
  obtain⟨f,rfl⟩:∃x,f=x+1:=⟨f-1,by omega⟩
  show B (iter B f) i=_
  rw[hs _ _ (by omega),ih (i+1) f (by omega) (by omega)]
  rfl
theorem wQ{B:(Nat→Option Int)→Nat→Option Int}(n:Nat)(g:Nat→Option Int)(k:Option Int)
 (hs:∀c i,i<n→B c i=(g i).bind fun e=>if decide (e≠0) then some e else c (i+1))(he:∀c,B c n=k)(hn:n≤1000000000000000):
 iter B FUEL 0=errs g k n 0:=aoB hs he n 0 FUEL (by omega) (jh (by omega))
theorem aoD{B:(Nat→Option Int)→Nat→Option Int}{n:Nat}{g:Nat→Option Int}{k:Option Int}
  (hs:∀c i,i<n→(∀j,j<i→g j=some 0)→B c i=(g i).bind fun e=>if decide (e≠0) then some e else c (i+1))(he:∀c,B c n=k):
  ∀m i f,i+m=n→m<f→(∀j,j<i→g j=some 0)→iter B f i=errs g k m i:=by
 intro m
 induction m with
 |zero=>
  intro i f hi hf _
  obtain⟨f,rfl⟩:∃x,f=x+1:=⟨f-1,by omega⟩
  show B (iter B f) i=k
  rw[show i=n by omega,he]
 |succ m ih=>
  intro i f hi hf hp
  obtain⟨f,rfl⟩:∃x,f=x+1:=⟨f-1,by omega⟩
  show B (iter B f) i=_
  rw[hs _ _ (by omega) hp]
  simp only[errs]
  cases h:g i with
  |none=>rfl
  |some e=>
   simp only[Option.bind_some]
   by_cases he:e=0
   ·subst he
    rw[if_neg (by simp),if_neg (by simp),ih (i+1) f (by omega) (by omega) (fun j hj=>by
     by_cases e:j=i
     ·subst e;exact h
     ·exact hp j (by omega))]
   ·rw[if_pos (by simpa using he),if_pos (by simpa using he)]
theorem aoC{B:(Nat→Option Int)→Nat→Option Int}(n:Nat)(g:Nat→Option Int)(k:Option Int)
 (hs:∀c i,i<n→(∀j,j<i→g j=some 0)→B c i=(g i).bind fun e=>if decide (e≠0) then some e else c (i+1))(he:∀c,B c n=k)(hn:n≤1000000000000000):
 iter B FUEL 0=errs g k n 0:=aoD hs he n 0 FUEL (by omega) (jh (by omega)) (fun j hj=>by omega)
theorem aoA{α:Type}{B:(Nat→Option Int)→Nat→Option Int}(xs:List α)(q:α→Bool)(r k:Option Int)
  (hs:∀c (i:Nat) x,idx xs (i:Int)=some x→i<xs.length→B c i=if q x then r else c (i+1))(he:∀c,B c xs.length=k):
  ∀n i,i≤xs.length→xs.length-i<n→iter B n i=if (xs.drop i).any q then r else k:=by
 intro n
 induction n with
 |zero=>intro i _ h;omega
 |succ n ih=>
  intro i hi hn
  show B (iter B n) i=_
  by_cases hl:i=xs.length
  ·subst hl
   rw[he,List.drop_length];rfl
  ·have hlt:i<xs.length:=by omega
   have hd:xs.drop i=xs[i]::xs.drop (i+1):=List.drop_eq_getElem_cons hlt
   rw[hs _ i xs[i] (by simp[idx,hlt]) hlt,hd,List.any_cons]
   cases h:q xs[i] with
   |true=>simp
   |false=>rw[if_neg (by simp),ih (i+1) (by omega) (by omega)];simp
theorem VN{α:Type}{B:(Nat→Option Int)→Nat→Option Int}(xs:List α)(q:α→Bool)(r k:Option Int)
  (hs:∀c (i:Nat) x,idx xs (i:Int)=some x→i<xs.length→B c i=if q x then r else c (i+1))(he:∀c,B c xs.length=k)(hl:xs.length≤1000000):
  iter B FUEL 0=if xs.any q then r else k:=by
 have:=aoA xs q r k hs he FUEL 0 (by omega) (jh (by omega))
 rwa [List.drop_zero] at this
theorem VL{α:Type}{xs:List α}{i j:Nat}{x:α}(h:idx (xs.take i) (j:Int)=some x):idx xs (j:Int)=some x:=by
 rw[mR] at h ⊢
 rw[List.getElem?_take] at h
 split at h
 ·exact h
 ·cases h
theorem GA(g:Nat→Option Int)(K:Option Int):∀m i,((errs g (some 0) m i).bind fun e=>if decide (e≠0) then some e else K)=errs g K m i:=by
 intro m
 induction m with
 |zero=>intro i;rfl
 |succ m ih=>
  intro i
  simp only[errs]
  cases h:g i with
  |none=>rfl
  |some e=>
   simp only[Option.bind_some]
   by_cases he:e=0
   ·rw[if_neg (by simp[he]),if_neg (by simp[he]),ih]
   ·rw[if_pos (by simp[he]),if_pos (by simp[he]),Option.bind_some,if_pos (by simp[he])]
theorem zJ{g g':Nat→Option Int}{k k':Option Int}:∀m i,(∀j,i≤j→j<i+m→(∀j',i≤j'→j'<j→g j'=some 0)→g j=g' j)→
  ((∀j,i≤j→j<i+m→g j=some 0)→k=k')→errs g k m i=errs g' k' m i:=by
 intro m
 induction m with
 |zero=>intro i _ hk;exact hk (fun j _ _=>by omega)
 |succ m ih=>
  intro i hg hk
  simp only[errs]
  rw[←hg i (Nat.le_refl _) (by omega) (fun j _ _=>by omega)]
  cases h:g i with
  |none=>rfl
  |some e=>
   simp only[Option.bind_some]
   by_cases he:e=0
   ·subst he
    rw[if_neg (by simp),if_neg (by simp)]
    refine ih (i+1) (fun j h1 h2 h3=>hg j (by omega) (by omega) fun j' a b=>?_) (fun h3=>hk fun j' a b=>?_)
    ·by_cases e:j'=i
     ·subst e;exact h
     ·exact h3 j' (by omega) b
    ·by_cases e:j'=i
     ·subst e;exact h
     ·exact h3 j' (by omega) (by omega)
   ·rw[if_pos (by simp[he]),if_pos (by simp[he])]
theorem GH{g:Nat→Option Int}{k:Option Int}:∀m i,errs g k m i=some 0→(∀j,i≤j→j<i+m→g j=some 0)∧k=some 0:=by
 intro m
 induction m with
 |zero=>intro i h;exact⟨fun j _ _=>by omega,h⟩
 |succ m ih=>
  intro i h
  simp only[errs] at h
  cases hg:g i with
  |none=>rw[hg] at h;cases h
  |some e=>
   rw[hg,Option.bind_some] at h
   by_cases he:e=0
   ·subst he
    rw[if_neg (by simp)] at h
    obtain⟨h1,h2⟩:=ih (i+1) h
    refine⟨fun j a b=>?_,h2⟩
    by_cases e:j=i
    ·subst e;exact hg
    ·exact h1 j (by omega) (by omega)
   ·rw[if_pos (by simp[he])] at h
    cases h;exact absurd rfl he
theorem vG{α:Type}(g:Bool)(d v:α):fK g d (some v)=some (if g then v else d):=by cases g<;>rfl
theorem aop{α:Type}{B:(Nat→Option Int)→Nat→Option Int}(xs:List α)(q:α→Bool)
  (hs:∀c (i:Nat) x,idx xs (i:Int)=some x→i<xs.length→B c i=if q x then some (i:Int) else c (i+1))(he:∀c,B c xs.length=some (-1)):
  ∀n i,i≤xs.length→xs.length-i<n→((iter B n i).bind fun y=>some (decide (0≤y)))=some ((xs.drop i).any q):=by
 intro n
 induction n with
 |zero=>intro i _ h;omega
 |succ n ih=>
  intro i hi hn
  show ((B (iter B n) i).bind _)=_
  by_cases hl:i=xs.length
  ·subst hl
   rw[he,List.drop_length];rfl
  ·have hlt:i<xs.length:=by omega
   have hd:xs.drop i=xs[i]::xs.drop (i+1):=List.drop_eq_getElem_cons hlt
   rw[hs _ i xs[i] (by simp[idx,hlt]) hlt,hd,List.any_cons]
   cases h:q xs[i] with
   |true=>simp
   |false=>rw[if_neg (by simp),ih (i+1) (by omega) (by omega)];simp
theorem aaD{α:Type}{B:(Nat→Option Int)→Nat→Option Int}(xs:List α)(q:α→Bool)
  (hs:∀c (i:Nat) x,idx xs (i:Int)=some x→i<xs.length→B c i=if q x then some (i:Int) else c (i+1))(he:∀c,B c xs.length=some (-1))
  (hl:xs.length≤1000000):((iter B FUEL 0).bind fun y=>some (decide (0≤y)))=some (xs.any q):=by
 have:=aop xs q hs he FUEL 0 (by omega) (jh (by omega))
 rwa [List.drop_zero] at this
end Go.Dc
namespace Go.Proofs.YtcalibhfgdncaaaGreatDoor
open Go.Dc
def gK(p:Plan)(r:aM):aO:=p.Routes.getD r.aO.toNat default
def nZ(r:aO):Int:=(r.Steps.getD 0 default).Section
def lC(r:aO):Int:=(r.Steps.getD ((r.Steps.length:Int)-r.Overlap-1).toNat default).Section
def uG(s:aH):Bool:=((((((decide (1≤s.Length)&&decide (s.Length≤40))&&decide (1000≤s.qB))&&decide (s.qB≤100000))&&decide (100≤s.qy))&&decide (s.qy≤2000))&&decide (100≤s.qz))&&decide (s.qz≤2000)
def nW(p:Plan)(lo hi:Int):Bool:=((decide (0≤lo)&&decide (lo≤hi))&&decide (hi≤7200))&&decide (hi<lo+p.bU)
def wB(w:Int):Bool:=decide (0≤w)&&decide (w≤1048576)
def uK(r:aO):List Step:=r.Steps.take ((r.Steps.length:Int)-r.Overlap).toNat
def D6(l:Layout)(r:aO)(s:aH):Int:=
 if (xI l r).2.2≠0 then (xI l r).2.2 else if uG s=false then 1
 else if (uK r).any (fun st=>decide ((jE l st).Length<(if s.Length>2 then s.Length else 2)))=true then 12 else 0
def uF(p:Plan)(x:Line)(k:Nat)(r:aM):Bool:=
 decide (0≤r.aO)&&decide (r.aO<(p.Routes.length:Int))&&decide (0≤r.Extra)&&decide (r.Extra<p.bU)&&nW p r.Min r.Max&& !(decide (k+1=x.aJ.length)&&(decide (r.Min≠0)||decide (r.Max≠0)))
def jo(x:Line)(k:Nat):aM:=x.aJ.getD k default
def vv(l:Layout)(p:Plan)(x:Line)(k:Nat):Int:=
 if uF p x k (jo x k)=false then 4
 else if D6 l (gK p (jo x k)) (p.aR.getD x.aH.toNat default)≠0 then D6 l (gK p (jo x k)) (p.aR.getD x.aH.toNat default)
 else if 0<k∧nZ (gK p (jo x k))≠lC (gK p (jo x (k-1))) then 11 else 0
def Lb(p:Plan)(i:Nat):Int:=
 if lJ (p.aR.getD i default).Name.ba=false then 3 else if (p.aR.take i).any (fun t=>decide (t.Name=(p.aR.getD i default).Name))=true then 5
 else if uG (p.aR.getD i default)=false then 4 else 0
def Xh(l:Layout)(p:Plan)(i:Nat):Int:=(jH l (p.Routes.getD i default)).2
def dB(p:Plan)(i:Nat):Line:=p.Lines.getD i default
def Bn(l:Layout)(p:Plan)(i:Nat):Option Int:=
 if lJ (dB p i).Name.ba=false then some 3 else if (p.Lines.take i).any (fun t=>decide (t.Name=(dB p i).Name))=true then some 5
 else if (decide (0≤(dB p i).aH)&&decide ((dB p i).aH<(p.aR.length:Int))&&wB (dB p i).Weight)=false then some 4
 else if (dB p i).aJ.length=0 then some 1
 else errs (fun k=>some (vv l p (dB p i) k)) (some 0) (dB p i).aJ.length 0
def iH(p:Plan)(i:Int):Bool:=decide (0≤i)&&decide (i<(p.Lines.length:Int))
def fF(p:Plan)(i k:Int):Bool:=iH p i&&decide (0≤k)&&decide (k<((dB p i.toNat).aJ.length:Int))
def iq(p:Plan)(i k:Int):aM:=jo (dB p i.toNat) k.toNat
def pY(l:Layout)(s:Int):Int:=(l.Sections.getD s.toNat default).nG
def yL(p:Plan)(c:Change):Bool:=fF p c.fZ c.iE&&fF p c.iO c.kN&& !decide (c.fZ=c.iO)&&nW p c.Min c.Max&&wB c.Weight
def Gu(l:Layout)(p:Plan)(c:Change):Int:=
 if yL p c=false then 4
 else if pY l (lC (gK p (iq p c.fZ c.iE)))= -1∨pY l (lC (gK p (iq p c.fZ c.iE)))≠pY l (nZ (gK p (iq p c.iO c.kN))) then 11 else 0
def PU(l:Layout)(p:Plan)(i:Nat):Int:=Gu l p (p.Changes.getD i default)
def Uk(p:Plan)(i:Nat)(t:Turn):Int:=
 if (iH p t.From&&iH p t.To&&nW p t.Min t.Max)=false then 4
 else if (p.Turns.take i).any (fun u=>decide (u.From=t.From)||decide (u.To=t.To))=true then 5
 else if lC (gK p (iq p t.From ((dB p t.From.toNat).aJ.length-1)))≠nZ (gK p (iq p t.To 0))∨(dB p t.From.toNat).aH≠(dB p t.To.toNat).aH then 11 else 0
def Lh(p:Plan)(i:Nat):Int:=Uk p i (p.Turns.getD i default)
def Le(p:Plan)(s:Sync):Int:=
 if (fF p s.mJ s.lG&&fF p s.mP s.lN&& !(decide (s.mJ=s.mP)&&decide (s.lG=s.lN))&&decide (0≤s.Offset)&&decide (s.Offset<p.bU))=false then 4 else 0
def Ld(p:Plan)(i:Nat):Int:=Le p (p.bE.getD i default)
def Jl(l:Layout)(d:dF):Int:=
 if (decide (0≤d.From)&&decide (d.From<(l.aU.length:Int))&&decide (0≤d.To)&&decide (d.To<(l.aU.length:Int))&& !decide (d.From=d.To)&&decide (1≤d.Weight)&&decide (d.Weight≤1048576))=false then 4 else 0
def Jk(l:Layout)(p:Plan)(i:Nat):Int:=Jl l (p.bF.getD i default)
structure Sz(p:Plan):Prop where
 st:p.aR.length≤8
 ro:p.Routes.length≤48
 li:p.Lines.length≤16
 ch:p.Changes.length≤32
 tu:p.Turns.length≤32
 sy:p.bE.length≤32
 de:p.bF.length≤32
 ri:∀x∈p.Lines,x.aJ.length≤12
instance (p:Plan):Decidable (Sz p):=
 decidable_of_iff (p.aR.length≤8∧p.Routes.length≤48∧p.Lines.length≤16∧p.Changes.length≤32∧p.Turns.length≤32∧p.bE.length≤32∧p.bF.length≤32∧∀x∈p.Lines,x.aJ.length≤12)
  ⟨fun⟨a,b,c,d,e,f,g,h⟩=>⟨a,b,c,d,e,f,g,h⟩,fun⟨a,b,c,d,e,f,g,h⟩=>⟨a,b,c,d,e,f,g,h⟩⟩
def CU(l:Layout)(p:Plan):Int:=if kR (fG l)≠0 then 1 else if ¬Sz p then 7 else if p.bU<2∨7200<p.bU then 4 else 0
def xZ(l:Layout)(p:Plan):Option Int:=
 if decide (CU l p≠0) then some (CU l p) else
 errs (fun i=>some (Lb p i)) (errs (fun i=>some (Xh l p i)) (errs (Bn l p) (errs (fun i=>some (PU l p i)) (errs (fun i=>some (Lh p i))
  (errs (fun i=>some (Ld p i)) (errs (fun i=>some (Jk l p i)) (some 0) p.bF.length 0) p.bE.length 0) p.Turns.length 0) p.Changes.length 0) p.Lines.length 0) p.Routes.length 0) p.aR.length 0
/-! ### What holds so far -/
structure RvOk(l:Layout)(p:Plan):Prop where
 sz:Sz p
 per:2≤p.bU∧p.bU≤7200
 ck:kR (fG l)=0
 rt:∀r∈p.Routes,(jH l r).2=0
theorem getD_lt{α:Type}[Inhabited α]{xs:List α}{i:Nat}(h:i<xs.length):xs.getD i default=xs[i]:=by simp[h]
theorem lT{α:Type}[Inhabited α]{xs:List α}{i:Nat}(h:i<xs.length):xs.getD i default∈xs:=by rw[getD_lt h];exact List.getElem_mem h
theorem qE{α:Type}[Inhabited α]{xs:List α}{i:Nat}(h:i<xs.length):idx xs (i:Int)=some (xs.getD i default):=by rw[mR];simp[h]
theorem acJ{α:Type}{xs:List α}{i:Nat}(h:i≤xs.length):sub xs 0 (i:Int)=some (xs.take i):=by
 unfold sub
 rw[if_pos (by omega)]
 simp
theorem tO{e:Int}{c:Option Int}(h:e≠0):(some e:Option Int)=((some e).bind fun e=>if decide (e≠0) then some e else c):=by
 rw[Option.bind_some,if_pos (by simpa using h)]
theorem ah7{l:Layout}{p:Plan}(h:CU l p=0):Sz p∧(2≤p.bU∧p.bU≤7200)∧kR (fG l)=0:=by
 unfold CU at h
 split at h
 ·cases h
 split at h
 ·cases h
 split at h
 ·cases h
 rename_i a b c
 exact⟨Classical.not_not.1 b,by omega,Classical.not_not.1 a⟩
theorem G7{l:Layout}{p:Plan}(o:RvOk l p){r:aM}(h0:0≤r.aO)(h1:r.aO<(p.Routes.length:Int)):idx p.Routes r.aO=some (gK p r)∧wI l (gK p r):=by
 have hlt:r.aO.toNat<p.Routes.length:=by omega
 exact⟨uq h0 h1,Ap (o.rt _ (lT hlt))⟩
theorem ah0{l:Layout}{r:aO}(o:wI l r):idx r.Steps 0=some (r.Steps.getD 0 default):=by
 have:=o.two;have:=o.ov
 exact uq (i:=0) (by omega) (by omega)
theorem ah4{l:Layout}{r:aO}(o:wI l r):idx r.Steps ((r.Steps.length:Int)-r.Overlap-1)=some (r.Steps.getD ((r.Steps.length:Int)-r.Overlap-1).toNat default):=by
 have:=o.two;have:=o.ov
 exact uq (by omega) (by omega)
theorem acC{l:Layout}{p:Plan}(o:RvOk l p){r:aM}(h0:0≤r.aO)(h1:r.aO<(p.Routes.length:Int)):Kg p r=some (nZ (gK p r)):=by
 obtain⟨a,b⟩:=G7 o h0 h1
 unfold Kg
 rw[a,Option.bind_some,ah0 b,Option.bind_some];rfl
theorem acG{l:Layout}{p:Plan}(o:RvOk l p){r:aM}(h0:0≤r.aO)(h1:r.aO<(p.Routes.length:Int)):Kh p r=some (lC (gK p r)):=by
 obtain⟨a,b⟩:=G7 o h0 h1
 have:=b.len;have:=b.ov
 unfold Kh
 rw[a,Option.bind_some,Option.bind_some,cO (eB (by omega) (by omega)),cO (eB (by omega) (by omega)),ah4 b,Option.bind_some];rfl
theorem YN{l:Layout}{p:Plan}(o:RvOk l p)(lo hi:Int):J9 p lo hi=some (nW p lo hi):=by
 have:=o.per
 unfold J9
 by_cases h:0≤lo∧lo≤hi∧hi≤7200
 ·rw[cO (by simp[bJ];omega)];rfl
 ·rw[cO (by simp;omega)];rfl
theorem OE{l:Layout}{r:aO}(o:wI l r){s:Step}(h:s∈r.Steps):idx l.Sections s.Section=some (l.Sections.getD s.Section.toNat default):=(KX o.v (o.st s h)).1
/-! ### The checks -/
theorem adX(s:aH):PY s=some (uG s):=rfl
theorem arR{l:Layout}{r:aO}(o:wI l r):PN r=some (uK r):=by
 have:=o.len;have:=o.ov;have:=o.two
 unfold PN
 rw[cO (eB (by omega) (by omega))]
 have:sub r.Steps 0 ((r.Steps.length:Int)-r.Overlap)=some (uK r):=by
  unfold sub uK
  rw[if_pos (by omega)]
  simp
 rw[this];rfl
theorem adP{l:Layout}{r:aO}(h:(xI l r).2.2=0):wI l r:=by
 refine Ap ?_
 by_cases h0:(jH l r).2=0
 ·exact h0
 ·unfold xI at h;rw[if_pos h0] at h;exact h
theorem ajO(l:Layout)(r:aO)(s:aH):PI l r s=some (D6 l r s):=by
 unfold PI U4 D6
 rw[aqb,Option.bind_some]
 by_cases h0:(xI l r).2.2=0
 ·rw[if_neg (by simp[h0]),if_neg (by simp[h0]),adX,Option.bind_some]
  have o:=adP h0
  cases hs:uG s with
  |false=>rfl
  |true=>
   rw[if_neg (by simp),if_neg (by simp),arR o,Option.bind_some]
   have hT:∀x∈uK r,iR l x=true:=fun x hx=>o.st x (List.mem_of_mem_take hx)
   have hl:(uK r).length≤24:=by have:=o.len;unfold uK;rw[List.length_take];omega
   generalize uK r=T at hT hl
   have:=nu (B:=PL T l s (xI l r)) (fun (_:Unit) i=>i) T (fun _ _=>True)
    (fun _ q=>some (if q.any (fun st=>decide ((jE l st).Length<(if s.Length>2 then s.Length else 2)))=true then (uP.mk ([]:List Cell) 0,(12:Int)) else (uP.mk (xI l r).1 (xI l r).2.1,0))) ?_ ?_ FUEL () 0 trivial (by omega) (jh (by omega))
   ·rw[this,Option.bind_some,List.drop_zero]
    cases (T.any fun st=>decide ((jE l st).Length<(if s.Length>2 then s.Length else 2)))<;>rfl
   ·intro c _ i x q _ hdr hi hx hk
    simp only[PL]
    have hm:x∈T:=List.mem_of_mem_drop (i:=i) (by rw[hdr];exact List.mem_cons_self)
    rw[if_pos (by simp;omega),hx,Option.bind_some,(KX o.v (hT x hm)).1,Option.bind_some]
    by_cases hc:(jE l x).Length<(if s.Length>2 then s.Length else 2)
    ·rw[if_pos (by simpa using hc),if_pos (by simp[hc])]
    ·rw[if_neg (by simpa using hc),hk () trivial]
     simp only[List.any_cons,decide_eq_false hc,Bool.false_or]
   ·intro c _ _
    simp only[PL]
    rw[if_neg (by simp)]
    rfl
 ·rw[if_pos (by simp[h0]),if_pos h0];rfl
end Go.Proofs.YtcalibhfgdncaaaGreatDoor
namespace Go.Proofs.YtcalibhfgdncaaaGreatDoor
open Go.Dc
theorem ajs(xs:List aH)(y:aH)(h:xs.length≤1000):TY xs y=some (xs.any fun t=>decide (t.Name=y.Name)):=by
 unfold TY Xx
 refine aaD xs _ (fun c i x hx hi=>?_) (fun c=>?_) (by omega)
 ·simp only[Xw]
  rw[if_pos (by simp;omega),hx];rfl
 ·simp only[Xw]
  rw[if_neg (by simp)];rfl
theorem ajr(xs:List Line)(y:Line)(h:xs.length≤1000):TW xs y=some (xs.any fun t=>decide (t.Name=y.Name)):=by
 unfold TW Xv
 refine aaD xs _ (fun c i x hx hi=>?_) (fun c=>?_) (by omega)
 ·simp only[Xu]
  rw[if_pos (by simp;omega),hx];rfl
 ·simp only[Xu]
  rw[if_neg (by simp)];rfl
theorem ajt(xs:List Turn)(y:Turn)(h:xs.length≤1000):T9 xs y=some (xs.any fun u=>decide (u.From=y.From)||decide (u.To=y.To)):=by
 unfold T9 Xz
 refine aaD xs _ (fun c i x hx hi=>?_) (fun c=>?_) (by omega)
 ·simp only[Xy]
  rw[if_pos (by simp;omega),hx];rfl
 ·simp only[Xy]
  rw[if_neg (by simp)];rfl
theorem ajj(l:Layout)(p:Plan)(h:p.aR.length≤1000):Np l p=errs (fun i=>some (Lb p i)) (some 0) p.aR.length 0:=by
 unfold Np
 refine wQ _ _ _ (fun c i hi=>?_) (fun c=>?_) (by omega)
 ·simp only[Wi]
  rw[if_pos (by simp;omega),qE hi,Option.bind_some,afH,Option.bind_some]
  unfold Lb
  by_cases h1:lJ (p.aR.getD i default).Name.ba=false
  ·rw[if_pos h1,if_pos (by rw[h1];rfl)];exact tO (by decide)
  ·rw[if_neg h1,if_neg (by simpa using h1),acJ (by omega),Option.bind_some,ajs _ _ (by rw[List.length_take];omega),Option.bind_some]
   by_cases h2:((p.aR.take i).any fun t=>decide (t.Name=(p.aR.getD i default).Name))=true
   ·rw[if_pos h2,if_pos h2];exact tO (by decide)
   ·rw[if_neg h2,if_neg h2,adX,Option.bind_some]
    by_cases h3:uG (p.aR.getD i default)=false
    ·rw[if_pos h3,if_pos (by rw[h3];rfl)];exact tO (by decide)
    ·rw[if_neg h3,if_neg (by simpa using h3)];rfl
 ·simp only[Wi]
  rw[if_neg (by simp)];rfl
theorem ajh(l:Layout)(p:Plan)(h:p.Routes.length≤1000):Nl l p=errs (fun i=>some (Xh l p i)) (some 0) p.Routes.length 0:=by
 unfold Nl
 refine wQ _ _ _ (fun c i hi=>?_) (fun c=>?_) (by omega)
 ·simp only[Wh]
  rw[if_pos (by simp;omega),qE hi,Option.bind_some,agT];rfl
 ·simp only[Wh]
  rw[if_neg (by simp)];rfl
theorem ace{p:Plan}{x:Line}{k:Nat}{r:aM}(h:uF p x k r=true):0≤r.aO∧r.aO<(p.Routes.length:Int):=by
 unfold uF at h
 simp only[Bool.and_eq_true,decide_eq_true_eq] at h
 exact⟨h.1.1.1.1.1,h.1.1.1.1.2⟩
theorem Tt{l:Layout}{p:Plan}{x:Line}{k:Nat}(h:vv l p x k=0):0≤(jo x k).aO∧(jo x k).aO<(p.Routes.length:Int):=by
 unfold vv at h
 split at h
 ·cases h
 ·rename_i h1;exact ace (by simpa using h1)
theorem aqG{l:Layout}{p:Plan}(o:RvOk l p)(x:Line)(hs:0≤x.aH∧x.aH<(p.aR.length:Int))(hx:x.aJ.length≤12)(k:Nat)(hk:k<x.aJ.length)
  (QC:∀j,j<k→vv l p x j=0)(hb:uF p x k (jo x k)=true):Cz p (jo x k) x l k false=some (vv l p x k):=by
 obtain⟨r0,r1⟩:=ace hb
 unfold vv
 rw[if_neg (by simp[hb])]
 simp only[Cz]
 rw[if_neg (by simp),(G7 o r0 r1).1,Option.bind_some,uq hs.1 hs.2,Option.bind_some,ajO,Option.bind_some]
 by_cases f0:D6 l (gK p (jo x k)) (p.aR.getD x.aH.toNat default)=0
 ·rw[if_neg (by rw[f0];simp),if_neg (fun h=>h f0)]
  by_cases k0:0<k
  ·have e1:((k:Int)-1)=((k-1:Nat):Int):=by omega
   obtain⟨q0,q1⟩:=Tt (QC (k-1) (by omega))
   have g:decide (0<(k:Int))=true:=by simp;omega
   rw[cO (by simp[bJ];omega),vH g,e1,qE (by omega),Option.bind_some,vH g,acC o r0 r1,Option.bind_some,vH g]
   rw[show x.aJ.getD (k-1) default=jo x (k-1) from rfl,acG o q0 q1,Option.bind_some,g,Bool.true_and]
   by_cases e:nZ (gK p (jo x k))=lC (gK p (jo x (k-1)))
   ·rw[if_neg (by simp[e]),if_neg (by simp[e])]
   ·rw[if_pos (by simpa using e),if_pos ⟨k0,e⟩]
  ·have g:decide (0<(k:Int))=false:=by simp;omega
   rw[cO (by simp;omega),vF g,Option.bind_some,vF g,Option.bind_some,vF g,Option.bind_some,g,Bool.false_and,if_neg (by simp),if_neg (fun h=>k0 h.1)]
 ·rw[if_pos (by simpa using f0),if_pos f0]
theorem ahp{l:Layout}{p:Plan}(o:RvOk l p)(x:Line)(hs:0≤x.aH∧x.aH<(p.aR.length:Int))(hx:x.aJ.length≤12)(k:Nat)(hk:k<x.aJ.length)
  (QC:∀j,j<k→vv l p x j=0):Nk l p x k=some (vv l p x k):=by
 have hgood:=aqG o x hs hx k hk QC
 have hbad:uF p x k (jo x k)=false→Cz p (jo x k) x l k true=some (vv l p x k):=by
  intro h;unfold vv;rw[if_pos h];rfl
 unfold Nk
 rw[qE hk,Option.bind_some,show x.aJ.getD k default=jo x k from rfl]
 generalize jo x k=r at*
 by_cases a1:r.aO<0
 ·rw[if_pos (by simpa using a1),decide_eq_true a1]
  exact hbad (by unfold uF;rw[decide_eq_false (show ¬0≤r.aO by omega)];simp)
 rw[if_neg (by simpa using a1)]
 by_cases a2:(p.Routes.length:Int)≤r.aO
 ·rw[if_pos (by simpa using a2),decide_eq_true a2]
  exact hbad (by unfold uF;rw[decide_eq_false (show ¬r.aO<(p.Routes.length:Int) by omega)];simp)
 rw[if_neg (by simpa using a2)]
 by_cases a3:r.Extra<0
 ·rw[if_pos (by simpa using a3),decide_eq_true a3]
  exact hbad (by unfold uF;rw[decide_eq_false (show ¬0≤r.Extra by omega)];simp)
 rw[if_neg (by simpa using a3)]
 by_cases a4:p.bU≤r.Extra
 ·rw[if_pos (by simpa using a4),decide_eq_true a4]
  exact hbad (by unfold uF;rw[decide_eq_false (show ¬r.Extra<p.bU by omega)];simp)
 rw[if_neg (by simpa using a4),YN o,Option.bind_some]
 cases a5:nW p r.Min r.Max with
 |false=>
  rw[Bool.not_false,if_pos rfl]
  exact hbad (by unfold uF;rw[a5];simp)
 |true=>
  rw[Bool.not_true,if_neg (by simp),cO (eB (by omega) (by omega))]
  have e:(decide ((k:Int)=(x.aJ.length:Int)-1))=decide (k+1=x.aJ.length):=by
   rw[Bool.eq_iff_iff];simp only[decide_eq_true_eq];omega
  rw[e]
  have hB:uF p x k r= !(decide (k+1=x.aJ.length)&&(decide (r.Min≠0)||decide (r.Max≠0))):=by
   unfold uF
   rw[decide_eq_true (show 0≤r.aO by omega),decide_eq_true (show r.aO<(p.Routes.length:Int) by omega),decide_eq_true (show 0≤r.Extra by omega),decide_eq_true (show r.Extra<p.bU by omega),a5]
   rfl
  cases hg:(decide (k+1=x.aJ.length)&&(decide (r.Min≠0)||decide (r.Max≠0))) with
  |true=>rw[hg] at hB;exact hbad hB
  |false=>rw[hg] at hB;exact hgood hB
theorem aii(w:Int):RX w=some (wB w):=rfl
theorem ajf{l:Layout}{p:Plan}(o:RvOk l p):Nj l p=errs (Bn l p) (some 0) p.Lines.length 0:=by
 have hz:=o.sz.li
 unfold Nj
 refine wQ _ _ _ (fun c i hi=>?_) (fun c=>?_) (by omega)
 ·simp only[V9]
  rw[if_pos (by simp;omega),qE hi,Option.bind_some,show p.Lines.getD i default=dB p i from rfl,afH,Option.bind_some]
  have hr:(dB p i).aJ.length≤12:=o.sz.ri _ (lT hi)
  unfold Bn
  by_cases h1:lJ (dB p i).Name.ba=false
  ·rw[if_pos h1,if_pos (by rw[h1];rfl)];exact tO (by decide)
  rw[if_neg h1,if_neg (by simpa using h1),acJ (by omega),Option.bind_some,ajr _ _ (by rw[List.length_take];omega),Option.bind_some]
  by_cases h2:((p.Lines.take i).any fun t=>decide (t.Name=(dB p i).Name))=true
  ·rw[if_pos h2,if_pos h2];exact tO (by decide)
  rw[if_neg h2,if_neg h2]
  have hk3:Ka (dB p i) l p c i true=some 4:=rfl
  by_cases a1:(dB p i).aH<0
  ·rw[if_pos (by simpa using a1),decide_eq_true a1,hk3,if_pos (by rw[decide_eq_false (show ¬0≤(dB p i).aH by omega)];simp)];exact tO (by decide)
  rw[if_neg (by simpa using a1)]
  by_cases a2:(p.aR.length:Int)≤(dB p i).aH
  ·rw[if_pos (by simpa using a2),decide_eq_true a2,hk3,if_pos (by rw[decide_eq_false (show ¬(dB p i).aH<(p.aR.length:Int) by omega)];simp)];exact tO (by decide)
  rw[if_neg (by simpa using a2),aii,Option.bind_some]
  rw[decide_eq_true (show 0≤(dB p i).aH by omega),decide_eq_true (show (dB p i).aH<(p.aR.length:Int) by omega),Bool.true_and,Bool.true_and]
  cases hw:wB (dB p i).Weight with
  |false=>rw[Bool.not_false,hk3,if_pos rfl];exact tO (by decide)
  |true=>
   rw[Bool.not_true,if_neg (by simp)]
   simp only[Ka]
   rw[if_neg (by simp)]
   by_cases h0:(dB p i).aJ.length=0
   ·rw[if_pos (by simp[h0]),if_pos h0];exact tO (by decide)
   ·rw[if_neg (by simp;intro e;exact h0 (by rw[e];rfl)),if_neg h0]
    rw[GA,wQ (B:=RU (dB p i) l p c i) (dB p i).aJ.length (fun k=>Nk l p (dB p i) k) (c (i+1)) (fun c' k hk=>?_) (fun c'=>?_) (by omega)]
    ·refine zJ _ _ (fun j _ hj hp=>?_) (fun _=>rfl)
     have:∀m,m≤j→(∀j',j'<m→vv l p (dB p i) j'=0):=by
      intro m
      induction m with
      |zero=>intro _ j' h;omega
      |succ m ih=>
       intro hm j' hj'
       have ih':=ih (by omega)
       by_cases e:j'=m
       ·subst e
        have h3:=ahp o (dB p i) (by omega) hr j' (by omega) ih'
        have h4:=hp j' (by omega) (by omega)
        rw[h3] at h4
        exact Option.some.inj h4
       ·exact ih' j' (by omega)
     exact ahp o (dB p i) (by omega) hr j (by omega) (this j (Nat.le_refl _))
    ·simp only[RU]
     rw[if_pos (by simp;omega)]
    ·simp only[RU]
     rw[if_neg (by simp)];rfl
 ·simp only[V9]
  rw[if_neg (by simp)];rfl
structure LnOk(l:Layout)(p:Plan):Prop extends RvOk l p where
 ln:∀i,i<p.Lines.length→(0≤(dB p i).aH∧(dB p i).aH<(p.aR.length:Int))∧0<(dB p i).aJ.length∧∀k,k<(dB p i).aJ.length→vv l p (dB p i) k=0
theorem afx{l:Layout}{p:Plan}{i:Nat}(h:Bn l p i=some 0):(0≤(dB p i).aH∧(dB p i).aH<(p.aR.length:Int))∧0<(dB p i).aJ.length∧∀k,k<(dB p i).aJ.length→vv l p (dB p i) k=0:=by
 unfold Bn at h
 split at h
 ·cases h
 split at h
 ·cases h
 split at h
 ·cases h
 split at h
 ·cases h
 rename_i _ _ h3 h4
 simp only[Bool.not_eq_false,Bool.and_eq_true,decide_eq_true_eq] at h3
 refine⟨h3.1,by omega,fun k hk=>?_⟩
 exact Option.some.inj ((GH _ _ h).1 k (by omega) (by omega))
theorem abb{l:Layout}{p:Plan}(o:RvOk l p)(h:∀j,0≤j→j<0+p.Lines.length→Bn l p j=some 0):LnOk l p:=
 {toRvOk:=o,ln:=fun i hi=>afx (h i (by omega) (by omega))}
theorem aez(p:Plan)(i k:Int):Hq p i k=some (fF p i k):=by
 unfold Hq Kc fF
 simp only[Option.bind_some]
 rw[show (decide (0≤i)&&decide (i<(p.Lines.length:Int)))=iH p i from rfl]
 cases h:(iH p i&&decide (0≤k)) with
 |false=>rw[vF rfl,Option.bind_some];rfl
 |true=>
  have h1:iH p i=true:=by simp only[Bool.and_eq_true] at h;exact h.1
  unfold iH at h1
  simp only[Bool.and_eq_true,decide_eq_true_eq] at h1
  rw[vH rfl,uq h1.1 h1.2,Option.bind_some];rfl
theorem alc(p:Plan)(i:Int):Kc p i=some (iH p i):=rfl
theorem Fh{p:Plan}{i:Int}(h:iH p i=true):idx p.Lines i=some (dB p i.toNat)∧i.toNat<p.Lines.length∧((i.toNat:Nat):Int)=i:=by
 unfold iH at h
 simp only[Bool.and_eq_true,decide_eq_true_eq] at h
 exact⟨uq h.1 h.2,by omega,by omega⟩
theorem Zu{l:Layout}{p:Plan}(o:LnOk l p){i k:Int}(h:fF p i k=true):idx p.Lines i=some (dB p i.toNat)∧idx (dB p i.toNat).aJ k=some (iq p i k)∧0≤(iq p i k).aO∧(iq p i k).aO<(p.Routes.length:Int):=by
 unfold fF at h
 simp only[Bool.and_eq_true,decide_eq_true_eq] at h
 obtain⟨a,b,_⟩:=Fh h.1.1
 have:=(o.ln _ b).2.2 k.toNat (by omega)
 exact⟨a,uq h.1.2 h.2,Tt this⟩
theorem ahF{l:Layout}{r:aO}(o:wI l r):idx l.Sections (nZ r)=some (l.Sections.getD (nZ r).toNat default):=by
 have:=o.two;have:=o.ov
 exact OE o (lT (by omega))
theorem ahG{l:Layout}{r:aO}(o:wI l r):idx l.Sections (lC r)=some (l.Sections.getD (lC r).toNat default):=by
 have:=o.two;have:=o.ov
 exact OE o (lT (by omega))
theorem ajd{l:Layout}{p:Plan}(o:LnOk l p):Nh l p=errs (fun i=>some (PU l p i)) (some 0) p.Changes.length 0:=by
 have hz:=o.sz.ch
 unfold Nh
 refine wQ _ _ _ (fun c i hi=>?_) (fun c=>?_) (by omega)
 ·simp only[V7]
  rw[if_pos (by simp;omega),qE hi,Option.bind_some]
  unfold PU
  generalize p.Changes.getD i default=x
  unfold Gu
  conv=>lhs;simp only[aez,YN o.toRvOk,aii,vG,Option.bind_some]
  have hc:(((((!fF p x.fZ x.iE)||(!(if (!(!fF p x.fZ x.iE))=true then fF p x.iO x.kN else default)))||decide (x.fZ=x.iO))||
    (!(if (!(((!fF p x.fZ x.iE)||(!(if (!(!fF p x.fZ x.iE))=true then fF p x.iO x.kN else default)))||decide (x.fZ=x.iO)))=true then nW p x.Min x.Max else default)))||
    (!(if (!((((!fF p x.fZ x.iE)||(!(if (!(!fF p x.fZ x.iE))=true then fF p x.iO x.kN else default)))||decide (x.fZ=x.iO))||
    (!(if (!(((!fF p x.fZ x.iE)||(!(if (!(!fF p x.fZ x.iE))=true then fF p x.iO x.kN else default)))||decide (x.fZ=x.iO)))=true then nW p x.Min x.Max else default))))=true then wB x.Weight else default)))= !yL p x:=by
   unfold yL
   cases fF p x.fZ x.iE<;>cases fF p x.iO x.kN<;>cases decide (x.fZ=x.iO)<;>cases nW p x.Min x.Max<;>cases wB x.Weight<;>rfl
  rw[hc]
  cases hb:yL p x with
  |false=>rw[Bool.not_false,if_pos rfl,if_pos rfl];exact tO (by decide)
  |true=>
   rw[Bool.not_true,if_neg (by simp),if_neg (by simp)]
   unfold yL at hb
   simp only[Bool.and_eq_true] at hb
   obtain⟨a1,a2,a3,a4⟩:=Zu o hb.1.1.1.1
   obtain⟨b1,b2,b3,b4⟩:=Zu o hb.1.1.1.2
   rw[a1,Option.bind_some,a2,Option.bind_some,acG o.toRvOk a3 a4,Option.bind_some,ahG (G7 o.toRvOk a3 a4).2,Option.bind_some]
   rw[b1,Option.bind_some,b2,Option.bind_some,acC o.toRvOk b3 b4,Option.bind_some,ahF (G7 o.toRvOk b3 b4).2,Option.bind_some]
   rw[show (l.Sections.getD (lC (gK p (iq p x.fZ x.iE))).toNat default).nG=pY l (lC (gK p (iq p x.fZ x.iE))) from rfl,
    show (l.Sections.getD (nZ (gK p (iq p x.iO x.kN))).toNat default).nG=pY l (nZ (gK p (iq p x.iO x.kN))) from rfl]
   by_cases e:pY l (lC (gK p (iq p x.fZ x.iE)))= -1∨pY l (lC (gK p (iq p x.fZ x.iE)))≠pY l (nZ (gK p (iq p x.iO x.kN)))
   ·rw[if_pos (by simpa using e),if_pos e];exact tO (by decide)
   ·rw[if_neg (by simpa using e),if_neg e];rfl
 ·simp only[V7]
  rw[if_neg (by simp)];rfl
theorem ajl{l:Layout}{p:Plan}(o:LnOk l p):Nr l p=errs (fun i=>some (Lh p i)) (some 0) p.Turns.length 0:=by
 have hz:=o.sz.tu
 unfold Nr
 refine wQ _ _ _ (fun c i hi=>?_) (fun c=>?_) (by omega)
 ·simp only[Wm]
  rw[if_pos (by simp;omega),qE hi,Option.bind_some]
  unfold Lh
  generalize p.Turns.getD i default=x
  unfold Uk
  conv=>lhs;simp only[alc,YN o.toRvOk,vG,Option.bind_some]
  have hc:(((!iH p x.From)||(!(if (!(!iH p x.From))=true then iH p x.To else default)))||
    (!(if (!((!iH p x.From)||(!(if (!(!iH p x.From))=true then iH p x.To else default))))=true then nW p x.Min x.Max else default)))= !(iH p x.From&&iH p x.To&&nW p x.Min x.Max):=by
   cases iH p x.From<;>cases iH p x.To<;>cases nW p x.Min x.Max<;>rfl
  rw[hc]
  cases hb:(iH p x.From&&iH p x.To&&nW p x.Min x.Max) with
  |false=>rw[Bool.not_false,if_pos rfl,if_pos rfl];exact tO (by decide)
  |true=>
   rw[Bool.not_true,if_neg (by simp),if_neg (by simp),acJ (by omega),Option.bind_some,ajt _ _ (by rw[List.length_take];omega),Option.bind_some]
   by_cases h2:((p.Turns.take i).any fun u=>decide (u.From=x.From)||decide (u.To=x.To))=true
   ·rw[if_pos h2,if_pos h2];exact tO (by decide)
   rw[if_neg h2,if_neg h2]
   simp only[Bool.and_eq_true] at hb
   obtain⟨a1,a2,a3⟩:=Fh hb.1.1
   obtain⟨b1,b2,b3⟩:=Fh hb.1.2
   obtain⟨_,l1,l2⟩:=o.ln _ a2
   obtain⟨_,m1,m2⟩:=o.ln _ b2
   have hr:=o.sz.ri _ (lT a2)
   rw[show p.Lines.getD x.From.toNat default=dB p x.From.toNat from rfl] at hr
   rw[a1,Option.bind_some,b1,Option.bind_some]
   simp only[Wn]
   have e1:((dB p x.From.toNat).aJ.length:Int)-1=(((dB p x.From.toNat).aJ.length-1:Nat):Int):=by omega
   have ra:iq p x.From ((dB p x.From.toNat).aJ.length-1)=jo (dB p x.From.toNat) ((dB p x.From.toNat).aJ.length-1):=by
    unfold iq;rw[e1];rfl
   rw[ra,show iq p x.To 0=jo (dB p x.To.toNat) 0 from rfl]
   obtain⟨q0,q1⟩:=Tt (l2 ((dB p x.From.toNat).aJ.length-1) (by omega))
   obtain⟨t0,t1⟩:=Tt (m2 0 (by omega))
   rw[cO (eB (by omega) (by omega)),e1,qE (by omega),Option.bind_some,uq (i:=0) (by omega) (by omega),Option.bind_some]
   rw[show (dB p x.From.toNat).aJ.getD ((dB p x.From.toNat).aJ.length-1) default=jo (dB p x.From.toNat) ((dB p x.From.toNat).aJ.length-1) from rfl,
    show (dB p x.To.toNat).aJ.getD (0:Int).toNat default=jo (dB p x.To.toNat) 0 from rfl]
   rw[acG o.toRvOk q0 q1,Option.bind_some,acC o.toRvOk t0 t1,Option.bind_some]
   by_cases e:lC (gK p (jo (dB p x.From.toNat) ((dB p x.From.toNat).aJ.length-1)))≠nZ (gK p (jo (dB p x.To.toNat) 0))∨(dB p x.From.toNat).aH≠(dB p x.To.toNat).aH
   ·rw[if_pos (by simpa using e),if_pos e];exact tO (by decide)
   ·rw[if_neg (by simpa using e),if_neg e];rfl
 ·simp only[Wm]
  rw[if_neg (by simp)];rfl
theorem ajk{l:Layout}{p:Plan}(o:LnOk l p):Nq l p=errs (fun i=>some (Ld p i)) (some 0) p.bE.length 0:=by
 have hz:=o.sz.sy
 unfold Nq
 refine wQ _ _ _ (fun c i hi=>?_) (fun c=>?_) (by omega)
 ·simp only[Wj]
  rw[if_pos (by simp;omega),qE hi,Option.bind_some]
  unfold Ld
  generalize p.bE.getD i default=x
  unfold Le
  conv=>lhs;simp only[aez,vG,Option.bind_some]
  have hc:(((((!fF p x.mJ x.lG)||(!(if (!(!fF p x.mJ x.lG))=true then fF p x.mP x.lN else default)))||(decide (x.mJ=x.mP)&&decide (x.lG=x.lN)))||decide (x.Offset<0))||decide (p.bU≤x.Offset))
    = !(fF p x.mJ x.lG&&fF p x.mP x.lN&& !(decide (x.mJ=x.mP)&&decide (x.lG=x.lN))&&decide (0≤x.Offset)&&decide (x.Offset<p.bU)):=by
   rw[show decide (x.Offset<0)= !decide (0≤x.Offset) by rw[←decide_not];simp,show decide (p.bU≤x.Offset)= !decide (x.Offset<p.bU) by rw[←decide_not];simp]
   cases fF p x.mJ x.lG<;>cases fF p x.mP x.lN<;>cases decide (x.mJ=x.mP)<;>cases decide (x.lG=x.lN)<;>cases decide (0≤x.Offset)<;>cases decide (x.Offset<p.bU)<;>rfl
  rw[hc]
  cases (fF p x.mJ x.lG&&fF p x.mP x.lN&& !(decide (x.mJ=x.mP)&&decide (x.lG=x.lN))&&decide (0≤x.Offset)&&decide (x.Offset<p.bU)) with
  |false=>rw[Bool.not_false,if_pos rfl,if_pos rfl];exact tO (by decide)
  |true=>rw[Bool.not_true,if_neg (by simp),if_neg (by simp)];rfl
 ·simp only[Wj]
  rw[if_neg (by simp)];rfl
theorem aje{l:Layout}{p:Plan}(hz:p.bF.length≤1000):Ni l p=errs (fun i=>some (Jk l p i)) (some 0) p.bF.length 0:=by
 unfold Ni
 refine wQ _ _ _ (fun c i hi=>?_) (fun c=>?_) (by omega)
 ·simp only[V8]
  rw[if_pos (by simp;omega),qE hi,Option.bind_some]
  unfold Jk
  generalize p.bF.getD i default=x
  unfold Jl
  have hc:((((((decide (x.From<0)||decide ((l.aU.length:Int)≤x.From))||decide (x.To<0))||decide ((l.aU.length:Int)≤x.To))||decide (x.From=x.To))||decide (x.Weight<1))||decide (1048576<x.Weight))
    = !(decide (0≤x.From)&&decide (x.From<(l.aU.length:Int))&&decide (0≤x.To)&&decide (x.To<(l.aU.length:Int))&& !decide (x.From=x.To)&&decide (1≤x.Weight)&&decide (x.Weight≤1048576)):=by
   rw[Bool.eq_iff_iff]
   simp only[Bool.or_eq_true,Bool.not_eq_true',Bool.and_eq_false_imp,Bool.and_eq_true,decide_eq_true_eq,decide_eq_false_iff_not,Bool.not_eq_false']
   omega
  rw[hc]
  cases (decide (0≤x.From)&&decide (x.From<(l.aU.length:Int))&&decide (0≤x.To)&&decide (x.To<(l.aU.length:Int))&& !decide (x.From=x.To)&&decide (1≤x.Weight)&&decide (x.Weight≤1048576)) with
  |false=>rw[Bool.not_false,if_pos rfl,if_pos rfl];exact tO (by decide)
  |true=>rw[Bool.not_true,if_neg (by simp),if_neg (by simp)];rfl
 ·simp only[V8]
  rw[if_neg (by simp)];rfl
theorem aji(l:Layout)(p:Plan):Nn l p=some (CU l p):=by
 unfold Nn Ri CU
 simp only[Option.bind_some]
 by_cases h0:kR (fG l)=0
 ·rw[if_neg (by simp[h0]),if_neg (show ¬kR (fG l)≠0 from fun h=>h h0)]
  have hbad:¬Sz p→CB p true=some (if ¬Sz p then 7 else if p.bU<2∨7200<p.bU then 4 else 0):=fun h=>by rw[if_pos h];rfl
  by_cases a1:8<p.aR.length
  ·rw[if_pos (by simp;omega),decide_eq_true (by omega)];exact hbad (fun h=>by have:=h.st;omega)
  rw[if_neg (by simp;omega)]
  by_cases a2:48<p.Routes.length
  ·rw[if_pos (by simp;omega),decide_eq_true (by omega)];exact hbad (fun h=>by have:=h.ro;omega)
  rw[if_neg (by simp;omega)]
  by_cases a3:16<p.Lines.length
  ·rw[if_pos (by simp;omega),decide_eq_true (by omega)];exact hbad (fun h=>by have:=h.li;omega)
  rw[if_neg (by simp;omega)]
  by_cases a4:32<p.Changes.length
  ·rw[if_pos (by simp;omega),decide_eq_true (by omega)];exact hbad (fun h=>by have:=h.ch;omega)
  rw[if_neg (by simp;omega)]
  by_cases a5:32<p.Turns.length
  ·rw[if_pos (by simp;omega),decide_eq_true (by omega)];exact hbad (fun h=>by have:=h.tu;omega)
  rw[if_neg (by simp;omega)]
  by_cases a6:32<p.bE.length
  ·rw[if_pos (by simp;omega),decide_eq_true (by omega)];exact hbad (fun h=>by have:=h.sy;omega)
  rw[if_neg (by simp;omega)]
  by_cases a7:32<p.bF.length
  ·rw[decide_eq_true (by omega)];exact hbad (fun h=>by have:=h.de;omega)
  rw[decide_eq_false (by omega)]
  unfold CB
  rw[if_neg (by simp)]
  have:=nu (B:=RV p) (fun (_:Unit) i=>i) p.Lines (fun _ i=>∀x∈p.Lines.take i,x.aJ.length≤12)
   (fun _ q=>some (if (¬∀x∈q,x.aJ.length≤12) then (7:Int) else if p.bU<2∨7200<p.bU then 4 else 0)) ?_ ?_ FUEL () 0 (by simp) (by omega) (jh (by omega))
  ·rw[this,List.drop_zero]
   congr 1
   by_cases hr:∀x∈p.Lines,x.aJ.length≤12
   ·have hs:Sz p:=⟨by omega,by omega,by omega,by omega,by omega,by omega,by omega,hr⟩
    rw[if_neg (show ¬¬∀x∈p.Lines,x.aJ.length≤12 from fun h=>h hr),if_neg (show ¬¬Sz p from fun h=>h hs)]
   ·rw[if_pos hr,if_pos (fun h=>hr h.ri)]
  ·intro c _ i x q hI hdr hi hx hk
   simp only[RV]
   rw[if_pos (by simp;omega),hx,Option.bind_some]
   by_cases aac:12<x.aJ.length
   ·rw[if_pos (by simp;omega),if_pos (fun h=>by have:=h x List.mem_cons_self;omega)]
   ·have ht:p.Lines.take (i+1)=p.Lines.take i++[x]:=by
     rw[List.take_succ_eq_append_getElem hi]
     rw[mR,List.getElem?_eq_getElem hi] at hx
     cases hx;rfl
    rw[if_neg (by simp;omega),hk () (by
     intro y hy;rw[ht] at hy
     rcases List.mem_append.1 hy with h|h
     ·exact hI y h
     ·rw[List.mem_singleton.1 h];omega)]
    congr 1
    by_cases hq:∀y∈q,y.aJ.length≤12
    ·have hxq:∀y∈x::q,y.aJ.length≤12:=fun y hy=>by
      rcases List.mem_cons.1 hy with e|e
      ·rw[e];omega
      ·exact hq y e
     rw[if_neg (show ¬¬∀y∈q,y.aJ.length≤12 from fun h=>h hq),if_neg (show ¬¬∀y∈x::q,y.aJ.length≤12 from fun h=>h hxq)]
    ·rw[if_pos hq,if_pos (fun h=>hq fun y hy=>h y (List.mem_cons_of_mem _ hy))]
  ·intro c _ hI
   simp only[RV]
   rw[if_neg (by simp)]
   unfold abq
   rw[if_neg (show ¬¬∀y∈([]:List Line),y.aJ.length≤12 from fun h=>h (fun y hy=>by cases hy))]
   by_cases hp:p.bU<2∨7200<p.bU
   ·rw[if_pos (by simpa using hp),if_pos hp]
   ·rw[if_neg (by simpa using hp),if_neg hp]
 ·rw[if_pos (by simpa using h0),if_pos h0]
theorem YS(l:Layout)(p:Plan):Ho l p=xZ l p:=by
 unfold Ho
 rw[wQ 8 (fun i=>(idx ([32,33,34,35,36,37,38,39]:List Nat) (i:Int)).bind fun x=>V5 x l p) (some 0) (fun c i hi=>?_) (fun c=>?_) (by omega)]
 ·show ((Nn l p).bind fun e=>if decide (e≠0) then some e else (Np l p).bind fun e=>if decide (e≠0) then some e else (Nl l p).bind fun e=>if decide (e≠0) then some e else
   (Nj l p).bind fun e=>if decide (e≠0) then some e else (Nh l p).bind fun e=>if decide (e≠0) then some e else (Nr l p).bind fun e=>if decide (e≠0) then some e else
   (Nq l p).bind fun e=>if decide (e≠0) then some e else (Ni l p).bind fun e=>if decide (e≠0) then some e else some 0)=xZ l p
  unfold xZ
  rw[aji,Option.bind_some]
  by_cases h0:CU l p=0
  ·obtain⟨hz,hp,hc⟩:=ah7 h0
   rw[if_neg (by simp[h0]),if_neg (by simp[h0]),ajj l p (by have:=hz.st;omega),GA]
   refine zJ _ _ (fun _ _ _ _=>rfl) (fun _=>?_)
   rw[ajh l p (by have:=hz.ro;omega),GA]
   refine zJ _ _ (fun _ _ _ _=>rfl) (fun hR=>?_)
   have o:RvOk l p:=⟨hz,hp,hc,fun r hr=>by
    obtain⟨i,hi,rfl⟩:=List.getElem_of_mem hr
    have:=Option.some.inj (hR i (by omega) (by omega))
    unfold Xh at this
    rwa [getD_lt hi] at this⟩
   rw[ajf o,GA]
   refine zJ _ _ (fun _ _ _ _=>rfl) (fun hL=>?_)
   have o':=abb o hL
   rw[ajd o',GA]
   refine zJ _ _ (fun _ _ _ _=>rfl) (fun _=>?_)
   rw[ajl o',GA]
   refine zJ _ _ (fun _ _ _ _=>rfl) (fun _=>?_)
   rw[ajk o',GA]
   refine zJ _ _ (fun _ _ _ _=>rfl) (fun _=>?_)
   rw[aje (by have:=hz.de;omega),GA]
  ·rw[if_pos (by simpa using h0),if_pos (by simpa using h0)]
 ·simp only[V4]
  rw[if_pos (by simp;omega),Option.bind_assoc]
 ·simp only[V4]
  rw[if_neg (by simp)];rfl
end Go.Proofs.YtcalibhfgdncaaaGreatDoor
namespace Go.Proofs.YtcalibhfgdncaaaGreatDoor
open Go.Dc
theorem Ed(n hi:Int):rO n 0 (hi-1)=some (decide (0≤n)&&decide (n<hi)):=by
 unfold rO
 rw[show decide (n≤hi-1)=decide (n<hi) from by rw[Bool.eq_iff_iff];simp only[decide_eq_true_eq];omega]
theorem YM{l:Layout}{p:Plan}(o:RvOk l p)(lo hi:Int):KE p lo hi=some (nW p lo hi):=by
 have hp:=o.per
 unfold KE nW
 have hw:0≤lo→lo≤7200→IntKind.i64.wrap (lo+p.bU)=lo+p.bU:=fun h0 h1=>by
  rw[IntKind.wrap_i64];omega
 congr 1
 rw[Bool.eq_iff_iff]
 simp only[Bool.and_eq_true,decide_eq_true_eq]
 constructor
 ·rintro⟨⟨⟨a,b⟩,c⟩,d⟩
  rw[hw a (by omega)] at c
  exact⟨⟨⟨a,b⟩,d⟩,c⟩
 ·rintro⟨⟨⟨a,b⟩,d⟩,c⟩
  exact⟨⟨⟨a,b⟩,by rw[hw a (by omega)];exact c⟩,d⟩
theorem ah3(s:aH):NY s=some (uG s):=by
 have e:uG s=((((decide (1≤s.Length)&&decide (s.Length≤40))&&(decide (1000≤s.qB)&&decide (s.qB≤100000)))&&(decide (100≤s.qy)&&decide (s.qy≤2000)))&&(decide (100≤s.qz)&&decide (s.qz≤2000))):=by
  unfold uG;simp only[Bool.and_assoc]
 rw[e]
 unfold NY Ez
 simp only[Option.bind_some,vG]
 generalize (decide (1≤s.Length)&&decide (s.Length≤40))=a
 generalize (decide (1000≤s.qB)&&decide (s.qB≤100000))=b
 generalize (decide (100≤s.qy)&&decide (s.qy≤2000))=c
 generalize (decide (100≤s.qz)&&decide (s.qz≤2000))=d
 cases a<;>cases b<;>cases c<;>cases d<;>rfl
theorem arG(p:Plan)(hz:p.aR.length≤8)(i:Nat)(hi:i<p.aR.length):Oo p (i:Int)=some (Lb p i):=by
 unfold Oo Lb
 rw[qE hi,Option.bind_some,abh,Option.bind_some]
 by_cases h1:lJ (p.aR.getD i default).Name.ba=false
 ·rw[if_pos h1,if_pos (by rw[h1];rfl)]
 rw[if_neg h1,if_neg (by simpa using h1)]
 have hlt:(p.aR.take i).length=i:=by rw[List.length_take];omega
 rw[VN (p.aR.take i) (fun t=>decide (t.Name=(p.aR.getD i default).Name)) (some 5) (if uG (p.aR.getD i default)=false then some 4 else some 0) (fun c j x hx hj=>?_) (fun c=>?_) (by omega)]
 ·by_cases h2:((p.aR.take i).any fun t=>decide (t.Name=(p.aR.getD i default).Name))=true
  ·rw[if_pos h2,if_pos h2]
  ·rw[if_neg h2,if_neg h2];split<;>rfl
 ·simp only[Xe]
  rw[if_pos (by simp;omega),VL hx,Option.bind_some,qE hi,Option.bind_some,cO (eB (by omega) (by omega))]
 ·simp only[Xe]
  rw[hlt,if_neg (by simp)]
  unfold ab8
  rw[qE hi,Option.bind_some,ah3,Option.bind_some]
  cases uG (p.aR.getD i default)<;>rfl
theorem ajM(l:Layout)(r:aO)(s:aH):SX l r s=some (D6 l r s):=by
 unfold SX D6
 rw[aqu,Option.bind_some]
 by_cases h0:(xI l r).2.2=0
 ·rw[if_neg (by simp[h0]),if_neg (by simp[h0]),ah3,Option.bind_some]
  have o:=adP h0
  cases hs:uG s with
  |false=>rfl
  |true=>
   rw[if_neg (by simp),if_neg (by simp)]
   have hn:=o.len;have hv:=o.ov;have h2:=o.two
   have hT:∀x∈uK r,iR l x=true:=fun x hx=>o.st x (List.mem_of_mem_take hx)
   have hl:(uK r).length=((r.Steps.length:Int)-r.Overlap).toNat:=by unfold uK;rw[List.length_take];omega
   rw[VN (uK r) (fun st=>decide ((jE l st).Length<(if s.Length>2 then s.Length else 2))) (some 12) (some 0) (fun c j x hx hj=>?_) (fun c=>?_) (by omega)]
   ·cases ((uK r).any fun st=>decide ((jE l st).Length<(if s.Length>2 then s.Length else 2)))<;>rfl
   ·simp only[WL]
    have hm:x∈uK r:=List.mem_of_getElem? (by rw[mR] at hx;exact hx)
    rw[cO (eB (by omega) (by omega)),if_pos (by simp;omega),VL hx,Option.bind_some,(KX o.v (hT x hm)).1,Option.bind_some,cO (eB (by omega) (by omega))]
   ·simp only[WL]
    rw[cO (eB (by omega) (by omega)),if_neg (by simp;omega)]
    rfl
 ·rw[if_pos (by simp[h0]),if_pos h0]
theorem acB{l:Layout}{r:aO}(o:wI l r):KC r=some (nZ r):=by
 unfold KC;rw[ah0 o,Option.bind_some];rfl
theorem acF{l:Layout}{r:aO}(o:wI l r):KD r=some (lC r):=by
 have:=o.len;have:=o.ov
 unfold KD
 rw[cO (eB (by omega) (by omega)),cO (eB (by omega) (by omega)),ah4 o,Option.bind_some];rfl
theorem ai5(a1 a2 e1 e2 bn la m1 m2:Bool):(((!(a1&&a2))||(!(if (!(!(a1&&a2)))=true then (e1&&e2) else default)))||(!(if (!((!(a1&&a2))||(!(if (!(!(a1&&a2)))=true then (e1&&e2) else default))))=true then bn else default))||(la&&(m1||m2)))
  = !(a1&&a2&&e1&&e2&&bn&& !(la&&(m1||m2))):=by
 cases a1<;>cases a2<;>cases e1<;>cases e2<;>cases bn<;>cases la<;>cases m1<;>cases m2<;>rfl
theorem aqI{l:Layout}{p:Plan}(o:RvOk l p)(x:Line)(hs:0≤x.aH∧x.aH<(p.aR.length:Int))(hx:x.aJ.length≤12):
  iter (Tm x p l) FUEL 0=errs (fun k=>some (vv l p x k)) (some 0) x.aJ.length 0:=by
 have hp:=o.per;have hz:=o.sz.ro
 refine aoC _ _ _ (fun c k hk QC=>?_) (fun c=>?_) (by omega)
 ·simp only[Tm]
  rw[if_pos (by simp;omega),qE hk,Option.bind_some,show x.aJ.getD k default=jo x k from rfl,cO (eB (by omega) (by omega)),cO (eB (by omega) (by omega)),Ed,Option.bind_some,
   cO (by simp[bJ];omega),Ed,vG,Option.bind_some,YM o,vG,Option.bind_some,ai5]
  have e:(decide ((k:Int)=(x.aJ.length:Int)-1))=decide (k+1=x.aJ.length):=by
   rw[Bool.eq_iff_iff];simp only[decide_eq_true_eq];omega
  rw[e]
  rw[show (decide (0≤(jo x k).aO)&&decide ((jo x k).aO<(p.Routes.length:Int))&&decide (0≤(jo x k).Extra)&&decide ((jo x k).Extra<p.bU)&&nW p (jo x k).Min (jo x k).Max&& !(decide (k+1=x.aJ.length)&&(decide ((jo x k).Min≠0)||decide ((jo x k).Max≠0))))=uF p x k (jo x k) from rfl]
  unfold vv
  cases hb:uF p x k (jo x k) with
  |false=>rw[Bool.not_false,if_pos rfl,if_pos rfl];exact tO (by decide)
  |true=>
   obtain⟨r0,r1⟩:=ace hb
   have hR:=G7 o r0 r1
   rw[Bool.not_true,if_neg (by simp),if_neg (by simp),hR.1,Option.bind_some,uq hs.1 hs.2,Option.bind_some,ajM,Option.bind_some]
   by_cases f0:D6 l (gK p (jo x k)) (p.aR.getD x.aH.toNat default)=0
   ·rw[if_neg (by rw[f0];simp),if_neg (fun h=>h f0)]
    by_cases k0:0<k
    ·have e1:((k:Int)-1)=((k-1:Nat):Int):=by omega
     obtain⟨q0,q1⟩:=Tt (Option.some.inj (QC (k-1) (by omega)))
     have hQ:=G7 o q0 q1
     have g:decide (0<(k:Int))=true:=by simp;omega
     rw[vH g,Option.bind_some,if_pos g,cO (eB (by omega) (by omega)),e1,qE (by omega),Option.bind_some,show x.aJ.getD (k-1) default=jo x (k-1) from rfl,hQ.1,Option.bind_some,acB hR.2,Option.bind_some,acF hQ.2,Option.bind_some,g,Bool.true_and]
     by_cases e:nZ (gK p (jo x k))=lC (gK p (jo x (k-1)))
     ·rw[if_neg (by simp[e]),if_neg (by simp[e]),cO (eB (by omega) (by omega))];rfl
     ·rw[if_pos (by simpa using e),if_pos ⟨k0,e⟩];exact tO (by decide)
    ·have g:decide (0<(k:Int))=false:=by simp;omega
     rw[vF g,Option.bind_some,if_neg (by rw[g];simp),if_neg (fun h=>k0 h.1),cO (eB (by omega) (by omega))];rfl
   ·rw[if_pos (by simpa using f0),if_pos f0];exact tO f0
 ·simp only[Tm]
  rw[if_neg (by simp)];rfl
theorem afv{l:Layout}{p:Plan}(o:RvOk l p)(i:Nat)(hi:i<p.Lines.length):Oj l p (i:Int)=Bn l p i:=by
 have hz:=o.sz.li;have hst:=o.sz.st
 have hr:(dB p i).aJ.length≤12:=o.sz.ri _ (lT hi)
 unfold Oj Bn
 rw[qE hi,Option.bind_some,show p.Lines.getD i default=dB p i from rfl,abh,Option.bind_some]
 by_cases h1:lJ (dB p i).Name.ba=false
 ·rw[if_pos h1,if_pos (by rw[h1];rfl)]
 rw[if_neg h1,if_neg (by simpa using h1)]
 have hlt:(p.Lines.take i).length=i:=by rw[List.length_take];omega
 rw[VN (p.Lines.take i) (fun t=>decide (t.Name=(dB p i).Name)) (some 5) (Xc p (dB p i) l ()) (fun c j x hx hj=>?_) (fun c=>?_) (by omega)]
 ·by_cases h2:((p.Lines.take i).any fun t=>decide (t.Name=(dB p i).Name))=true
  ·rw[if_pos h2,if_pos h2]
  rw[if_neg h2,if_neg h2]
  unfold Xc
  rw[cO (eB (by omega) (by omega)),Ed,Option.bind_some,show rO (dB p i).Weight 0 1048576=some (wB (dB p i).Weight) from rfl,vG,Option.bind_some]
  cases ha:(decide (0≤(dB p i).aH)&&decide ((dB p i).aH<(p.aR.length:Int))) with
  |false=>rfl
  |true=>
   cases hw:wB (dB p i).Weight with
   |false=>rfl
   |true=>
    simp only[Bool.and_eq_true,decide_eq_true_eq] at ha
    rw[if_neg (by simp),if_neg (show ¬((true&&true)=false) by simp)]
    by_cases h0:(dB p i).aJ.length=0
    ·rw[if_pos (by simp[h0]),if_pos h0]
    ·rw[if_neg (by simp;intro e;exact h0 (by rw[e];rfl)),if_neg h0,aqI o _ ha hr]
 ·simp only[Xb]
  rw[if_pos (by simp;omega),VL hx,Option.bind_some,cO (eB (by omega) (by omega))]
 ·simp only[Xb]
  rw[hlt,if_neg (by simp)]
theorem acd{p:Plan}(z:Sz p)(i k:Int):Ib p i k=some (fF p i k):=by
 have hz:=z.li
 unfold Ib fF
 rw[cO (eB (by omega) (by omega)),Ed,Option.bind_some,show (decide (0≤i)&&decide (i<(p.Lines.length:Int)))=iH p i from rfl]
 cases h:iH p i with
 |false=>rw[vF rfl,Option.bind_some];rfl
 |true=>
  obtain⟨a,b,_⟩:=Fh h
  have hr:(dB p i.toNat).aJ.length≤12:=z.ri _ (lT b)
  rw[vH rfl,a,Option.bind_some,if_pos rfl,cO (eB (by omega) (by omega)),Ed,Option.bind_some]
  rfl
theorem Xi{l:Layout}{p:Plan}(o:LnOk l p){i k:Int}(h:fF p i k=true):Ia p i k=some (gK p (iq p i k))∧wI l (gK p (iq p i k)):=by
 obtain⟨a1,a2,a3,a4⟩:=Zu o h
 have:=G7 o.toRvOk a3 a4
 unfold Ia
 rw[a1,Option.bind_some,a2,Option.bind_some,this.1,Option.bind_some]
 exact⟨rfl,this.2⟩
theorem arF{l:Layout}{p:Plan}(o:RvOk l p){r:aO}(hr:wI l r){s:Step}(hs:s∈r.Steps): -1≤pY l s.Section:=by
 have v:=aif o.ck
 have h:=hr.st s hs
 unfold iR at h
 simp only[Bool.and_eq_true,decide_eq_true_eq] at h
 exact (v.scs _ (lT (by omega))).1
theorem aja{l:Layout}{p:Plan}(o:LnOk l p)(x:Change):Oi l p x=some (Gu l p x):=by
 unfold Oi Gu
 simp only[acd o.sz,YM o.toRvOk,show rO x.Weight 0 1048576=some (wB x.Weight) from rfl,vG,Option.bind_some]
 have hc:(((((!fF p x.fZ x.iE)||(!(if (!(!fF p x.fZ x.iE))=true then fF p x.iO x.kN else default)))||decide (x.fZ=x.iO))||
   (!(if (!(((!fF p x.fZ x.iE)||(!(if (!(!fF p x.fZ x.iE))=true then fF p x.iO x.kN else default)))||decide (x.fZ=x.iO)))=true then nW p x.Min x.Max else default)))||
   (!(if (!((((!fF p x.fZ x.iE)||(!(if (!(!fF p x.fZ x.iE))=true then fF p x.iO x.kN else default)))||decide (x.fZ=x.iO))||
   (!(if (!(((!fF p x.fZ x.iE)||(!(if (!(!fF p x.fZ x.iE))=true then fF p x.iO x.kN else default)))||decide (x.fZ=x.iO)))=true then nW p x.Min x.Max else default))))=true then wB x.Weight else default)))= !yL p x:=by
  unfold yL
  cases fF p x.fZ x.iE<;>cases fF p x.iO x.kN<;>cases decide (x.fZ=x.iO)<;>cases nW p x.Min x.Max<;>cases wB x.Weight<;>rfl
 rw[hc]
 cases hb:yL p x with
 |false=>rfl
 |true=>
  rw[Bool.not_true,if_neg (by simp),if_neg (by simp)]
  unfold yL at hb
  simp only[Bool.and_eq_true] at hb
  obtain⟨a1,a2⟩:=Xi o hb.1.1.1.1
  obtain⟨b1,b2⟩:=Xi o hb.1.1.1.2
  rw[a1,Option.bind_some,acF a2,Option.bind_some,ahG a2,Option.bind_some,b1,Option.bind_some,acB b2,Option.bind_some,ahF b2,Option.bind_some]
  have hge: -1≤pY l (lC (gK p (iq p x.fZ x.iE))):=arF o.toRvOk a2 (lT (by have:=a2.two;have:=a2.ov;omega))
  rw[show (l.Sections.getD (lC (gK p (iq p x.fZ x.iE))).toNat default).nG=pY l (lC (gK p (iq p x.fZ x.iE))) from rfl,
   show (l.Sections.getD (nZ (gK p (iq p x.iO x.kN))).toNat default).nG=pY l (nZ (gK p (iq p x.iO x.kN))) from rfl]
  have e9:decide (pY l (lC (gK p (iq p x.fZ x.iE)))<0)=decide (pY l (lC (gK p (iq p x.fZ x.iE)))= -1)∨0≤pY l (lC (gK p (iq p x.fZ x.iE))):=by
   by_cases h:0≤pY l (lC (gK p (iq p x.fZ x.iE)))
   ·exact .inr h
   ·left;rw[Bool.eq_iff_iff];simp only[decide_eq_true_eq];omega
  by_cases e:pY l (lC (gK p (iq p x.fZ x.iE)))= -1∨pY l (lC (gK p (iq p x.fZ x.iE)))≠pY l (nZ (gK p (iq p x.iO x.kN)))
  ·rw[if_pos (by simp only[Bool.or_eq_true,decide_eq_true_eq];omega),if_pos e]
  ·rw[if_neg (by simp only[Bool.or_eq_true,decide_eq_true_eq];omega),if_neg e]
theorem arS{l:Layout}{p:Plan}(o:LnOk l p)(i:Nat)(hi:i<p.Turns.length):Oq p (i:Int)=some (Lh p i):=by
 have hz:=o.sz.tu;have hli:=o.sz.li
 unfold Oq Lh
 rw[qE hi,Option.bind_some]
 have hlt:(p.Turns.take i).length=i:=by rw[List.length_take];omega
 generalize p.Turns.getD i default=x
 unfold Uk
 rw[cO (eB (by omega) (by omega)),Ed,Option.bind_some,cO (by simp[bJ];omega),Ed,vG,Option.bind_some,YM o.toRvOk,vG,Option.bind_some]
 rw[show (decide (0≤x.From)&&decide (x.From<(p.Lines.length:Int)))=iH p x.From from rfl,show (decide (0≤x.To)&&decide (x.To<(p.Lines.length:Int)))=iH p x.To from rfl]
 have hc:(((!iH p x.From)||(!(if (!(!iH p x.From))=true then iH p x.To else default)))||
   (!(if (!((!iH p x.From)||(!(if (!(!iH p x.From))=true then iH p x.To else default))))=true then nW p x.Min x.Max else default)))= !(iH p x.From&&iH p x.To&&nW p x.Min x.Max):=by
  cases iH p x.From<;>cases iH p x.To<;>cases nW p x.Min x.Max<;>rfl
 rw[hc]
 cases hb:(iH p x.From&&iH p x.To&&nW p x.Min x.Max) with
 |false=>rfl
 |true=>
  rw[Bool.not_true,if_neg (by simp),if_neg (by simp)]
  simp only[Bool.and_eq_true] at hb
  obtain⟨a1,a2,a3⟩:=Fh hb.1.1
  obtain⟨b1,b2,b3⟩:=Fh hb.1.2
  obtain⟨_,l1,l2⟩:=o.ln _ a2
  obtain⟨_,m1,m2⟩:=o.ln _ b2
  have hr:(dB p x.From.toNat).aJ.length≤12:=o.sz.ri _ (lT a2)
  have hF:fF p x.From ((dB p x.From.toNat).aJ.length-1)=true:=by
   unfold fF;rw[hb.1.1];simp;omega
  have hT:fF p x.To 0=true:=by
   unfold fF;rw[hb.1.2];simp;omega
  obtain⟨q1,q2⟩:=Xi o hF
  obtain⟨t1,t2⟩:=Xi o hT
  rw[VN (p.Turns.take i) (fun u=>decide (u.From=x.From)||decide (u.To=x.To)) (some 5) (if lC (gK p (iq p x.From ((dB p x.From.toNat).aJ.length-1)))≠nZ (gK p (iq p x.To 0))∨(dB p x.From.toNat).aH≠(dB p x.To.toNat).aH then some 11 else some 0) (fun c j u hu hj=>?_) (fun c=>?_) (by omega)]
  ·by_cases h2:((p.Turns.take i).any fun u=>decide (u.From=x.From)||decide (u.To=x.To))=true
   ·rw[if_pos h2,if_pos h2]
   ·rw[if_neg h2,if_neg h2];split<;>rfl
  ·simp only[Xf]
   rw[if_pos (by simp;omega),VL hu,Option.bind_some,vG,Option.bind_some,cO (eB (by omega) (by omega))]
   cases h:decide (u.From=x.From)<;>rfl
  ·simp only[Xf]
   rw[hlt,if_neg (by simp)]
   unfold ab9
   rw[a1,Option.bind_some,b1,Option.bind_some]
   simp only[Xg]
   rw[cO (eB (by omega) (by omega)),q1,Option.bind_some,acF q2,Option.bind_some,t1,Option.bind_some,acB t2,Option.bind_some]
   by_cases e:lC (gK p (iq p x.From ((dB p x.From.toNat).aJ.length-1)))≠nZ (gK p (iq p x.To 0))∨(dB p x.From.toNat).aH≠(dB p x.To.toNat).aH
   ·rw[if_pos (by simpa using e),if_pos e]
   ·rw[if_neg (by simpa using e),if_neg e]
theorem aj3(p:Plan):Tk p=some (!decide (Sz p)):=by
 unfold Tk
 by_cases hc:((((((8<p.aR.length∨48<p.Routes.length)∨16<p.Lines.length)∨32<p.Changes.length)∨32<p.Turns.length)∨32<p.bE.length)∨32<p.bF.length)
 ·rw[if_pos (by simp only[Bool.or_eq_true,decide_eq_true_eq];omega)]
  rw[decide_eq_false (fun z:Sz p=>by have:=z.st;have:=z.ro;have:=z.li;have:=z.ch;have:=z.tu;have:=z.sy;have:=z.de;omega)];rfl
 ·rw[if_neg (by simp only[Bool.or_eq_true,decide_eq_true_eq];omega)]
  have:=nu (B:=Tj p) (fun (_:Unit) i=>i) p.Lines (fun _ _=>True) (fun _ q=>some (q.any fun x=>decide (12<x.aJ.length))) ?_ ?_ FUEL () 0 trivial (by omega) (jh (by omega))
  ·rw[this,List.drop_zero]
   congr 1
   by_cases hz:∃x∈p.Lines,12<x.aJ.length
   ·rw[List.any_eq_true.2 (by simpa using hz)]
    obtain⟨x,h1,h2⟩:=hz
    rw[decide_eq_false (fun z:Sz p=>by have:=z.ri x h1;omega)];rfl
   ·have hz':∀x∈p.Lines,x.aJ.length≤12:=fun x hx=>by
     exact Nat.not_lt.1 (fun h=>hz ⟨x,hx,h⟩)
    rw[List.any_eq_false.2 (fun x hx=>by have:=hz' x hx;simp;omega)]
    rw[decide_eq_true (show Sz p from⟨by omega,by omega,by omega,by omega,by omega,by omega,by omega,hz'⟩)];rfl
  ·intro c _ i x q _ hdr hi hx hk
   simp only[Tj]
   rw[if_pos (by simp;omega),hx,Option.bind_some]
   by_cases h12:12<x.aJ.length
   ·rw[if_pos (by simp;omega)];simp[h12]
   ·rw[if_neg (by simp;omega),cO (eB (by omega) (by omega)),hk () trivial];simp[h12]
  ·intro c _ _
   simp only[Tj]
   rw[if_neg (by simp)];rfl
theorem PZ{g:Option Int}{i:Nat}(h:i≤1000000)(c:Option Int):(g.bind fun y=>if decide (y≠0) then some y else bq (bJ ((i:Int)+1)) c)=g.bind fun e=>if decide (e≠0) then some e else c:=by
 rw[cO (eB (by omega) (by omega))]
theorem adQ(l:Layout)(p:Plan):N7 l p=xZ l p:=by
 unfold N7 xZ CU
 rw[adS,Option.bind_some]
 by_cases h0:kR (fG l)=0
 ·rw[if_neg (by simp[h0]),aj3,Option.bind_some]
  simp only[h0,ne_eq,not_true_eq_false,if_false]
  by_cases hz:Sz p
  ·rw[decide_eq_true hz,Bool.not_true,if_neg (by simp)]
   simp only[hz,not_true_eq_false,if_false]
   rw[show rO p.bU 2 7200=some (decide (2≤p.bU)&&decide (p.bU≤7200)) from rfl,Option.bind_some]
   by_cases hp:p.bU<2∨7200<p.bU
   ·rw[if_pos (by simp;omega)]
    simp only[hp,if_true]
    rfl
   ·rw[if_neg (by simp;omega)]
    simp only[hp,if_false]
    rw[if_neg (by simp)]
    have s1:=hz.st;have s2:=hz.ro;have s3:=hz.li;have s4:=hz.ch;have s5:=hz.tu;have s6:=hz.sy;have s7:=hz.de
    rw[wQ p.aR.length (fun i=>Oo p (i:Int)) (WV p l ()) (fun c i hi=>by
     simp only[WM];rw[if_pos (by simp;omega),PZ (by omega)]) (fun c=>by simp only[WM];rw[if_neg (by simp)]) (by omega)]
    refine zJ _ _ (fun i _ hi _=>arG p s1 i (by omega)) (fun _=>?_)
    unfold WV
    rw[wQ p.Routes.length (fun i=>(idx p.Routes (i:Int)).bind fun x=>KA l x) (WW p l ()) (fun c i hi=>by
     simp only[WO];rw[if_pos (by simp;omega),Option.bind_assoc,qE hi,Option.bind_some,Option.bind_some,PZ (by omega)]) (fun c=>by simp only[WO];rw[if_neg (by simp)]) (by omega)]
    refine zJ _ _ (fun i _ hi _=>by rw[qE (by omega),Option.bind_some,YQ];rfl) (fun hR=>?_)
    have o:RvOk l p:=⟨hz,by omega,h0,fun r hr=>by
     obtain⟨i,hi,rfl⟩:=List.getElem_of_mem hr
     have:=hR i (by omega) (by omega)
     rw[qE hi,Option.bind_some,YQ,getD_lt hi] at this
     exact Option.some.inj this⟩
    unfold WW
    rw[wQ p.Lines.length (fun i=>Oj l p (i:Int)) (WX p l ()) (fun c i hi=>by
     simp only[WQ];rw[if_pos (by simp;omega),PZ (by omega)]) (fun c=>by simp only[WQ];rw[if_neg (by simp)]) (by omega)]
    refine zJ _ _ (fun i _ hi _=>afv o i (by omega)) (fun hL=>?_)
    have o':LnOk l p:=abb o (fun j a b=>by rw[←afv o j (by omega)];exact hL j a b)
    unfold WX
    rw[wQ p.Changes.length (fun i=>(idx p.Changes (i:Int)).bind fun x=>Oi l p x) (WY p l ()) (fun c i hi=>by
     simp only[WR];rw[if_pos (by simp;omega),Option.bind_assoc,qE hi,Option.bind_some,Option.bind_some,PZ (by omega)]) (fun c=>by simp only[WR];rw[if_neg (by simp)]) (by omega)]
    refine zJ _ _ (fun i _ hi _=>by rw[qE (by omega),Option.bind_some,aja o'];rfl) (fun _=>?_)
    unfold WY
    rw[wQ p.Turns.length (fun i=>Oq p (i:Int)) (WZ p l ()) (fun c i hi=>by
     simp only[WS];rw[if_pos (by simp;omega),PZ (by omega)]) (fun c=>by simp only[WS];rw[if_neg (by simp)]) (by omega)]
    refine zJ _ _ (fun i _ hi _=>arS o' i (by omega)) (fun _=>?_)
    unfold WZ
    rw[wQ p.bE.length (fun i=>some (Ld p i)) (W9 p l ()) (fun c i hi=>?_) (fun c=>by simp only[WT];rw[if_neg (by simp)]) (by omega)]
    ·refine zJ _ _ (fun i _ hi _=>rfl) (fun _=>?_)
     unfold W9
     rw[wQ p.bF.length (fun i=>some (Jk l p i)) (ab1 ()) (fun c i hi=>?_) (fun c=>by simp only[WU];rw[if_neg (by simp)]) (by omega)]
     ·rfl
     ·simp only[WU]
      have hst:=(Ya h0).full.1
      rw[if_pos (by simp;omega),qE hi,Option.bind_some]
      unfold Jk
      generalize p.bF.getD i default=x
      unfold Jl
      rw[cO (eB (by omega) (by omega)),Ed,Option.bind_some,cO (by simp[bJ];omega),Ed,vG,Option.bind_some,show rO x.Weight 1 1048576=some (decide (1≤x.Weight)&&decide (x.Weight≤1048576)) from rfl,vG,Option.bind_some,cO (eB (by omega) (by omega))]
      cases decide (0≤x.From)<;>cases decide (x.From<(l.aU.length:Int))<;>cases decide (0≤x.To)<;>cases decide (x.To<(l.aU.length:Int))<;>cases decide (x.From=x.To)<;>cases decide (1≤x.Weight)<;>cases decide (x.Weight≤1048576)<;>rfl
    ·simp only[WT]
     have hp2:=o.per
     rw[if_pos (by simp;omega),qE hi,Option.bind_some]
     unfold Ld
     generalize p.bE.getD i default=x
     unfold Le
     rw[acd hz,Option.bind_some,acd hz,vG,Option.bind_some,cO (by simp[bJ];omega),Ed,vG,Option.bind_some,cO (eB (by omega) (by omega))]
     cases fF p x.mJ x.lG<;>cases fF p x.mP x.lN<;>cases decide (x.mJ=x.mP)<;>cases decide (x.lG=x.lN)<;>cases decide (0≤x.Offset)<;>cases decide (x.Offset<p.bU)<;>rfl
  ·rw[decide_eq_false hz,Bool.not_false,if_pos rfl]
   simp only[hz,not_false_eq_true,if_true]
   rfl
 ·rw[if_pos (by simpa using h0)]
  simp only[h0,ne_eq,not_false_eq_true,if_true]
  rfl
end Go.Proofs.YtcalibhfgdncaaaGreatDoor
namespace Go.Proofs.YtcalibhfgdncaaaGreatDoor
open Go.Dc
set_option maxRecDepth 10000
theorem bV{α β:Type}{o:Option α}{x:α}{K:α→Option β}{r:Option β}(h:o=some x)(h2:K x=r):o.bind K=r:=by rw[h];exact h2
def nI(v:Int):Str:=⟨Lib.itoa v⟩
def pdW:Str:=⟨[112,101,114,105,111,100]⟩
def skW:Str:=⟨[115,116,111,99,107]⟩
def Xn:Str:=⟨[114,111,117,116,101]⟩
def lnW:Str:=⟨[108,105,110,101]⟩
def Sg:Str:=⟨[114,105,100,101]⟩
def chW:Str:=⟨[99,104,97,110,103,101]⟩
def tnW:Str:=⟨[116,117,114,110]⟩
def syW:Str:=⟨[115,121,110,99]⟩
def dmW:Str:=⟨[100,101,109,97,110,100]⟩
def RH:Str:=⟨[111,118,101,114,108,97,112]⟩
def OP:Str:=⟨[117,112]⟩
def Md:Str:=⟨[100,111,119,110]⟩
def rng(lo hi:Int):Str:=⟨Lib.itoa lo++[46,46]++Lib.itoa hi⟩
def Hl(p:Plan):List Str:=[pdW,nI p.bU]
def Au(s:aH):List Str:=[skW,s.Name,nI s.Length,nI s.qB,nI s.qy,nI s.qz]
def EC(l:Layout)(s:Step):Str:=(l.Sections.getD s.Section.toNat default).Name
def Ay(l:Layout)(s:Step):List Str:=[EC l s,if s.Dir=1 then Md else OP]
def Er(r:aO):List Str:=if r.Overlap≠0 then [RH,nI r.Overlap] else []
def yh(l:Layout)(r:aO):List Str:=Xn::(r.Steps.flatMap (Ay l)++Er r)
def Ei(p:Plan)(x:Line):List Str:=[lnW,x.Name,(p.aR.getD x.aH.toNat default).Name,nI x.Weight]
def wo(r:aM):List Str:=[Sg,nI r.aO,nI r.Extra]++if r.Max≠0 then [rng r.Min r.Max] else []
def Aa(p:Plan)(i:Int):Str:=(p.Lines.getD i.toNat default).Name
def zG(p:Plan)(c:Change):List Str:=[chW,Aa p c.fZ,nI c.iE,Aa p c.iO,nI c.kN,rng c.Min c.Max,nI c.Weight]
def AJ(p:Plan)(t:Turn):List Str:=[tnW,Aa p t.From,Aa p t.To,rng t.Min t.Max]
def Az(p:Plan)(s:Sync):List Str:=[syW,Aa p s.mJ,nI s.lG,Aa p s.mP,nI s.lN,nI s.Offset]
def Ub(l:Layout)(i:Int):Str:=l.aU.getD i.toNat default
def BX(l:Layout)(d:dF):List Str:=[dmW,Ub l d.From,Ub l d.To,nI d.Weight]
def Cw(p:Plan)(x:Line):List (List Str):=Ei p x::x.aJ.map wo
/-! ### What a valid plan has -/
structure nV(l:Layout)(p:Plan):Prop extends LnOk l p where
 vn:Gp l
 FW:∀s∈p.aR,lJ s.Name.ba=true∧uG s=true
 MW:∀x∈p.Lines,lJ x.Name.ba=true∧(0≤x.aH∧x.aH<(p.aR.length:Int))∧(0≤x.Weight∧x.Weight≤1048576)∧∀k,(h:k<x.aJ.length)→uF p x k x.aJ[k]=true
 Ma:∀c∈p.Changes,yL p c=true
 OH:∀t∈p.Turns,(iH p t.From&&iH p t.To&&nW p t.Min t.Max)=true
 syn:∀s∈p.bE,(fF p s.mJ s.lG&&fF p s.mP s.lN&& !(decide (s.mJ=s.mP)&&decide (s.lG=s.lN))&&decide (0≤s.Offset)&&decide (s.Offset<p.bU))=true
 Mc:∀d∈p.bF,(decide (0≤d.From)&&decide (d.From<(l.aU.length:Int))&&decide (0≤d.To)&&decide (d.To<(l.aU.length:Int))&& !decide (d.From=d.To)&&decide (1≤d.Weight)&&decide (d.Weight≤1048576))=true
theorem J6{α:Type}[Inhabited α]{xs:List α}{x:α}(h:x∈xs):∃i,i<xs.length∧xs.getD i default=x:=by
 obtain⟨i,hi,rfl⟩:=List.getElem_of_mem h
 exact⟨i,hi,getD_lt hi⟩
theorem afP{l:Layout}{p:Plan}(h:xZ l p=some 0):nV l p:=by
 unfold xZ at h
 by_cases h0:CU l p=0
 ·rw[if_neg (by simp[h0])] at h
  obtain⟨hz,hp,hc⟩:=ah7 h0
  obtain⟨a1,h⟩:=GH _ _ h
  obtain⟨a2,h⟩:=GH _ _ h
  obtain⟨a3,h⟩:=GH _ _ h
  obtain⟨a4,h⟩:=GH _ _ h
  obtain⟨a5,h⟩:=GH _ _ h
  obtain⟨a6,h⟩:=GH _ _ h
  obtain⟨a7,_⟩:=GH _ _ h
  have o:RvOk l p:=⟨hz,hp,hc,fun r hr=>by
   obtain⟨i,hi,rfl⟩:=J6 hr
   exact Option.some.inj (a2 i (by omega) (by omega))⟩
  have o':=abb o a3
  refine {toLnOk:=o',vn:=aif hc,FW:=fun s hs=>?_,MW:=fun x hx=>?_,Ma:=fun c hc=>?_,OH:=fun t ht=>?_,syn:=fun s hs=>?_,Mc:=fun d hd=>?_}
  ·obtain⟨i,hi,rfl⟩:=J6 hs
   have:=Option.some.inj (a1 i (by omega) (by omega))
   unfold Lb at this
   split at this
   ·cases this
   split at this
   ·cases this
   split at this
   ·cases this
   rename_i b1 _ b2
   exact⟨by simpa only[Bool.not_eq_false] using b1,by simpa only[Bool.not_eq_false] using b2⟩
  ·obtain⟨i,hi,rfl⟩:=J6 hx
   have:=a3 i (by omega) (by omega)
   have hl:=afx this
   unfold Bn at this
   split at this
   ·cases this
   split at this
   ·cases this
   split at this
   ·cases this
   rename_i b1 _ b2
   have b2':(decide (0≤(dB p i).aH)&&decide ((dB p i).aH<(p.aR.length:Int))&&wB (dB p i).Weight)=true:=by simpa only[Bool.not_eq_false] using b2
   unfold wB at b2'
   simp only[Bool.and_eq_true,decide_eq_true_eq] at b2'
   have b1':lJ (dB p i).Name.ba=true:=by simpa only[Bool.not_eq_false] using b1
   refine⟨b1',hl.1,b2'.2,fun k hk=>?_⟩
   have hr:=hl.2.2 k hk
   unfold vv at hr
   split at hr
   ·cases hr
   rename_i c1
   have e:jo (dB p i) k=(p.Lines.getD i default).aJ[k]:=getD_lt hk
   rw[e] at c1
   have c1':uF p (dB p i) k (p.Lines.getD i default).aJ[k]=true:=by simpa only[Bool.not_eq_false] using c1
   exact c1'
  ·obtain⟨i,hi,rfl⟩:=J6 hc
   have:=Option.some.inj (a4 i (by omega) (by omega))
   unfold PU Gu at this
   split at this
   ·cases this
   rename_i b1
   simpa only[Bool.not_eq_false] using b1
  ·obtain⟨i,hi,rfl⟩:=J6 ht
   have:=Option.some.inj (a5 i (by omega) (by omega))
   unfold Lh Uk at this
   split at this
   ·cases this
   rename_i b1
   simpa only[Bool.not_eq_false] using b1
  ·obtain⟨i,hi,rfl⟩:=J6 hs
   have:=Option.some.inj (a6 i (by omega) (by omega))
   unfold Ld Le at this
   split at this
   ·cases this
   rename_i b1
   simpa only[Bool.not_eq_false] using b1
  ·obtain⟨i,hi,rfl⟩:=J6 hd
   have:=Option.some.inj (a7 i (by omega) (by omega))
   unfold Jk Jl at this
   split at this
   ·cases this
   rename_i b1
   simpa only[Bool.not_eq_false] using b1
 ·rw[if_pos (by simpa using h0)] at h
  exact absurd (Option.some.inj h) h0
/-! ### Words and lines -/
def tJ(s:Str):Prop:=uM s=true∧s.l.length≤46
def iN(w:List Str):Prop:=0<w.length∧w.length≤64∧∀s∈w,tJ s
theorem Ju{s:Str}(h:lJ s.ba=true):tJ s:=⟨(Rq h).1,by have:=(Rq h).2;omega⟩
theorem mo{v:Int}(h1: -9223372036854775808≤v)(h2:v≤9223372036854775807):tJ (nI v):=⟨aaG v,by have:=JI v h1 h2;unfold nI;simp only;omega⟩
theorem Ml{lo hi:Int}(h1:0≤lo∧lo≤hi∧hi≤7200):tJ (rng lo hi):=by
 have a:=aaG lo;have b:=aaG hi
 have c:=JI lo (by omega) (by omega);have d:=JI hi (by omega) (by omega)
 unfold uM at a b
 simp only[Bool.and_eq_true,decide_eq_true_eq] at a b
 refine⟨?_,by unfold rng;simp;omega⟩
 unfold uM rng
 simp only[Bool.and_eq_true,decide_eq_true_eq,List.all_append,a.2,b.2]
 exact⟨by simp,by decide⟩
theorem xO:∀s∈([]:List Str),tJ s:=fun s h=>by cases h
theorem ji{s:Str}{w:List Str}(h:tJ s)(hw:∀t∈w,tJ t):∀t∈s::w,tJ t:=fun t ht=>by
 rcases List.mem_cons.1 ht with e|e
 ·rw[e];exact h
 ·exact hw t e
theorem aj9{w:List Str}(h:iN w):afw w:=⟨h.1,h.2.1,List.all_eq_true.2 fun s hs=>(h.2.2 s hs).1⟩
theorem Zg:∀{w:List Str},(∀s∈w,tJ s)→CX w≤47*w.length
 |[],_=>by simp[CX]
 |s::r,h=>by
  have h1:=(h s List.mem_cons_self).2
  have h2:=Zg (w:=r) (fun t ht=>h t (List.mem_cons_of_mem _ ht))
  rw[XJ]
  simp only[List.length_cons];omega
theorem Zf:∀{a:List (List Str)},(∀w∈a,iN w)→FX a≤3009*a.length
 |[],_=>by simp[FX]
 |w::r,h=>by
  have h1:=h w List.mem_cons_self
  have h2:=Zf (a:=r) (fun t ht=>h t (List.mem_cons_of_mem _ ht))
  have h3:=Zg h1.2.2
  have h4:=h1.2.1
  rw[XI]
  simp only[List.length_cons];omega
theorem aj7{a:List (List Str)}(h:∀w∈a,iN w)(hl:a.length≤10000):I4 a=some ⟨uU a⟩:=by
 have h1:=Zf h
 rw[aoI a (by omega),afe a [] (fun w hw=>aj9 (h w hw))]
 rfl
theorem aie:tJ OP:=⟨by decide,by decide⟩
theorem adV:tJ Md:=⟨by decide,by decide⟩
theorem ahE{l:Layout}(v:Gp l){s:Step}(h:iR l s=true):tJ (EC l s):=by
 unfold iR at h
 simp only[Bool.and_eq_true,decide_eq_true_eq] at h
 have:=v.scw _ (lT (xs:=l.Sections) (i:=s.Section.toNat) (by omega))
 exact⟨this.1,by unfold EC;omega⟩
theorem ah2{l:Layout}(v:Gp l):∀{ss:List Step},(∀s∈ss,iR l s=true)→(∀t∈ss.flatMap (Ay l),tJ t)∧(ss.flatMap (Ay l)).length=2*ss.length
 |[],_=>⟨xO,rfl⟩
 |s::r,h=>by
  have ih:=ah2 v (ss:=r) (fun t ht=>h t (List.mem_cons_of_mem _ ht))
  have e:(s::r).flatMap (Ay l)=EC l s::(if s.Dir=1 then Md else OP)::r.flatMap (Ay l):=rfl
  rw[e]
  refine⟨ji (ahE v (h s List.mem_cons_self)) (ji ?_ ih.1),by simp only[List.length_cons,ih.2];omega⟩
  split
  ·exact adV
  ·exact aie
theorem Xo{l:Layout}(v:Gp l){r:aO}(o:wI l r):iN (yh l r):=by
 have h:=ah2 v o.st
 have hn:=o.len;have hv:=o.ov
 have ho:(∀t∈Er r,tJ t)∧(Er r).length≤2:=by
  unfold Er
  split
  ·exact⟨ji ⟨by decide,by decide⟩ (ji (mo (by omega) (by omega)) xO),by simp⟩
  ·exact⟨xO,by simp⟩
 unfold yh
 refine⟨by simp,by simp only[List.length_cons,List.length_append];omega,ji ⟨by decide,by decide⟩ fun t ht=>?_⟩
 rcases List.mem_append.1 ht with e|e
 ·exact h.1 t e
 ·exact ho.1 t e
theorem acE{s:aH}(h:uG s=true):(1≤s.Length∧s.Length≤40)∧(1000≤s.qB∧s.qB≤100000)∧(100≤s.qy∧s.qy≤2000)∧(100≤s.qz∧s.qz≤2000):=by
 unfold uG at h
 simp only[Bool.and_eq_true,decide_eq_true_eq] at h
 omega
theorem L6{p:Plan}{lo hi:Int}(h:nW p lo hi=true):0≤lo∧lo≤hi∧hi≤7200:=by
 unfold nW at h
 simp only[Bool.and_eq_true,decide_eq_true_eq] at h
 omega
theorem Bp{l:Layout}{p:Plan}(o:nV l p){i:Int}(h:iH p i=true):tJ (Aa p i):=by
 obtain⟨_,b,_⟩:=Fh h
 exact Ju (o.MW _ (lT b)).1
theorem Bd{l:Layout}{p:Plan}(o:nV l p){i k:Int}(h:fF p i k=true):iH p i=true∧0≤k∧k≤12:=by
 unfold fF at h
 simp only[Bool.and_eq_true,decide_eq_true_eq] at h
 obtain⟨_,b,_⟩:=Fh h.1.1
 have:=o.sz.ri _ (lT b)
 unfold dB at h
 exact⟨h.1.1,h.1.2,by omega⟩
theorem acv{s:aH}(h:lJ s.Name.ba=true∧uG s=true):iN (Au s):=by
 have:=acE h.2
 exact⟨by simp[Au],by simp[Au],ji ⟨by decide,by decide⟩ (ji (Ju h.1) (ji (mo (by omega) (by omega)) (ji (mo (by omega) (by omega)) (ji (mo (by omega) (by omega)) (ji (mo (by omega) (by omega)) xO)))))⟩
theorem abd{l:Layout}{p:Plan}(o:nV l p){x:Line}(hx:x∈p.Lines):iN (Ei p x):=by
 obtain⟨h1,h2,h3,_⟩:=o.MW x hx
 exact⟨by simp[Ei],by simp[Ei],ji ⟨by decide,by decide⟩ (ji (Ju h1) (ji (Ju (o.FW _ (lT (by omega))).1) (ji (mo (by omega) (by omega)) xO)))⟩
theorem aqF{p:Plan}{x:Line}{k:Nat}{r:aM}(h:uF p x k r=true):(0≤r.aO∧r.aO<(p.Routes.length:Int))∧(0≤r.Extra∧r.Extra<p.bU)∧(0≤r.Min∧r.Min≤r.Max∧r.Max≤7200):=by
 unfold uF at h
 simp only[Bool.and_eq_true,decide_eq_true_eq] at h
 exact⟨⟨h.1.1.1.1.1,h.1.1.1.1.2⟩,⟨h.1.1.1.2,h.1.1.2⟩,L6 h.1.2⟩
theorem acf{l:Layout}{p:Plan}(o:nV l p){x:Line}(hx:x∈p.Lines){r:aM}(hr:r∈x.aJ):(0≤r.aO∧r.aO<(p.Routes.length:Int))∧(0≤r.Extra∧r.Extra<p.bU)∧(0≤r.Min∧r.Min≤r.Max∧r.Max≤7200):=by
 obtain⟨_,_,_,h⟩:=o.MW x hx
 obtain⟨k,hk,rfl⟩:=List.getElem_of_mem hr
 exact aqF (h k hk)
theorem abF{l:Layout}{p:Plan}(o:nV l p){x:Line}(hx:x∈p.Lines){r:aM}(hr:r∈x.aJ):iN (wo r):=by
 have h:=acf o hx hr
 have hp:=o.per;have hz:=o.sz.ro
 unfold wo
 split
 ·exact⟨by simp,by simp,ji ⟨by decide,by decide⟩ (ji (mo (by omega) (by omega)) (ji (mo (by omega) (by omega)) (ji (Ml h.2.2) xO)))⟩
 ·exact⟨by simp,by simp,ji ⟨by decide,by decide⟩ (ji (mo (by omega) (by omega)) (ji (mo (by omega) (by omega)) xO))⟩
theorem YP{l:Layout}{p:Plan}(o:nV l p){c:Change}(h:yL p c=true):(fF p c.fZ c.iE=true∧fF p c.iO c.kN=true)∧(0≤c.Min∧c.Min≤c.Max∧c.Max≤7200)∧0≤c.Weight∧c.Weight≤1048576:=by
 unfold yL wB at h
 simp only[Bool.and_eq_true,decide_eq_true_eq] at h
 exact⟨⟨h.1.1.1.1,h.1.1.1.2⟩,L6 h.1.2,h.2⟩
theorem YO{l:Layout}{p:Plan}(o:nV l p){c:Change}(h:yL p c=true):iN (zG p c):=by
 obtain⟨⟨a,b⟩,hb,w⟩:=YP o h
 have a':=Bd o a;have b':=Bd o b
 exact⟨by simp[zG],by simp[zG],ji ⟨by decide,by decide⟩ (ji (Bp o a'.1) (ji (mo (by omega) (by omega)) (ji (Bp o b'.1) (ji (mo (by omega) (by omega)) (ji (Ml hb) (ji (mo (by omega) (by omega)) xO))))))⟩
theorem acL{l:Layout}{p:Plan}(o:nV l p){t:Turn}(h:(iH p t.From&&iH p t.To&&nW p t.Min t.Max)=true):iN (AJ p t):=by
 simp only[Bool.and_eq_true] at h
 exact⟨by simp[AJ],by simp[AJ],ji ⟨by decide,by decide⟩ (ji (Bp o h.1.1) (ji (Bp o h.1.2) (ji (Ml (L6 h.2)) xO)))⟩
theorem acK{l:Layout}{p:Plan}(o:nV l p){s:Sync}(h:(fF p s.mJ s.lG&&fF p s.mP s.lN&& !(decide (s.mJ=s.mP)&&decide (s.lG=s.lN))&&decide (0≤s.Offset)&&decide (s.Offset<p.bU))=true):iN (Az p s):=by
 simp only[Bool.and_eq_true,decide_eq_true_eq] at h
 have a':=Bd o h.1.1.1.1;have b':=Bd o h.1.1.1.2
 have hp:=o.per
 exact⟨by simp[Az],by simp[Az],ji ⟨by decide,by decide⟩ (ji (Bp o a'.1) (ji (mo (by omega) (by omega)) (ji (Bp o b'.1) (ji (mo (by omega) (by omega)) (ji (mo (by omega) (by omega)) xO)))))⟩
theorem XF{l:Layout}(v:Gp l){i:Int}(h:0≤i∧i<(l.aU.length:Int)):tJ (Ub l i):=by
 have:=v.stw _ (lT (xs:=l.aU) (i:=i.toNat) (by omega))
 exact⟨this.1,by unfold Ub;omega⟩
theorem PX{l:Layout}{d:dF}(h:(decide (0≤d.From)&&decide (d.From<(l.aU.length:Int))&&decide (0≤d.To)&&decide (d.To<(l.aU.length:Int))&& !decide (d.From=d.To)&&decide (1≤d.Weight)&&decide (d.Weight≤1048576))=true):
  (0≤d.From∧d.From<(l.aU.length:Int))∧(0≤d.To∧d.To<(l.aU.length:Int))∧1≤d.Weight∧d.Weight≤1048576:=by
 simp only[Bool.and_eq_true,decide_eq_true_eq] at h
 exact⟨⟨h.1.1.1.1.1.1,h.1.1.1.1.1.2⟩,⟨h.1.1.1.1.2,h.1.1.1.2⟩,h.1.2,h.2⟩
theorem Y0{l:Layout}(v:Gp l){d:dF}(h:(0≤d.From∧d.From<(l.aU.length:Int))∧(0≤d.To∧d.To<(l.aU.length:Int))∧1≤d.Weight∧d.Weight≤1048576):iN (BX l d):=
 ⟨by simp[BX],by simp[BX],ji ⟨by decide,by decide⟩ (ji (XF v h.1) (ji (XF v h.2.1) (ji (mo (by omega) (by omega)) xO)))⟩
/-! ### Loops that write lines -/
theorem aoG{α σ β:Type}{B:((σ×Nat)→Option β)→(σ×Nat)→Option β}(rep:List (List Str)→σ)(xs:List α)(f:α→List (List Str))(K:σ→Option β)(m:Nat)
  (hs:∀c q (i:Nat) x,idx xs (i:Int)=some x→x∈xs→i<xs.length→q.length+m≤2000→(∀w∈q,iN w)→B c (rep q,i)=c (rep (q++f x),i+1))
  (he:∀c q,q.length≤2000→(∀w∈q,iN w)→B c (rep q,xs.length)=K (rep q))(hf:∀x∈xs,(f x).length≤m∧∀w∈f x,iN w):
  ∀n q i,q.length+m*(xs.length-i)≤2000→(∀w∈q,iN w)→i≤xs.length→xs.length-i<n→iter B n (rep q,i)=K (rep (q++(xs.drop i).flatMap f)):=by
 intro n
 induction n with
 |zero=>intro q i _ _ _ h;omega
 |succ n ih=>
  intro q i hq hg hi hn
  show B (iter B n) (rep q,i)=_
  by_cases hl:i=xs.length
  ·subst hl
   rw[he _ q (by omega) hg,List.drop_length];simp
  ·have hlt:i<xs.length:=by omega
   have hd:xs.drop i=xs[i]::xs.drop (i+1):=List.drop_eq_getElem_cons hlt
   have hm:=List.getElem_mem hlt
   have h1:=hf _ hm
   have hmul:m*(xs.length-i)=m*(xs.length-(i+1))+m:=by
    rw[show xs.length-i=(xs.length-(i+1))+1 by omega,Nat.mul_succ]
   rw[hs _ q i xs[i] (by simp[idx,hlt]) hm hlt (by omega) hg,ih (q++f xs[i]) (i+1) (by rw[List.length_append];omega) (fun w hw=>by
    rcases List.mem_append.1 hw with e|e
    ·exact hg w e
    ·exact h1.2 w e) (by omega) (by omega),hd]
   simp only[List.flatMap_cons,List.append_assoc]
theorem wU{α σ β:Type}{B:((σ×Nat)→Option β)→(σ×Nat)→Option β}(rep:List (List Str)→σ)(xs:List α)(f:α→List (List Str))(K:σ→Option β)(m:Nat)
  (hs:∀c q (i:Nat) x,idx xs (i:Int)=some x→x∈xs→i<xs.length→q.length+m≤2000→(∀w∈q,iN w)→B c (rep q,i)=c (rep (q++f x),i+1))
  (he:∀c q,q.length≤2000→(∀w∈q,iN w)→B c (rep q,xs.length)=K (rep q))(hf:∀x∈xs,(f x).length≤m∧∀w∈f x,iN w)
  (q:List (List Str))(hq:q.length+m*xs.length≤2000)(hg:∀w∈q,iN w)(hl:xs.length≤1000000):iter B FUEL (rep q,0)=K (rep (q++xs.flatMap f)):=by
 have:=aoG rep xs f K m hs he hf FUEL q 0 (by simpa using hq) hg (by omega) (jh (by omega))
 rwa [List.drop_zero] at this
end Go.Proofs.YtcalibhfgdncaaaGreatDoor
namespace Go.Proofs.YtcalibhfgdncaaaGreatDoor
open Go.Dc
set_option maxRecDepth 10000
def Gq(a:Any):Str:=match a with| .s x=>x| .i n=>nI n
def I8(a:Any):Prop:=match a with| .s _=>True| .i n=> -9223372036854775808≤n∧n≤9223372036854775807
theorem VO(v:Int)(h1: -9223372036854775808≤v)(h2:v≤9223372036854775807):IE v=some (nI v):=by
 unfold IE
 rw[if_pos ⟨h1,h2⟩];rfl
theorem arX(ps:List Any)(h:∀a∈ps,I8 a)(hl:ps.length≤1000):RZ ps=some (ps.map Gq):=by
 unfold RZ
 have:=nu (B:=RY ps) (fun (q:List Str) i=>(q,i)) ps (fun q i=>q.length≤i) (fun q r=>some (q++r.map Gq)) ?_ ?_ FUEL [] 0 (by simp) (by omega) (jh (by omega))
 ·simpa using this
 ·intro c q i x r hq hdr hi hx hk
  have hm:=h x (List.mem_of_getElem? (by rw[mR] at hx;exact hx))
  have hc:∀w:Str,bq (decide ((q.length+([w]:List Str).length)*16≤140737488355328)) (Ns c i (q++[w]))=some (q++[w]++r.map Gq):=fun w=>by
   rw[cO (by simp;omega)]
   exact hk _ (by simp;omega)
  simp only[RY]
  rw[if_pos (by simp;omega),hx,Option.bind_some]
  cases x with
  |s t=>
   rw[if_pos (show (Any.s t).iR=true from rfl),show (Any.s t).str=t from rfl,hc]
   simp[Gq]
  |i n=>
   rw[if_neg (by simp[Any.iR]),if_pos (show (Any.i n).JH=true from rfl),show (Any.i n).int=n from rfl,VO n hm.1 hm.2,Option.bind_some,hc]
   simp[Gq]
 ·intro c q _
  simp only[RY]
  rw[if_neg (by simp)]
  simp[aby]
theorem Ga(q:List (List Str))(ps:List Any)(h:∀a∈ps,I8 a)(hl:ps.length≤1000)(hq:q.length≤3000):Af (lM.mk q) ps=some (q++[ps.map Gq]):=by
 unfold Af
 rw[arX ps h hl,Option.bind_some,cO (by simp;omega)]
theorem aS{s:Str}{r:List Any}(h:∀a∈r,I8 a):∀a∈Any.s s::r,I8 a:=fun a ha=>by
 rcases List.mem_cons.1 ha with e|e
 ·rw[e];trivial
 ·exact h a e
theorem aI{n:Int}{r:List Any}(h0: -9223372036854775808≤n∧n≤9223372036854775807)(h:∀a∈r,I8 a):∀a∈Any.i n::r,I8 a:=fun a ha=>by
 rcases List.mem_cons.1 ha with e|e
 ·rw[e];exact h0
 ·exact h a e
theorem aN:∀a∈([]:List Any),I8 a:=fun a h=>by cases h
theorem acz{lo hi:Int}(h1:0≤lo∧lo≤hi∧hi≤7200):Ke lo hi=some (rng lo hi):=by
 have c:=JI lo (by omega) (by omega);have d:=JI hi (by omega) (by omega)
 unfold Ke
 rw[VO _ (by omega) (by omega),Option.bind_some,VO _ (by omega) (by omega)]
 unfold nI
 rw[PO _ _ (by simp;omega),Option.bind_some,Option.bind_some,PO _ _ (by simp;omega)]
 rfl
theorem aiQ{l:Layout}{r:aO}(o:wI l r)(q:List (List Str))(hq:q.length≤3000):R4 (lM.mk q) l r=some (q++[yh l r]):=by
 have hn:=o.len;have hv:=o.ov
 unfold R4
 have:=nu (B:=R3 r l (lM.mk q)) (fun (s:List Str) i=>(s,i)) r.Steps (fun s i=>s.length≤1+2*i)
  (fun s t=>some (q++[s++t.flatMap (Ay l)++Er r])) ?_ ?_ FUEL [Xn] 0 (by simp) (by omega) (jh (by omega))
 ·rw[List.drop_zero] at this
  exact this.trans (by simp[yh])
 ·intro c s i x t hs hdr hi hx hk
  have hm:x∈r.Steps:=List.mem_of_getElem? (by rw[mR] at hx;exact hx)
  have hk2:∀w:Str,Nt l x s c i w=some (q++[(s++[EC l x,w])++t.flatMap (Ay l)++Er r]):=fun w=>by
   unfold Nt
   rw[OE o hm,Option.bind_some,cO (by simp;omega)]
   exact hk _ (by simp;omega)
  simp only[R3]
  rw[if_pos (by simp;omega),hx,Option.bind_some]
  by_cases hd:x.Dir=1
  ·rw[if_pos (by simpa using hd),hk2]
   simp[Ay,hd,Md]
  ·rw[if_neg (by simpa using hd),hk2]
   simp[Ay,hd,OP]
 ·intro c s hs
  simp only[R3]
  rw[if_neg (by simp)]
  unfold abz Er
  by_cases h0:r.Overlap=0
  ·rw[if_neg (by simpa using h0),if_neg (fun h=>h h0)]
   unfold Nu
   rw[cO (by simp;omega)]
   simp
  ·rw[if_pos (by simpa using h0),if_pos h0,VO _ (by omega) (by omega),Option.bind_some,cO (by simp;omega)]
   unfold Nu
   rw[cO (by simp;omega)]
   simp[RH]
def Qd(l:Layout)(p:Plan):List (List Str):=
 [Hl p]++p.aR.flatMap (fun s=>[Au s])++p.Routes.flatMap (fun r=>[yh l r])++p.Lines.flatMap (Cw p)++p.Changes.flatMap (fun c=>[zG p c])++p.Turns.flatMap (fun t=>[AJ p t])
  ++p.bE.flatMap (fun s=>[Az p s])++p.bF.flatMap (fun d=>[BX l d])
theorem rC{w:List Str}(h:iN w):([w]:List (List Str)).length≤1∧∀v∈([w]:List (List Str)),iN v:=⟨by simp,fun v hv=>by rw[List.mem_singleton.1 hv];exact h⟩
theorem ER{a b:List (List Str)}(ha:∀w∈a,iN w)(hb:∀w∈b,iN w):∀w∈a++b,iN w:=fun w hw=>by
 rcases List.mem_append.1 hw with e|e
 ·exact ha w e
 ·exact hb w e
theorem Jt{α:Type}{xs:List α}{f:α→List (List Str)}(h:∀x∈xs,∀w∈f x,iN w):∀w∈xs.flatMap f,iN w:=fun w hw=>by
 obtain⟨x,hx,hw⟩:=List.mem_flatMap.1 hw
 exact h x hx w hw
theorem sH{α:Type}{f:α→List (List Str)}{m:Nat}:∀{xs:List α},(∀x∈xs,(f x).length≤m)→(xs.flatMap f).length≤m*xs.length
 |[],_=>by simp
 |x::r,h=>by
  have h1:=h x List.mem_cons_self
  have h2:=sH (f:=f) (xs:=r) (fun y hy=>h y (List.mem_cons_of_mem _ hy))
  simp only[List.flatMap_cons,List.length_append,List.length_cons,Nat.mul_succ]
  omega
theorem apJ{l:Layout}{p:Plan}(o:nV l p):iN (Hl p):=by
 have:=o.per
 exact⟨by simp[Hl],by simp[Hl],ji ⟨by decide,by decide⟩ (ji (mo (by omega) (by omega)) xO)⟩
theorem MX{l:Layout}{p:Plan}(o:nV l p){x:Line}(hx:x∈p.Lines):(Cw p x).length≤13∧∀w∈Cw p x,iN w:=by
 have:=o.sz.ri x hx
 unfold Cw
 refine⟨by simp;omega,fun w hw=>?_⟩
 rcases List.mem_cons.1 hw with e|e
 ·rw[e];exact abd o hx
 ·obtain⟨r,hr,rfl⟩:=List.mem_map.1 e
  exact abF o hx hr
theorem aeg{l:Layout}{p:Plan}(o:nV l p):(∀w∈Qd l p,iN w)∧(Qd l p).length≤1000:=by
 have z:=o.sz
 refine⟨ER (ER (ER (ER (ER (ER (ER (rC (apJ o)).2 (Jt fun s hs=>(rC (acv (o.FW s hs))).2)) (Jt fun r hr=>(rC (Xo o.vn (Ap (o.rt r hr)))).2))
  (Jt fun x hx=>(MX o hx).2)) (Jt fun c hc=>(rC (YO o (o.Ma c hc))).2)) (Jt fun t ht=>(rC (acL o (o.OH t ht))).2)) (Jt fun s hs=>(rC (acK o (o.syn s hs))).2))
  (Jt fun d hd=>(rC (Y0 o.vn (PX (o.Mc d hd)))).2),?_⟩
 have h1:=sH (f:=fun s=>[Au s]) (m:=1) (xs:=p.aR) (fun _ _=>by simp)
 have h2:=sH (f:=fun r=>[yh l r]) (m:=1) (xs:=p.Routes) (fun _ _=>by simp)
 have h3:=sH (f:=Cw p) (m:=13) (xs:=p.Lines) (fun x hx=>(MX o hx).1)
 have h4:=sH (f:=fun c=>[zG p c]) (m:=1) (xs:=p.Changes) (fun _ _=>by simp)
 have h5:=sH (f:=fun t=>[AJ p t]) (m:=1) (xs:=p.Turns) (fun _ _=>by simp)
 have h6:=sH (f:=fun s=>[Az p s]) (m:=1) (xs:=p.bE) (fun _ _=>by simp)
 have h7:=sH (f:=fun d=>[BX l d]) (m:=1) (xs:=p.bF) (fun _ _=>by simp)
 have:=z.st;have:=z.ro;have:=z.li;have:=z.ch;have:=z.tu;have:=z.sy;have:=z.de
 simp only[Qd,List.length_append,List.length_singleton]
 omega
theorem apl{α:Type}{xs:List α}{i:Nat}{x:α}(h:idx xs (i:Int)=some x):x∈xs:=List.mem_of_getElem? (by rw[mR] at h;exact h)
theorem Bo{p:Plan}{i:Int}(h:iH p i=true):idx p.Lines i=some (p.Lines.getD i.toNat default):=(Fh h).1
theorem XE{l:Layout}{i:Int}(h:0≤i∧i<(l.aU.length:Int)):idx l.aU i=some (Ub l i):=uq h.1 h.2
theorem ajZ{l:Layout}{p:Plan}(o:nV l p)(q:List (List Str))(hq:q.length≤1000)(hg:∀w∈q,iN w):Ng p l q ()=(I4 (q++p.bF.flatMap fun d=>[BX l d])).bind fun y=>some (y,0):=by
 have z:=o.sz.de
 unfold Ng
 refine wU (B:=RQ p l) id p.bF (fun d=>[BX l d]) (fun s=>(I4 s).bind fun y=>some (y,0)) 1 (fun c q i x hx hm hi hq _=>?_) (fun c q _ _=>?_) (fun d hd=>rC (Y0 o.vn (PX (o.Mc d hd)))) q (by omega) hg (by omega)
 ·have h:=PX (o.Mc x hm)
  simp only[RQ,id]
  refine (if_pos (by simp;omega)).trans (bV hx (bV (XE h.1) (bV (XE h.2.1) (bV (Ga q _ (aS (aS (aS (aI (by omega) aN)))) (by simp) (by omega)) ?_))))
  rfl
 ·simp only[RQ,id]
  rw[if_neg (by simp)];rfl
theorem ajY{l:Layout}{p:Plan}(o:nV l p)(q:List (List Str))(hq:q.length≤900)(hg:∀w∈q,iN w):Nf p l q ()=Ng p l (q++p.bE.flatMap fun s=>[Az p s]) ():=by
 have z:=o.sz.sy
 unfold Nf
 refine wU (B:=RP p l) id p.bE (fun s=>[Az p s]) (fun s=>Ng p l s ()) 1 (fun c q i x hx hm hi hq _=>?_) (fun c q _ _=>?_) (fun s hs=>rC (acK o (o.syn s hs))) q (by omega) hg (by omega)
 ·have h:=o.syn x hm
  have hp:=o.per
  simp only[Bool.and_eq_true,decide_eq_true_eq] at h
  have a:=Bd o h.1.1.1.1;have b:=Bd o h.1.1.1.2
  simp only[RP,id]
  refine (if_pos (by simp;omega)).trans (bV hx (bV (Bo a.1) (bV (Bo b.1) (bV (Ga q _ (aS (aS (aI (by omega) (aS (aI (by omega) (aI (by omega) aN)))))) (by simp) (by omega)) ?_))))
  rfl
 ·simp only[RP,id]
  rw[if_neg (by simp)]
theorem ajX{l:Layout}{p:Plan}(o:nV l p)(q:List (List Str))(hq:q.length≤800)(hg:∀w∈q,iN w):Nc p l q ()=Nf p l (q++p.Turns.flatMap fun t=>[AJ p t]) ():=by
 have z:=o.sz.tu
 unfold Nc
 refine wU (B:=RO p l) id p.Turns (fun t=>[AJ p t]) (fun s=>Nf p l s ()) 1 (fun c q i x hx hm hi hq _=>?_) (fun c q _ _=>?_) (fun t ht=>rC (acL o (o.OH t ht))) q (by omega) hg (by omega)
 ·have h:=o.OH x hm
  simp only[Bool.and_eq_true] at h
  simp only[RO,id]
  refine (if_pos (by simp;omega)).trans (bV hx (bV (Bo h.1.1) (bV (Bo h.1.2) (bV (acz (L6 h.2)) (bV (Ga q _ (aS (aS (aS (aS aN)))) (by simp) (by omega)) ?_)))))
  rfl
 ·simp only[RO,id]
  rw[if_neg (by simp)]
theorem ajW{l:Layout}{p:Plan}(o:nV l p)(q:List (List Str))(hq:q.length≤700)(hg:∀w∈q,iN w):Na p l q ()=Nc p l (q++p.Changes.flatMap fun c=>[zG p c]) ():=by
 have z:=o.sz.ch
 unfold Na
 refine wU (B:=RN p l) id p.Changes (fun c=>[zG p c]) (fun s=>Nc p l s ()) 1 (fun c q i x hx hm hi hq _=>?_) (fun c q _ _=>?_) (fun t ht=>rC (YO o (o.Ma t ht))) q (by omega) hg (by omega)
 ·obtain⟨⟨ha,hb⟩,hbn,hw⟩:=YP o (o.Ma x hm)
  have a:=Bd o ha;have b:=Bd o hb
  simp only[RN,id]
  refine (if_pos (by simp;omega)).trans (bV hx (bV (Bo a.1) (bV (Bo b.1) (bV (acz hbn) (bV (Ga q _ (aS (aS (aI (by omega) (aS (aI (by omega) (aS (aI (by omega) aN))))))) (by simp) (by omega)) ?_)))))
  rfl
 ·simp only[RN,id]
  rw[if_neg (by simp)]
theorem ajV{l:Layout}{p:Plan}(o:nV l p){x:Line}(hx:x∈p.Lines)(c3:(List (List Str)×Nat)→Option (Str×Int))(t:Nat)(q:List (List Str))(hq:q.length+12≤2000)(hg:∀w∈q,iN w):
  iter (M7 x c3 t) FUEL (q,0)=c3 (q++x.aJ.map wo,t+1):=by
 have z:=o.sz.ri x hx
 have e:x.aJ.map wo=x.aJ.flatMap fun r=>[wo r]:=by rw[List.map_eq_flatMap]
 rw[e]
 refine wU (B:=M7 x c3 t) id x.aJ (fun r=>[wo r]) (fun s=>c3 (s,t+1)) 1 (fun c q i r hr hm hi hq _=>?_) (fun c q _ _=>?_) (fun r hr=>rC (abF o hx hr)) q (by omega) hg (by omega)
 ·have h:=acf o hx hm
  have hp:=o.per;have hz:=o.sz.ro
  simp only[M7,id]
  refine (if_pos (by simp;omega)).trans (bV hr ?_)
  by_cases h0:r.Max=0
  ·refine (if_neg (by simpa using h0)).trans (bV (Ga q _ (aS (aI (by omega) (aI (by omega) aN))) (by simp) (by omega)) ?_)
   simp[Nb,wo,h0,Gq,Sg]
  ·refine (if_pos (by simpa using h0)).trans (bV (acz h.2.2) (bV (Ga q _ (aS (aI (by omega) (aI (by omega) (aS aN)))) (by simp) (by omega)) ?_))
   simp[Nb,wo,h0,Gq,Sg]
 ·simp only[M7,id]
  rw[if_neg (by simp)];rfl
theorem ajU{l:Layout}{p:Plan}(o:nV l p)(q:List (List Str))(hq:q.length≤400)(hg:∀w∈q,iN w):M9 p l q ()=Na p l (q++p.Lines.flatMap (Cw p)) ():=by
 have z:=o.sz.li
 unfold M9
 refine (wU (B:=RL p l) id p.Lines (Cw p) (fun s=>Na p l s ()) 13 (fun c q i x hx hm hi hq hg=>?_) (fun c q _ _=>?_) (fun x hx=>MX o hx) q (by omega) hg (by omega))
 ·obtain⟨h1,h2,h3,_⟩:=o.MW x hm
  have hg2:∀w∈q++[Ei p x],iN w:=ER hg (rC (abd o hm)).2
  simp only[RL,id]
  refine (if_pos (by simp;omega)).trans (bV hx (bV (uq h2.1 h2.2) (bV (Ga q _ (aS (aS (aS (aI (by omega) aN)))) (by simp) (by omega)) ?_)))
  have:=ajV o hm c i (q++[Ei p x]) (by simp;omega) hg2
  rw[List.append_assoc] at this
  exact this
 ·simp only[RL,id]
  rw[if_neg (by simp)]
theorem ajT{l:Layout}{p:Plan}(o:nV l p)(q:List (List Str))(hq:q.length≤300)(hg:∀w∈q,iN w):M8 p l q ()=M9 p l (q++p.Routes.flatMap fun r=>[yh l r]) ():=by
 have z:=o.sz.ro
 unfold M8
 refine wU (B:=RJ p l) id p.Routes (fun r=>[yh l r]) (fun s=>M9 p l s ()) 1 (fun c q i x hx hm hi hq _=>?_) (fun c q _ _=>?_) (fun r hr=>rC (Xo o.vn (Ap (o.rt r hr)))) q (by omega) hg (by omega)
 ·simp only[RJ,id]
  exact (if_pos (by simp;omega)).trans (bV hx (bV (aiQ (Ap (o.rt x hm)) q (by omega)) rfl))
 ·simp only[RJ,id]
  rw[if_neg (by simp)]
theorem ajS{l:Layout}{p:Plan}(o:nV l p)(q:List (List Str))(hq:q.length≤200)(hg:∀w∈q,iN w):iter (M6 p l) FUEL (q,0)=M8 p l (q++p.aR.flatMap fun s=>[Au s]) ():=by
 have z:=o.sz.st
 refine wU (B:=M6 p l) id p.aR (fun s=>[Au s]) (fun s=>M8 p l s ()) 1 (fun c q i x hx hm hi hq _=>?_) (fun c q _ _=>?_) (fun s hs=>rC (acv (o.FW s hs))) q (by omega) hg (by omega)
 ·have h:=acE (o.FW x hm).2
  simp only[M6,id]
  exact (if_pos (by simp;omega)).trans (bV hx (bV (Ga q _ (aS (aS (aI (by omega) (aI (by omega) (aI (by omega) (aI (by omega) aN)))))) (by simp) (by omega)) rfl))
 ·simp only[M6,id]
  rw[if_neg (by simp)]
def Ve(l:Layout)(p:Plan)(e:Int):Str×Int:=if e=0 then (⟨uU (Qd l p)⟩,0) else (⟨[]⟩,1)
theorem aj1(l:Layout)(p:Plan):RS l p=(xZ l p).bind fun e=>some (Ve l p e):=by
 unfold RS
 rw[YS]
 cases hE:xZ l p with
 |none=>rfl
 |some e=>
  simp only[Option.bind_some]
  unfold Ve
  by_cases h0:e=0
  ·subst h0
   have o:=afP hE
   have z:=o.sz
   have g:=aeg o
   have hp:=o.per
   rw[if_neg (by simp),if_pos rfl]
   have s1:=z.st;have s2:=z.ro;have s3:=z.li;have s4:=z.ch;have s5:=z.tu;have s6:=z.sy;have s7:=z.de
   have h1:=sH (f:=fun s=>[Au s]) (m:=1) (xs:=p.aR) (fun _ _=>by simp)
   have h2:=sH (f:=fun r=>[yh l r]) (m:=1) (xs:=p.Routes) (fun _ _=>by simp)
   have h3:=sH (f:=Cw p) (m:=13) (xs:=p.Lines) (fun x hx=>(MX o hx).1)
   have h4:=sH (f:=fun c=>[zG p c]) (m:=1) (xs:=p.Changes) (fun _ _=>by simp)
   have h5:=sH (f:=fun t=>[AJ p t]) (m:=1) (xs:=p.Turns) (fun _ _=>by simp)
   have h6:=sH (f:=fun s=>[Az p s]) (m:=1) (xs:=p.bE) (fun _ _=>by simp)
   have hsub:∀{a b:List (List Str)},(∀w∈a++b,iN w)→∀w∈a,iN w:=fun h w hw=>h w (List.mem_append.2 (.inl hw))
   have g7:=g.1
   have g6:=hsub g7;have g5:=hsub g6;have g4:=hsub g5;have g3:=hsub g4;have g2:=hsub g3;have g1:=hsub g2;have g0:=hsub g1
   refine bV (Ga [] _ (aS (aI (by omega) aN)) (by simp) (by simp)) ?_
   refine (ajS o [Hl p] (by simp) g0).trans ?_
   rw[ajT o _ (by simp only[List.length_append,List.length_singleton];omega) g1,ajU o _ (by simp only[List.length_append,List.length_singleton];omega) g2,ajW o _ (by simp only[List.length_append,List.length_singleton];omega) g3,
    ajX o _ (by simp only[List.length_append,List.length_singleton];omega) g4,ajY o _ (by simp only[List.length_append,List.length_singleton];omega) g5,ajZ o _ (by simp only[List.length_append,List.length_singleton];omega) g6]
   exact bV (aj7 g7 (by have:=g.2;unfold Qd at this;omega)) rfl
  ·rw[if_pos (by simpa using h0),if_neg h0]
end Go.Proofs.YtcalibhfgdncaaaGreatDoor
namespace Go.Proofs.YtcalibhfgdncaaaGreatDoor
open Go.Dc
set_option maxRecDepth 10000
theorem cs{s t:Str}(h:s.l.length+t.l.length≤100000000000000:=by first|omega|(simp only[List.length_append,List.length_cons,List.length_nil]<;>omega)):dX s t=some ⟨s.l++t.l⟩:=PO s.l t.l h
theorem cx{s t c:Str}(e:s.l++t.l=c.l)(h:s.l.length+t.l.length≤100000000000000:=by first|omega|(simp only[List.length_append,List.length_cons,List.length_nil]<;>omega)):dX s t=some c:=by rw[cs h,e]
theorem d9{n:Int}(h1: -9223372036854775808≤n∧n≤9223372036854775807:=by omega):uE n=some (nI n):=by
 unfold uE
 rw[U8 n h1.1 h1.2];rfl
theorem acy{lo hi:Int}(h1:0≤lo∧lo≤hi∧hi≤7200):KF lo hi=some (rng lo hi):=by
 have c:=JI lo (by omega) (by omega);have d:=JI hi (by omega) (by omega)
 unfold KF
 rw[U8 _ (by omega) (by omega),Option.bind_some,U8 _ (by omega) (by omega),PO _ _ (by simp;omega),Option.bind_some,Option.bind_some,PO _ _ (by simp;omega)]
 rfl
theorem afh:∀(a:List (List Str)) (w:List Str),uU (a++[w])=uU a++(kJ true w++[10])
 |[],w=>by simp[uU]
 |v::r,w=>by simp[uU,afh r w]
theorem Yb:∀(a b:List Str) (f:Bool),a≠[]→kJ f (a++b)=kJ f a++kJ false b
 |[],_,_,h=>absurd rfl h
 |[s],b,f,_=>by simp[kJ]
 |s::t::r,b,f,_=>by
  have:=Yb (t::r) b false (by simp)
  simp only[List.cons_append] at this ⊢
  simp only[kJ] at this ⊢
  rw[this];simp
theorem aj8{q:List (List Str)}(hg:∀w∈q,iN w)(hq:q.length≤2000):(uU q).length≤10000000:=by
 have h1:=afg q
 have h2:=Zf hg
 omega
theorem Vi{w:List Str}(h:∀s∈w,tJ s)(hl:w.length≤100):(kJ true w).length≤5000:=by
 have h1:=acR true w
 have h2:=Zg h
 omega
theorem aqJ{l:Layout}(v:Gp l){r:aO}(o:wI l r):Tp l r=some ⟨kJ true (yh l r)++[10]⟩:=by
 have hn:=o.len;have hv:=o.ov
 unfold Tp
 have:=nu (B:=Tn r l) (fun (s:List Str) i=>(⟨kJ true s⟩,i)) r.Steps (fun s i=>s.length≤1+2*i∧s≠[]∧∀t∈s,tJ t)
  (fun s t=>some ⟨kJ true (s++t.flatMap (Ay l)++Er r)++[10]⟩) ?_ ?_ FUEL [Xn] 0 ⟨by simp,by simp,ji ⟨by decide,by decide⟩ xO⟩ (by omega) (jh (by omega))
 ·rw[List.drop_zero] at this
  exact Eq.trans (by simp[kJ,Xn]) (this.trans (by simp[yh]))
 ·rintro c s i x t ⟨hs,h0,hg⟩ hdr hi hx hk
  have hm:x∈r.Steps:=apl hx
  have hsn:=ahE v (o.st x hm)
  have hw:=Vi hg (by omega)
  have asL:=hsn.2
  have hk2:∀w:Str,tJ w→Ol i c ⟨kJ true (s++[EC l x,w])⟩=some ⟨kJ true (s++[EC l x,w]++t.flatMap (Ay l)++Er r)++[10]⟩:=fun w hw=>by
   unfold Ol
   rw[cO (eB (by omega) (by omega))]
   exact hk _ ⟨by simp;omega,by simp,fun u hu=>by
    rcases List.mem_append.1 hu with e|e
    ·exact hg u e
    ·exact ji hsn (ji hw xO) u e⟩
  simp only[Tn]
  refine (if_pos (by simp;omega)).trans (bV hx (bV (OE o hm) ?_))
  rw[show (l.Sections.getD x.Section.toNat default).Name=EC l x from rfl]
  refine bV cs (bV cs (bV hx ?_))
  have hd:=o.st x hm
  unfold iR at hd
  simp only[Bool.and_eq_true,Bool.or_eq_true,decide_eq_true_eq] at hd
  by_cases h1:x.Dir=0
  ·refine (if_pos (by simpa using h1)).trans (bV (cx (c:=⟨kJ true (s++[EC l x,OP])⟩) ?_) ?_)
   ·rw[Yb _ _ _ h0];simp[kJ,OP]
   ·rw[hk2 _ aie]
    simp[Ay,h1]
  ·refine (if_neg (by simpa using h1)).trans (bV (cx (c:=⟨kJ true (s++[EC l x,Md])⟩) ?_) ?_)
   ·rw[Yb _ _ _ h0];simp[kJ,Md]
   ·rw[hk2 _ adV]
    have:x.Dir=1:=by omega
    simp[Ay,this]
 ·rintro c s ⟨hs,h0,hg⟩
  have hw:=Vi hg (by omega)
  simp only[Tn]
  rw[if_neg (by simp)]
  unfold ab6 Er
  by_cases h1:r.Overlap=0
  ·rw[if_neg (by simp;omega),if_neg (fun h=>h h1)]
   unfold Om
   rw[cs,Option.bind_some]
   simp
  ·have hi:=(mo (v:=r.Overlap) (by omega) (by omega)).2
   rw[if_pos (by simp;omega),if_pos h1,U8 _ (by omega) (by omega),Option.bind_some,show (⟨Lib.itoa r.Overlap⟩:Str)=nI r.Overlap from rfl]
   refine bV cs (bV (cx (c:=⟨kJ true (s++[RH,nI r.Overlap])⟩) ?_) ?_)
   ·rw[Yb _ _ _ h0];simp[kJ,RH]
   ·have h2:=Vi (w:=s++[RH,nI r.Overlap]) (fun u hu=>by
     rcases List.mem_append.1 hu with e|e
     ·exact hg u e
     ·exact ji ⟨by decide,by decide⟩ (ji (mo (by omega) (by omega)) xO) u e) (by simp;omega)
    unfold Om
    rw[cs,Option.bind_some]
    simp
def kV(q:List (List Str)):Str:=⟨uU q⟩
theorem FR(q:List (List Str))(w:List Str):kV (q++[w])=⟨uU q++(kJ true w++[10])⟩:=by unfold kV;rw[afh]
theorem Ic{q:List (List Str)}(hg:∀w∈q,iN w)(hq:q.length≤2000):(kV q).l.length≤10000000:=aj8 hg hq
theorem FQ(q:List (List Str)):(kV q).l=uU q:=rfl
theorem aqE{l:Layout}{p:Plan}(o:nV l p)(q:List (List Str))(hq:q.length≤1000)(hg:∀w∈q,iN w):Oh p l (kV q) ()=some (kV (q++p.bF.flatMap fun d=>[BX l d]),0):=by
 have z:=o.sz.de
 unfold Oh
 refine wU (B:=Tg p l) kV p.bF (fun d=>[BX l d]) (fun s=>some (s,0)) 1 (fun c q i x hx hm hi hq hg=>?_) (fun c q _ _=>?_) (fun d hd=>rC (Y0 o.vn (PX (o.Mc d hd)))) q (by omega) hg (by omega)
 ·have h:=PX (o.Mc x hm)
  have hj:=Ic hg (by omega)
  have n1:=(XF o.vn h.1).2;have n2:=(XF o.vn h.2.1).2;have n3:=(mo (v:=x.Weight) (by omega) (by omega)).2
  simp only[Tg]
  refine (if_pos (by simp;omega)).trans (bV hx (bV (XE h.1) (bV cs (bV cs (bV (XE h.2.1) (bV cs (bV cs (bV d9 (bV cs (bV cs (bV (cx (c:=kV (q++[BX l x])) ?_) ?_)))))))))))
  ·rw[FR,FQ];simp[BX,kJ,dmW]
  ·exact cO (eB (by omega) (by omega))
 ·simp only[Tg]
  rw[if_neg (by simp)];rfl
theorem aqD{l:Layout}{p:Plan}(o:nV l p)(q:List (List Str))(hq:q.length≤900)(hg:∀w∈q,iN w):Og p l (kV q) ()=Oh p l (kV (q++p.bE.flatMap fun s=>[Az p s])) ():=by
 have z:=o.sz.sy
 unfold Og
 refine wU (B:=Tf p l) kV p.bE (fun s=>[Az p s]) (fun s=>Oh p l s ()) 1 (fun c q i x hx hm hi hq hg=>?_) (fun c q _ _=>?_) (fun s hs=>rC (acK o (o.syn s hs))) q (by omega) hg (by omega)
 ·have h:=o.syn x hm
  have hp:=o.per
  simp only[Bool.and_eq_true,decide_eq_true_eq] at h
  have a:=Bd o h.1.1.1.1;have b:=Bd o h.1.1.1.2
  have hj:=Ic hg (by omega)
  have n1:=(Bp o a.1).2;have n2:=(Bp o b.1).2;have n3:=(mo (v:=x.lG) (by omega) (by omega)).2;have n4:=(mo (v:=x.lN) (by omega) (by omega)).2;have n5:=(mo (v:=x.Offset) (by omega) (by omega)).2
  unfold Aa at n1 n2
  simp only[Tf]
  refine (if_pos (by simp;omega)).trans (bV hx (bV (Bo a.1) (bV cs (bV cs (bV (Bo b.1) (bV d9 (bV cs (bV cs (bV cs (bV cs (bV d9 (bV cs (bV cs (bV d9 (bV cs (bV cs (bV (cx (c:=kV (q++[Az p x])) ?_) ?_)))))))))))))))))
  ·rw[FR,FQ];simp[Az,kJ,syW,Aa]
  ·exact cO (eB (by omega) (by omega))
 ·simp only[Tf]
  rw[if_neg (by simp)]
theorem aqC{l:Layout}{p:Plan}(o:nV l p)(q:List (List Str))(hq:q.length≤800)(hg:∀w∈q,iN w):Oe p l (kV q) ()=Og p l (kV (q++p.Turns.flatMap fun t=>[AJ p t])) ():=by
 have z:=o.sz.tu
 unfold Oe
 refine wU (B:=Te p l) kV p.Turns (fun t=>[AJ p t]) (fun s=>Og p l s ()) 1 (fun c q i x hx hm hi hq hg=>?_) (fun c q _ _=>?_) (fun t ht=>rC (acL o (o.OH t ht))) q (by omega) hg (by omega)
 ·have h:=o.OH x hm
  simp only[Bool.and_eq_true] at h
  have hj:=Ic hg (by omega)
  have n1:=(Bp o h.1.1).2;have n2:=(Bp o h.1.2).2;have n3:=(Ml (L6 h.2)).2
  unfold Aa at n1 n2
  simp only[Te]
  refine (if_pos (by simp;omega)).trans (bV hx (bV (Bo h.1.1) (bV cs (bV cs (bV (Bo h.1.2) (bV cs (bV cs (bV (acy (L6 h.2)) (bV cs (bV cs (bV (cx (c:=kV (q++[AJ p x])) ?_) ?_)))))))))))
  ·rw[FR,FQ];simp[AJ,kJ,tnW,Aa]
  ·exact cO (eB (by omega) (by omega))
 ·simp only[Te]
  rw[if_neg (by simp)]
theorem aqB{l:Layout}{p:Plan}(o:nV l p)(q:List (List Str))(hq:q.length≤700)(hg:∀w∈q,iN w):Oc p l (kV q) ()=Oe p l (kV (q++p.Changes.flatMap fun c=>[zG p c])) ():=by
 have z:=o.sz.ch
 unfold Oc
 refine wU (B:=Td p l) kV p.Changes (fun c=>[zG p c]) (fun s=>Oe p l s ()) 1 (fun c q i x hx hm hi hq hg=>?_) (fun c q _ _=>?_) (fun t ht=>rC (YO o (o.Ma t ht))) q (by omega) hg (by omega)
 ·obtain⟨⟨ha,hb⟩,hbn,hw⟩:=YP o (o.Ma x hm)
  have a:=Bd o ha;have b:=Bd o hb
  have hj:=Ic hg (by omega)
  have n1:=(Bp o a.1).2;have n2:=(Bp o b.1).2;have n3:=(mo (v:=x.iE) (by omega) (by omega)).2;have n4:=(mo (v:=x.kN) (by omega) (by omega)).2;have n5:=(Ml hbn).2;have n6:=(mo (v:=x.Weight) (by omega) (by omega)).2
  unfold Aa at n1 n2
  simp only[Td]
  refine (if_pos (by simp;omega)).trans (bV hx (bV (Bo a.1) (bV cs (bV cs (bV (Bo b.1) (bV d9 (bV cs (bV cs (bV cs (bV cs (bV d9 (bV cs (bV cs (bV (acy hbn) (bV cs (bV cs (bV d9 (bV cs (bV cs (bV (cx (c:=kV (q++[zG p x])) ?_) ?_))))))))))))))))))))
  ·rw[FR,FQ];simp[zG,kJ,chW,Aa]
  ·exact cO (eB (by omega) (by omega))
 ·simp only[Td]
  rw[if_neg (by simp)]
theorem aqA{l:Layout}{p:Plan}(o:nV l p){x:Line}(hx:x∈p.Lines)(t:Nat)(ht:t≤1000)(c3:(Str×Nat)→Option (Str×Int))(q:List (List Str))(hq:q.length+12≤2000)(hg:∀w∈q,iN w):
  iter (N9 x t c3) FUEL (kV q,0)=c3 (kV (q++x.aJ.map wo),t+1):=by
 have z:=o.sz.ri x hx
 have e:x.aJ.map wo=x.aJ.flatMap fun r=>[wo r]:=by rw[List.map_eq_flatMap]
 rw[e]
 refine wU (B:=N9 x t c3) kV x.aJ (fun r=>[wo r]) (fun s=>c3 (s,t+1)) 1 (fun c q i r hr hm hi hq hg=>?_) (fun c q _ _=>?_) (fun r hr=>rC (abF o hx hr)) q (by omega) hg (by omega)
 ·have h:=acf o hx hm
  have hp:=o.per;have hz:=o.sz.ro
  have hj:=Ic hg (by omega)
  have n1:=(mo (v:=r.aO) (by omega) (by omega)).2;have n2:=(mo (v:=r.Extra) (by omega) (by omega)).2;have n3:=(Ml h.2.2).2
  simp only[N9]
  refine (if_pos (by simp;omega)).trans (bV hr (bV hr (bV d9 (bV cs (bV cs (bV d9 (bV cs (bV cs (bV hr ?_)))))))))
  by_cases h0:r.Max=0
  ·refine (if_neg (by simp;omega)).trans ?_
   unfold Od
   refine bV (cx (c:=kV (q++[wo r])) ?_) (cO (eB (by omega) (by omega)))
   rw[FR,FQ];simp[wo,kJ,Sg,h0]
  ·refine (if_pos (by simp;omega)).trans (bV hr (bV hr (bV (acy h.2.2) (bV cs (bV cs ?_)))))
   unfold Od
   refine bV (cx (c:=kV (q++[wo r])) ?_) (cO (eB (by omega) (by omega)))
   rw[FR,FQ];simp[wo,kJ,Sg,h0]
 ·simp only[N9]
  rw[if_neg (by simp)]
  unfold ab2
  exact cO (eB (by omega) (by omega))
theorem aqz{l:Layout}{p:Plan}(o:nV l p)(q:List (List Str))(hq:q.length≤400)(hg:∀w∈q,iN w):Ob p l (kV q) ()=Oc p l (kV (q++p.Lines.flatMap (Cw p))) ():=by
 have z:=o.sz.li
 unfold Ob
 refine (wU (B:=Tc p l) kV p.Lines (Cw p) (fun s=>Oc p l s ()) 13 (fun c q i x hx hm hi hq hg=>?_) (fun c q _ _=>?_) (fun x hx=>MX o hx) q (by omega) hg (by omega))
 ·obtain⟨h1,h2,h3,_⟩:=o.MW x hm
  have hg2:∀w∈q++[Ei p x],iN w:=ER hg (rC (abd o hm)).2
  have hj:=Ic hg (by omega)
  have n1:=(Ju h1).2;have n2:=(Ju (o.FW _ (lT (xs:=p.aR) (i:=x.aH.toNat) (by omega))).1).2;have n3:=(mo (v:=x.Weight) (by omega) (by omega)).2
  simp only[Tc]
  refine (if_pos (by simp;omega)).trans (bV hx (bV cs (bV cs (bV (uq h2.1 h2.2) (bV cs (bV cs (bV d9 (bV cs (bV cs (bV (cx (c:=kV (q++[Ei p x])) ?_) ?_))))))))))
  ·rw[FR,FQ];simp[Ei,kJ,lnW]
  ·have:=aqA o hm i (by omega) c (q++[Ei p x]) (by simp;omega) hg2
   rw[List.append_assoc] at this
   exact this
 ·simp only[Tc]
  rw[if_neg (by simp)]
theorem aqy{l:Layout}{p:Plan}(o:nV l p)(q:List (List Str))(hq:q.length≤300)(hg:∀w∈q,iN w):Oa p l (kV q) ()=Ob p l (kV (q++p.Routes.flatMap fun r=>[yh l r])) ():=by
 have z:=o.sz.ro
 unfold Oa
 refine wU (B:=Ta p l) kV p.Routes (fun r=>[yh l r]) (fun s=>Ob p l s ()) 1 (fun c q i x hx hm hi hq hg=>?_) (fun c q _ _=>?_) (fun r hr=>rC (Xo o.vn (Ap (o.rt r hr)))) q (by omega) hg (by omega)
 ·have hj:=Ic hg (by omega)
  have hr:=Xo o.vn (Ap (o.rt x hm))
  have hw:=Vi hr.2.2 (by have:=hr.2.1;omega)
  simp only[Ta]
  refine (if_pos (by simp;omega)).trans (bV hx (bV (aqJ o.vn (Ap (o.rt x hm))) (bV (cx (c:=kV (q++[yh l x])) ?_) ?_)))
  ·rw[FR,FQ]
  ·exact cO (eB (by omega) (by omega))
 ·simp only[Ta]
  rw[if_neg (by simp)]
theorem aqx{l:Layout}{p:Plan}(o:nV l p)(q:List (List Str))(hq:q.length≤200)(hg:∀w∈q,iN w):iter (N8 p l) FUEL (kV q,0)=Oa p l (kV (q++p.aR.flatMap fun s=>[Au s])) ():=by
 have z:=o.sz.st
 refine wU (B:=N8 p l) kV p.aR (fun s=>[Au s]) (fun s=>Oa p l s ()) 1 (fun c q i x hx hm hi hq hg=>?_) (fun c q _ _=>?_) (fun s hs=>rC (acv (o.FW s hs))) q (by omega) hg (by omega)
 ·have h:=acE (o.FW x hm).2
  have hj:=Ic hg (by omega)
  have n1:=(Ju (o.FW x hm).1).2;have n2:=(mo (v:=x.Length) (by omega) (by omega)).2;have n3:=(mo (v:=x.qB) (by omega) (by omega)).2;have n4:=(mo (v:=x.qy) (by omega) (by omega)).2;have n5:=(mo (v:=x.qz) (by omega) (by omega)).2
  simp only[N8]
  refine (if_pos (by simp;omega)).trans (bV hx (bV cs (bV cs (bV d9 (bV cs (bV cs (bV d9 (bV cs (bV cs (bV d9 (bV cs (bV cs (bV d9 (bV cs (bV cs (bV (cx (c:=kV (q++[Au x])) ?_) ?_))))))))))))))))
  ·rw[FR,FQ];simp[Au,kJ,skW]
  ·exact cO (eB (by omega) (by omega))
 ·simp only[N8]
  rw[if_neg (by simp)]
theorem aj0(l:Layout)(p:Plan):Ti l p=(xZ l p).bind fun e=>some (Ve l p e):=by
 unfold Ti
 rw[adQ]
 cases hE:xZ l p with
 |none=>rfl
 |some e=>
  simp only[Option.bind_some]
  unfold Ve
  by_cases h0:e=0
  ·subst h0
   have o:=afP hE
   have z:=o.sz
   have g:=aeg o
   have hp:=o.per
   rw[if_neg (by simp),if_pos rfl]
   have s1:=z.st;have s2:=z.ro;have s3:=z.li;have s4:=z.ch;have s5:=z.tu;have s6:=z.sy;have s7:=z.de
   have h1:=sH (f:=fun s=>[Au s]) (m:=1) (xs:=p.aR) (fun _ _=>by simp)
   have h2:=sH (f:=fun r=>[yh l r]) (m:=1) (xs:=p.Routes) (fun _ _=>by simp)
   have h3:=sH (f:=Cw p) (m:=13) (xs:=p.Lines) (fun x hx=>(MX o hx).1)
   have h4:=sH (f:=fun c=>[zG p c]) (m:=1) (xs:=p.Changes) (fun _ _=>by simp)
   have h5:=sH (f:=fun t=>[AJ p t]) (m:=1) (xs:=p.Turns) (fun _ _=>by simp)
   have h6:=sH (f:=fun s=>[Az p s]) (m:=1) (xs:=p.bE) (fun _ _=>by simp)
   have hsub:∀{a b:List (List Str)},(∀w∈a++b,iN w)→∀w∈a,iN w:=fun h w hw=>h w (List.mem_append.2 (.inl hw))
   have g7:=g.1
   have g6:=hsub g7;have g5:=hsub g6;have g4:=hsub g5;have g3:=hsub g4;have g2:=hsub g3;have g1:=hsub g2;have g0:=hsub g1
   have n1:=(mo (v:=p.bU) (by omega) (by omega)).2
   refine bV d9 (bV cs (bV (cx (c:=kV [Hl p]) ?_) ?_))
   ·simp[kV,uU,Hl,kJ,pdW]
   refine (aqx o [Hl p] (by simp) g0).trans ?_
   rw[aqy o _ (by simp only[List.length_append,List.length_singleton];omega) g1,aqz o _ (by simp only[List.length_append,List.length_singleton];omega) g2,aqB o _ (by simp only[List.length_append,List.length_singleton];omega) g3,
    aqC o _ (by simp only[List.length_append,List.length_singleton];omega) g4,aqD o _ (by simp only[List.length_append,List.length_singleton];omega) g5,aqE o _ (by simp only[List.length_append,List.length_singleton];omega) g6]
   rfl
  ·rw[if_pos (by simpa using h0),if_neg h0]
end Go.Proofs.YtcalibhfgdncaaaGreatDoor
