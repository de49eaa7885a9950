/- Several parts of the engine, one behind the other. -/
import Derived.Test.YtcalibhfgdncaaaGreatQ1
import Derived.Test.YtcalibhfgdncaaaGreatTm
import Derived.Test.YtcalibhfgdncaaaGreatPs
import Derived.Test.YtcalibhfgdncaaaGreatYc
set_option linter.all false
namespace Go.Dc
def errs(g:Nat→Option Int)(k:Option Int):Nat→Nat→Option Int
 |0,_=>k
 |m+1,i=>(g i).bind fun e=>if decide (e≠0) then some e else errs g k m (i+1)
theorem ak7{B:(Nat→Option Int)→Nat→Option Int}{n:Nat}{g:Nat→Option Int}{k:Option Int}
  (hs:∀c i,i<n→B c i=(g i).bind fun e=>if decide (e≠0) then some e else c (i+1))(he:∀c,B c n=k):
  ∀m i f,i+m=n→m<f→iter B f i=errs g k m i:=by
 intro m
 induction m with
 |zero=>
  intro i f hi hf
  obtain⟨f,rfl⟩:∃x,f=x+1:=⟨f-1,by omega⟩
  show B (iter B f) i=k
  rw[show i=n by omega,he]
 |succ m ih=>
  intro i f hi hf
  obtain⟨f,rfl⟩:∃x,f=x+1:=⟨f-1,by omega⟩
  show B (iter B f) i=_
  rw[hs _ _ (by omega),ih (i+1) f (by omega) (by omega)]
  rfl
theorem xM{B:(Nat→Option Int)→Nat→Option Int}(n:Nat)(g:Nat→Option Int)(k:Option Int)
 (hs:∀c i,i<n→B c i=(g i).bind fun e=>if decide (e≠0) then some e else c (i+1))(he:∀c,B c n=k)(hn:n≤1000000000000000):
 iter B FUEL 0=errs g k n 0:=ak7 hs he n 0 FUEL (by omega) (jo (by omega))
theorem ak9{B:(Nat→Option Int)→Nat→Option Int}{n:Nat}{g:Nat→Option Int}{k:Option Int}
  (hs:∀c i,i<n→(∀j,j<i→g j=some 0)→B c i=(g i).bind fun e=>if decide (e≠0) then some e else c (i+1))(he:∀c,B c n=k):
  ∀m i f,i+m=n→m<f→(∀j,j<i→g j=some 0)→iter B f i=errs g k m i:=by
 intro m
 induction m with
 |zero=>
  intro i f hi hf _
  obtain⟨f,rfl⟩:∃x,f=x+1:=⟨f-1,by omega⟩
  show B (iter B f) i=k
  rw[show i=n by omega,he]
 |succ m ih=>
  intro i f hi hf hp
  obtain⟨f,rfl⟩:∃x,f=x+1:=⟨f-1,by omega⟩
  show B (iter B f) i=_
  rw[hs _ _ (by omega) hp]
  simp only[errs]
  cases h:g i with
  |none=>rfl
  |some e=>
   simp only[Option.bind_some]
   by_cases he:e=0
   ·subst he
    rw[if_neg (by simp),if_neg (by simp),ih (i+1) f (by omega) (by omega) (fun j hj=>by
     by_cases e:j=i
     ·subst e;exact h
     ·exact hp j (by omega))]
   ·rw[if_pos (by simpa using he),if_pos (by simpa using he)]
theorem ak8{B:(Nat→Option Int)→Nat→Option Int}(n:Nat)(g:Nat→Option Int)(k:Option Int)
 (hs:∀c i,i<n→(∀j,j<i→g j=some 0)→B c i=(g i).bind fun e=>if decide (e≠0) then some e else c (i+1))(he:∀c,B c n=k)(hn:n≤1000000000000000):
 iter B FUEL 0=errs g k n 0:=ak9 hs he n 0 FUEL (by omega) (jo (by omega)) (fun j hj=>by omega)
theorem ak6{α:Type}{B:(Nat→Option Int)→Nat→Option Int}(xs:List α)(q:α→Bool)(r k:Option Int)
  (hs:∀c (i:Nat) x,idx xs (i:Int)=some x→i<xs.length→B c i=if q x then r else c (i+1))(he:∀c,B c xs.length=k):
  ∀n i,i≤xs.length→xs.length-i<n→iter B n i=if (xs.drop i).any q then r else k:=by
 intro n
 induction n with
 |zero=>intro i _ h;omega
 |succ n ih=>
  intro i hi hn
  show B (iter B n) i=_
  by_cases hl:i=xs.length
  ·subst hl
   rw[he,List.drop_length];rfl
  ·have hlt:i<xs.length:=by omega
   have hd:xs.drop i=xs[i]::xs.drop (i+1):=List.drop_eq_getElem_cons hlt
   rw[hs _ i xs[i] (by simp[idx,hlt]) hlt,hd,List.any_cons]
   cases h:q xs[i] with
   |true=>simp
   |false=>rw[if_neg (by simp),ih (i+1) (by omega) (by omega)];simp
theorem Ux{α:Type}{B:(Nat→Option Int)→Nat→Option Int}(xs:List α)(q:α→Bool)(r k:Option Int)
  (hs:∀c (i:Nat) x,idx xs (i:Int)=some x→i<xs.length→B c i=if q x then r else c (i+1))(he:∀c,B c xs.length=k)(hl:xs.length≤1000000):
  iter B FUEL 0=if xs.any q then r else k:=by
 have:=ak6 xs q r k hs he FUEL 0 (by omega) (jo (by omega))
 rwa [List.drop_zero] at this
theorem Uw{α:Type}{xs:List α}{i j:Nat}{x:α}(h:idx (xs.take i) (j:Int)=some x):idx xs (j:Int)=some x:=by
 rw[nO] at h ⊢
 rw[List.getElem?_take] at h
 split at h
 ·exact h
 ·cases h
theorem GU(g:Nat→Option Int)(K:Option Int):∀m i,((errs g (some 0) m i).bind fun e=>if decide (e≠0) then some e else K)=errs g K m i:=by
 intro m
 induction m with
 |zero=>intro i;rfl
 |succ m ih=>
  intro i
  simp only[errs]
  cases h:g i with
  |none=>rfl
  |some e=>
   simp only[Option.bind_some]
   by_cases he:e=0
   ·rw[if_neg (by simp[he]),if_neg (by simp[he]),ih]
   ·rw[if_pos (by simp[he]),if_pos (by simp[he]),Option.bind_some,if_pos (by simp[he])]
theorem Aw{g g':Nat→Option Int}{k k':Option Int}:∀m i,(∀j,i≤j→j<i+m→(∀j',i≤j'→j'<j→g j'=some 0)→g j=g' j)→
  ((∀j,i≤j→j<i+m→g j=some 0)→k=k')→errs g k m i=errs g' k' m i:=by
 intro m
 induction m with
 |zero=>intro i _ hk;exact hk (fun j _ _=>by omega)
 |succ m ih=>
  intro i hg hk
  simp only[errs]
  rw[←hg i (Nat.le_refl _) (by omega) (fun j _ _=>by omega)]
  cases h:g i with
  |none=>rfl
  |some e=>
   simp only[Option.bind_some]
   by_cases he:e=0
   ·subst he
    rw[if_neg (by simp),if_neg (by simp)]
    refine ih (i+1) (fun j h1 h2 h3=>hg j (by omega) (by omega) fun j' a b=>?_) (fun h3=>hk fun j' a b=>?_)
    ·by_cases e:j'=i
     ·subst e;exact h
     ·exact h3 j' (by omega) b
    ·by_cases e:j'=i
     ·subst e;exact h
     ·exact h3 j' (by omega) (by omega)
   ·rw[if_pos (by simp[he]),if_pos (by simp[he])]
theorem KY{g:Nat→Option Int}{k:Option Int}:∀m i,errs g k m i=some 0→(∀j,i≤j→j<i+m→g j=some 0)∧k=some 0:=by
 intro m
 induction m with
 |zero=>intro i h;exact⟨fun j _ _=>by omega,h⟩
 |succ m ih=>
  intro i h
  simp only[errs] at h
  cases hg:g i with
  |none=>rw[hg] at h;cases h
  |some e=>
   rw[hg,Option.bind_some] at h
   by_cases he:e=0
   ·subst he
    rw[if_neg (by simp)] at h
    obtain⟨h1,h2⟩:=ih (i+1) h
    refine⟨fun j a b=>?_,h2⟩
    by_cases e:j=i
    ·subst e;exact hg
    ·exact h1 j (by omega) (by omega)
   ·rw[if_pos (by simp[he])] at h
    cases h;exact absurd rfl he
theorem wL{α:Type}(g:Bool)(d v:α):dW g d (some v)=some (if g then v else d):=by cases g<;>rfl
theorem akX{α:Type}{B:(Nat→Option Int)→Nat→Option Int}(xs:List α)(q:α→Bool)
  (hs:∀c (i:Nat) x,idx xs (i:Int)=some x→i<xs.length→B c i=if q x then some (i:Int) else c (i+1))(he:∀c,B c xs.length=some (-1)):
  ∀n i,i≤xs.length→xs.length-i<n→((iter B n i).bind fun y=>some (decide (0≤y)))=some ((xs.drop i).any q):=by
 intro n
 induction n with
 |zero=>intro i _ h;omega
 |succ n ih=>
  intro i hi hn
  show ((B (iter B n) i).bind _)=_
  by_cases hl:i=xs.length
  ·subst hl
   rw[he,List.drop_length];rfl
  ·have hlt:i<xs.length:=by omega
   have hd:xs.drop i=xs[i]::xs.drop (i+1):=List.drop_eq_getElem_cons hlt
   rw[hs _ i xs[i] (by simp[idx,hlt]) hlt,hd,List.any_cons]
   cases h:q xs[i] with
   |true=>simp
   |false=>rw[if_neg (by simp),ih (i+1) (by omega) (by omega)];simp
theorem ZB{α:Type}{B:(Nat→Option Int)→Nat→Option Int}(xs:List α)(q:α→Bool)
  (hs:∀c (i:Nat) x,idx xs (i:Int)=some x→i<xs.length→B c i=if q x then some (i:Int) else c (i+1))(he:∀c,B c xs.length=some (-1))
  (hl:xs.length≤1000000):((iter B FUEL 0).bind fun y=>some (decide (0≤y)))=some (xs.any q):=by
 have:=akX xs q hs he FUEL 0 (by omega) (jo (by omega))
 rwa [List.drop_zero] at this
end Go.Dc
namespace Go.Proofs.YtcalibhfgdncaaaGreat
open Go.Dc
def gM(p:Plan)(r:gL):aO:=p.Routes.getD r.aO.toNat default
def ou(r:aO):Int:=(r.Steps.getD 0 default).Section
def lD(r:aO):Int:=(r.Steps.getD ((r.Steps.length:Int)-r.Overlap-1).toNat default).Section
def zl(s:bL):Bool:=((((((decide (1≤s.Length)&&decide (s.Length≤40))&&decide (1000≤s.zF))&&decide (s.zF≤100000))&&decide (100≤s.zx))&&decide (s.zx≤2000))&&decide (100≤s.zy))&&decide (s.zy≤2000)
def qP(p:Plan)(lo hi:Int):Bool:=((decide (0≤lo)&&decide (lo≤hi))&&decide (hi≤7200))&&decide (hi<lo+p.eX)
def wB(w:Int):Bool:=decide (0≤w)&&decide (w≤1048576)
def vH(r:aO):List Step:=r.Steps.take ((r.Steps.length:Int)-r.Overlap).toNat
def Ew(l:Layout)(r:aO)(s:bL):Int:=
 if (yH l r).2.2≠0 then (yH l r).2.2 else if zl s=false then 1
 else if (vH r).any (fun st=>decide ((jI l st).Length<(if s.Length>2 then s.Length else 2)))=true then 12 else 0
def zf(p:Plan)(x:Line)(k:Nat)(r:gL):Bool:=
 decide (0≤r.aO)&&decide (r.aO<(p.Routes.length:Int))&&decide (0≤r.Extra)&&decide (r.Extra<p.eX)&&qP p r.Min r.Max&& !(decide (k+1=x.bC.length)&&(decide (r.Min≠0)||decide (r.Max≠0)))
def jD(x:Line)(k:Nat):gL:=x.bC.getD k default
def xu(l:Layout)(p:Plan)(x:Line)(k:Nat):Int:=
 if zf p x k (jD x k)=false then 4
 else if Ew l (gM p (jD x k)) (p.bJ.getD x.bL.toNat default)≠0 then Ew l (gM p (jD x k)) (p.bJ.getD x.bL.toNat default)
 else if 0<k∧ou (gM p (jD x k))≠lD (gM p (jD x (k-1))) then 11 else 0
def NI(p:Plan)(i:Nat):Int:=
 if qd (p.bJ.getD i default).Name.ba=false then 3 else if (p.bJ.take i).any (fun t=>decide (t.Name=(p.bJ.getD i default).Name))=true then 5
 else if zl (p.bJ.getD i default)=false then 4 else 0
def RA(l:Layout)(p:Plan)(i:Nat):Int:=(jR l (p.Routes.getD i default)).2
def cZ(p:Plan)(i:Nat):Line:=p.Lines.getD i default
def Ga(l:Layout)(p:Plan)(i:Nat):Option Int:=
 if qd (cZ p i).Name.ba=false then some 3 else if (p.Lines.take i).any (fun t=>decide (t.Name=(cZ p i).Name))=true then some 5
 else if (decide (0≤(cZ p i).bL)&&decide ((cZ p i).bL<(p.bJ.length:Int))&&wB (cZ p i).Weight)=false then some 4
 else if (cZ p i).bC.length=0 then some 1
 else errs (fun k=>some (xu l p (cZ p i) k)) (some 0) (cZ p i).bC.length 0
def iy(p:Plan)(i:Int):Bool:=decide (0≤i)&&decide (i<(p.Lines.length:Int))
def fV(p:Plan)(i k:Int):Bool:=iy p i&&decide (0≤k)&&decide (k<((cZ p i.toNat).bC.length:Int))
def iq(p:Plan)(i k:Int):gL:=jD (cZ p i.toNat) k.toNat
def qH(l:Layout)(s:Int):Int:=(l.Sections.getD s.toNat default).nN
def Ep(p:Plan)(c:Change):Bool:=fV p c.gP c.jQ&&fV p c.jM c.nY&& !decide (c.gP=c.jM)&&qP p c.Min c.Max&&wB c.Weight
def I9(l:Layout)(p:Plan)(c:Change):Int:=
 if Ep p c=false then 4
 else if qH l (lD (gM p (iq p c.gP c.jQ)))= -1∨qH l (lD (gM p (iq p c.gP c.jQ)))≠qH l (ou (gM p (iq p c.jM c.nY))) then 11 else 0
def Ti(l:Layout)(p:Plan)(i:Nat):Int:=I9 l p (p.Changes.getD i default)
def Wz(p:Plan)(i:Nat)(t:Turn):Int:=
 if (iy p t.From&&iy p t.To&&qP p t.Min t.Max)=false then 4
 else if (p.Turns.take i).any (fun u=>decide (u.From=t.From)||decide (u.To=t.To))=true then 5
 else if lD (gM p (iq p t.From ((cZ p t.From.toNat).bC.length-1)))≠ou (gM p (iq p t.To 0))∨(cZ p t.From.toNat).bL≠(cZ p t.To.toNat).bL then 11 else 0
def Kv(p:Plan)(i:Nat):Int:=Wz p i (p.Turns.getD i default)
def NK(p:Plan)(s:Sync):Int:=
 if (fV p s.qN s.qO&&fV p s.q8 s.q9&& !(decide (s.qN=s.q8)&&decide (s.qO=s.q9))&&decide (0≤s.Offset)&&decide (s.Offset<p.eX))=false then 4 else 0
def NJ(p:Plan)(i:Nat):Int:=NK p (p.dx.getD i default)
def KX(l:Layout)(d:iY):Int:=
 if (decide (0≤d.From)&&decide (d.From<(l.bB.length:Int))&&decide (0≤d.To)&&decide (d.To<(l.bB.length:Int))&& !decide (d.From=d.To)&&decide (1≤d.Weight)&&decide (d.Weight≤1048576))=false then 4 else 0
def KV(l:Layout)(p:Plan)(i:Nat):Int:=KX l (p.dn.getD i default)
structure Sz(p:Plan):Prop where
 st:p.bJ.length≤8
 ro:p.Routes.length≤48
 li:p.Lines.length≤16
 ch:p.Changes.length≤32
 tu:p.Turns.length≤32
 sy:p.dx.length≤32
 de:p.dn.length≤32
 ri:∀x∈p.Lines,x.bC.length≤12
instance (p:Plan):Decidable (Sz p):=
 decidable_of_iff (p.bJ.length≤8∧p.Routes.length≤48∧p.Lines.length≤16∧p.Changes.length≤32∧p.Turns.length≤32∧p.dx.length≤32∧p.dn.length≤32∧∀x∈p.Lines,x.bC.length≤12)
  ⟨fun⟨a,b,c,d,e,f,g,h⟩=>⟨a,b,c,d,e,f,g,h⟩,fun⟨a,b,c,d,e,f,g,h⟩=>⟨a,b,c,d,e,f,g,h⟩⟩
def Ec(l:Layout)(p:Plan):Int:=if kZ (fG l)≠0 then 1 else if ¬Sz p then 7 else if p.eX<2∨7200<p.eX then 4 else 0
def Bf(l:Layout)(p:Plan):Option Int:=
 if decide (Ec l p≠0) then some (Ec l p) else
 errs (fun i=>some (NI p i)) (errs (fun i=>some (RA l p i)) (errs (Ga l p) (errs (fun i=>some (Ti l p i)) (errs (fun i=>some (Kv p i))
  (errs (fun i=>some (NJ p i)) (errs (fun i=>some (KV l p i)) (some 0) p.dn.length 0) p.dx.length 0) p.Turns.length 0) p.Changes.length 0) p.Lines.length 0) p.Routes.length 0) p.bJ.length 0
/-! ### What holds so far -/
structure RvOk(l:Layout)(p:Plan):Prop where
 sz:Sz p
 per:2≤p.eX∧p.eX≤7200
 ck:kZ (fG l)=0
 rt:∀r∈p.Routes,(jR l r).2=0
theorem getD_lt{α:Type}[Inhabited α]{xs:List α}{i:Nat}(h:i<xs.length):xs.getD i default=xs[i]:=by simp[h]
theorem ng{α:Type}[Inhabited α]{xs:List α}{i:Nat}(h:i<xs.length):xs.getD i default∈xs:=by rw[getD_lt h];exact List.getElem_mem h
theorem rE{α:Type}[Inhabited α]{xs:List α}{i:Nat}(h:i<xs.length):idx xs (i:Int)=some (xs.getD i default):=by rw[nO];simp[h]
theorem abf{α:Type}{xs:List α}{i:Nat}(h:i≤xs.length):sub xs 0 (i:Int)=some (xs.take i):=by
 unfold sub
 rw[if_pos (by omega)]
 simp
theorem uO{e:Int}{c:Option Int}(h:e≠0):(some e:Option Int)=((some e).bind fun e=>if decide (e≠0) then some e else c):=by
 rw[Option.bind_some,if_pos (by simpa using h)]
theorem agR{l:Layout}{p:Plan}(h:Ec l p=0):Sz p∧(2≤p.eX∧p.eX≤7200)∧kZ (fG l)=0:=by
 unfold Ec at h
 split at h
 ·cases h
 split at h
 ·cases h
 split at h
 ·cases h
 rename_i a b c
 exact⟨Classical.not_not.1 b,by omega,Classical.not_not.1 a⟩
theorem ES{l:Layout}{p:Plan}(o:RvOk l p){r:gL}(h0:0≤r.aO)(h1:r.aO<(p.Routes.length:Int)):idx p.Routes r.aO=some (gM p r)∧Al l (gM p r):=by
 have hlt:r.aO.toNat<p.Routes.length:=by omega
 exact⟨rF h0 h1,J8 (o.rt _ (ng hlt))⟩
theorem aa8{l:Layout}{r:aO}(o:Al l r):idx r.Steps 0=some (r.Steps.getD 0 default):=by
 have:=o.two;have:=o.ov
 exact rF (i:=0) (by omega) (by omega)
theorem abd{l:Layout}{r:aO}(o:Al l r):idx r.Steps ((r.Steps.length:Int)-r.Overlap-1)=some (r.Steps.getD ((r.Steps.length:Int)-r.Overlap-1).toNat default):=by
 have:=o.two;have:=o.ov
 exact rF (by omega) (by omega)
theorem aa7{l:Layout}{p:Plan}(o:RvOk l p){r:gL}(h0:0≤r.aO)(h1:r.aO<(p.Routes.length:Int)):JO p r=some (ou (gM p r)):=by
 obtain⟨a,b⟩:=ES o h0 h1
 unfold JO
 rw[a,Option.bind_some,aa8 b,Option.bind_some];rfl
theorem abb{l:Layout}{p:Plan}(o:RvOk l p){r:gL}(h0:0≤r.aO)(h1:r.aO<(p.Routes.length:Int)):JQ p r=some (lD (gM p r)):=by
 obtain⟨a,b⟩:=ES o h0 h1
 have:=b.len;have:=b.ov
 unfold JQ
 rw[a,Option.bind_some,Option.bind_some,dM (fq (by omega) (by omega)),dM (fq (by omega) (by omega)),abd b,Option.bind_some];rfl
theorem XI{l:Layout}{p:Plan}(o:RvOk l p)(lo hi:Int):JL p lo hi=some (qP p lo hi):=by
 have:=o.per
 unfold JL
 by_cases h:0≤lo∧lo≤hi∧hi≤7200
 ·rw[dM (by simp[bA];omega)];rfl
 ·rw[dM (by simp;omega)];rfl
theorem VY{l:Layout}{r:aO}(o:Al l r){s:Step}(h:s∈r.Steps):idx l.Sections s.Section=some (l.Sections.getD s.Section.toNat default):=(Ko o.v (o.st s h)).1
/-! ### The checks -/
theorem acK(s:bL):OH s=some (zl s):=rfl
theorem anV{l:Layout}{r:aO}(o:Al l r):Ot r=some (vH r):=by
 have:=o.len;have:=o.ov;have:=o.two
 unfold Ot
 rw[dM (fq (by omega) (by omega))]
 have:sub r.Steps 0 ((r.Steps.length:Int)-r.Overlap)=some (vH r):=by
  unfold sub vH
  rw[if_pos (by omega)]
  simp
 rw[this];rfl
theorem abU{l:Layout}{r:aO}(h:(yH l r).2.2=0):Al l r:=by
 refine J8 ?_
 by_cases h0:(jR l r).2=0
 ·exact h0
 ·unfold yH at h;rw[if_pos h0] at h;exact h
theorem aiv(l:Layout)(r:aO)(s:bL):Oo l r s=some (Ew l r s):=by
 unfold Oo Tf Ew
 rw[amu,Option.bind_some]
 by_cases h0:(yH l r).2.2=0
 ·rw[if_neg (by simp[h0]),if_neg (by simp[h0]),acK,Option.bind_some]
  have o:=abU h0
  cases hs:zl s with
  |false=>rfl
  |true=>
   rw[if_neg (by simp),if_neg (by simp),anV o,Option.bind_some]
   have hT:∀x∈vH r,kF l x=true:=fun x hx=>o.st x (List.mem_of_mem_take hx)
   have hl:(vH r).length≤24:=by have:=o.len;unfold vH;rw[List.length_take];omega
   generalize vH r=T at hT hl
   have:=oH (B:=Oq T l s (yH l r)) (fun (_:Unit) i=>i) T (fun _ _=>True)
    (fun _ q=>some (if q.any (fun st=>decide ((jI l st).Length<(if s.Length>2 then s.Length else 2)))=true then (vM.mk ([]:List Cell) 0,(12:Int)) else (vM.mk (yH l r).1 (yH l r).2.1,0))) ?_ ?_ FUEL () 0 trivial (by omega) (jo (by omega))
   ·rw[this,Option.bind_some,List.drop_zero]
    cases (T.any fun st=>decide ((jI l st).Length<(if s.Length>2 then s.Length else 2)))<;>rfl
   ·intro c _ i x q _ hdr hi hx hk
    simp only[Oq]
    have hm:x∈T:=List.mem_of_mem_drop (i:=i) (by rw[hdr];exact List.mem_cons_self)
    rw[if_pos (by simp;omega),hx,Option.bind_some,(Ko o.v (hT x hm)).1,Option.bind_some]
    by_cases hc:(jI l x).Length<(if s.Length>2 then s.Length else 2)
    ·rw[if_pos (by simpa using hc),if_pos (by simp[hc])]
    ·rw[if_neg (by simpa using hc),hk () trivial]
     simp only[List.any_cons,decide_eq_false hc,Bool.false_or]
   ·intro c _ _
    simp only[Oq]
    rw[if_neg (by simp)]
    rfl
 ·rw[if_pos (by simp[h0]),if_pos h0];rfl
end Go.Proofs.YtcalibhfgdncaaaGreat
namespace Go.Proofs.YtcalibhfgdncaaaGreat
open Go.Dc
theorem ah0(xs:List bL)(y:bL)(h:xs.length≤1000):R5 xs y=some (xs.any fun t=>decide (t.Name=y.Name)):=by
 unfold R5 V8
 refine ZB xs _ (fun c i x hx hi=>?_) (fun c=>?_) (by omega)
 ·simp only[V7]
  rw[if_pos (by simp;omega),hx];rfl
 ·simp only[V7]
  rw[if_neg (by simp)];rfl
theorem ahZ(xs:List Line)(y:Line)(h:xs.length≤1000):R4 xs y=some (xs.any fun t=>decide (t.Name=y.Name)):=by
 unfold R4 V6
 refine ZB xs _ (fun c i x hx hi=>?_) (fun c=>?_) (by omega)
 ·simp only[V5]
  rw[if_pos (by simp;omega),hx];rfl
 ·simp only[V5]
  rw[if_neg (by simp)];rfl
theorem ah1(xs:List Turn)(y:Turn)(h:xs.length≤1000):R6 xs y=some (xs.any fun u=>decide (u.From=y.From)||decide (u.To=y.To)):=by
 unfold R6 Wh
 refine ZB xs _ (fun c i x hx hi=>?_) (fun c=>?_) (by omega)
 ·simp only[V9]
  rw[if_pos (by simp;omega),hx];rfl
 ·simp only[V9]
  rw[if_neg (by simp)];rfl
theorem ahK(l:Layout)(p:Plan)(h:p.bJ.length≤1000):MI l p=errs (fun i=>some (NI p i)) (some 0) p.bJ.length 0:=by
 unfold MI
 refine xM _ _ _ (fun c i hi=>?_) (fun c=>?_) (by omega)
 ·simp only[U3]
  rw[if_pos (by simp;omega),rE hi,Option.bind_some,aeX,Option.bind_some]
  unfold NI
  by_cases h1:qd (p.bJ.getD i default).Name.ba=false
  ·rw[if_pos h1,if_pos (by rw[h1];rfl)];exact uO (by decide)
  ·rw[if_neg h1,if_neg (by simpa using h1),abf (by omega),Option.bind_some,ah0 _ _ (by rw[List.length_take];omega),Option.bind_some]
   by_cases h2:((p.bJ.take i).any fun t=>decide (t.Name=(p.bJ.getD i default).Name))=true
   ·rw[if_pos h2,if_pos h2];exact uO (by decide)
   ·rw[if_neg h2,if_neg h2,acK,Option.bind_some]
    by_cases h3:zl (p.bJ.getD i default)=false
    ·rw[if_pos h3,if_pos (by rw[h3];rfl)];exact uO (by decide)
    ·rw[if_neg h3,if_neg (by simpa using h3)];rfl
 ·simp only[U3]
  rw[if_neg (by simp)];rfl
theorem ahI(l:Layout)(p:Plan)(h:p.Routes.length≤1000):MG l p=errs (fun i=>some (RA l p i)) (some 0) p.Routes.length 0:=by
 unfold MG
 refine xM _ _ _ (fun c i hi=>?_) (fun c=>?_) (by omega)
 ·simp only[U2]
  rw[if_pos (by simp;omega),rE hi,Option.bind_some,afp];rfl
 ·simp only[U2]
  rw[if_neg (by simp)];rfl
theorem aaR{p:Plan}{x:Line}{k:Nat}{r:gL}(h:zf p x k r=true):0≤r.aO∧r.aO<(p.Routes.length:Int):=by
 unfold zf at h
 simp only[Bool.and_eq_true,decide_eq_true_eq] at h
 exact⟨h.1.1.1.1.1,h.1.1.1.1.2⟩
theorem Rz{l:Layout}{p:Plan}{x:Line}{k:Nat}(h:xu l p x k=0):0≤(jD x k).aO∧(jD x k).aO<(p.Routes.length:Int):=by
 unfold xu at h
 split at h
 ·cases h
 ·rename_i h1;exact aaR (by simpa using h1)
theorem amQ{l:Layout}{p:Plan}(o:RvOk l p)(x:Line)(hs:0≤x.bL∧x.bL<(p.bJ.length:Int))(hx:x.bC.length≤12)(k:Nat)(hk:k<x.bC.length)
  (Pw:∀j,j<k→xu l p x j=0)(hb:zf p x k (jD x k)=true):DY p (jD x k) x l k false=some (xu l p x k):=by
 obtain⟨r0,r1⟩:=aaR hb
 unfold xu
 rw[if_neg (by simp[hb])]
 simp only[DY]
 rw[if_neg (by simp),(ES o r0 r1).1,Option.bind_some,rF hs.1 hs.2,Option.bind_some,aiv,Option.bind_some]
 by_cases f0:Ew l (gM p (jD x k)) (p.bJ.getD x.bL.toNat default)=0
 ·rw[if_neg (by rw[f0];simp),if_neg (fun h=>h f0)]
  by_cases k0:0<k
  ·have e1:((k:Int)-1)=((k-1:Nat):Int):=by omega
   obtain⟨q0,q1⟩:=Rz (Pw (k-1) (by omega))
   have g:decide (0<(k:Int))=true:=by simp;omega
   rw[dM (by simp[bA];omega),sH g,e1,rE (by omega),Option.bind_some,sH g,aa7 o r0 r1,Option.bind_some,sH g]
   rw[show x.bC.getD (k-1) default=jD x (k-1) from rfl,abb o q0 q1,Option.bind_some,g,Bool.true_and]
   by_cases e:ou (gM p (jD x k))=lD (gM p (jD x (k-1)))
   ·rw[if_neg (by simp[e]),if_neg (by simp[e])]
   ·rw[if_pos (by simpa using e),if_pos ⟨k0,e⟩]
  ·have g:decide (0<(k:Int))=false:=by simp;omega
   rw[dM (by simp;omega),wK g,Option.bind_some,wK g,Option.bind_some,wK g,Option.bind_some,g,Bool.false_and,if_neg (by simp),if_neg (fun h=>k0 h.1)]
 ·rw[if_pos (by simpa using f0),if_pos f0]
theorem af6{l:Layout}{p:Plan}(o:RvOk l p)(x:Line)(hs:0≤x.bL∧x.bL<(p.bJ.length:Int))(hx:x.bC.length≤12)(k:Nat)(hk:k<x.bC.length)
  (Pw:∀j,j<k→xu l p x j=0):MF l p x k=some (xu l p x k):=by
 have hgood:=amQ o x hs hx k hk Pw
 have hbad:zf p x k (jD x k)=false→DY p (jD x k) x l k true=some (xu l p x k):=by
  intro h;unfold xu;rw[if_pos h];rfl
 unfold MF
 rw[rE hk,Option.bind_some,show x.bC.getD k default=jD x k from rfl]
 generalize jD x k=r at*
 by_cases a1:r.aO<0
 ·rw[if_pos (by simpa using a1),decide_eq_true a1]
  exact hbad (by unfold zf;rw[decide_eq_false (show ¬0≤r.aO by omega)];simp)
 rw[if_neg (by simpa using a1)]
 by_cases a2:(p.Routes.length:Int)≤r.aO
 ·rw[if_pos (by simpa using a2),decide_eq_true a2]
  exact hbad (by unfold zf;rw[decide_eq_false (show ¬r.aO<(p.Routes.length:Int) by omega)];simp)
 rw[if_neg (by simpa using a2)]
 by_cases a3:r.Extra<0
 ·rw[if_pos (by simpa using a3),decide_eq_true a3]
  exact hbad (by unfold zf;rw[decide_eq_false (show ¬0≤r.Extra by omega)];simp)
 rw[if_neg (by simpa using a3)]
 by_cases a4:p.eX≤r.Extra
 ·rw[if_pos (by simpa using a4),decide_eq_true a4]
  exact hbad (by unfold zf;rw[decide_eq_false (show ¬r.Extra<p.eX by omega)];simp)
 rw[if_neg (by simpa using a4),XI o,Option.bind_some]
 cases a5:qP p r.Min r.Max with
 |false=>
  rw[Bool.not_false,if_pos rfl]
  exact hbad (by unfold zf;rw[a5];simp)
 |true=>
  rw[Bool.not_true,if_neg (by simp),dM (fq (by omega) (by omega))]
  have e:(decide ((k:Int)=(x.bC.length:Int)-1))=decide (k+1=x.bC.length):=by
   rw[Bool.eq_iff_iff];simp only[decide_eq_true_eq];omega
  rw[e]
  have hB:zf p x k r= !(decide (k+1=x.bC.length)&&(decide (r.Min≠0)||decide (r.Max≠0))):=by
   unfold zf
   rw[decide_eq_true (show 0≤r.aO by omega),decide_eq_true (show r.aO<(p.Routes.length:Int) by omega),decide_eq_true (show 0≤r.Extra by omega),decide_eq_true (show r.Extra<p.eX by omega),a5]
   rfl
  cases hg:(decide (k+1=x.bC.length)&&(decide (r.Min≠0)||decide (r.Max≠0))) with
  |true=>rw[hg] at hB;exact hbad hB
  |false=>rw[hg] at hB;exact hgood hB
theorem agW(w:Int):QK w=some (wB w):=rfl
theorem ahG{l:Layout}{p:Plan}(o:RvOk l p):ME l p=errs (Ga l p) (some 0) p.Lines.length 0:=by
 have hz:=o.sz.li
 unfold ME
 refine xM _ _ _ (fun c i hi=>?_) (fun c=>?_) (by omega)
 ·simp only[U1]
  rw[if_pos (by simp;omega),rE hi,Option.bind_some,show p.Lines.getD i default=cZ p i from rfl,aeX,Option.bind_some]
  have hr:(cZ p i).bC.length≤12:=o.sz.ri _ (ng hi)
  unfold Ga
  by_cases h1:qd (cZ p i).Name.ba=false
  ·rw[if_pos h1,if_pos (by rw[h1];rfl)];exact uO (by decide)
  rw[if_neg h1,if_neg (by simpa using h1),abf (by omega),Option.bind_some,ahZ _ _ (by rw[List.length_take];omega),Option.bind_some]
  by_cases h2:((p.Lines.take i).any fun t=>decide (t.Name=(cZ p i).Name))=true
  ·rw[if_pos h2,if_pos h2];exact uO (by decide)
  rw[if_neg h2,if_neg h2]
  have hk3:JM (cZ p i) l p c i true=some 4:=rfl
  by_cases a1:(cZ p i).bL<0
  ·rw[if_pos (by simpa using a1),decide_eq_true a1,hk3,if_pos (by rw[decide_eq_false (show ¬0≤(cZ p i).bL by omega)];simp)];exact uO (by decide)
  rw[if_neg (by simpa using a1)]
  by_cases a2:(p.bJ.length:Int)≤(cZ p i).bL
  ·rw[if_pos (by simpa using a2),decide_eq_true a2,hk3,if_pos (by rw[decide_eq_false (show ¬(cZ p i).bL<(p.bJ.length:Int) by omega)];simp)];exact uO (by decide)
  rw[if_neg (by simpa using a2),agW,Option.bind_some]
  rw[decide_eq_true (show 0≤(cZ p i).bL by omega),decide_eq_true (show (cZ p i).bL<(p.bJ.length:Int) by omega),Bool.true_and,Bool.true_and]
  cases hw:wB (cZ p i).Weight with
  |false=>rw[Bool.not_false,hk3,if_pos rfl];exact uO (by decide)
  |true=>
   rw[Bool.not_true,if_neg (by simp)]
   simp only[JM]
   rw[if_neg (by simp)]
   by_cases h0:(cZ p i).bC.length=0
   ·rw[if_pos (by simp[h0]),if_pos h0];exact uO (by decide)
   ·rw[if_neg (by simp;intro e;exact h0 (by rw[e];rfl)),if_neg h0]
    rw[GU,xM (B:=QI (cZ p i) l p c i) (cZ p i).bC.length (fun k=>MF l p (cZ p i) k) (c (i+1)) (fun c' k hk=>?_) (fun c'=>?_) (by omega)]
    ·refine Aw _ _ (fun j _ hj hp=>?_) (fun _=>rfl)
     have:∀m,m≤j→(∀j',j'<m→xu l p (cZ p i) j'=0):=by
      intro m
      induction m with
      |zero=>intro _ j' h;omega
      |succ m ih=>
       intro hm j' hj'
       have ih':=ih (by omega)
       by_cases e:j'=m
       ·subst e
        have h3:=af6 o (cZ p i) (by omega) hr j' (by omega) ih'
        have h4:=hp j' (by omega) (by omega)
        rw[h3] at h4
        exact Option.some.inj h4
       ·exact ih' j' (by omega)
     exact af6 o (cZ p i) (by omega) hr j (by omega) (this j (Nat.le_refl _))
    ·simp only[QI]
     rw[if_pos (by simp;omega)]
    ·simp only[QI]
     rw[if_neg (by simp)];rfl
 ·simp only[U1]
  rw[if_neg (by simp)];rfl
structure Ak(l:Layout)(p:Plan):Prop extends RvOk l p where
 ln:∀i,i<p.Lines.length→(0≤(cZ p i).bL∧(cZ p i).bL<(p.bJ.length:Int))∧0<(cZ p i).bC.length∧∀k,k<(cZ p i).bC.length→xu l p (cZ p i) k=0
theorem alx{l:Layout}{p:Plan}{i:Nat}(h:Ga l p i=some 0):(0≤(cZ p i).bL∧(cZ p i).bL<(p.bJ.length:Int))∧0<(cZ p i).bC.length∧∀k,k<(cZ p i).bC.length→xu l p (cZ p i) k=0:=by
 unfold Ga at h
 split at h
 ·cases h
 split at h
 ·cases h
 split at h
 ·cases h
 split at h
 ·cases h
 rename_i _ _ h3 h4
 simp only[Bool.not_eq_false,Bool.and_eq_true,decide_eq_true_eq] at h3
 refine⟨h3.1,by omega,fun k hk=>?_⟩
 exact Option.some.inj ((KY _ _ h).1 k (by omega) (by omega))
theorem aaf{l:Layout}{p:Plan}(o:RvOk l p)(h:∀j,0≤j→j<0+p.Lines.length→Ga l p j=some 0):Ak l p:=
 {toRvOk:=o,ln:=fun i hi=>alx (h i (by omega) (by omega))}
theorem ad3(p:Plan)(i k:Int):Ht p i k=some (fV p i k):=by
 unfold Ht JN fV
 simp only[Option.bind_some]
 rw[show (decide (0≤i)&&decide (i<(p.Lines.length:Int)))=iy p i from rfl]
 cases h:(iy p i&&decide (0≤k)) with
 |false=>rw[wK rfl,Option.bind_some];rfl
 |true=>
  have h1:iy p i=true:=by simp only[Bool.and_eq_true] at h;exact h.1
  unfold iy at h1
  simp only[Bool.and_eq_true,decide_eq_true_eq] at h1
  rw[sH rfl,rF h1.1 h1.2,Option.bind_some];rfl
theorem aje(p:Plan)(i:Int):JN p i=some (iy p i):=rfl
theorem Lj{p:Plan}{i:Int}(h:iy p i=true):idx p.Lines i=some (cZ p i.toNat)∧i.toNat<p.Lines.length∧((i.toNat:Nat):Int)=i:=by
 unfold iy at h
 simp only[Bool.and_eq_true,decide_eq_true_eq] at h
 exact⟨rF h.1 h.2,by omega,by omega⟩
theorem Pj{l:Layout}{p:Plan}(o:Ak l p){i k:Int}(h:fV p i k=true):idx p.Lines i=some (cZ p i.toNat)∧idx (cZ p i.toNat).bC k=some (iq p i k)∧0≤(iq p i k).aO∧(iq p i k).aO<(p.Routes.length:Int):=by
 unfold fV at h
 simp only[Bool.and_eq_true,decide_eq_true_eq] at h
 obtain⟨a,b,_⟩:=Lj h.1.1
 have:=(o.ln _ b).2.2 k.toNat (by omega)
 exact⟨a,rF h.1.2 h.2,Rz this⟩
theorem agl{l:Layout}{r:aO}(o:Al l r):idx l.Sections (ou r)=some (l.Sections.getD (ou r).toNat default):=by
 have:=o.two;have:=o.ov
 exact VY o (ng (by omega))
theorem agm{l:Layout}{r:aO}(o:Al l r):idx l.Sections (lD r)=some (l.Sections.getD (lD r).toNat default):=by
 have:=o.two;have:=o.ov
 exact VY o (ng (by omega))
theorem ahE{l:Layout}{p:Plan}(o:Ak l p):MB l p=errs (fun i=>some (Ti l p i)) (some 0) p.Changes.length 0:=by
 have hz:=o.sz.ch
 unfold MB
 refine xM _ _ _ (fun c i hi=>?_) (fun c=>?_) (by omega)
 ·simp only[UZ]
  rw[if_pos (by simp;omega),rE hi,Option.bind_some]
  unfold Ti
  generalize p.Changes.getD i default=x
  unfold I9
  conv=>lhs;simp only[ad3,XI o.toRvOk,agW,wL,Option.bind_some]
  have hc:(((((!fV p x.gP x.jQ)||(!(if (!(!fV p x.gP x.jQ))=true then fV p x.jM x.nY else default)))||decide (x.gP=x.jM))||
    (!(if (!(((!fV p x.gP x.jQ)||(!(if (!(!fV p x.gP x.jQ))=true then fV p x.jM x.nY else default)))||decide (x.gP=x.jM)))=true then qP p x.Min x.Max else default)))||
    (!(if (!((((!fV p x.gP x.jQ)||(!(if (!(!fV p x.gP x.jQ))=true then fV p x.jM x.nY else default)))||decide (x.gP=x.jM))||
    (!(if (!(((!fV p x.gP x.jQ)||(!(if (!(!fV p x.gP x.jQ))=true then fV p x.jM x.nY else default)))||decide (x.gP=x.jM)))=true then qP p x.Min x.Max else default))))=true then wB x.Weight else default)))= !Ep p x:=by
   unfold Ep
   cases fV p x.gP x.jQ<;>cases fV p x.jM x.nY<;>cases decide (x.gP=x.jM)<;>cases qP p x.Min x.Max<;>cases wB x.Weight<;>rfl
  rw[hc]
  cases hb:Ep p x with
  |false=>rw[Bool.not_false,if_pos rfl,if_pos rfl];exact uO (by decide)
  |true=>
   rw[Bool.not_true,if_neg (by simp),if_neg (by simp)]
   unfold Ep at hb
   simp only[Bool.and_eq_true] at hb
   obtain⟨a1,a2,a3,a4⟩:=Pj o hb.1.1.1.1
   obtain⟨b1,b2,b3,b4⟩:=Pj o hb.1.1.1.2
   rw[a1,Option.bind_some,a2,Option.bind_some,abb o.toRvOk a3 a4,Option.bind_some,agm (ES o.toRvOk a3 a4).2,Option.bind_some]
   rw[b1,Option.bind_some,b2,Option.bind_some,aa7 o.toRvOk b3 b4,Option.bind_some,agl (ES o.toRvOk b3 b4).2,Option.bind_some]
   rw[show (l.Sections.getD (lD (gM p (iq p x.gP x.jQ))).toNat default).nN=qH l (lD (gM p (iq p x.gP x.jQ))) from rfl,
    show (l.Sections.getD (ou (gM p (iq p x.jM x.nY))).toNat default).nN=qH l (ou (gM p (iq p x.jM x.nY))) from rfl]
   by_cases e:qH l (lD (gM p (iq p x.gP x.jQ)))= -1∨qH l (lD (gM p (iq p x.gP x.jQ)))≠qH l (ou (gM p (iq p x.jM x.nY)))
   ·rw[if_pos (by simpa using e),if_pos e];exact uO (by decide)
   ·rw[if_neg (by simpa using e),if_neg e];rfl
 ·simp only[UZ]
  rw[if_neg (by simp)];rfl
theorem ahM{l:Layout}{p:Plan}(o:Ak l p):MK l p=errs (fun i=>some (Kv p i)) (some 0) p.Turns.length 0:=by
 have hz:=o.sz.tu
 unfold MK
 refine xM _ _ _ (fun c i hi=>?_) (fun c=>?_) (by omega)
 ·simp only[U5]
  rw[if_pos (by simp;omega),rE hi,Option.bind_some]
  unfold Kv
  generalize p.Turns.getD i default=x
  unfold Wz
  conv=>lhs;simp only[aje,XI o.toRvOk,wL,Option.bind_some]
  have hc:(((!iy p x.From)||(!(if (!(!iy p x.From))=true then iy p x.To else default)))||
    (!(if (!((!iy p x.From)||(!(if (!(!iy p x.From))=true then iy p x.To else default))))=true then qP p x.Min x.Max else default)))= !(iy p x.From&&iy p x.To&&qP p x.Min x.Max):=by
   cases iy p x.From<;>cases iy p x.To<;>cases qP p x.Min x.Max<;>rfl
  rw[hc]
  cases hb:(iy p x.From&&iy p x.To&&qP p x.Min x.Max) with
  |false=>rw[Bool.not_false,if_pos rfl,if_pos rfl];exact uO (by decide)
  |true=>
   rw[Bool.not_true,if_neg (by simp),if_neg (by simp),abf (by omega),Option.bind_some,ah1 _ _ (by rw[List.length_take];omega),Option.bind_some]
   by_cases h2:((p.Turns.take i).any fun u=>decide (u.From=x.From)||decide (u.To=x.To))=true
   ·rw[if_pos h2,if_pos h2];exact uO (by decide)
   rw[if_neg h2,if_neg h2]
   simp only[Bool.and_eq_true] at hb
   obtain⟨a1,a2,a3⟩:=Lj hb.1.1
   obtain⟨b1,b2,b3⟩:=Lj hb.1.2
   obtain⟨_,l1,l2⟩:=o.ln _ a2
   obtain⟨_,m1,m2⟩:=o.ln _ b2
   have hr:=o.sz.ri _ (ng a2)
   rw[show p.Lines.getD x.From.toNat default=cZ p x.From.toNat from rfl] at hr
   rw[a1,Option.bind_some,b1,Option.bind_some]
   simp only[U6]
   have e1:((cZ p x.From.toNat).bC.length:Int)-1=(((cZ p x.From.toNat).bC.length-1:Nat):Int):=by omega
   have ra:iq p x.From ((cZ p x.From.toNat).bC.length-1)=jD (cZ p x.From.toNat) ((cZ p x.From.toNat).bC.length-1):=by
    unfold iq;rw[e1];rfl
   rw[ra,show iq p x.To 0=jD (cZ p x.To.toNat) 0 from rfl]
   obtain⟨q0,q1⟩:=Rz (l2 ((cZ p x.From.toNat).bC.length-1) (by omega))
   obtain⟨t0,t1⟩:=Rz (m2 0 (by omega))
   rw[dM (fq (by omega) (by omega)),e1,rE (by omega),Option.bind_some,rF (i:=0) (by omega) (by omega),Option.bind_some]
   rw[show (cZ p x.From.toNat).bC.getD ((cZ p x.From.toNat).bC.length-1) default=jD (cZ p x.From.toNat) ((cZ p x.From.toNat).bC.length-1) from rfl,
    show (cZ p x.To.toNat).bC.getD (0:Int).toNat default=jD (cZ p x.To.toNat) 0 from rfl]
   rw[abb o.toRvOk q0 q1,Option.bind_some,aa7 o.toRvOk t0 t1,Option.bind_some]
   by_cases e:lD (gM p (jD (cZ p x.From.toNat) ((cZ p x.From.toNat).bC.length-1)))≠ou (gM p (jD (cZ p x.To.toNat) 0))∨(cZ p x.From.toNat).bL≠(cZ p x.To.toNat).bL
   ·rw[if_pos (by simpa using e),if_pos e];exact uO (by decide)
   ·rw[if_neg (by simpa using e),if_neg e];rfl
 ·simp only[U5]
  rw[if_neg (by simp)];rfl
theorem ahL{l:Layout}{p:Plan}(o:Ak l p):MJ l p=errs (fun i=>some (NJ p i)) (some 0) p.dx.length 0:=by
 have hz:=o.sz.sy
 unfold MJ
 refine xM _ _ _ (fun c i hi=>?_) (fun c=>?_) (by omega)
 ·simp only[U4]
  rw[if_pos (by simp;omega),rE hi,Option.bind_some]
  unfold NJ
  generalize p.dx.getD i default=x
  unfold NK
  conv=>lhs;simp only[ad3,wL,Option.bind_some]
  have hc:(((((!fV p x.qN x.qO)||(!(if (!(!fV p x.qN x.qO))=true then fV p x.q8 x.q9 else default)))||(decide (x.qN=x.q8)&&decide (x.qO=x.q9)))||decide (x.Offset<0))||decide (p.eX≤x.Offset))
    = !(fV p x.qN x.qO&&fV p x.q8 x.q9&& !(decide (x.qN=x.q8)&&decide (x.qO=x.q9))&&decide (0≤x.Offset)&&decide (x.Offset<p.eX)):=by
   rw[show decide (x.Offset<0)= !decide (0≤x.Offset) by rw[←decide_not];simp,show decide (p.eX≤x.Offset)= !decide (x.Offset<p.eX) by rw[←decide_not];simp]
   cases fV p x.qN x.qO<;>cases fV p x.q8 x.q9<;>cases decide (x.qN=x.q8)<;>cases decide (x.qO=x.q9)<;>cases decide (0≤x.Offset)<;>cases decide (x.Offset<p.eX)<;>rfl
  rw[hc]
  cases (fV p x.qN x.qO&&fV p x.q8 x.q9&& !(decide (x.qN=x.q8)&&decide (x.qO=x.q9))&&decide (0≤x.Offset)&&decide (x.Offset<p.eX)) with
  |false=>rw[Bool.not_false,if_pos rfl,if_pos rfl];exact uO (by decide)
  |true=>rw[Bool.not_true,if_neg (by simp),if_neg (by simp)];rfl
 ·simp only[U4]
  rw[if_neg (by simp)];rfl
theorem ahF{l:Layout}{p:Plan}(hz:p.dn.length≤1000):MC l p=errs (fun i=>some (KV l p i)) (some 0) p.dn.length 0:=by
 unfold MC
 refine xM _ _ _ (fun c i hi=>?_) (fun c=>?_) (by omega)
 ·simp only[U0]
  rw[if_pos (by simp;omega),rE hi,Option.bind_some]
  unfold KV
  generalize p.dn.getD i default=x
  unfold KX
  have hc:((((((decide (x.From<0)||decide ((l.bB.length:Int)≤x.From))||decide (x.To<0))||decide ((l.bB.length:Int)≤x.To))||decide (x.From=x.To))||decide (x.Weight<1))||decide (1048576<x.Weight))
    = !(decide (0≤x.From)&&decide (x.From<(l.bB.length:Int))&&decide (0≤x.To)&&decide (x.To<(l.bB.length:Int))&& !decide (x.From=x.To)&&decide (1≤x.Weight)&&decide (x.Weight≤1048576)):=by
   rw[Bool.eq_iff_iff]
   simp only[Bool.or_eq_true,Bool.not_eq_true',Bool.and_eq_false_imp,Bool.and_eq_true,decide_eq_true_eq,decide_eq_false_iff_not,Bool.not_eq_false']
   omega
  rw[hc]
  cases (decide (0≤x.From)&&decide (x.From<(l.bB.length:Int))&&decide (0≤x.To)&&decide (x.To<(l.bB.length:Int))&& !decide (x.From=x.To)&&decide (1≤x.Weight)&&decide (x.Weight≤1048576)) with
  |false=>rw[Bool.not_false,if_pos rfl,if_pos rfl];exact uO (by decide)
  |true=>rw[Bool.not_true,if_neg (by simp),if_neg (by simp)];rfl
 ·simp only[U0]
  rw[if_neg (by simp)];rfl
theorem ahJ(l:Layout)(p:Plan):MH l p=some (Ec l p):=by
 unfold MH Qg Ec
 simp only[Option.bind_some]
 by_cases h0:kZ (fG l)=0
 ·rw[if_neg (by simp[h0]),if_neg (show ¬kZ (fG l)≠0 from fun h=>h h0)]
  have hbad:¬Sz p→DZ p true=some (if ¬Sz p then 7 else if p.eX<2∨7200<p.eX then 4 else 0):=fun h=>by rw[if_pos h];rfl
  by_cases a1:8<p.bJ.length
  ·rw[if_pos (by simp;omega),decide_eq_true (by omega)];exact hbad (fun h=>by have:=h.st;omega)
  rw[if_neg (by simp;omega)]
  by_cases a2:48<p.Routes.length
  ·rw[if_pos (by simp;omega),decide_eq_true (by omega)];exact hbad (fun h=>by have:=h.ro;omega)
  rw[if_neg (by simp;omega)]
  by_cases a3:16<p.Lines.length
  ·rw[if_pos (by simp;omega),decide_eq_true (by omega)];exact hbad (fun h=>by have:=h.li;omega)
  rw[if_neg (by simp;omega)]
  by_cases a4:32<p.Changes.length
  ·rw[if_pos (by simp;omega),decide_eq_true (by omega)];exact hbad (fun h=>by have:=h.ch;omega)
  rw[if_neg (by simp;omega)]
  by_cases a5:32<p.Turns.length
  ·rw[if_pos (by simp;omega),decide_eq_true (by omega)];exact hbad (fun h=>by have:=h.tu;omega)
  rw[if_neg (by simp;omega)]
  by_cases a6:32<p.dx.length
  ·rw[if_pos (by simp;omega),decide_eq_true (by omega)];exact hbad (fun h=>by have:=h.sy;omega)
  rw[if_neg (by simp;omega)]
  by_cases a7:32<p.dn.length
  ·rw[decide_eq_true (by omega)];exact hbad (fun h=>by have:=h.de;omega)
  rw[decide_eq_false (by omega)]
  unfold DZ
  rw[if_neg (by simp)]
  have:=oH (B:=QJ p) (fun (_:Unit) i=>i) p.Lines (fun _ i=>∀x∈p.Lines.take i,x.bC.length≤12)
   (fun _ q=>some (if (¬∀x∈q,x.bC.length≤12) then (7:Int) else if p.eX<2∨7200<p.eX then 4 else 0)) ?_ ?_ FUEL () 0 (by simp) (by omega) (jo (by omega))
  ·rw[this,List.drop_zero]
   congr 1
   by_cases hr:∀x∈p.Lines,x.bC.length≤12
   ·have hs:Sz p:=⟨by omega,by omega,by omega,by omega,by omega,by omega,by omega,hr⟩
    rw[if_neg (show ¬¬∀x∈p.Lines,x.bC.length≤12 from fun h=>h hr),if_neg (show ¬¬Sz p from fun h=>h hs)]
   ·rw[if_pos hr,if_pos (fun h=>hr h.ri)]
  ·intro c _ i x q hI hdr hi hx hk
   simp only[QJ]
   rw[if_pos (by simp;omega),hx,Option.bind_some]
   by_cases zQ:12<x.bC.length
   ·rw[if_pos (by simp;omega),if_pos (fun h=>by have:=h x List.mem_cons_self;omega)]
   ·have ht:p.Lines.take (i+1)=p.Lines.take i++[x]:=by
     rw[List.take_succ_eq_append_getElem hi]
     rw[nO,List.getElem?_eq_getElem hi] at hx
     cases hx;rfl
    rw[if_neg (by simp;omega),hk () (by
     intro y hy;rw[ht] at hy
     rcases List.mem_append.1 hy with h|h
     ·exact hI y h
     ·rw[List.mem_singleton.1 h];omega)]
    congr 1
    by_cases hq:∀y∈q,y.bC.length≤12
    ·have hxq:∀y∈x::q,y.bC.length≤12:=fun y hy=>by
      rcases List.mem_cons.1 hy with e|e
      ·rw[e];omega
      ·exact hq y e
     rw[if_neg (show ¬¬∀y∈q,y.bC.length≤12 from fun h=>h hq),if_neg (show ¬¬∀y∈x::q,y.bC.length≤12 from fun h=>h hxq)]
    ·rw[if_pos hq,if_pos (fun h=>hq fun y hy=>h y (List.mem_cons_of_mem _ hy))]
  ·intro c _ hI
   simp only[QJ]
   rw[if_neg (by simp)]
   unfold aap
   rw[if_neg (show ¬¬∀y∈([]:List Line),y.bC.length≤12 from fun h=>h (fun y hy=>by cases hy))]
   by_cases hp:p.eX<2∨7200<p.eX
   ·rw[if_pos (by simpa using hp),if_pos hp]
   ·rw[if_neg (by simpa using hp),if_neg hp]
 ·rw[if_pos (by simpa using h0),if_pos h0]
theorem ahO(l:Layout)(p:Plan):QH l p=Bf l p:=by
 unfold QH
 rw[xM 8 (fun i=>(idx ([36,37,38,39,40,41,42,43]:List Nat) (i:Int)).bind fun x=>UY x l p) (some 0) (fun c i hi=>?_) (fun c=>?_) (by omega)]
 ·show ((MH l p).bind fun e=>if decide (e≠0) then some e else (MI l p).bind fun e=>if decide (e≠0) then some e else (MG l p).bind fun e=>if decide (e≠0) then some e else
   (ME l p).bind fun e=>if decide (e≠0) then some e else (MB l p).bind fun e=>if decide (e≠0) then some e else (MK l p).bind fun e=>if decide (e≠0) then some e else
   (MJ l p).bind fun e=>if decide (e≠0) then some e else (MC l p).bind fun e=>if decide (e≠0) then some e else some 0)=Bf l p
  unfold Bf
  rw[ahJ,Option.bind_some]
  by_cases h0:Ec l p=0
  ·obtain⟨hz,hp,hc⟩:=agR h0
   rw[if_neg (by simp[h0]),if_neg (by simp[h0]),ahK l p (by have:=hz.st;omega),GU]
   refine Aw _ _ (fun _ _ _ _=>rfl) (fun _=>?_)
   rw[ahI l p (by have:=hz.ro;omega),GU]
   refine Aw _ _ (fun _ _ _ _=>rfl) (fun hR=>?_)
   have o:RvOk l p:=⟨hz,hp,hc,fun r hr=>by
    obtain⟨i,hi,rfl⟩:=List.getElem_of_mem hr
    have:=Option.some.inj (hR i (by omega) (by omega))
    unfold RA at this
    rwa [getD_lt hi] at this⟩
   rw[ahG o,GU]
   refine Aw _ _ (fun _ _ _ _=>rfl) (fun hL=>?_)
   have o':=aaf o hL
   rw[ahE o',GU]
   refine Aw _ _ (fun _ _ _ _=>rfl) (fun _=>?_)
   rw[ahM o',GU]
   refine Aw _ _ (fun _ _ _ _=>rfl) (fun _=>?_)
   rw[ahL o',GU]
   refine Aw _ _ (fun _ _ _ _=>rfl) (fun _=>?_)
   rw[ahF (by have:=hz.de;omega),GU]
  ·rw[if_pos (by simpa using h0),if_pos (by simpa using h0)]
 ·simp only[UW]
  rw[if_pos (by simp;omega),Option.bind_assoc]
 ·simp only[UW]
  rw[if_neg (by simp)];rfl
end Go.Proofs.YtcalibhfgdncaaaGreat
namespace Go.Proofs.YtcalibhfgdncaaaGreat
open Go.Dc
structure Scs(l:Layout):Prop where
 scs:∀s∈l.Sections,-1≤s.nN∧s.nN<l.bB.length
theorem anf{l:Layout}(h:kZ (fG l)=0):Scs l:=by
 unfold kZ at h
 split at h
 ·cases h
 split at h
 ·cases h
 split at h
 ·rename_i h1;exact absurd h h1
 split at h
 ·rename_i h1;exact absurd h h1
 split at h
 ·rename_i h1;exact absurd h h1
 rename_i hs
 simp only[Decidable.not_not] at hs
 refine⟨fun s hm=>?_⟩
 have:=aa1 _ _ _ hs (rR s) (List.mem_map.2 ⟨s,hm,rfl⟩)
 unfold zh rR at this
 simp only[fG,List.length_map,Bool.and_eq_true,decide_eq_true_eq] at this
 exact⟨this.1.2,this.2⟩
theorem EA(n hi:Int):sQ n 0 (hi-1)=some (decide (0≤n)&&decide (n<hi)):=by
 unfold sQ
 rw[show decide (n≤hi-1)=decide (n<hi) from by rw[Bool.eq_iff_iff];simp only[decide_eq_true_eq];omega]
theorem XH{l:Layout}{p:Plan}(o:RvOk l p)(lo hi:Int):J5 p lo hi=some (qP p lo hi):=by
 have hp:=o.per
 unfold J5 qP
 have hw:0≤lo→lo≤7200→IntKind.i64.wrap (lo+p.eX)=lo+p.eX:=fun h0 h1=>by
  rw[IntKind.wrap_i64];omega
 congr 1
 rw[Bool.eq_iff_iff]
 simp only[Bool.and_eq_true,decide_eq_true_eq]
 constructor
 ·rintro⟨⟨⟨a,b⟩,c⟩,d⟩
  rw[hw a (by omega)] at c
  exact⟨⟨⟨a,b⟩,d⟩,c⟩
 ·rintro⟨⟨⟨a,b⟩,d⟩,c⟩
  exact⟨⟨⟨a,b⟩,by rw[hw a (by omega)];exact c⟩,d⟩
theorem agM(s:bL):M9 s=some (zl s):=by
 have e:zl s=((((decide (1≤s.Length)&&decide (s.Length≤40))&&(decide (1000≤s.zF)&&decide (s.zF≤100000)))&&(decide (100≤s.zx)&&decide (s.zx≤2000)))&&(decide (100≤s.zy)&&decide (s.zy≤2000))):=by
  unfold zl;simp only[Bool.and_assoc]
 rw[e]
 unfold M9 EZ
 simp only[Option.bind_some,wL]
 generalize (decide (1≤s.Length)&&decide (s.Length≤40))=a
 generalize (decide (1000≤s.zF)&&decide (s.zF≤100000))=b
 generalize (decide (100≤s.zx)&&decide (s.zx≤2000))=c
 generalize (decide (100≤s.zy)&&decide (s.zy≤2000))=d
 cases a<;>cases b<;>cases c<;>cases d<;>rfl
theorem anL(p:Plan)(hz:p.bJ.length≤8)(i:Nat)(hi:i<p.bJ.length):Ng p (i:Int)=some (NI p i):=by
 unfold Ng NI
 rw[rE hi,Option.bind_some,aai,Option.bind_some]
 by_cases h1:qd (p.bJ.getD i default).Name.ba=false
 ·rw[if_pos h1,if_pos (by rw[h1];rfl)]
 rw[if_neg h1,if_neg (by simpa using h1)]
 have hlt:(p.bJ.take i).length=i:=by rw[List.length_take];omega
 rw[Ux (p.bJ.take i) (fun t=>decide (t.Name=(p.bJ.getD i default).Name)) (some 5) (if zl (p.bJ.getD i default)=false then some 4 else some 0) (fun c j x hx hj=>?_) (fun c=>?_) (by omega)]
 ·by_cases h2:((p.bJ.take i).any fun t=>decide (t.Name=(p.bJ.getD i default).Name))=true
  ·rw[if_pos h2,if_pos h2]
  ·rw[if_neg h2,if_neg h2];split<;>rfl
 ·simp only[VO]
  rw[if_pos (by simp;omega),Uw hx,Option.bind_some,rE hi,Option.bind_some,dM (fq (by omega) (by omega))]
 ·simp only[VO]
  rw[hlt,if_neg (by simp)]
  unfold aaO
  rw[rE hi,Option.bind_some,agM,Option.bind_some]
  cases zl (p.bJ.getD i default)<;>rfl
theorem ait(l:Layout)(r:aO)(s:bL):Rp l r s=some (Ew l r s):=by
 unfold Rp Ew
 rw[amN,Option.bind_some]
 by_cases h0:(yH l r).2.2=0
 ·rw[if_neg (by simp[h0]),if_neg (by simp[h0]),agM,Option.bind_some]
  have o:=abU h0
  cases hs:zl s with
  |false=>rfl
  |true=>
   rw[if_neg (by simp),if_neg (by simp)]
   have hn:=o.len;have hv:=o.ov;have h2:=o.two
   have hT:∀x∈vH r,kF l x=true:=fun x hx=>o.st x (List.mem_of_mem_take hx)
   have hl:(vH r).length=((r.Steps.length:Int)-r.Overlap).toNat:=by unfold vH;rw[List.length_take];omega
   rw[Ux (vH r) (fun st=>decide ((jI l st).Length<(if s.Length>2 then s.Length else 2))) (some 12) (some 0) (fun c j x hx hj=>?_) (fun c=>?_) (by omega)]
   ·cases ((vH r).any fun st=>decide ((jI l st).Length<(if s.Length>2 then s.Length else 2)))<;>rfl
   ·simp only[Vt]
    have hm:x∈vH r:=List.mem_of_getElem? (by rw[nO] at hx;exact hx)
    rw[dM (fq (by omega) (by omega)),if_pos (by simp;omega),Uw hx,Option.bind_some,(Ko o.v (hT x hm)).1,Option.bind_some,dM (fq (by omega) (by omega))]
   ·simp only[Vt]
    rw[dM (fq (by omega) (by omega)),if_neg (by simp;omega)]
    rfl
 ·rw[if_pos (by simp[h0]),if_pos h0]
theorem Wo{l:Layout}{r:aO}(o:Al l r):Ib r=some (ou r):=by
 unfold Ib;rw[aa8 o,Option.bind_some];rfl
theorem Wp{l:Layout}{r:aO}(o:Al l r):Ic r=some (lD r):=by
 have:=o.len;have:=o.ov
 unfold Ic
 rw[dM (fq (by omega) (by omega)),dM (fq (by omega) (by omega)),abd o,Option.bind_some];rfl
theorem ahw(a1 a2 e1 e2 bn la m1 m2:Bool):(((!(a1&&a2))||(!(if (!(!(a1&&a2)))=true then (e1&&e2) else default)))||(!(if (!((!(a1&&a2))||(!(if (!(!(a1&&a2)))=true then (e1&&e2) else default))))=true then bn else default))||(la&&(m1||m2)))
  = !(a1&&a2&&e1&&e2&&bn&& !(la&&(m1||m2))):=by
 cases a1<;>cases a2<;>cases e1<;>cases e2<;>cases bn<;>cases la<;>cases m1<;>cases m2<;>rfl
theorem amS{l:Layout}{p:Plan}(o:RvOk l p)(x:Line)(hs:0≤x.bL∧x.bL<(p.bJ.length:Int))(hx:x.bC.length≤12):
  iter (Rw x p l) FUEL 0=errs (fun k=>some (xu l p x k)) (some 0) x.bC.length 0:=by
 have hp:=o.per;have hz:=o.sz.ro
 refine ak8 _ _ _ (fun c k hk Pw=>?_) (fun c=>?_) (by omega)
 ·simp only[Rw]
  rw[if_pos (by simp;omega),rE hk,Option.bind_some,show x.bC.getD k default=jD x k from rfl,dM (fq (by omega) (by omega)),dM (fq (by omega) (by omega)),EA,Option.bind_some,
   dM (by simp[bA];omega),EA,wL,Option.bind_some,XH o,wL,Option.bind_some,ahw]
  have e:(decide ((k:Int)=(x.bC.length:Int)-1))=decide (k+1=x.bC.length):=by
   rw[Bool.eq_iff_iff];simp only[decide_eq_true_eq];omega
  rw[e]
  rw[show (decide (0≤(jD x k).aO)&&decide ((jD x k).aO<(p.Routes.length:Int))&&decide (0≤(jD x k).Extra)&&decide ((jD x k).Extra<p.eX)&&qP p (jD x k).Min (jD x k).Max&& !(decide (k+1=x.bC.length)&&(decide ((jD x k).Min≠0)||decide ((jD x k).Max≠0))))=zf p x k (jD x k) from rfl]
  unfold xu
  cases hb:zf p x k (jD x k) with
  |false=>rw[Bool.not_false,if_pos rfl,if_pos rfl];exact uO (by decide)
  |true=>
   obtain⟨r0,r1⟩:=aaR hb
   have hR:=ES o r0 r1
   rw[Bool.not_true,if_neg (by simp),if_neg (by simp),hR.1,Option.bind_some,rF hs.1 hs.2,Option.bind_some,ait,Option.bind_some]
   by_cases f0:Ew l (gM p (jD x k)) (p.bJ.getD x.bL.toNat default)=0
   ·rw[if_neg (by rw[f0];simp),if_neg (fun h=>h f0)]
    by_cases k0:0<k
    ·have e1:((k:Int)-1)=((k-1:Nat):Int):=by omega
     obtain⟨q0,q1⟩:=Rz (Option.some.inj (Pw (k-1) (by omega)))
     have hQ:=ES o q0 q1
     have g:decide (0<(k:Int))=true:=by simp;omega
     rw[sH g,Option.bind_some,if_pos g,dM (fq (by omega) (by omega)),e1,rE (by omega),Option.bind_some,show x.bC.getD (k-1) default=jD x (k-1) from rfl,hQ.1,Option.bind_some,Wo hR.2,Option.bind_some,Wp hQ.2,Option.bind_some,g,Bool.true_and]
     by_cases e:ou (gM p (jD x k))=lD (gM p (jD x (k-1)))
     ·rw[if_neg (by simp[e]),if_neg (by simp[e]),dM (fq (by omega) (by omega))];rfl
     ·rw[if_pos (by simpa using e),if_pos ⟨k0,e⟩];exact uO (by decide)
    ·have g:decide (0<(k:Int))=false:=by simp;omega
     rw[wK g,Option.bind_some,if_neg (by rw[g];simp),if_neg (fun h=>k0 h.1),dM (fq (by omega) (by omega))];rfl
   ·rw[if_pos (by simpa using f0),if_pos f0];exact uO f0
 ·simp only[Rw]
  rw[if_neg (by simp)];rfl
theorem aeN{l:Layout}{p:Plan}(o:RvOk l p)(i:Nat)(hi:i<p.Lines.length):Nf l p (i:Int)=Ga l p i:=by
 have hz:=o.sz.li;have hst:=o.sz.st
 have hr:(cZ p i).bC.length≤12:=o.sz.ri _ (ng hi)
 unfold Nf Ga
 rw[rE hi,Option.bind_some,show p.Lines.getD i default=cZ p i from rfl,aai,Option.bind_some]
 by_cases h1:qd (cZ p i).Name.ba=false
 ·rw[if_pos h1,if_pos (by rw[h1];rfl)]
 rw[if_neg h1,if_neg (by simpa using h1)]
 have hlt:(p.Lines.take i).length=i:=by rw[List.length_take];omega
 rw[Ux (p.Lines.take i) (fun t=>decide (t.Name=(cZ p i).Name)) (some 5) (VL p (cZ p i) l ()) (fun c j x hx hj=>?_) (fun c=>?_) (by omega)]
 ·by_cases h2:((p.Lines.take i).any fun t=>decide (t.Name=(cZ p i).Name))=true
  ·rw[if_pos h2,if_pos h2]
  rw[if_neg h2,if_neg h2]
  unfold VL
  rw[dM (fq (by omega) (by omega)),EA,Option.bind_some,show sQ (cZ p i).Weight 0 1048576=some (wB (cZ p i).Weight) from rfl,wL,Option.bind_some]
  cases ha:(decide (0≤(cZ p i).bL)&&decide ((cZ p i).bL<(p.bJ.length:Int))) with
  |false=>rfl
  |true=>
   cases hw:wB (cZ p i).Weight with
   |false=>rfl
   |true=>
    simp only[Bool.and_eq_true,decide_eq_true_eq] at ha
    rw[if_neg (by simp),if_neg (show ¬((true&&true)=false) by simp)]
    by_cases h0:(cZ p i).bC.length=0
    ·rw[if_pos (by simp[h0]),if_pos h0]
    ·rw[if_neg (by simp;intro e;exact h0 (by rw[e];rfl)),if_neg h0,amS o _ ha hr]
 ·simp only[VK]
  rw[if_pos (by simp;omega),Uw hx,Option.bind_some,dM (fq (by omega) (by omega))]
 ·simp only[VK]
  rw[hlt,if_neg (by simp)]
theorem aaQ{p:Plan}(z:Sz p)(i k:Int):Ie p i k=some (fV p i k):=by
 have hz:=z.li
 unfold Ie fV
 rw[dM (fq (by omega) (by omega)),EA,Option.bind_some,show (decide (0≤i)&&decide (i<(p.Lines.length:Int)))=iy p i from rfl]
 cases h:iy p i with
 |false=>rw[wK rfl,Option.bind_some];rfl
 |true=>
  obtain⟨a,b,_⟩:=Lj h
  have hr:(cZ p i.toNat).bC.length≤12:=z.ri _ (ng b)
  rw[sH rfl,a,Option.bind_some,if_pos rfl,dM (fq (by omega) (by omega)),EA,Option.bind_some]
  rfl
theorem Nj{l:Layout}{p:Plan}(o:Ak l p){i k:Int}(h:fV p i k=true):E5 p i k=some (gM p (iq p i k))∧Al l (gM p (iq p i k)):=by
 obtain⟨a1,a2,a3,a4⟩:=Pj o h
 have:=ES o.toRvOk a3 a4
 unfold E5
 rw[a1,Option.bind_some,a2,Option.bind_some,this.1,Option.bind_some]
 exact⟨rfl,this.2⟩
theorem anK{l:Layout}{p:Plan}(o:RvOk l p){r:aO}(hr:Al l r){s:Step}(hs:s∈r.Steps): -1≤qH l s.Section:=by
 have v:=anf o.ck
 have h:=hr.st s hs
 unfold kF at h
 simp only[Bool.and_eq_true,decide_eq_true_eq] at h
 exact (v.scs _ (ng (by omega))).1
theorem ahB{l:Layout}{p:Plan}(o:Ak l p)(x:Change):Nc l p x=some (I9 l p x):=by
 unfold Nc I9
 simp only[aaQ o.sz,XH o.toRvOk,show sQ x.Weight 0 1048576=some (wB x.Weight) from rfl,wL,Option.bind_some]
 have hc:(((((!fV p x.gP x.jQ)||(!(if (!(!fV p x.gP x.jQ))=true then fV p x.jM x.nY else default)))||decide (x.gP=x.jM))||
   (!(if (!(((!fV p x.gP x.jQ)||(!(if (!(!fV p x.gP x.jQ))=true then fV p x.jM x.nY else default)))||decide (x.gP=x.jM)))=true then qP p x.Min x.Max else default)))||
   (!(if (!((((!fV p x.gP x.jQ)||(!(if (!(!fV p x.gP x.jQ))=true then fV p x.jM x.nY else default)))||decide (x.gP=x.jM))||
   (!(if (!(((!fV p x.gP x.jQ)||(!(if (!(!fV p x.gP x.jQ))=true then fV p x.jM x.nY else default)))||decide (x.gP=x.jM)))=true then qP p x.Min x.Max else default))))=true then wB x.Weight else default)))= !Ep p x:=by
  unfold Ep
  cases fV p x.gP x.jQ<;>cases fV p x.jM x.nY<;>cases decide (x.gP=x.jM)<;>cases qP p x.Min x.Max<;>cases wB x.Weight<;>rfl
 rw[hc]
 cases hb:Ep p x with
 |false=>rfl
 |true=>
  rw[Bool.not_true,if_neg (by simp),if_neg (by simp)]
  unfold Ep at hb
  simp only[Bool.and_eq_true] at hb
  obtain⟨a1,a2⟩:=Nj o hb.1.1.1.1
  obtain⟨b1,b2⟩:=Nj o hb.1.1.1.2
  rw[a1,Option.bind_some,Wp a2,Option.bind_some,agm a2,Option.bind_some,b1,Option.bind_some,Wo b2,Option.bind_some,agl b2,Option.bind_some]
  have hge: -1≤qH l (lD (gM p (iq p x.gP x.jQ))):=anK o.toRvOk a2 (ng (by have:=a2.two;have:=a2.ov;omega))
  rw[show (l.Sections.getD (lD (gM p (iq p x.gP x.jQ))).toNat default).nN=qH l (lD (gM p (iq p x.gP x.jQ))) from rfl,
   show (l.Sections.getD (ou (gM p (iq p x.jM x.nY))).toNat default).nN=qH l (ou (gM p (iq p x.jM x.nY))) from rfl]
  have e9:decide (qH l (lD (gM p (iq p x.gP x.jQ)))<0)=decide (qH l (lD (gM p (iq p x.gP x.jQ)))= -1)∨0≤qH l (lD (gM p (iq p x.gP x.jQ))):=by
   by_cases h:0≤qH l (lD (gM p (iq p x.gP x.jQ)))
   ·exact .inr h
   ·left;rw[Bool.eq_iff_iff];simp only[decide_eq_true_eq];omega
  by_cases e:qH l (lD (gM p (iq p x.gP x.jQ)))= -1∨qH l (lD (gM p (iq p x.gP x.jQ)))≠qH l (ou (gM p (iq p x.jM x.nY)))
  ·rw[if_pos (by simp only[Bool.or_eq_true,decide_eq_true_eq];omega),if_pos e]
  ·rw[if_neg (by simp only[Bool.or_eq_true,decide_eq_true_eq];omega),if_neg e]
theorem anX{l:Layout}{p:Plan}(o:Ak l p)(i:Nat)(hi:i<p.Turns.length):Nh p (i:Int)=some (Kv p i):=by
 have hz:=o.sz.tu;have hli:=o.sz.li
 unfold Nh Kv
 rw[rE hi,Option.bind_some]
 have hlt:(p.Turns.take i).length=i:=by rw[List.length_take];omega
 generalize p.Turns.getD i default=x
 unfold Wz
 rw[dM (fq (by omega) (by omega)),EA,Option.bind_some,dM (by simp[bA];omega),EA,wL,Option.bind_some,XH o.toRvOk,wL,Option.bind_some]
 rw[show (decide (0≤x.From)&&decide (x.From<(p.Lines.length:Int)))=iy p x.From from rfl,show (decide (0≤x.To)&&decide (x.To<(p.Lines.length:Int)))=iy p x.To from rfl]
 have hc:(((!iy p x.From)||(!(if (!(!iy p x.From))=true then iy p x.To else default)))||
   (!(if (!((!iy p x.From)||(!(if (!(!iy p x.From))=true then iy p x.To else default))))=true then qP p x.Min x.Max else default)))= !(iy p x.From&&iy p x.To&&qP p x.Min x.Max):=by
  cases iy p x.From<;>cases iy p x.To<;>cases qP p x.Min x.Max<;>rfl
 rw[hc]
 cases hb:(iy p x.From&&iy p x.To&&qP p x.Min x.Max) with
 |false=>rfl
 |true=>
  rw[Bool.not_true,if_neg (by simp),if_neg (by simp)]
  simp only[Bool.and_eq_true] at hb
  obtain⟨a1,a2,a3⟩:=Lj hb.1.1
  obtain⟨b1,b2,b3⟩:=Lj hb.1.2
  obtain⟨_,l1,l2⟩:=o.ln _ a2
  obtain⟨_,m1,m2⟩:=o.ln _ b2
  have hr:(cZ p x.From.toNat).bC.length≤12:=o.sz.ri _ (ng a2)
  have hF:fV p x.From ((cZ p x.From.toNat).bC.length-1)=true:=by
   unfold fV;rw[hb.1.1];simp;omega
  have hT:fV p x.To 0=true:=by
   unfold fV;rw[hb.1.2];simp;omega
  obtain⟨q1,q2⟩:=Nj o hF
  obtain⟨t1,t2⟩:=Nj o hT
  rw[Ux (p.Turns.take i) (fun u=>decide (u.From=x.From)||decide (u.To=x.To)) (some 5) (if lD (gM p (iq p x.From ((cZ p x.From.toNat).bC.length-1)))≠ou (gM p (iq p x.To 0))∨(cZ p x.From.toNat).bL≠(cZ p x.To.toNat).bL then some 11 else some 0) (fun c j u hu hj=>?_) (fun c=>?_) (by omega)]
  ·by_cases h2:((p.Turns.take i).any fun u=>decide (u.From=x.From)||decide (u.To=x.To))=true
   ·rw[if_pos h2,if_pos h2]
   ·rw[if_neg h2,if_neg h2];split<;>rfl
  ·simp only[VP]
   rw[if_pos (by simp;omega),Uw hu,Option.bind_some,wL,Option.bind_some,dM (fq (by omega) (by omega))]
   cases h:decide (u.From=x.From)<;>rfl
  ·simp only[VP]
   rw[hlt,if_neg (by simp)]
   unfold aaP
   rw[a1,Option.bind_some,b1,Option.bind_some]
   simp only[VQ]
   rw[dM (fq (by omega) (by omega)),q1,Option.bind_some,Wp q2,Option.bind_some,t1,Option.bind_some,Wo t2,Option.bind_some]
   by_cases e:lD (gM p (iq p x.From ((cZ p x.From.toNat).bC.length-1)))≠ou (gM p (iq p x.To 0))∨(cZ p x.From.toNat).bL≠(cZ p x.To.toNat).bL
   ·rw[if_pos (by simpa using e),if_pos e]
   ·rw[if_neg (by simpa using e),if_neg e]
theorem aiH(p:Plan):Rv p=some (!decide (Sz p)):=by
 unfold Rv
 by_cases hc:((((((8<p.bJ.length∨48<p.Routes.length)∨16<p.Lines.length)∨32<p.Changes.length)∨32<p.Turns.length)∨32<p.dx.length)∨32<p.dn.length)
 ·rw[if_pos (by simp only[Bool.or_eq_true,decide_eq_true_eq];omega)]
  rw[decide_eq_false (fun z:Sz p=>by have:=z.st;have:=z.ro;have:=z.li;have:=z.ch;have:=z.tu;have:=z.sy;have:=z.de;omega)];rfl
 ·rw[if_neg (by simp only[Bool.or_eq_true,decide_eq_true_eq];omega)]
  have:=oH (B:=Ru p) (fun (_:Unit) i=>i) p.Lines (fun _ _=>True) (fun _ q=>some (q.any fun x=>decide (12<x.bC.length))) ?_ ?_ FUEL () 0 trivial (by omega) (jo (by omega))
  ·rw[this,List.drop_zero]
   congr 1
   by_cases hz:∃x∈p.Lines,12<x.bC.length
   ·rw[List.any_eq_true.2 (by simpa using hz)]
    obtain⟨x,h1,h2⟩:=hz
    rw[decide_eq_false (fun z:Sz p=>by have:=z.ri x h1;omega)];rfl
   ·have hz':∀x∈p.Lines,x.bC.length≤12:=fun x hx=>by
     exact Nat.not_lt.1 (fun h=>hz ⟨x,hx,h⟩)
    rw[List.any_eq_false.2 (fun x hx=>by have:=hz' x hx;simp;omega)]
    rw[decide_eq_true (show Sz p from⟨by omega,by omega,by omega,by omega,by omega,by omega,by omega,hz'⟩)];rfl
  ·intro c _ i x q _ hdr hi hx hk
   simp only[Ru]
   rw[if_pos (by simp;omega),hx,Option.bind_some]
   by_cases h12:12<x.bC.length
   ·rw[if_pos (by simp;omega)];simp[h12]
   ·rw[if_neg (by simp;omega),dM (fq (by omega) (by omega)),hk () trivial];simp[h12]
  ·intro c _ _
   simp only[Ru]
   rw[if_neg (by simp)];rfl
theorem OI{g:Option Int}{i:Nat}(h:i≤1000000)(c:Option Int):(g.bind fun y=>if decide (y≠0) then some y else aX (bA ((i:Int)+1)) c)=g.bind fun e=>if decide (e≠0) then some e else c:=by
 rw[dM (fq (by omega) (by omega))]
theorem ahD(l:Layout)(p:Plan):Rt l p=Bf l p:=by
 unfold Rt Bf Ec
 rw[abW,Option.bind_some]
 by_cases h0:kZ (fG l)=0
 ·rw[if_neg (by simp[h0]),aiH,Option.bind_some]
  simp only[h0,ne_eq,not_true_eq_false,if_false]
  by_cases hz:Sz p
  ·rw[decide_eq_true hz,Bool.not_true,if_neg (by simp)]
   simp only[hz,not_true_eq_false,if_false]
   rw[show sQ p.eX 2 7200=some (decide (2≤p.eX)&&decide (p.eX≤7200)) from rfl,Option.bind_some]
   by_cases hp:p.eX<2∨7200<p.eX
   ·rw[if_pos (by simp;omega)]
    simp only[hp,if_true]
    rfl
   ·rw[if_neg (by simp;omega)]
    simp only[hp,if_false]
    rw[if_neg (by simp)]
    have s1:=hz.st;have s2:=hz.ro;have s3:=hz.li;have s4:=hz.ch;have s5:=hz.tu;have s6:=hz.sy;have s7:=hz.de
    rw[xM p.bJ.length (fun i=>Ng p (i:Int)) (VB p l ()) (fun c i hi=>by
     simp only[Vu];rw[if_pos (by simp;omega),OI (by omega)]) (fun c=>by simp only[Vu];rw[if_neg (by simp)]) (by omega)]
    refine Aw _ _ (fun i _ hi _=>anL p s1 i (by omega)) (fun _=>?_)
    unfold VB
    rw[xM p.Routes.length (fun i=>(idx p.Routes (i:Int)).bind fun x=>J4 l x) (VD p l ()) (fun c i hi=>by
     simp only[Vv];rw[if_pos (by simp;omega),Option.bind_assoc,rE hi,Option.bind_some,Option.bind_some,OI (by omega)]) (fun c=>by simp only[Vv];rw[if_neg (by simp)]) (by omega)]
    refine Aw _ _ (fun i _ hi _=>by rw[rE (by omega),Option.bind_some,XJ];rfl) (fun hR=>?_)
    have o:RvOk l p:=⟨hz,by omega,h0,fun r hr=>by
     obtain⟨i,hi,rfl⟩:=List.getElem_of_mem hr
     have:=hR i (by omega) (by omega)
     rw[rE hi,Option.bind_some,XJ,getD_lt hi] at this
     exact Option.some.inj this⟩
    unfold VD
    rw[xM p.Lines.length (fun i=>Nf l p (i:Int)) (VE p l ()) (fun c i hi=>by
     simp only[Vw];rw[if_pos (by simp;omega),OI (by omega)]) (fun c=>by simp only[Vw];rw[if_neg (by simp)]) (by omega)]
    refine Aw _ _ (fun i _ hi _=>aeN o i (by omega)) (fun hL=>?_)
    have o':Ak l p:=aaf o (fun j a b=>by rw[←aeN o j (by omega)];exact hL j a b)
    unfold VE
    rw[xM p.Changes.length (fun i=>(idx p.Changes (i:Int)).bind fun x=>Nc l p x) (VF p l ()) (fun c i hi=>by
     simp only[Vx];rw[if_pos (by simp;omega),Option.bind_assoc,rE hi,Option.bind_some,Option.bind_some,OI (by omega)]) (fun c=>by simp only[Vx];rw[if_neg (by simp)]) (by omega)]
    refine Aw _ _ (fun i _ hi _=>by rw[rE (by omega),Option.bind_some,ahB o'];rfl) (fun _=>?_)
    unfold VF
    rw[xM p.Turns.length (fun i=>Nh p (i:Int)) (VG p l ()) (fun c i hi=>by
     simp only[Vy];rw[if_pos (by simp;omega),OI (by omega)]) (fun c=>by simp only[Vy];rw[if_neg (by simp)]) (by omega)]
    refine Aw _ _ (fun i _ hi _=>anX o' i (by omega)) (fun _=>?_)
    unfold VG
    rw[xM p.dx.length (fun i=>some (NJ p i)) (VH p l ()) (fun c i hi=>?_) (fun c=>by simp only[Vz];rw[if_neg (by simp)]) (by omega)]
    ·refine Aw _ _ (fun i _ hi _=>rfl) (fun _=>?_)
     unfold VH
     rw[xM p.dn.length (fun i=>some (KV l p i)) (aaM ()) (fun c i hi=>?_) (fun c=>by simp only[VA];rw[if_neg (by simp)]) (by omega)]
     ·rfl
     ·simp only[VA]
      have hst:=(abk h0).full.1
      rw[if_pos (by simp;omega),rE hi,Option.bind_some]
      unfold KV
      generalize p.dn.getD i default=x
      unfold KX
      rw[dM (fq (by omega) (by omega)),EA,Option.bind_some,dM (by simp[bA];omega),EA,wL,Option.bind_some,show sQ x.Weight 1 1048576=some (decide (1≤x.Weight)&&decide (x.Weight≤1048576)) from rfl,wL,Option.bind_some,dM (fq (by omega) (by omega))]
      cases decide (0≤x.From)<;>cases decide (x.From<(l.bB.length:Int))<;>cases decide (0≤x.To)<;>cases decide (x.To<(l.bB.length:Int))<;>cases decide (x.From=x.To)<;>cases decide (1≤x.Weight)<;>cases decide (x.Weight≤1048576)<;>rfl
    ·simp only[Vz]
     have hp2:=o.per
     rw[if_pos (by simp;omega),rE hi,Option.bind_some]
     unfold NJ
     generalize p.dx.getD i default=x
     unfold NK
     rw[aaQ hz,Option.bind_some,aaQ hz,wL,Option.bind_some,dM (by simp[bA];omega),EA,wL,Option.bind_some,dM (fq (by omega) (by omega))]
     cases fV p x.qN x.qO<;>cases fV p x.q8 x.q9<;>cases decide (x.qN=x.q8)<;>cases decide (x.qO=x.q9)<;>cases decide (0≤x.Offset)<;>cases decide (x.Offset<p.eX)<;>rfl
  ·rw[decide_eq_false hz,Bool.not_false,if_pos rfl]
   simp only[hz,not_false_eq_true,if_true]
   rfl
 ·rw[if_pos (by simpa using h0)]
  simp only[h0,ne_eq,not_false_eq_true,if_true]
  rfl
end Go.Proofs.YtcalibhfgdncaaaGreat
