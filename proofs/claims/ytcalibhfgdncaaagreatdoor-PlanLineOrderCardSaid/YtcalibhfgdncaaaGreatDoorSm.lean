/- Several parts of the engine, one behind the other. -/
import Derived.Test.YtcalibhfgdncaaaGreatDoorTm
import Derived.Test.YtcalibhfgdncaaaGreatDoorPs
set_option linter.all false
namespace Go.Dc
def errs(g:Nat→Option Int)(k:Option Int):Nat→Nat→Option Int
 |0,_=>k
 |m+1,i=>(g i).bind fun e=>if decide (e≠0) then some e else errs g k m (i+1)
theorem arT{B:(Nat→Option Int)→Nat→Option Int}{n:Nat}{g:Nat→Option Int}{k:Option Int}
  (hs:∀c i,i<n→B c i=(g i).bind fun e=>if decide (e≠0) then some e else c (i+1))(he:∀c,B c n=k):
  ∀m i f,i+m=n→m<f→iter B f i=errs g k m i:=by
 intro m
 induction m with
 |zero=>
  intro i f hi hf
  obtain⟨f,rfl⟩:∃x,f=x+1:=⟨f-1,by omega⟩
  show B (iter B f) i=k
  rw[show i=n by omega,he]
 |succ m ih=>
  intro i f hi hf
  obtain⟨f,rfl⟩:∃x,f=x+1:=⟨f-1,by omega⟩
  show B (iter B f) i=_
  rw[hs _ _ (by omega),ih (i+1) f (by omega) (by omega)]
  rfl
theorem xM{B:(Nat→Option Int)→Nat→Option Int}(n:Nat)(g:Nat→Option Int)(k:Option Int)
 (hs:∀c i,i<n→B c i=(g i).bind fun e=>if decide (e≠0) then some e else c (i+1))(he:∀c,B c n=k)(hn:n≤1000000000000000):
 iter B FUEL 0=errs g k n 0:=arT hs he n 0 FUEL (by omega) (fD (by omega))
theorem arV{B:(Nat→Option Int)→Nat→Option Int}{n:Nat}{g:Nat→Option Int}{k:Option Int}
  (hs:∀c i,i<n→(∀j,j<i→g j=some 0)→B c i=(g i).bind fun e=>if decide (e≠0) then some e else c (i+1))(he:∀c,B c n=k):
  ∀m i f,i+m=n→m<f→(∀j,j<i→g j=some 0)→iter B f i=errs g k m i:=by
 intro m
 induction m with
 |zero=>
  intro i f hi hf _
  obtain⟨f,rfl⟩:∃x,f=x+1:=⟨f-1,by omega⟩
  show B (iter B f) i=k
  rw[show i=n by omega,he]
 |succ m ih=>
  intro i f hi hf hp
  obtain⟨f,rfl⟩:∃x,f=x+1:=⟨f-1,by omega⟩
  show B (iter B f) i=_
  rw[hs _ _ (by omega) hp]
  simp only[errs]
  cases h:g i with
  |none=>rfl
  |some e=>
   simp only[Option.bind_some]
   by_cases he:e=0
   ·subst he
    rw[if_neg (by simp),if_neg (by simp),ih (i+1) f (by omega) (by omega) (fun j hj=>by
     by_cases e:j=i
     ·subst e;exact h
     ·exact hp j (by omega))]
   ·rw[if_pos (by simpa using he),if_pos (by simpa using he)]
theorem arU{B:(Nat→Option Int)→Nat→Option Int}(n:Nat)(g:Nat→Option Int)(k:Option Int)
 (hs:∀c i,i<n→(∀j,j<i→g j=some 0)→B c i=(g i).bind fun e=>if decide (e≠0) then some e else c (i+1))(he:∀c,B c n=k)(hn:n≤1000000000000000):
 iter B FUEL 0=errs g k n 0:=arV hs he n 0 FUEL (by omega) (fD (by omega)) (fun j hj=>by omega)
theorem arS{α:Type}{B:(Nat→Option Int)→Nat→Option Int}(xs:List α)(q:α→Bool)(r k:Option Int)
  (hs:∀c (i:Nat) x,idx xs (i:Int)=some x→i<xs.length→B c i=if q x then r else c (i+1))(he:∀c,B c xs.length=k):
  ∀n i,i≤xs.length→xs.length-i<n→iter B n i=if (xs.drop i).any q then r else k:=by
 intro n
 induction n with
 |zero=>intro i _ h;omega
 |succ n ih=>
  intro i hi hn
  show B (iter B n) i=_
  by_cases hl:i=xs.length
  ·subst hl
   rw[he,List.drop_length];rfl
  ·have hlt:i<xs.length:=by omega
   have hd:xs.drop i=xs[i]::xs.drop (i+1):=List.drop_eq_getElem_cons hlt
   rw[hs _ i xs[i] (by simp[idx,hlt]) hlt,hd,List.any_cons]
   cases h:q xs[i] with
   |true=>simp
   |false=>rw[if_neg (by simp),ih (i+1) (by omega) (by omega)];simp
theorem Y1{α:Type}{B:(Nat→Option Int)→Nat→Option Int}(xs:List α)(q:α→Bool)(r k:Option Int)
  (hs:∀c (i:Nat) x,idx xs (i:Int)=some x→i<xs.length→B c i=if q x then r else c (i+1))(he:∀c,B c xs.length=k)(hl:xs.length≤1000000):
  iter B FUEL 0=if xs.any q then r else k:=by
 have:=arS xs q r k hs he FUEL 0 (by omega) (fD (by omega))
 rwa [List.drop_zero] at this
theorem YZ{α:Type}{xs:List α}{i j:Nat}{x:α}(h:idx (xs.take i) (j:Int)=some x):idx xs (j:Int)=some x:=by
 rw[kF] at h ⊢
 rw[List.getElem?_take] at h
 split at h
 ·exact h
 ·cases h
theorem Iy(g:Nat→Option Int)(K:Option Int):∀m i,((errs g (some 0) m i).bind fun e=>if decide (e≠0) then some e else K)=errs g K m i:=by
 intro m
 induction m with
 |zero=>intro i;rfl
 |succ m ih=>
  intro i
  simp only[errs]
  cases h:g i with
  |none=>rfl
  |some e=>
   simp only[Option.bind_some]
   by_cases he:e=0
   ·rw[if_neg (by simp[he]),if_neg (by simp[he]),ih]
   ·rw[if_pos (by simp[he]),if_pos (by simp[he]),Option.bind_some,if_pos (by simp[he])]
theorem Ar{g g':Nat→Option Int}{k k':Option Int}:∀m i,(∀j,i≤j→j<i+m→(∀j',i≤j'→j'<j→g j'=some 0)→g j=g' j)→
  ((∀j,i≤j→j<i+m→g j=some 0)→k=k')→errs g k m i=errs g' k' m i:=by
 intro m
 induction m with
 |zero=>intro i _ hk;exact hk (fun j _ _=>by omega)
 |succ m ih=>
  intro i hg hk
  simp only[errs]
  rw[←hg i (Nat.le_refl _) (by omega) (fun j _ _=>by omega)]
  cases h:g i with
  |none=>rfl
  |some e=>
   simp only[Option.bind_some]
   by_cases he:e=0
   ·subst he
    rw[if_neg (by simp),if_neg (by simp)]
    refine ih (i+1) (fun j h1 h2 h3=>hg j (by omega) (by omega) fun j' a b=>?_) (fun h3=>hk fun j' a b=>?_)
    ·by_cases e:j'=i
     ·subst e;exact h
     ·exact h3 j' (by omega) b
    ·by_cases e:j'=i
     ·subst e;exact h
     ·exact h3 j' (by omega) (by omega)
   ·rw[if_pos (by simp[he]),if_pos (by simp[he])]
theorem IB{g:Nat→Option Int}{k:Option Int}:∀m i,errs g k m i=some 0→(∀j,i≤j→j<i+m→g j=some 0)∧k=some 0:=by
 intro m
 induction m with
 |zero=>intro i h;exact⟨fun j _ _=>by omega,h⟩
 |succ m ih=>
  intro i h
  simp only[errs] at h
  cases hg:g i with
  |none=>rw[hg] at h;cases h
  |some e=>
   rw[hg,Option.bind_some] at h
   by_cases he:e=0
   ·subst he
    rw[if_neg (by simp)] at h
    obtain⟨h1,h2⟩:=ih (i+1) h
    refine⟨fun j a b=>?_,h2⟩
    by_cases e:j=i
    ·subst e;exact hg
    ·exact h1 j (by omega) (by omega)
   ·rw[if_pos (by simp[he])] at h
    cases h;exact absurd rfl he
theorem vQ{α:Type}(g:Bool)(d v:α):dH g d (some v)=some (if g then v else d):=by cases g<;>rfl
theorem arJ{α:Type}{B:(Nat→Option Int)→Nat→Option Int}(xs:List α)(q:α→Bool)
  (hs:∀c (i:Nat) x,idx xs (i:Int)=some x→i<xs.length→B c i=if q x then some (i:Int) else c (i+1))(he:∀c,B c xs.length=some (-1)):
  ∀n i,i≤xs.length→xs.length-i<n→((iter B n i).bind fun y=>some (decide (0≤y)))=some ((xs.drop i).any q):=by
 intro n
 induction n with
 |zero=>intro i _ h;omega
 |succ n ih=>
  intro i hi hn
  show ((B (iter B n) i).bind _)=_
  by_cases hl:i=xs.length
  ·subst hl
   rw[he,List.drop_length];rfl
  ·have hlt:i<xs.length:=by omega
   have hd:xs.drop i=xs[i]::xs.drop (i+1):=List.drop_eq_getElem_cons hlt
   rw[hs _ i xs[i] (by simp[idx,hlt]) hlt,hd,List.any_cons]
   cases h:q xs[i] with
   |true=>simp
   |false=>rw[if_neg (by simp),ih (i+1) (by omega) (by omega)];simp
theorem adx{α:Type}{B:(Nat→Option Int)→Nat→Option Int}(xs:List α)(q:α→Bool)
  (hs:∀c (i:Nat) x,idx xs (i:Int)=some x→i<xs.length→B c i=if q x then some (i:Int) else c (i+1))(he:∀c,B c xs.length=some (-1))
  (hl:xs.length≤1000000):((iter B FUEL 0).bind fun y=>some (decide (0≤y)))=some (xs.any q):=by
 have:=arJ xs q hs he FUEL 0 (by omega) (fD (by omega))
 rwa [List.drop_zero] at this
end Go.Dc
namespace Go.Proofs.YtcalibhfgdncaaaGreatDoor
open Go.Dc
def gI(p:Plan)(r:bW):aG:=p.Routes.getD r.aG.toNat default
def nY(r:aG):Int:=(r.Steps.getD 0 default).Section
def kP(r:aG):Int:=(r.Steps.getD ((r.Steps.length:Int)-r.Overlap-1).toNat default).Section
def uU(s:aQ):Bool:=((((((decide (1≤s.Length)&&decide (s.Length≤40))&&decide (1000≤s.qV))&&decide (s.qV≤100000))&&decide (100≤s.qQ))&&decide (s.qQ≤2000))&&decide (100≤s.qR))&&decide (s.qR≤2000)
def nP(p:Plan)(lo hi:Int):Bool:=((decide (0≤lo)&&decide (lo≤hi))&&decide (hi≤7200))&&decide (hi<lo+p.bJ)
def wB(w:Int):Bool:=decide (0≤w)&&decide (w≤1048576)
def uV(r:aG):List Step:=r.Steps.take ((r.Steps.length:Int)-r.Overlap).toNat
def EM(l:Layout)(r:aG)(s:aQ):Int:=
 if (yD l r).2.2≠0 then (yD l r).2.2 else if uU s=false then 1
 else if (uV r).any (fun st=>decide ((iV l st).Length<(if s.Length>2 then s.Length else 2)))=true then 12 else 0
def uO(p:Plan)(x:Line)(k:Nat)(r:bW):Bool:=
 decide (0≤r.aG)&&decide (r.aG<(p.Routes.length:Int))&&decide (0≤r.Extra)&&decide (r.Extra<p.bJ)&&nP p r.Min r.Max&& !(decide (k+1=x.bD.length)&&(decide (r.Min≠0)||decide (r.Max≠0)))
def iK(x:Line)(k:Nat):bW:=x.bD.getD k default
def vK(l:Layout)(p:Plan)(x:Line)(k:Nat):Int:=
 if uO p x k (iK x k)=false then 4
 else if EM l (gI p (iK x k)) (p.aP.getD x.aQ.toNat default)≠0 then EM l (gI p (iK x k)) (p.aP.getD x.aQ.toNat default)
 else if 0<k∧nY (gI p (iK x k))≠kP (gI p (iK x (k-1))) then 11 else 0
def Nh(p:Plan)(i:Nat):Int:=
 if kW (p.aP.getD i default).Name.ba=false then 3 else if (p.aP.take i).any (fun t=>decide (t.Name=(p.aP.getD i default).Name))=true then 5
 else if uU (p.aP.getD i default)=false then 4 else 0
def aay(l:Layout)(p:Plan)(i:Nat):Int:=(jf l (p.Routes.getD i default)).2
def dn(p:Plan)(i:Nat):Line:=p.Lines.getD i default
def Cq(l:Layout)(p:Plan)(i:Nat):Option Int:=
 if kW (dn p i).Name.ba=false then some 3 else if (p.Lines.take i).any (fun t=>decide (t.Name=(dn p i).Name))=true then some 5
 else if (decide (0≤(dn p i).aQ)&&decide ((dn p i).aQ<(p.aP.length:Int))&&wB (dn p i).Weight)=false then some 4
 else if (dn p i).bD.length=0 then some 1
 else errs (fun k=>some (vK l p (dn p i) k)) (some 0) (dn p i).bD.length 0
def ig(p:Plan)(i:Int):Bool:=decide (0≤i)&&decide (i<(p.Lines.length:Int))
def eY(p:Plan)(i k:Int):Bool:=ig p i&&decide (0≤k)&&decide (k<((dn p i.toNat).bD.length:Int))
def gQ(p:Plan)(i k:Int):bW:=iK (dn p i.toNat) k.toNat
def pG(l:Layout)(s:Int):Int:=(l.Sections.getD s.toNat default).nH
def zJ(p:Plan)(c:Change):Bool:=eY p c.fV c.iy&&eY p c.iG c.kQ&& !decide (c.fV=c.iG)&&nP p c.Min c.Max&&wB c.Weight
def Iq(l:Layout)(p:Plan)(c:Change):Int:=
 if zJ p c=false then 4
 else if pG l (kP (gI p (gQ p c.fV c.iy)))= -1∨pG l (kP (gI p (gQ p c.fV c.iy)))≠pG l (nY (gI p (gQ p c.iG c.kQ))) then 11 else 0
def RI(l:Layout)(p:Plan)(i:Nat):Int:=Iq l p (p.Changes.getD i default)
def Xb(p:Plan)(i:Nat)(t:Turn):Int:=
 if (ig p t.From&&ig p t.To&&nP p t.Min t.Max)=false then 4
 else if (p.Turns.take i).any (fun u=>decide (u.From=t.From)||decide (u.To=t.To))=true then 5
 else if kP (gI p (gQ p t.From ((dn p t.From.toNat).bD.length-1)))≠nY (gI p (gQ p t.To 0))∨(dn p t.From.toNat).aQ≠(dn p t.To.toNat).aQ then 11 else 0
def Nt(p:Plan)(i:Nat):Int:=Xb p i (p.Turns.getD i default)
def Nj(p:Plan)(s:Sync):Int:=
 if (eY p s.mE s.lJ&&eY p s.mM s.lV&& !(decide (s.mE=s.mM)&&decide (s.lJ=s.lV))&&decide (0≤s.Offset)&&decide (s.Offset<p.bJ))=false then 4 else 0
def Ni(p:Plan)(i:Nat):Int:=Nj p (p.bB.getD i default)
def KQ(l:Layout)(d:bZ):Int:=
 if (decide (0≤d.From)&&decide (d.From<(l.aT.length:Int))&&decide (0≤d.To)&&decide (d.To<(l.aT.length:Int))&& !decide (d.From=d.To)&&decide (1≤d.Weight)&&decide (d.Weight≤1048576))=false then 4 else 0
def KP(l:Layout)(p:Plan)(i:Nat):Int:=KQ l (p.bA.getD i default)
structure Sz(p:Plan):Prop where
 st:p.aP.length≤8
 ro:p.Routes.length≤48
 li:p.Lines.length≤16
 ch:p.Changes.length≤32
 tu:p.Turns.length≤32
 sy:p.bB.length≤32
 de:p.bA.length≤32
 ri:∀x∈p.Lines,x.bD.length≤12
instance (p:Plan):Decidable (Sz p):=
 decidable_of_iff (p.aP.length≤8∧p.Routes.length≤48∧p.Lines.length≤16∧p.Changes.length≤32∧p.Turns.length≤32∧p.bB.length≤32∧p.bA.length≤32∧∀x∈p.Lines,x.bD.length≤12)
  ⟨fun⟨a,b,c,d,e,f,g,h⟩=>⟨a,b,c,d,e,f,g,h⟩,fun⟨a,b,c,d,e,f,g,h⟩=>⟨a,b,c,d,e,f,g,h⟩⟩
def Et(l:Layout)(p:Plan):Int:=if jB (dZ l)≠0 then 1 else if ¬Sz p then 7 else if p.bJ<2∨7200<p.bJ then 4 else 0
def Aa(l:Layout)(p:Plan):Option Int:=
 if decide (Et l p≠0) then some (Et l p) else
 errs (fun i=>some (Nh p i)) (errs (fun i=>some (aay l p i)) (errs (Cq l p) (errs (fun i=>some (RI l p i)) (errs (fun i=>some (Nt p i))
  (errs (fun i=>some (Ni p i)) (errs (fun i=>some (KP l p i)) (some 0) p.bA.length 0) p.bB.length 0) p.Turns.length 0) p.Changes.length 0) p.Lines.length 0) p.Routes.length 0) p.aP.length 0
/-! ### What holds so far -/
structure RvOk(l:Layout)(p:Plan):Prop where
 sz:Sz p
 per:2≤p.bJ∧p.bJ≤7200
 ck:jB (dZ l)=0
 rt:∀r∈p.Routes,(jf l r).2=0
theorem getD_lt{α:Type}[Inhabited α]{xs:List α}{i:Nat}(h:i<xs.length):xs.getD i default=xs[i]:=by simp[h]
theorem kE{α:Type}[Inhabited α]{xs:List α}{i:Nat}(h:i<xs.length):xs.getD i default∈xs:=by rw[getD_lt h];exact List.getElem_mem h
theorem oM{α:Type}[Inhabited α]{xs:List α}{i:Nat}(h:i<xs.length):idx xs (i:Int)=some (xs.getD i default):=by rw[kF];simp[h]
theorem afM{α:Type}{xs:List α}{i:Nat}(h:i≤xs.length):sub xs 0 (i:Int)=some (xs.take i):=by
 unfold sub
 rw[if_pos (by omega)]
 simp
theorem uh{e:Int}{c:Option Int}(h:e≠0):(some e:Option Int)=((some e).bind fun e=>if decide (e≠0) then some e else c):=by
 rw[Option.bind_some,if_pos (by simpa using h)]
theorem ali{l:Layout}{p:Plan}(h:Et l p=0):Sz p∧(2≤p.bJ∧p.bJ≤7200)∧jB (dZ l)=0:=by
 unfold Et at h
 split at h
 ·cases h
 split at h
 ·cases h
 split at h
 ·cases h
 rename_i a b c
 exact⟨Classical.not_not.1 b,by omega,Classical.not_not.1 a⟩
theorem Jf{l:Layout}{p:Plan}(o:RvOk l p){r:bW}(h0:0≤r.aG)(h1:r.aG<(p.Routes.length:Int)):idx p.Routes r.aG=some (gI p r)∧yx l (gI p r):=by
 have hlt:r.aG.toNat<p.Routes.length:=by omega
 exact⟨tJ h0 h1,CO (o.rt _ (kE hlt))⟩
theorem ak6{l:Layout}{r:aG}(o:yx l r):idx r.Steps 0=some (r.Steps.getD 0 default):=by
 have:=o.two;have:=o.ov
 exact tJ (i:=0) (by omega) (by omega)
theorem alb{l:Layout}{r:aG}(o:yx l r):idx r.Steps ((r.Steps.length:Int)-r.Overlap-1)=some (r.Steps.getD ((r.Steps.length:Int)-r.Overlap-1).toNat default):=by
 have:=o.two;have:=o.ov
 exact tJ (by omega) (by omega)
theorem afF{l:Layout}{p:Plan}(o:RvOk l p){r:bW}(h0:0≤r.aG)(h1:r.aG<(p.Routes.length:Int)):Ms p r=some (nY (gI p r)):=by
 obtain⟨a,b⟩:=Jf o h0 h1
 unfold Ms
 rw[a,Option.bind_some,ak6 b,Option.bind_some];rfl
theorem afI{l:Layout}{p:Plan}(o:RvOk l p){r:bW}(h0:0≤r.aG)(h1:r.aG<(p.Routes.length:Int)):Mt p r=some (kP (gI p r)):=by
 obtain⟨a,b⟩:=Jf o h0 h1
 have:=b.len;have:=b.ov
 unfold Mt
 rw[a,Option.bind_some,Option.bind_some,bH (bO (by omega) (by omega)),bH (bO (by omega) (by omega)),alb b,Option.bind_some];rfl
theorem abT{l:Layout}{p:Plan}(o:RvOk l p)(lo hi:Int):Mj p lo hi=some (nP p lo hi):=by
 have:=o.per
 unfold Mj
 by_cases h:0≤lo∧lo≤hi∧hi≤7200
 ·rw[bH (by simp[aX];omega)];rfl
 ·rw[bH (by simp;omega)];rfl
theorem WG{l:Layout}{r:aG}(o:yx l r){s:Step}(h:s∈r.Steps):idx l.Sections s.Section=some (l.Sections.getD s.Section.toNat default):=(M8 o.v (o.st s h)).1
/-! ### The checks -/
theorem ag0(s:aQ):RU s=some (uU s):=rfl
theorem awT{l:Layout}{r:aG}(o:yx l r):RD r=some (uV r):=by
 have:=o.len;have:=o.ov;have:=o.two
 unfold RD
 rw[bH (bO (by omega) (by omega))]
 have:sub r.Steps 0 ((r.Steps.length:Int)-r.Overlap)=some (uV r):=by
  unfold sub uV
  rw[if_pos (by omega)]
  simp
 rw[this];rfl
theorem agM{l:Layout}{r:aG}(h:(yD l r).2.2=0):yx l r:=by
 refine CO ?_
 by_cases h0:(jf l r).2=0
 ·exact h0
 ·unfold yD at h;rw[if_pos h0] at h;exact h
theorem anz(l:Layout)(r:aG)(s:aQ):RA l r s=some (EM l r s):=by
 unfold RA X0 EM
 rw[auB,Option.bind_some]
 by_cases h0:(yD l r).2.2=0
 ·rw[if_neg (by simp[h0]),if_neg (by simp[h0]),ag0,Option.bind_some]
  have o:=agM h0
  cases hs:uU s with
  |false=>rfl
  |true=>
   rw[if_neg (by simp),if_neg (by simp),awT o,Option.bind_some]
   have hT:∀x∈uV r,jv l x=true:=fun x hx=>o.st x (List.mem_of_mem_take hx)
   have hl:(uV r).length≤24:=by have:=o.len;unfold uV;rw[List.length_take];omega
   generalize uV r=T at hT hl
   have:=jF (B:=RB T l s (yD l r)) (fun (_:Unit) i=>i) T (fun _ _=>True)
    (fun _ q=>some (if q.any (fun st=>decide ((iV l st).Length<(if s.Length>2 then s.Length else 2)))=true then (uY.mk ([]:List Cell) 0,(12:Int)) else (uY.mk (yD l r).1 (yD l r).2.1,0))) ?_ ?_ FUEL () 0 trivial (by omega) (fD (by omega))
   ·rw[this,Option.bind_some,List.drop_zero]
    cases (T.any fun st=>decide ((iV l st).Length<(if s.Length>2 then s.Length else 2)))<;>rfl
   ·intro c _ i x q _ hdr hi hx hk
    simp only[RB]
    have hm:x∈T:=List.mem_of_mem_drop (i:=i) (by rw[hdr];exact List.mem_cons_self)
    rw[if_pos (by simp;omega),hx,Option.bind_some,(M8 o.v (hT x hm)).1,Option.bind_some]
    by_cases hc:(iV l x).Length<(if s.Length>2 then s.Length else 2)
    ·rw[if_pos (by simpa using hc),if_pos (by simp[hc])]
    ·rw[if_neg (by simpa using hc),hk () trivial]
     simp only[List.any_cons,decide_eq_false hc,Bool.false_or]
   ·intro c _ _
    simp only[RB]
    rw[if_neg (by simp)]
    rfl
 ·rw[if_pos (by simp[h0]),if_pos h0];rfl
theorem amY(xs:List aQ)(y:aQ)(h:xs.length≤1000):WI xs y=some (xs.any fun t=>decide (t.Name=y.Name)):=by
 unfold WI aaP
 refine adx xs _ (fun c i x hx hi=>?_) (fun c=>?_) (by omega)
 ·simp only[aaO]
  rw[if_pos (by simp;omega),hx];rfl
 ·simp only[aaO]
  rw[if_neg (by simp)];rfl
theorem amX(xs:List Line)(y:Line)(h:xs.length≤1000):WH xs y=some (xs.any fun t=>decide (t.Name=y.Name)):=by
 unfold WH aaJ
 refine adx xs _ (fun c i x hx hi=>?_) (fun c=>?_) (by omega)
 ·simp only[aaI]
  rw[if_pos (by simp;omega),hx];rfl
 ·simp only[aaI]
  rw[if_neg (by simp)];rfl
theorem amZ(xs:List Turn)(y:Turn)(h:xs.length≤1000):WJ xs y=some (xs.any fun u=>decide (u.From=y.From)||decide (u.To=y.To)):=by
 unfold WJ aaT
 refine adx xs _ (fun c i x hx hi=>?_) (fun c=>?_) (by omega)
 ·simp only[aaS]
  rw[if_pos (by simp;omega),hx];rfl
 ·simp only[aaS]
  rw[if_neg (by simp)];rfl
theorem amP(l:Layout)(p:Plan)(h:p.aP.length≤1000):Pb l p=errs (fun i=>some (Nh p i)) (some 0) p.aP.length 0:=by
 unfold Pb
 refine xM _ _ _ (fun c i hi=>?_) (fun c=>?_) (by omega)
 ·simp only[Zq]
  rw[if_pos (by simp;omega),oM hi,Option.bind_some,aiw,Option.bind_some]
  unfold Nh
  by_cases h1:kW (p.aP.getD i default).Name.ba=false
  ·rw[if_pos h1,if_pos (by rw[h1];rfl)];exact uh (by decide)
  ·rw[if_neg h1,if_neg (by simpa using h1),afM (by omega),Option.bind_some,amY _ _ (by rw[List.length_take];omega),Option.bind_some]
   by_cases h2:((p.aP.take i).any fun t=>decide (t.Name=(p.aP.getD i default).Name))=true
   ·rw[if_pos h2,if_pos h2];exact uh (by decide)
   ·rw[if_neg h2,if_neg h2,ag0,Option.bind_some]
    by_cases h3:uU (p.aP.getD i default)=false
    ·rw[if_pos h3,if_pos (by rw[h3];rfl)];exact uh (by decide)
    ·rw[if_neg h3,if_neg (by simpa using h3)];rfl
 ·simp only[Zq]
  rw[if_neg (by simp)];rfl
theorem amN(l:Layout)(p:Plan)(h:p.Routes.length≤1000):O8 l p=errs (fun i=>some (aay l p i)) (some 0) p.Routes.length 0:=by
 unfold O8
 refine xM _ _ _ (fun c i hi=>?_) (fun c=>?_) (by omega)
 ·simp only[Zp]
  rw[if_pos (by simp;omega),oM hi,Option.bind_some,ajG];rfl
 ·simp only[Zp]
  rw[if_neg (by simp)];rfl
theorem afk{p:Plan}{x:Line}{k:Nat}{r:bW}(h:uO p x k r=true):0≤r.aG∧r.aG<(p.Routes.length:Int):=by
 unfold uO at h
 simp only[Bool.and_eq_true,decide_eq_true_eq] at h
 exact⟨h.1.1.1.1.1,h.1.1.1.1.2⟩
theorem Wj{l:Layout}{p:Plan}{x:Line}{k:Nat}(h:vK l p x k=0):0≤(iK x k).aG∧(iK x k).aG<(p.Routes.length:Int):=by
 unfold vK at h
 split at h
 ·cases h
 ·rename_i h1;exact afk (by simpa using h1)
theorem avi{l:Layout}{p:Plan}(o:RvOk l p)(x:Line)(hs:0≤x.aQ∧x.aQ<(p.aP.length:Int))(hx:x.bD.length≤12)(k:Nat)(hk:k<x.bD.length)
  (SS:∀j,j<k→vK l p x j=0)(hb:uO p x k (iK x k)=true):Ee p (iK x k) x l k false=some (vK l p x k):=by
 obtain⟨r0,r1⟩:=afk hb
 unfold vK
 rw[if_neg (by simp[hb])]
 simp only[Ee]
 rw[if_neg (by simp),(Jf o r0 r1).1,Option.bind_some,tJ hs.1 hs.2,Option.bind_some,anz,Option.bind_some]
 by_cases f0:EM l (gI p (iK x k)) (p.aP.getD x.aQ.toNat default)=0
 ·rw[if_neg (by rw[f0];simp),if_neg (fun h=>h f0)]
  by_cases k0:0<k
  ·have e1:((k:Int)-1)=((k-1:Nat):Int):=by omega
   obtain⟨q0,q1⟩:=Wj (SS (k-1) (by omega))
   have g:decide (0<(k:Int))=true:=by simp;omega
   rw[bH (by simp[aX];omega),jP g,e1,oM (by omega),Option.bind_some,jP g,afF o r0 r1,Option.bind_some,jP g]
   rw[show x.bD.getD (k-1) default=iK x (k-1) from rfl,afI o q0 q1,Option.bind_some,g,Bool.true_and]
   by_cases e:nY (gI p (iK x k))=kP (gI p (iK x (k-1)))
   ·rw[if_neg (by simp[e]),if_neg (by simp[e])]
   ·rw[if_pos (by simpa using e),if_pos ⟨k0,e⟩]
  ·have g:decide (0<(k:Int))=false:=by simp;omega
   rw[bH (by simp;omega),oU g,Option.bind_some,oU g,Option.bind_some,oU g,Option.bind_some,g,Bool.false_and,if_neg (by simp),if_neg (fun h=>k0 h.1)]
 ·rw[if_pos (by simpa using f0),if_pos f0]
theorem ake{l:Layout}{p:Plan}(o:RvOk l p)(x:Line)(hs:0≤x.aQ∧x.aQ<(p.aP.length:Int))(hx:x.bD.length≤12)(k:Nat)(hk:k<x.bD.length)
  (SS:∀j,j<k→vK l p x j=0):O7 l p x k=some (vK l p x k):=by
 have hgood:=avi o x hs hx k hk SS
 have hbad:uO p x k (iK x k)=false→Ee p (iK x k) x l k true=some (vK l p x k):=by
  intro h;unfold vK;rw[if_pos h];rfl
 unfold O7
 rw[oM hk,Option.bind_some,show x.bD.getD k default=iK x k from rfl]
 generalize iK x k=r at*
 by_cases a1:r.aG<0
 ·rw[if_pos (by simpa using a1),decide_eq_true a1]
  exact hbad (by unfold uO;rw[decide_eq_false (show ¬0≤r.aG by omega)];simp)
 rw[if_neg (by simpa using a1)]
 by_cases a2:(p.Routes.length:Int)≤r.aG
 ·rw[if_pos (by simpa using a2),decide_eq_true a2]
  exact hbad (by unfold uO;rw[decide_eq_false (show ¬r.aG<(p.Routes.length:Int) by omega)];simp)
 rw[if_neg (by simpa using a2)]
 by_cases a3:r.Extra<0
 ·rw[if_pos (by simpa using a3),decide_eq_true a3]
  exact hbad (by unfold uO;rw[decide_eq_false (show ¬0≤r.Extra by omega)];simp)
 rw[if_neg (by simpa using a3)]
 by_cases a4:p.bJ≤r.Extra
 ·rw[if_pos (by simpa using a4),decide_eq_true a4]
  exact hbad (by unfold uO;rw[decide_eq_false (show ¬r.Extra<p.bJ by omega)];simp)
 rw[if_neg (by simpa using a4),abT o,Option.bind_some]
 cases a5:nP p r.Min r.Max with
 |false=>
  rw[Bool.not_false,if_pos rfl]
  exact hbad (by unfold uO;rw[a5];simp)
 |true=>
  rw[Bool.not_true,if_neg (by simp),bH (bO (by omega) (by omega))]
  have e:(decide ((k:Int)=(x.bD.length:Int)-1))=decide (k+1=x.bD.length):=by
   rw[Bool.eq_iff_iff];simp only[decide_eq_true_eq];omega
  rw[e]
  have hB:uO p x k r= !(decide (k+1=x.bD.length)&&(decide (r.Min≠0)||decide (r.Max≠0))):=by
   unfold uO
   rw[decide_eq_true (show 0≤r.aG by omega),decide_eq_true (show r.aG<(p.Routes.length:Int) by omega),decide_eq_true (show 0≤r.Extra by omega),decide_eq_true (show r.Extra<p.bJ by omega),a5]
   rfl
  cases hg:(decide (k+1=x.bD.length)&&(decide (r.Min≠0)||decide (r.Max≠0))) with
  |true=>rw[hg] at hB;exact hbad hB
  |false=>rw[hg] at hB;exact hgood hB
theorem alr(w:Int):UU w=some (wB w):=rfl
theorem amL{l:Layout}{p:Plan}(o:RvOk l p):O6 l p=errs (Cq l p) (some 0) p.Lines.length 0:=by
 have hz:=o.sz.li
 unfold O6
 refine xM _ _ _ (fun c i hi=>?_) (fun c=>?_) (by omega)
 ·simp only[Zo]
  rw[if_pos (by simp;omega),oM hi,Option.bind_some,show p.Lines.getD i default=dn p i from rfl,aiw,Option.bind_some]
  have hr:(dn p i).bD.length≤12:=o.sz.ri _ (kE hi)
  unfold Cq
  by_cases h1:kW (dn p i).Name.ba=false
  ·rw[if_pos h1,if_pos (by rw[h1];rfl)];exact uh (by decide)
  rw[if_neg h1,if_neg (by simpa using h1),afM (by omega),Option.bind_some,amX _ _ (by rw[List.length_take];omega),Option.bind_some]
  by_cases h2:((p.Lines.take i).any fun t=>decide (t.Name=(dn p i).Name))=true
  ·rw[if_pos h2,if_pos h2];exact uh (by decide)
  rw[if_neg h2,if_neg h2]
  have hk3:Mk (dn p i) l p c i true=some 4:=rfl
  by_cases a1:(dn p i).aQ<0
  ·rw[if_pos (by simpa using a1),decide_eq_true a1,hk3,if_pos (by rw[decide_eq_false (show ¬0≤(dn p i).aQ by omega)];simp)];exact uh (by decide)
  rw[if_neg (by simpa using a1)]
  by_cases a2:(p.aP.length:Int)≤(dn p i).aQ
  ·rw[if_pos (by simpa using a2),decide_eq_true a2,hk3,if_pos (by rw[decide_eq_false (show ¬(dn p i).aQ<(p.aP.length:Int) by omega)];simp)];exact uh (by decide)
  rw[if_neg (by simpa using a2),alr,Option.bind_some]
  rw[decide_eq_true (show 0≤(dn p i).aQ by omega),decide_eq_true (show (dn p i).aQ<(p.aP.length:Int) by omega),Bool.true_and,Bool.true_and]
  cases hw:wB (dn p i).Weight with
  |false=>rw[Bool.not_false,hk3,if_pos rfl];exact uh (by decide)
  |true=>
   rw[Bool.not_true,if_neg (by simp)]
   simp only[Mk]
   rw[if_neg (by simp)]
   by_cases h0:(dn p i).bD.length=0
   ·rw[if_pos (by simp[h0]),if_pos h0];exact uh (by decide)
   ·rw[if_neg (by simp;intro e;exact h0 (by rw[e];rfl)),if_neg h0]
    rw[Iy,xM (B:=UG (dn p i) l p c i) (dn p i).bD.length (fun k=>O7 l p (dn p i) k) (c (i+1)) (fun c' k hk=>?_) (fun c'=>?_) (by omega)]
    ·refine Ar _ _ (fun j _ hj hp=>?_) (fun _=>rfl)
     have:∀m,m≤j→(∀j',j'<m→vK l p (dn p i) j'=0):=by
      intro m
      induction m with
      |zero=>intro _ j' h;omega
      |succ m ih=>
       intro hm j' hj'
       have ih':=ih (by omega)
       by_cases e:j'=m
       ·subst e
        have h3:=ake o (dn p i) (by omega) hr j' (by omega) ih'
        have h4:=hp j' (by omega) (by omega)
        rw[h3] at h4
        exact Option.some.inj h4
       ·exact ih' j' (by omega)
     exact ake o (dn p i) (by omega) hr j (by omega) (this j (Nat.le_refl _))
    ·simp only[UG]
     rw[if_pos (by simp;omega)]
    ·simp only[UG]
     rw[if_neg (by simp)];rfl
 ·simp only[Zo]
  rw[if_neg (by simp)];rfl
structure LnOk(l:Layout)(p:Plan):Prop extends RvOk l p where
 ln:∀i,i<p.Lines.length→(0≤(dn p i).aQ∧(dn p i).aQ<(p.aP.length:Int))∧0<(dn p i).bD.length∧∀k,k<(dn p i).bD.length→vK l p (dn p i) k=0
theorem aib{l:Layout}{p:Plan}{i:Nat}(h:Cq l p i=some 0):(0≤(dn p i).aQ∧(dn p i).aQ<(p.aP.length:Int))∧0<(dn p i).bD.length∧∀k,k<(dn p i).bD.length→vK l p (dn p i) k=0:=by
 unfold Cq at h
 split at h
 ·cases h
 split at h
 ·cases h
 split at h
 ·cases h
 split at h
 ·cases h
 rename_i _ _ h3 h4
 simp only[Bool.not_eq_false,Bool.and_eq_true,decide_eq_true_eq] at h3
 refine⟨h3.1,by omega,fun k hk=>?_⟩
 exact Option.some.inj ((IB _ _ h).1 k (by omega) (by omega))
theorem aec{l:Layout}{p:Plan}(o:RvOk l p)(h:∀j,0≤j→j<0+p.Lines.length→Cq l p j=some 0):LnOk l p:=
 {toRvOk:=o,ln:=fun i hi=>aib (h i (by omega) (by omega))}
theorem ahv(p:Plan)(i k:Int):Jl p i k=some (eY p i k):=by
 unfold Jl Ml eY
 simp only[Option.bind_some]
 rw[show (decide (0≤i)&&decide (i<(p.Lines.length:Int)))=ig p i from rfl]
 cases h:(ig p i&&decide (0≤k)) with
 |false=>rw[oU rfl,Option.bind_some];rfl
 |true=>
  have h1:ig p i=true:=by simp only[Bool.and_eq_true] at h;exact h.1
  unfold ig at h1
  simp only[Bool.and_eq_true,decide_eq_true_eq] at h1
  rw[jP rfl,tJ h1.1 h1.2,Option.bind_some];rfl
theorem aot(p:Plan)(i:Int):Ml p i=some (ig p i):=rfl
theorem Gj{p:Plan}{i:Int}(h:ig p i=true):idx p.Lines i=some (dn p i.toNat)∧i.toNat<p.Lines.length∧((i.toNat:Nat):Int)=i:=by
 unfold ig at h
 simp only[Bool.and_eq_true,decide_eq_true_eq] at h
 exact⟨tJ h.1 h.2,by omega,by omega⟩
theorem acJ{l:Layout}{p:Plan}(o:LnOk l p){i k:Int}(h:eY p i k=true):idx p.Lines i=some (dn p i.toNat)∧idx (dn p i.toNat).bD k=some (gQ p i k)∧0≤(gQ p i k).aG∧(gQ p i k).aG<(p.Routes.length:Int):=by
 unfold eY at h
 simp only[Bool.and_eq_true,decide_eq_true_eq] at h
 obtain⟨a,b,_⟩:=Gj h.1.1
 have:=(o.ln _ b).2.2 k.toNat (by omega)
 exact⟨a,tJ h.1.2 h.2,Wj this⟩
theorem akz{l:Layout}{r:aG}(o:yx l r):idx l.Sections (nY r)=some (l.Sections.getD (nY r).toNat default):=by
 have:=o.two;have:=o.ov
 exact WG o (kE (by omega))
theorem akA{l:Layout}{r:aG}(o:yx l r):idx l.Sections (kP r)=some (l.Sections.getD (kP r).toNat default):=by
 have:=o.two;have:=o.ov
 exact WG o (kE (by omega))
theorem amJ{l:Layout}{p:Plan}(o:LnOk l p):O4 l p=errs (fun i=>some (RI l p i)) (some 0) p.Changes.length 0:=by
 have hz:=o.sz.ch
 unfold O4
 refine xM _ _ _ (fun c i hi=>?_) (fun c=>?_) (by omega)
 ·simp only[Zm]
  rw[if_pos (by simp;omega),oM hi,Option.bind_some]
  unfold RI
  generalize p.Changes.getD i default=x
  unfold Iq
  conv=>lhs;simp only[ahv,abT o.toRvOk,alr,vQ,Option.bind_some]
  have hc:(((((!eY p x.fV x.iy)||(!(if (!(!eY p x.fV x.iy))=true then eY p x.iG x.kQ else default)))||decide (x.fV=x.iG))||
    (!(if (!(((!eY p x.fV x.iy)||(!(if (!(!eY p x.fV x.iy))=true then eY p x.iG x.kQ else default)))||decide (x.fV=x.iG)))=true then nP p x.Min x.Max else default)))||
    (!(if (!((((!eY p x.fV x.iy)||(!(if (!(!eY p x.fV x.iy))=true then eY p x.iG x.kQ else default)))||decide (x.fV=x.iG))||
    (!(if (!(((!eY p x.fV x.iy)||(!(if (!(!eY p x.fV x.iy))=true then eY p x.iG x.kQ else default)))||decide (x.fV=x.iG)))=true then nP p x.Min x.Max else default))))=true then wB x.Weight else default)))= !zJ p x:=by
   unfold zJ
   cases eY p x.fV x.iy<;>cases eY p x.iG x.kQ<;>cases decide (x.fV=x.iG)<;>cases nP p x.Min x.Max<;>cases wB x.Weight<;>rfl
  rw[hc]
  cases hb:zJ p x with
  |false=>rw[Bool.not_false,if_pos rfl,if_pos rfl];exact uh (by decide)
  |true=>
   rw[Bool.not_true,if_neg (by simp),if_neg (by simp)]
   unfold zJ at hb
   simp only[Bool.and_eq_true] at hb
   obtain⟨a1,a2,a3,a4⟩:=acJ o hb.1.1.1.1
   obtain⟨b1,b2,b3,b4⟩:=acJ o hb.1.1.1.2
   rw[a1,Option.bind_some,a2,Option.bind_some,afI o.toRvOk a3 a4,Option.bind_some,akA (Jf o.toRvOk a3 a4).2,Option.bind_some]
   rw[b1,Option.bind_some,b2,Option.bind_some,afF o.toRvOk b3 b4,Option.bind_some,akz (Jf o.toRvOk b3 b4).2,Option.bind_some]
   rw[show (l.Sections.getD (kP (gI p (gQ p x.fV x.iy))).toNat default).nH=pG l (kP (gI p (gQ p x.fV x.iy))) from rfl,
    show (l.Sections.getD (nY (gI p (gQ p x.iG x.kQ))).toNat default).nH=pG l (nY (gI p (gQ p x.iG x.kQ))) from rfl]
   by_cases e:pG l (kP (gI p (gQ p x.fV x.iy)))= -1∨pG l (kP (gI p (gQ p x.fV x.iy)))≠pG l (nY (gI p (gQ p x.iG x.kQ)))
   ·rw[if_pos (by simpa using e),if_pos e];exact uh (by decide)
   ·rw[if_neg (by simpa using e),if_neg e];rfl
 ·simp only[Zm]
  rw[if_neg (by simp)];rfl
theorem amR{l:Layout}{p:Plan}(o:LnOk l p):Pg l p=errs (fun i=>some (Nt p i)) (some 0) p.Turns.length 0:=by
 have hz:=o.sz.tu
 unfold Pg
 refine xM _ _ _ (fun c i hi=>?_) (fun c=>?_) (by omega)
 ·simp only[Zt]
  rw[if_pos (by simp;omega),oM hi,Option.bind_some]
  unfold Nt
  generalize p.Turns.getD i default=x
  unfold Xb
  conv=>lhs;simp only[aot,abT o.toRvOk,vQ,Option.bind_some]
  have hc:(((!ig p x.From)||(!(if (!(!ig p x.From))=true then ig p x.To else default)))||
    (!(if (!((!ig p x.From)||(!(if (!(!ig p x.From))=true then ig p x.To else default))))=true then nP p x.Min x.Max else default)))= !(ig p x.From&&ig p x.To&&nP p x.Min x.Max):=by
   cases ig p x.From<;>cases ig p x.To<;>cases nP p x.Min x.Max<;>rfl
  rw[hc]
  cases hb:(ig p x.From&&ig p x.To&&nP p x.Min x.Max) with
  |false=>rw[Bool.not_false,if_pos rfl,if_pos rfl];exact uh (by decide)
  |true=>
   rw[Bool.not_true,if_neg (by simp),if_neg (by simp),afM (by omega),Option.bind_some,amZ _ _ (by rw[List.length_take];omega),Option.bind_some]
   by_cases h2:((p.Turns.take i).any fun u=>decide (u.From=x.From)||decide (u.To=x.To))=true
   ·rw[if_pos h2,if_pos h2];exact uh (by decide)
   rw[if_neg h2,if_neg h2]
   simp only[Bool.and_eq_true] at hb
   obtain⟨a1,a2,a3⟩:=Gj hb.1.1
   obtain⟨b1,b2,b3⟩:=Gj hb.1.2
   obtain⟨_,l1,l2⟩:=o.ln _ a2
   obtain⟨_,m1,m2⟩:=o.ln _ b2
   have hr:=o.sz.ri _ (kE a2)
   rw[show p.Lines.getD x.From.toNat default=dn p x.From.toNat from rfl] at hr
   rw[a1,Option.bind_some,b1,Option.bind_some]
   simp only[Zu]
   have e1:((dn p x.From.toNat).bD.length:Int)-1=(((dn p x.From.toNat).bD.length-1:Nat):Int):=by omega
   have ra:gQ p x.From ((dn p x.From.toNat).bD.length-1)=iK (dn p x.From.toNat) ((dn p x.From.toNat).bD.length-1):=by
    unfold gQ;rw[e1];rfl
   rw[ra,show gQ p x.To 0=iK (dn p x.To.toNat) 0 from rfl]
   obtain⟨q0,q1⟩:=Wj (l2 ((dn p x.From.toNat).bD.length-1) (by omega))
   obtain⟨t0,t1⟩:=Wj (m2 0 (by omega))
   rw[bH (bO (by omega) (by omega)),e1,oM (by omega),Option.bind_some,tJ (i:=0) (by omega) (by omega),Option.bind_some]
   rw[show (dn p x.From.toNat).bD.getD ((dn p x.From.toNat).bD.length-1) default=iK (dn p x.From.toNat) ((dn p x.From.toNat).bD.length-1) from rfl,
    show (dn p x.To.toNat).bD.getD (0:Int).toNat default=iK (dn p x.To.toNat) 0 from rfl]
   rw[afI o.toRvOk q0 q1,Option.bind_some,afF o.toRvOk t0 t1,Option.bind_some]
   by_cases e:kP (gI p (iK (dn p x.From.toNat) ((dn p x.From.toNat).bD.length-1)))≠nY (gI p (iK (dn p x.To.toNat) 0))∨(dn p x.From.toNat).aQ≠(dn p x.To.toNat).aQ
   ·rw[if_pos (by simpa using e),if_pos e];exact uh (by decide)
   ·rw[if_neg (by simpa using e),if_neg e];rfl
 ·simp only[Zt]
  rw[if_neg (by simp)];rfl
theorem amQ{l:Layout}{p:Plan}(o:LnOk l p):Pf l p=errs (fun i=>some (Ni p i)) (some 0) p.bB.length 0:=by
 have hz:=o.sz.sy
 unfold Pf
 refine xM _ _ _ (fun c i hi=>?_) (fun c=>?_) (by omega)
 ·simp only[Zr]
  rw[if_pos (by simp;omega),oM hi,Option.bind_some]
  unfold Ni
  generalize p.bB.getD i default=x
  unfold Nj
  conv=>lhs;simp only[ahv,vQ,Option.bind_some]
  have hc:(((((!eY p x.mE x.lJ)||(!(if (!(!eY p x.mE x.lJ))=true then eY p x.mM x.lV else default)))||(decide (x.mE=x.mM)&&decide (x.lJ=x.lV)))||decide (x.Offset<0))||decide (p.bJ≤x.Offset))
    = !(eY p x.mE x.lJ&&eY p x.mM x.lV&& !(decide (x.mE=x.mM)&&decide (x.lJ=x.lV))&&decide (0≤x.Offset)&&decide (x.Offset<p.bJ)):=by
   rw[show decide (x.Offset<0)= !decide (0≤x.Offset) by rw[←decide_not];simp,show decide (p.bJ≤x.Offset)= !decide (x.Offset<p.bJ) by rw[←decide_not];simp]
   cases eY p x.mE x.lJ<;>cases eY p x.mM x.lV<;>cases decide (x.mE=x.mM)<;>cases decide (x.lJ=x.lV)<;>cases decide (0≤x.Offset)<;>cases decide (x.Offset<p.bJ)<;>rfl
  rw[hc]
  cases (eY p x.mE x.lJ&&eY p x.mM x.lV&& !(decide (x.mE=x.mM)&&decide (x.lJ=x.lV))&&decide (0≤x.Offset)&&decide (x.Offset<p.bJ)) with
  |false=>rw[Bool.not_false,if_pos rfl,if_pos rfl];exact uh (by decide)
  |true=>rw[Bool.not_true,if_neg (by simp),if_neg (by simp)];rfl
 ·simp only[Zr]
  rw[if_neg (by simp)];rfl
theorem amK{l:Layout}{p:Plan}(hz:p.bA.length≤1000):O5 l p=errs (fun i=>some (KP l p i)) (some 0) p.bA.length 0:=by
 unfold O5
 refine xM _ _ _ (fun c i hi=>?_) (fun c=>?_) (by omega)
 ·simp only[Zn]
  rw[if_pos (by simp;omega),oM hi,Option.bind_some]
  unfold KP
  generalize p.bA.getD i default=x
  unfold KQ
  have hc:((((((decide (x.From<0)||decide ((l.aT.length:Int)≤x.From))||decide (x.To<0))||decide ((l.aT.length:Int)≤x.To))||decide (x.From=x.To))||decide (x.Weight<1))||decide (1048576<x.Weight))
    = !(decide (0≤x.From)&&decide (x.From<(l.aT.length:Int))&&decide (0≤x.To)&&decide (x.To<(l.aT.length:Int))&& !decide (x.From=x.To)&&decide (1≤x.Weight)&&decide (x.Weight≤1048576)):=by
   rw[Bool.eq_iff_iff]
   simp only[Bool.or_eq_true,Bool.not_eq_true',Bool.and_eq_false_imp,Bool.and_eq_true,decide_eq_true_eq,decide_eq_false_iff_not,Bool.not_eq_false']
   omega
  rw[hc]
  cases (decide (0≤x.From)&&decide (x.From<(l.aT.length:Int))&&decide (0≤x.To)&&decide (x.To<(l.aT.length:Int))&& !decide (x.From=x.To)&&decide (1≤x.Weight)&&decide (x.Weight≤1048576)) with
  |false=>rw[Bool.not_false,if_pos rfl,if_pos rfl];exact uh (by decide)
  |true=>rw[Bool.not_true,if_neg (by simp),if_neg (by simp)];rfl
 ·simp only[Zn]
  rw[if_neg (by simp)];rfl
theorem amO(l:Layout)(p:Plan):O9 l p=some (Et l p):=by
 unfold O9 Oy Et
 simp only[Option.bind_some]
 by_cases h0:jB (dZ l)=0
 ·rw[if_neg (by simp[h0]),if_neg (show ¬jB (dZ l)≠0 from fun h=>h h0)]
  have hbad:¬Sz p→Ef p true=some (if ¬Sz p then 7 else if p.bJ<2∨7200<p.bJ then 4 else 0):=fun h=>by rw[if_pos h];rfl
  by_cases a1:8<p.aP.length
  ·rw[if_pos (by simp;omega),decide_eq_true (by omega)];exact hbad (fun h=>by have:=h.st;omega)
  rw[if_neg (by simp;omega)]
  by_cases a2:48<p.Routes.length
  ·rw[if_pos (by simp;omega),decide_eq_true (by omega)];exact hbad (fun h=>by have:=h.ro;omega)
  rw[if_neg (by simp;omega)]
  by_cases a3:16<p.Lines.length
  ·rw[if_pos (by simp;omega),decide_eq_true (by omega)];exact hbad (fun h=>by have:=h.li;omega)
  rw[if_neg (by simp;omega)]
  by_cases a4:32<p.Changes.length
  ·rw[if_pos (by simp;omega),decide_eq_true (by omega)];exact hbad (fun h=>by have:=h.ch;omega)
  rw[if_neg (by simp;omega)]
  by_cases a5:32<p.Turns.length
  ·rw[if_pos (by simp;omega),decide_eq_true (by omega)];exact hbad (fun h=>by have:=h.tu;omega)
  rw[if_neg (by simp;omega)]
  by_cases a6:32<p.bB.length
  ·rw[if_pos (by simp;omega),decide_eq_true (by omega)];exact hbad (fun h=>by have:=h.sy;omega)
  rw[if_neg (by simp;omega)]
  by_cases a7:32<p.bA.length
  ·rw[decide_eq_true (by omega)];exact hbad (fun h=>by have:=h.de;omega)
  rw[decide_eq_false (by omega)]
  unfold Ef
  rw[if_neg (by simp)]
  have:=jF (B:=UH p) (fun (_:Unit) i=>i) p.Lines (fun _ i=>∀x∈p.Lines.take i,x.bD.length≤12)
   (fun _ q=>some (if (¬∀x∈q,x.bD.length≤12) then (7:Int) else if p.bJ<2∨7200<p.bJ then 4 else 0)) ?_ ?_ FUEL () 0 (by simp) (by omega) (fD (by omega))
  ·rw[this,List.drop_zero]
   congr 1
   by_cases hr:∀x∈p.Lines,x.bD.length≤12
   ·have hs:Sz p:=⟨by omega,by omega,by omega,by omega,by omega,by omega,by omega,hr⟩
    rw[if_neg (show ¬¬∀x∈p.Lines,x.bD.length≤12 from fun h=>h hr),if_neg (show ¬¬Sz p from fun h=>h hs)]
   ·rw[if_pos hr,if_pos (fun h=>hr h.ri)]
  ·intro c _ i x q hI hdr hi hx hk
   simp only[UH]
   rw[if_pos (by simp;omega),hx,Option.bind_some]
   by_cases IX:12<x.bD.length
   ·rw[if_pos (by simp;omega),if_pos (fun h=>by have:=h x List.mem_cons_self;omega)]
   ·have ht:p.Lines.take (i+1)=p.Lines.take i++[x]:=by
     rw[List.take_succ_eq_append_getElem hi]
     rw[kF,List.getElem?_eq_getElem hi] at hx
     cases hx;rfl
    rw[if_neg (by simp;omega),hk () (by
     intro y hy;rw[ht] at hy
     rcases List.mem_append.1 hy with h|h
     ·exact hI y h
     ·rw[List.mem_singleton.1 h];omega)]
    congr 1
    by_cases hq:∀y∈q,y.bD.length≤12
    ·have hxq:∀y∈x::q,y.bD.length≤12:=fun y hy=>by
      rcases List.mem_cons.1 hy with e|e
      ·rw[e];omega
      ·exact hq y e
     rw[if_neg (show ¬¬∀y∈q,y.bD.length≤12 from fun h=>h hq),if_neg (show ¬¬∀y∈x::q,y.bD.length≤12 from fun h=>h hxq)]
    ·rw[if_pos hq,if_pos (fun h=>hq fun y hy=>h y (List.mem_cons_of_mem _ hy))]
  ·intro c _ hI
   simp only[UH]
   rw[if_neg (by simp)]
   unfold aeA
   rw[if_neg (show ¬¬∀y∈([]:List Line),y.bD.length≤12 from fun h=>h (fun y hy=>by cases hy))]
   by_cases hp:p.bJ<2∨7200<p.bJ
   ·rw[if_pos (by simpa using hp),if_pos hp]
   ·rw[if_neg (by simpa using hp),if_neg hp]
 ·rw[if_pos (by simpa using h0),if_pos h0]
theorem amT(l:Layout)(p:Plan):O1 l p=Aa l p:=by
 unfold O1
 rw[xM 8 (fun i=>(idx ([32,33,34,35,36,37,38,39]:List Nat) (i:Int)).bind fun x=>Zl x l p) (some 0) (fun c i hi=>?_) (fun c=>?_) (by omega)]
 ·show ((O9 l p).bind fun e=>if decide (e≠0) then some e else (Pb l p).bind fun e=>if decide (e≠0) then some e else (O8 l p).bind fun e=>if decide (e≠0) then some e else
   (O6 l p).bind fun e=>if decide (e≠0) then some e else (O4 l p).bind fun e=>if decide (e≠0) then some e else (Pg l p).bind fun e=>if decide (e≠0) then some e else
   (Pf l p).bind fun e=>if decide (e≠0) then some e else (O5 l p).bind fun e=>if decide (e≠0) then some e else some 0)=Aa l p
  unfold Aa
  rw[amO,Option.bind_some]
  by_cases h0:Et l p=0
  ·obtain⟨hz,hp,hc⟩:=ali h0
   rw[if_neg (by simp[h0]),if_neg (by simp[h0]),amP l p (by have:=hz.st;omega),Iy]
   refine Ar _ _ (fun _ _ _ _=>rfl) (fun _=>?_)
   rw[amN l p (by have:=hz.ro;omega),Iy]
   refine Ar _ _ (fun _ _ _ _=>rfl) (fun hR=>?_)
   have o:RvOk l p:=⟨hz,hp,hc,fun r hr=>by
    obtain⟨i,hi,rfl⟩:=List.getElem_of_mem hr
    have:=Option.some.inj (hR i (by omega) (by omega))
    unfold aay at this
    rwa [getD_lt hi] at this⟩
   rw[amL o,Iy]
   refine Ar _ _ (fun _ _ _ _=>rfl) (fun hL=>?_)
   have o':=aec o hL
   rw[amJ o',Iy]
   refine Ar _ _ (fun _ _ _ _=>rfl) (fun _=>?_)
   rw[amR o',Iy]
   refine Ar _ _ (fun _ _ _ _=>rfl) (fun _=>?_)
   rw[amQ o',Iy]
   refine Ar _ _ (fun _ _ _ _=>rfl) (fun _=>?_)
   rw[amK (by have:=hz.de;omega),Iy]
  ·rw[if_pos (by simpa using h0),if_pos (by simpa using h0)]
 ·simp only[Zk]
  rw[if_pos (by simp;omega),Option.bind_assoc]
 ·simp only[Zk]
  rw[if_neg (by simp)];rfl
theorem ES(n hi:Int):rG n 0 (hi-1)=some (decide (0≤n)&&decide (n<hi)):=by
 unfold rG
 rw[show decide (n≤hi-1)=decide (n<hi) from by rw[Bool.eq_iff_iff];simp only[decide_eq_true_eq];omega]
theorem abS{l:Layout}{p:Plan}(o:RvOk l p)(lo hi:Int):MV p lo hi=some (nP p lo hi):=by
 have hp:=o.per
 unfold MV nP
 have hw:0≤lo→lo≤7200→IntKind.i64.wrap (lo+p.bJ)=lo+p.bJ:=fun h0 h1=>by
  rw[IntKind.wrap_i64];omega
 congr 1
 rw[Bool.eq_iff_iff]
 simp only[Bool.and_eq_true,decide_eq_true_eq]
 constructor
 ·rintro⟨⟨⟨a,b⟩,c⟩,d⟩
  rw[hw a (by omega)] at c
  exact⟨⟨⟨a,b⟩,d⟩,c⟩
 ·rintro⟨⟨⟨a,b⟩,d⟩,c⟩
  exact⟨⟨⟨a,b⟩,by rw[hw a (by omega)];exact c⟩,d⟩
theorem ak9(s:aQ):Qe s=some (uU s):=by
 have e:uU s=((((decide (1≤s.Length)&&decide (s.Length≤40))&&(decide (1000≤s.qV)&&decide (s.qV≤100000)))&&(decide (100≤s.qQ)&&decide (s.qQ≤2000)))&&(decide (100≤s.qR)&&decide (s.qR≤2000))):=by
  unfold uU;simp only[Bool.and_assoc]
 rw[e]
 unfold Qe Fp
 simp only[Option.bind_some,vQ]
 generalize (decide (1≤s.Length)&&decide (s.Length≤40))=a
 generalize (decide (1000≤s.qV)&&decide (s.qV≤100000))=b
 generalize (decide (100≤s.qQ)&&decide (s.qQ≤2000))=c
 generalize (decide (100≤s.qR)&&decide (s.qR≤2000))=d
 cases a<;>cases b<;>cases c<;>cases d<;>rfl
theorem awz(p:Plan)(hz:p.aP.length≤8)(i:Nat)(hi:i<p.aP.length):Qx p (i:Int)=some (Nh p i):=by
 unfold Qx Nh
 rw[oM hi,Option.bind_some,aeh,Option.bind_some]
 by_cases h1:kW (p.aP.getD i default).Name.ba=false
 ·rw[if_pos h1,if_pos (by rw[h1];rfl)]
 rw[if_neg h1,if_neg (by simpa using h1)]
 have hlt:(p.aP.take i).length=i:=by rw[List.length_take];omega
 rw[Y1 (p.aP.take i) (fun t=>decide (t.Name=(p.aP.getD i default).Name)) (some 5) (if uU (p.aP.getD i default)=false then some 4 else some 0) (fun c j x hx hj=>?_) (fun c=>?_) (by omega)]
 ·by_cases h2:((p.aP.take i).any fun t=>decide (t.Name=(p.aP.getD i default).Name))=true
  ·rw[if_pos h2,if_pos h2]
  ·rw[if_neg h2,if_neg h2];split<;>rfl
 ·simp only[aau]
  rw[if_pos (by simp;omega),YZ hx,Option.bind_some,oM hi,Option.bind_some,bH (bO (by omega) (by omega))]
 ·simp only[aau]
  rw[hlt,if_neg (by simp)]
  unfold afh
  rw[oM hi,Option.bind_some,ak9,Option.bind_some]
  cases uU (p.aP.getD i default)<;>rfl
theorem anw(l:Layout)(r:aG)(s:aQ):VE l r s=some (EM l r s):=by
 unfold VE EM
 rw[au4,Option.bind_some]
 by_cases h0:(yD l r).2.2=0
 ·rw[if_neg (by simp[h0]),if_neg (by simp[h0]),ak9,Option.bind_some]
  have o:=agM h0
  cases hs:uU s with
  |false=>rfl
  |true=>
   rw[if_neg (by simp),if_neg (by simp)]
   have hn:=o.len;have hv:=o.ov;have h2:=o.two
   have hT:∀x∈uV r,jv l x=true:=fun x hx=>o.st x (List.mem_of_mem_take hx)
   have hl:(uV r).length=((r.Steps.length:Int)-r.Overlap).toNat:=by unfold uV;rw[List.length_take];omega
   rw[Y1 (uV r) (fun st=>decide ((iV l st).Length<(if s.Length>2 then s.Length else 2))) (some 12) (some 0) (fun c j x hx hj=>?_) (fun c=>?_) (by omega)]
   ·cases ((uV r).any fun st=>decide ((iV l st).Length<(if s.Length>2 then s.Length else 2)))<;>rfl
   ·simp only[Z4]
    have hm:x∈uV r:=List.mem_of_getElem? (by rw[kF] at hx;exact hx)
    rw[bH (bO (by omega) (by omega)),if_pos (by simp;omega),YZ hx,Option.bind_some,(M8 o.v (hT x hm)).1,Option.bind_some,bH (bO (by omega) (by omega))]
   ·simp only[Z4]
    rw[bH (bO (by omega) (by omega)),if_neg (by simp;omega)]
    rfl
 ·rw[if_pos (by simp[h0]),if_pos h0]
theorem afE{l:Layout}{r:aG}(o:yx l r):MS r=some (nY r):=by
 unfold MS;rw[ak6 o,Option.bind_some];rfl
theorem afH{l:Layout}{r:aG}(o:yx l r):MU r=some (kP r):=by
 have:=o.len;have:=o.ov
 unfold MU
 rw[bH (bO (by omega) (by omega)),bH (bO (by omega) (by omega)),alb o,Option.bind_some];rfl
theorem amB(a1 a2 e1 e2 bn la m1 m2:Bool):(((!(a1&&a2))||(!(if (!(!(a1&&a2)))=true then (e1&&e2) else default)))||(!(if (!((!(a1&&a2))||(!(if (!(!(a1&&a2)))=true then (e1&&e2) else default))))=true then bn else default))||(la&&(m1||m2)))
  = !(a1&&a2&&e1&&e2&&bn&& !(la&&(m1||m2))):=by
 cases a1<;>cases a2<;>cases e1<;>cases e2<;>cases bn<;>cases la<;>cases m1<;>cases m2<;>rfl
theorem avk{l:Layout}{p:Plan}(o:RvOk l p)(x:Line)(hs:0≤x.aQ∧x.aQ<(p.aP.length:Int))(hx:x.bD.length≤12):
  iter (VT x p l) FUEL 0=errs (fun k=>some (vK l p x k)) (some 0) x.bD.length 0:=by
 have hp:=o.per;have hz:=o.sz.ro
 refine arU _ _ _ (fun c k hk SS=>?_) (fun c=>?_) (by omega)
 ·simp only[VT]
  rw[if_pos (by simp;omega),oM hk,Option.bind_some,show x.bD.getD k default=iK x k from rfl,bH (bO (by omega) (by omega)),bH (bO (by omega) (by omega)),ES,Option.bind_some,
   bH (by simp[aX];omega),ES,vQ,Option.bind_some,abS o,vQ,Option.bind_some,amB]
  have e:(decide ((k:Int)=(x.bD.length:Int)-1))=decide (k+1=x.bD.length):=by
   rw[Bool.eq_iff_iff];simp only[decide_eq_true_eq];omega
  rw[e]
  rw[show (decide (0≤(iK x k).aG)&&decide ((iK x k).aG<(p.Routes.length:Int))&&decide (0≤(iK x k).Extra)&&decide ((iK x k).Extra<p.bJ)&&nP p (iK x k).Min (iK x k).Max&& !(decide (k+1=x.bD.length)&&(decide ((iK x k).Min≠0)||decide ((iK x k).Max≠0))))=uO p x k (iK x k) from rfl]
  unfold vK
  cases hb:uO p x k (iK x k) with
  |false=>rw[Bool.not_false,if_pos rfl,if_pos rfl];exact uh (by decide)
  |true=>
   obtain⟨r0,r1⟩:=afk hb
   have hR:=Jf o r0 r1
   rw[Bool.not_true,if_neg (by simp),if_neg (by simp),hR.1,Option.bind_some,tJ hs.1 hs.2,Option.bind_some,anw,Option.bind_some]
   by_cases f0:EM l (gI p (iK x k)) (p.aP.getD x.aQ.toNat default)=0
   ·rw[if_neg (by rw[f0];simp),if_neg (fun h=>h f0)]
    by_cases k0:0<k
    ·have e1:((k:Int)-1)=((k-1:Nat):Int):=by omega
     obtain⟨q0,q1⟩:=Wj (Option.some.inj (SS (k-1) (by omega)))
     have hQ:=Jf o q0 q1
     have g:decide (0<(k:Int))=true:=by simp;omega
     rw[jP g,Option.bind_some,if_pos g,bH (bO (by omega) (by omega)),e1,oM (by omega),Option.bind_some,show x.bD.getD (k-1) default=iK x (k-1) from rfl,hQ.1,Option.bind_some,afE hR.2,Option.bind_some,afH hQ.2,Option.bind_some,g,Bool.true_and]
     by_cases e:nY (gI p (iK x k))=kP (gI p (iK x (k-1)))
     ·rw[if_neg (by simp[e]),if_neg (by simp[e]),bH (bO (by omega) (by omega))];rfl
     ·rw[if_pos (by simpa using e),if_pos ⟨k0,e⟩];exact uh (by decide)
    ·have g:decide (0<(k:Int))=false:=by simp;omega
     rw[oU g,Option.bind_some,if_neg (by rw[g];simp),if_neg (fun h=>k0 h.1),bH (bO (by omega) (by omega))];rfl
   ·rw[if_pos (by simpa using f0),if_pos f0];exact uh f0
 ·simp only[VT]
  rw[if_neg (by simp)];rfl
theorem ah9{l:Layout}{p:Plan}(o:RvOk l p)(i:Nat)(hi:i<p.Lines.length):Qr l p (i:Int)=Cq l p i:=by
 have hz:=o.sz.li;have hst:=o.sz.st
 have hr:(dn p i).bD.length≤12:=o.sz.ri _ (kE hi)
 unfold Qr Cq
 rw[oM hi,Option.bind_some,show p.Lines.getD i default=dn p i from rfl,aeh,Option.bind_some]
 by_cases h1:kW (dn p i).Name.ba=false
 ·rw[if_pos h1,if_pos (by rw[h1];rfl)]
 rw[if_neg h1,if_neg (by simpa using h1)]
 have hlt:(p.Lines.take i).length=i:=by rw[List.length_take];omega
 rw[Y1 (p.Lines.take i) (fun t=>decide (t.Name=(dn p i).Name)) (some 5) (aam p (dn p i) l ()) (fun c j x hx hj=>?_) (fun c=>?_) (by omega)]
 ·by_cases h2:((p.Lines.take i).any fun t=>decide (t.Name=(dn p i).Name))=true
  ·rw[if_pos h2,if_pos h2]
  rw[if_neg h2,if_neg h2]
  unfold aam
  rw[bH (bO (by omega) (by omega)),ES,Option.bind_some,show rG (dn p i).Weight 0 1048576=some (wB (dn p i).Weight) from rfl,vQ,Option.bind_some]
  cases ha:(decide (0≤(dn p i).aQ)&&decide ((dn p i).aQ<(p.aP.length:Int))) with
  |false=>rfl
  |true=>
   cases hw:wB (dn p i).Weight with
   |false=>rfl
   |true=>
    simp only[Bool.and_eq_true,decide_eq_true_eq] at ha
    rw[if_neg (by simp),if_neg (show ¬((true&&true)=false) by simp)]
    by_cases h0:(dn p i).bD.length=0
    ·rw[if_pos (by simp[h0]),if_pos h0]
    ·rw[if_neg (by simp;intro e;exact h0 (by rw[e];rfl)),if_neg h0,avk o _ ha hr]
 ·simp only[aal]
  rw[if_pos (by simp;omega),YZ hx,Option.bind_some,bH (bO (by omega) (by omega))]
 ·simp only[aal]
  rw[hlt,if_neg (by simp)]
theorem afj{p:Plan}(z:Sz p)(i k:Int):JE p i k=some (eY p i k):=by
 have hz:=z.li
 unfold JE eY
 rw[bH (bO (by omega) (by omega)),ES,Option.bind_some,show (decide (0≤i)&&decide (i<(p.Lines.length:Int)))=ig p i from rfl]
 cases h:ig p i with
 |false=>rw[oU rfl,Option.bind_some];rfl
 |true=>
  obtain⟨a,b,_⟩:=Gj h
  have hr:(dn p i.toNat).bD.length≤12:=z.ri _ (kE b)
  rw[jP rfl,a,Option.bind_some,if_pos rfl,bH (bO (by omega) (by omega)),ES,Option.bind_some]
  rfl
theorem aaz{l:Layout}{p:Plan}(o:LnOk l p){i k:Int}(h:eY p i k=true):JB p i k=some (gI p (gQ p i k))∧yx l (gI p (gQ p i k)):=by
 obtain⟨a1,a2,a3,a4⟩:=acJ o h
 have:=Jf o.toRvOk a3 a4
 unfold JB
 rw[a1,Option.bind_some,a2,Option.bind_some,this.1,Option.bind_some]
 exact⟨rfl,this.2⟩
theorem awy{l:Layout}{p:Plan}(o:RvOk l p){r:aG}(hr:yx l r){s:Step}(hs:s∈r.Steps): -1≤pG l s.Section:=by
 have v:=alq o.ck
 have h:=hr.st s hs
 unfold jv at h
 simp only[Bool.and_eq_true,decide_eq_true_eq] at h
 exact (v.scs _ (kE (by omega))).1
theorem amG{l:Layout}{p:Plan}(o:LnOk l p)(x:Change):Qq l p x=some (Iq l p x):=by
 unfold Qq Iq
 simp only[afj o.sz,abS o.toRvOk,show rG x.Weight 0 1048576=some (wB x.Weight) from rfl,vQ,Option.bind_some]
 have hc:(((((!eY p x.fV x.iy)||(!(if (!(!eY p x.fV x.iy))=true then eY p x.iG x.kQ else default)))||decide (x.fV=x.iG))||
   (!(if (!(((!eY p x.fV x.iy)||(!(if (!(!eY p x.fV x.iy))=true then eY p x.iG x.kQ else default)))||decide (x.fV=x.iG)))=true then nP p x.Min x.Max else default)))||
   (!(if (!((((!eY p x.fV x.iy)||(!(if (!(!eY p x.fV x.iy))=true then eY p x.iG x.kQ else default)))||decide (x.fV=x.iG))||
   (!(if (!(((!eY p x.fV x.iy)||(!(if (!(!eY p x.fV x.iy))=true then eY p x.iG x.kQ else default)))||decide (x.fV=x.iG)))=true then nP p x.Min x.Max else default))))=true then wB x.Weight else default)))= !zJ p x:=by
  unfold zJ
  cases eY p x.fV x.iy<;>cases eY p x.iG x.kQ<;>cases decide (x.fV=x.iG)<;>cases nP p x.Min x.Max<;>cases wB x.Weight<;>rfl
 rw[hc]
 cases hb:zJ p x with
 |false=>rfl
 |true=>
  rw[Bool.not_true,if_neg (by simp),if_neg (by simp)]
  unfold zJ at hb
  simp only[Bool.and_eq_true] at hb
  obtain⟨a1,a2⟩:=aaz o hb.1.1.1.1
  obtain⟨b1,b2⟩:=aaz o hb.1.1.1.2
  rw[a1,Option.bind_some,afH a2,Option.bind_some,akA a2,Option.bind_some,b1,Option.bind_some,afE b2,Option.bind_some,akz b2,Option.bind_some]
  have hge: -1≤pG l (kP (gI p (gQ p x.fV x.iy))):=awy o.toRvOk a2 (kE (by have:=a2.two;have:=a2.ov;omega))
  rw[show (l.Sections.getD (kP (gI p (gQ p x.fV x.iy))).toNat default).nH=pG l (kP (gI p (gQ p x.fV x.iy))) from rfl,
   show (l.Sections.getD (nY (gI p (gQ p x.iG x.kQ))).toNat default).nH=pG l (nY (gI p (gQ p x.iG x.kQ))) from rfl]
  have e9:decide (pG l (kP (gI p (gQ p x.fV x.iy)))<0)=decide (pG l (kP (gI p (gQ p x.fV x.iy)))= -1)∨0≤pG l (kP (gI p (gQ p x.fV x.iy))):=by
   by_cases h:0≤pG l (kP (gI p (gQ p x.fV x.iy)))
   ·exact .inr h
   ·left;rw[Bool.eq_iff_iff];simp only[decide_eq_true_eq];omega
  by_cases e:pG l (kP (gI p (gQ p x.fV x.iy)))= -1∨pG l (kP (gI p (gQ p x.fV x.iy)))≠pG l (nY (gI p (gQ p x.iG x.kQ)))
  ·rw[if_pos (by simp only[Bool.or_eq_true,decide_eq_true_eq];omega),if_pos e]
  ·rw[if_neg (by simp only[Bool.or_eq_true,decide_eq_true_eq];omega),if_neg e]
theorem awU{l:Layout}{p:Plan}(o:LnOk l p)(i:Nat)(hi:i<p.Turns.length):Qy p (i:Int)=some (Nt p i):=by
 have hz:=o.sz.tu;have hli:=o.sz.li
 unfold Qy Nt
 rw[oM hi,Option.bind_some]
 have hlt:(p.Turns.take i).length=i:=by rw[List.length_take];omega
 generalize p.Turns.getD i default=x
 unfold Xb
 rw[bH (bO (by omega) (by omega)),ES,Option.bind_some,bH (by simp[aX];omega),ES,vQ,Option.bind_some,abS o.toRvOk,vQ,Option.bind_some]
 rw[show (decide (0≤x.From)&&decide (x.From<(p.Lines.length:Int)))=ig p x.From from rfl,show (decide (0≤x.To)&&decide (x.To<(p.Lines.length:Int)))=ig p x.To from rfl]
 have hc:(((!ig p x.From)||(!(if (!(!ig p x.From))=true then ig p x.To else default)))||
   (!(if (!((!ig p x.From)||(!(if (!(!ig p x.From))=true then ig p x.To else default))))=true then nP p x.Min x.Max else default)))= !(ig p x.From&&ig p x.To&&nP p x.Min x.Max):=by
  cases ig p x.From<;>cases ig p x.To<;>cases nP p x.Min x.Max<;>rfl
 rw[hc]
 cases hb:(ig p x.From&&ig p x.To&&nP p x.Min x.Max) with
 |false=>rfl
 |true=>
  rw[Bool.not_true,if_neg (by simp),if_neg (by simp)]
  simp only[Bool.and_eq_true] at hb
  obtain⟨a1,a2,a3⟩:=Gj hb.1.1
  obtain⟨b1,b2,b3⟩:=Gj hb.1.2
  obtain⟨_,l1,l2⟩:=o.ln _ a2
  obtain⟨_,m1,m2⟩:=o.ln _ b2
  have hr:(dn p x.From.toNat).bD.length≤12:=o.sz.ri _ (kE a2)
  have hF:eY p x.From ((dn p x.From.toNat).bD.length-1)=true:=by
   unfold eY;rw[hb.1.1];simp;omega
  have hT:eY p x.To 0=true:=by
   unfold eY;rw[hb.1.2];simp;omega
  obtain⟨q1,q2⟩:=aaz o hF
  obtain⟨t1,t2⟩:=aaz o hT
  rw[Y1 (p.Turns.take i) (fun u=>decide (u.From=x.From)||decide (u.To=x.To)) (some 5) (if kP (gI p (gQ p x.From ((dn p x.From.toNat).bD.length-1)))≠nY (gI p (gQ p x.To 0))∨(dn p x.From.toNat).aQ≠(dn p x.To.toNat).aQ then some 11 else some 0) (fun c j u hu hj=>?_) (fun c=>?_) (by omega)]
  ·by_cases h2:((p.Turns.take i).any fun u=>decide (u.From=x.From)||decide (u.To=x.To))=true
   ·rw[if_pos h2,if_pos h2]
   ·rw[if_neg h2,if_neg h2];split<;>rfl
  ·simp only[aav]
   rw[if_pos (by simp;omega),YZ hu,Option.bind_some,vQ,Option.bind_some,bH (bO (by omega) (by omega))]
   cases h:decide (u.From=x.From)<;>rfl
  ·simp only[aav]
   rw[hlt,if_neg (by simp)]
   unfold afi
   rw[a1,Option.bind_some,b1,Option.bind_some]
   simp only[aaw]
   rw[bH (bO (by omega) (by omega)),q1,Option.bind_some,afH q2,Option.bind_some,t1,Option.bind_some,afE t2,Option.bind_some]
   by_cases e:kP (gI p (gQ p x.From ((dn p x.From.toNat).bD.length-1)))≠nY (gI p (gQ p x.To 0))∨(dn p x.From.toNat).aQ≠(dn p x.To.toNat).aQ
   ·rw[if_pos (by simpa using e),if_pos e]
   ·rw[if_neg (by simpa using e),if_neg e]
theorem anE(p:Plan):VR p=some (!decide (Sz p)):=by
 unfold VR
 by_cases hc:((((((8<p.aP.length∨48<p.Routes.length)∨16<p.Lines.length)∨32<p.Changes.length)∨32<p.Turns.length)∨32<p.bB.length)∨32<p.bA.length)
 ·rw[if_pos (by simp only[Bool.or_eq_true,decide_eq_true_eq];omega)]
  rw[decide_eq_false (fun z:Sz p=>by have:=z.st;have:=z.ro;have:=z.li;have:=z.ch;have:=z.tu;have:=z.sy;have:=z.de;omega)];rfl
 ·rw[if_neg (by simp only[Bool.or_eq_true,decide_eq_true_eq];omega)]
  have:=jF (B:=VQ p) (fun (_:Unit) i=>i) p.Lines (fun _ _=>True) (fun _ q=>some (q.any fun x=>decide (12<x.bD.length))) ?_ ?_ FUEL () 0 trivial (by omega) (fD (by omega))
  ·rw[this,List.drop_zero]
   congr 1
   by_cases hz:∃x∈p.Lines,12<x.bD.length
   ·rw[List.any_eq_true.2 (by simpa using hz)]
    obtain⟨x,h1,h2⟩:=hz
    rw[decide_eq_false (fun z:Sz p=>by have:=z.ri x h1;omega)];rfl
   ·have hz':∀x∈p.Lines,x.bD.length≤12:=fun x hx=>by
     exact Nat.not_lt.1 (fun h=>hz ⟨x,hx,h⟩)
    rw[List.any_eq_false.2 (fun x hx=>by have:=hz' x hx;simp;omega)]
    rw[decide_eq_true (show Sz p from⟨by omega,by omega,by omega,by omega,by omega,by omega,by omega,hz'⟩)];rfl
  ·intro c _ i x q _ hdr hi hx hk
   simp only[VQ]
   rw[if_pos (by simp;omega),hx,Option.bind_some]
   by_cases h12:12<x.bD.length
   ·rw[if_pos (by simp;omega)];simp[h12]
   ·rw[if_neg (by simp;omega),bH (bO (by omega) (by omega)),hk () trivial];simp[h12]
  ·intro c _ _
   simp only[VQ]
   rw[if_neg (by simp)];rfl
theorem RY{g:Option Int}{i:Nat}(h:i≤1000000)(c:Option Int):(g.bind fun y=>if decide (y≠0) then some y else aO (aX ((i:Int)+1)) c)=g.bind fun e=>if decide (e≠0) then some e else c:=by
 rw[bH (bO (by omega) (by omega))]
theorem agP(l:Layout)(p:Plan):Qg l p=Aa l p:=by
 unfold Qg Aa Et
 rw[abW,Option.bind_some]
 by_cases h0:jB (dZ l)=0
 ·rw[if_neg (by simp[h0]),anE,Option.bind_some]
  simp only[h0,ne_eq,not_true_eq_false,if_false]
  by_cases hz:Sz p
  ·rw[decide_eq_true hz,Bool.not_true,if_neg (by simp)]
   simp only[hz,not_true_eq_false,if_false]
   rw[show rG p.bJ 2 7200=some (decide (2≤p.bJ)&&decide (p.bJ≤7200)) from rfl,Option.bind_some]
   by_cases hp:p.bJ<2∨7200<p.bJ
   ·rw[if_pos (by simp;omega)]
    simp only[hp,if_true]
    rfl
   ·rw[if_neg (by simp;omega)]
    simp only[hp,if_false]
    rw[if_neg (by simp)]
    have s1:=hz.st;have s2:=hz.ro;have s3:=hz.li;have s4:=hz.ch;have s5:=hz.tu;have s6:=hz.sy;have s7:=hz.de
    rw[xM p.aP.length (fun i=>Qx p (i:Int)) (aae p l ()) (fun c i hi=>by
     simp only[Z5];rw[if_pos (by simp;omega),RY (by omega)]) (fun c=>by simp only[Z5];rw[if_neg (by simp)]) (by omega)]
    refine Ar _ _ (fun i _ hi _=>awz p s1 i (by omega)) (fun _=>?_)
    unfold aae
    rw[xM p.Routes.length (fun i=>(idx p.Routes (i:Int)).bind fun x=>MP l x) (aaf p l ()) (fun c i hi=>by
     simp only[Z6];rw[if_pos (by simp;omega),Option.bind_assoc,oM hi,Option.bind_some,Option.bind_some,RY (by omega)]) (fun c=>by simp only[Z6];rw[if_neg (by simp)]) (by omega)]
    refine Ar _ _ (fun i _ hi _=>by rw[oM (by omega),Option.bind_some,abV];rfl) (fun hR=>?_)
    have o:RvOk l p:=⟨hz,by omega,h0,fun r hr=>by
     obtain⟨i,hi,rfl⟩:=List.getElem_of_mem hr
     have:=hR i (by omega) (by omega)
     rw[oM hi,Option.bind_some,abV,getD_lt hi] at this
     exact Option.some.inj this⟩
    unfold aaf
    rw[xM p.Lines.length (fun i=>Qr l p (i:Int)) (aag p l ()) (fun c i hi=>by
     simp only[Z7];rw[if_pos (by simp;omega),RY (by omega)]) (fun c=>by simp only[Z7];rw[if_neg (by simp)]) (by omega)]
    refine Ar _ _ (fun i _ hi _=>ah9 o i (by omega)) (fun hL=>?_)
    have o':LnOk l p:=aec o (fun j a b=>by rw[←ah9 o j (by omega)];exact hL j a b)
    unfold aag
    rw[xM p.Changes.length (fun i=>(idx p.Changes (i:Int)).bind fun x=>Qq l p x) (aah p l ()) (fun c i hi=>by
     simp only[Z8];rw[if_pos (by simp;omega),Option.bind_assoc,oM hi,Option.bind_some,Option.bind_some,RY (by omega)]) (fun c=>by simp only[Z8];rw[if_neg (by simp)]) (by omega)]
    refine Ar _ _ (fun i _ hi _=>by rw[oM (by omega),Option.bind_some,amG o'];rfl) (fun _=>?_)
    unfold aah
    rw[xM p.Turns.length (fun i=>Qy p (i:Int)) (aai p l ()) (fun c i hi=>by
     simp only[Z9];rw[if_pos (by simp;omega),RY (by omega)]) (fun c=>by simp only[Z9];rw[if_neg (by simp)]) (by omega)]
    refine Ar _ _ (fun i _ hi _=>awU o' i (by omega)) (fun _=>?_)
    unfold aai
    rw[xM p.bB.length (fun i=>some (Ni p i)) (aaj p l ()) (fun c i hi=>?_) (fun c=>by simp only[aac];rw[if_neg (by simp)]) (by omega)]
    ·refine Ar _ _ (fun i _ hi _=>rfl) (fun _=>?_)
     unfold aaj
     rw[xM p.bA.length (fun i=>some (KP l p i)) (ae7 ()) (fun c i hi=>?_) (fun c=>by simp only[aad];rw[if_neg (by simp)]) (by omega)]
     ·rfl
     ·simp only[aad]
      have hst:=(abx h0).full.1
      rw[if_pos (by simp;omega),oM hi,Option.bind_some]
      unfold KP
      generalize p.bA.getD i default=x
      unfold KQ
      rw[bH (bO (by omega) (by omega)),ES,Option.bind_some,bH (by simp[aX];omega),ES,vQ,Option.bind_some,show rG x.Weight 1 1048576=some (decide (1≤x.Weight)&&decide (x.Weight≤1048576)) from rfl,vQ,Option.bind_some,bH (bO (by omega) (by omega))]
      cases decide (0≤x.From)<;>cases decide (x.From<(l.aT.length:Int))<;>cases decide (0≤x.To)<;>cases decide (x.To<(l.aT.length:Int))<;>cases decide (x.From=x.To)<;>cases decide (1≤x.Weight)<;>cases decide (x.Weight≤1048576)<;>rfl
    ·simp only[aac]
     have hp2:=o.per
     rw[if_pos (by simp;omega),oM hi,Option.bind_some]
     unfold Ni
     generalize p.bB.getD i default=x
     unfold Nj
     rw[afj hz,Option.bind_some,afj hz,vQ,Option.bind_some,bH (by simp[aX];omega),ES,vQ,Option.bind_some,bH (bO (by omega) (by omega))]
     cases eY p x.mE x.lJ<;>cases eY p x.mM x.lV<;>cases decide (x.mE=x.mM)<;>cases decide (x.lJ=x.lV)<;>cases decide (0≤x.Offset)<;>cases decide (x.Offset<p.bJ)<;>rfl
  ·rw[decide_eq_false hz,Bool.not_false,if_pos rfl]
   simp only[hz,not_false_eq_true,if_true]
   rfl
 ·rw[if_pos (by simpa using h0)]
  simp only[h0,ne_eq,not_false_eq_true,if_true]
  rfl
set_option maxRecDepth 10000
theorem bV{α β:Type}{o:Option α}{x:α}{K:α→Option β}{r:Option β}(h:o=some x)(h2:K x=r):o.bind K=r:=by rw[h];exact h2
def nI(v:Int):Str:=⟨Lib.itoa v⟩
def Mg:Str:=⟨[112,101,114,105,111,100]⟩
def Na:Str:=⟨[115,116,111,99,107]⟩
def GY:Str:=⟨[114,111,117,116,101]⟩
def LZ:Str:=⟨[108,105,110,101]⟩
def GN:Str:=⟨[114,105,100,101]⟩
def Ip:Str:=⟨[99,104,97,110,103,101]⟩
def Kg:Str:=⟨[116,117,114,110]⟩
def J4:Str:=⟨[115,121,110,99]⟩
def KR:Str:=⟨[100,101,109,97,110,100]⟩
def Ec:Str:=⟨[111,118,101,114,108,97,112]⟩
def BQ:Str:=⟨[117,112]⟩
def vW:Str:=⟨[100,111,119,110]⟩
def rng(lo hi:Int):Str:=⟨Lib.itoa lo++[46,46]++Lib.itoa hi⟩
def Mh(p:Plan):List Str:=[Mg,nI p.bJ]
def Fz(s:aQ):List Str:=[Na,s.Name,nI s.Length,nI s.qV,nI s.qQ,nI s.qR]
def G7(l:Layout)(s:Step):Str:=(l.Sections.getD s.Section.toNat default).Name
def G9(l:Layout)(s:Step):List Str:=[G7 l s,if s.Dir=1 then vW else BQ]
def Md(r:aG):List Str:=if r.Overlap≠0 then [Ec,nI r.Overlap] else []
def Fv(l:Layout)(r:aG):List Str:=GY::(r.Steps.flatMap (G9 l)++Md r)
def I9(p:Plan)(x:Line):List Str:=[LZ,x.Name,(p.aP.getD x.aQ.toNat default).Name,nI x.Weight]
def El(r:bW):List Str:=[GN,nI r.aG,nI r.Extra]++if r.Max≠0 then [rng r.Min r.Max] else []
def Bc(p:Plan)(i:Int):Str:=(p.Lines.getD i.toNat default).Name
def EF(p:Plan)(c:Change):List Str:=[Ip,Bc p c.fV,nI c.iy,Bc p c.iG,nI c.kQ,rng c.Min c.Max,nI c.Weight]
def FD(p:Plan)(t:Turn):List Str:=[Kg,Bc p t.From,Bc p t.To,rng t.Min t.Max]
def FB(p:Plan)(s:Sync):List Str:=[J4,Bc p s.mE,nI s.lJ,Bc p s.mM,nI s.lV,nI s.Offset]
def WM(l:Layout)(i:Int):Str:=l.aT.getD i.toNat default
def Gc(l:Layout)(d:bZ):List Str:=[KR,WM l d.From,WM l d.To,nI d.Weight]
def Ja(p:Plan)(x:Line):List (List Str):=I9 p x::x.bD.map El
/-! ### What a valid plan has -/
structure rO(l:Layout)(p:Plan):Prop extends LnOk l p where
 vn:Ie l
 Nb:∀s∈p.aP,kW s.Name.ba=true∧uU s=true
 Uk:∀x∈p.Lines,kW x.Name.ba=true∧(0≤x.aQ∧x.aQ<(p.aP.length:Int))∧(0≤x.Weight∧x.Weight≤1048576)∧∀k,(h:k<x.bD.length)→uO p x k x.bD[k]=true
 X8:∀c∈p.Changes,zJ p c=true
 tnn:∀t∈p.Turns,(ig p t.From&&ig p t.To&&nP p t.Min t.Max)=true
 syn:∀s∈p.bB,(eY p s.mE s.lJ&&eY p s.mM s.lV&& !(decide (s.mE=s.mM)&&decide (s.lJ=s.lV))&&decide (0≤s.Offset)&&decide (s.Offset<p.bJ))=true
 Yd:∀d∈p.bA,(decide (0≤d.From)&&decide (d.From<(l.aT.length:Int))&&decide (0≤d.To)&&decide (d.To<(l.aT.length:Int))&& !decide (d.From=d.To)&&decide (1≤d.Weight)&&decide (d.Weight≤1048576))=true
theorem L9{α:Type}[Inhabited α]{xs:List α}{x:α}(h:x∈xs):∃i,i<xs.length∧xs.getD i default=x:=by
 obtain⟨i,hi,rfl⟩:=List.getElem_of_mem h
 exact⟨i,hi,getD_lt hi⟩
theorem aew{l:Layout}{p:Plan}(h:Aa l p=some 0):rO l p:=by
 unfold Aa at h
 by_cases h0:Et l p=0
 ·rw[if_neg (by simp[h0])] at h
  obtain⟨hz,hp,hc⟩:=ali h0
  obtain⟨a1,h⟩:=IB _ _ h
  obtain⟨a2,h⟩:=IB _ _ h
  obtain⟨a3,h⟩:=IB _ _ h
  obtain⟨a4,h⟩:=IB _ _ h
  obtain⟨a5,h⟩:=IB _ _ h
  obtain⟨a6,h⟩:=IB _ _ h
  obtain⟨a7,_⟩:=IB _ _ h
  have o:RvOk l p:=⟨hz,hp,hc,fun r hr=>by
   obtain⟨i,hi,rfl⟩:=L9 hr
   exact Option.some.inj (a2 i (by omega) (by omega))⟩
  have o':=aec o a3
  refine {toLnOk:=o',vn:=alq hc,Nb:=fun s hs=>?_,Uk:=fun x hx=>?_,X8:=fun c hc=>?_,tnn:=fun t ht=>?_,syn:=fun s hs=>?_,Yd:=fun d hd=>?_}
  ·obtain⟨i,hi,rfl⟩:=L9 hs
   have:=Option.some.inj (a1 i (by omega) (by omega))
   unfold Nh at this
   split at this
   ·cases this
   split at this
   ·cases this
   split at this
   ·cases this
   rename_i b1 _ b2
   exact⟨by simpa only[Bool.not_eq_false] using b1,by simpa only[Bool.not_eq_false] using b2⟩
  ·obtain⟨i,hi,rfl⟩:=L9 hx
   have:=a3 i (by omega) (by omega)
   have hl:=aib this
   unfold Cq at this
   split at this
   ·cases this
   split at this
   ·cases this
   split at this
   ·cases this
   rename_i b1 _ b2
   have b2':(decide (0≤(dn p i).aQ)&&decide ((dn p i).aQ<(p.aP.length:Int))&&wB (dn p i).Weight)=true:=by simpa only[Bool.not_eq_false] using b2
   unfold wB at b2'
   simp only[Bool.and_eq_true,decide_eq_true_eq] at b2'
   have b1':kW (dn p i).Name.ba=true:=by simpa only[Bool.not_eq_false] using b1
   refine⟨b1',hl.1,b2'.2,fun k hk=>?_⟩
   have hr:=hl.2.2 k hk
   unfold vK at hr
   split at hr
   ·cases hr
   rename_i c1
   have e:iK (dn p i) k=(p.Lines.getD i default).bD[k]:=getD_lt hk
   rw[e] at c1
   have c1':uO p (dn p i) k (p.Lines.getD i default).bD[k]=true:=by simpa only[Bool.not_eq_false] using c1
   exact c1'
  ·obtain⟨i,hi,rfl⟩:=L9 hc
   have:=Option.some.inj (a4 i (by omega) (by omega))
   unfold RI Iq at this
   split at this
   ·cases this
   rename_i b1
   simpa only[Bool.not_eq_false] using b1
  ·obtain⟨i,hi,rfl⟩:=L9 ht
   have:=Option.some.inj (a5 i (by omega) (by omega))
   unfold Nt Xb at this
   split at this
   ·cases this
   rename_i b1
   simpa only[Bool.not_eq_false] using b1
  ·obtain⟨i,hi,rfl⟩:=L9 hs
   have:=Option.some.inj (a6 i (by omega) (by omega))
   unfold Ni Nj at this
   split at this
   ·cases this
   rename_i b1
   simpa only[Bool.not_eq_false] using b1
  ·obtain⟨i,hi,rfl⟩:=L9 hd
   have:=Option.some.inj (a7 i (by omega) (by omega))
   unfold KP KQ at this
   split at this
   ·cases this
   rename_i b1
   simpa only[Bool.not_eq_false] using b1
 ·rw[if_pos (by simpa using h0)] at h
  exact absurd (Option.some.inj h) h0
/-! ### Words and lines -/
def uf(s:Str):Prop:=FJ s=true∧s.l.length≤46
def jR(w:List Str):Prop:=0<w.length∧w.length≤64∧∀s∈w,uf s
theorem KZ{s:Str}(h:kW s.ba=true):uf s:=⟨(Ur h).1,by have:=(Ur h).2;omega⟩
theorem lK{v:Int}(h1: -9223372036854775808≤v)(h2:v≤9223372036854775807):uf (nI v):=⟨adA v,by have:=Tq v h1 h2;unfold nI;simp only;omega⟩
theorem NU{lo hi:Int}(h1:0≤lo∧lo≤hi∧hi≤7200):uf (rng lo hi):=by
 have a:=adA lo;have b:=adA hi
 have c:=Tq lo (by omega) (by omega);have d:=Tq hi (by omega) (by omega)
 unfold FJ at a b
 simp only[Bool.and_eq_true,decide_eq_true_eq] at a b
 refine⟨?_,by unfold rng;simp;omega⟩
 unfold FJ rng
 simp only[Bool.and_eq_true,decide_eq_true_eq,List.all_append,a.2,b.2]
 exact⟨by simp,by decide⟩
theorem yI:∀s∈([]:List Str),uf s:=fun s h=>by cases h
theorem iJ{s:Str}{w:List Str}(h:uf s)(hw:∀t∈w,uf t):∀t∈s::w,uf t:=fun t ht=>by
 rcases List.mem_cons.1 ht with e|e
 ·rw[e];exact h
 ·exact hw t e
theorem acn:∀{w:List Str},(∀s∈w,uf s)→J5 w≤47*w.length
 |[],_=>by simp[J5]
 |s::r,h=>by
  have h1:=(h s List.mem_cons_self).2
  have h2:=acn (w:=r) (fun t ht=>h t (List.mem_cons_of_mem _ ht))
  rw[alh]
  simp only[List.length_cons];omega
theorem ahr:∀{a:List (List Str)},(∀w∈a,jR w)→QN a≤3009*a.length
 |[],_=>by simp[QN]
 |w::r,h=>by
  have h1:=h w List.mem_cons_self
  have h2:=ahr (a:=r) (fun t ht=>h t (List.mem_cons_of_mem _ ht))
  have h3:=acn h1.2.2
  have h4:=h1.2.1
  rw[alg]
  simp only[List.length_cons];omega
theorem alp:uf BQ:=⟨by decide,by decide⟩
theorem agZ:uf vW:=⟨by decide,by decide⟩
theorem aky{l:Layout}(v:Ie l){s:Step}(h:jv l s=true):uf (G7 l s):=by
 unfold jv at h
 simp only[Bool.and_eq_true,decide_eq_true_eq] at h
 have:=v.scw _ (kE (xs:=l.Sections) (i:=s.Section.toNat) (by omega))
 exact⟨this.1,by unfold G7;omega⟩
theorem ak8{l:Layout}(v:Ie l):∀{ss:List Step},(∀s∈ss,jv l s=true)→(∀t∈ss.flatMap (G9 l),uf t)∧(ss.flatMap (G9 l)).length=2*ss.length
 |[],_=>⟨yI,rfl⟩
 |s::r,h=>by
  have ih:=ak8 v (ss:=r) (fun t ht=>h t (List.mem_cons_of_mem _ ht))
  have e:(s::r).flatMap (G9 l)=G7 l s::(if s.Dir=1 then vW else BQ)::r.flatMap (G9 l):=rfl
  rw[e]
  refine⟨iJ (aky v (h s List.mem_cons_self)) (iJ ?_ ih.1),by simp only[List.length_cons,ih.2];omega⟩
  split
  ·exact agZ
  ·exact alp
theorem afr{l:Layout}(v:Ie l){r:aG}(o:yx l r):jR (Fv l r):=by
 have h:=ak8 v o.st
 have hn:=o.len;have hv:=o.ov
 have ho:(∀t∈Md r,uf t)∧(Md r).length≤2:=by
  unfold Md
  split
  ·exact⟨iJ ⟨by decide,by decide⟩ (iJ (lK (by omega) (by omega)) yI),by simp⟩
  ·exact⟨yI,by simp⟩
 unfold Fv
 refine⟨by simp,by simp only[List.length_cons,List.length_append];omega,iJ ⟨by decide,by decide⟩ fun t ht=>?_⟩
 rcases List.mem_append.1 ht with e|e
 ·exact h.1 t e
 ·exact ho.1 t e
theorem ala{s:aQ}(h:uU s=true):(1≤s.Length∧s.Length≤40)∧(1000≤s.qV∧s.qV≤100000)∧(100≤s.qQ∧s.qQ≤2000)∧(100≤s.qR∧s.qR≤2000):=by
 unfold uU at h
 simp only[Bool.and_eq_true,decide_eq_true_eq] at h
 omega
theorem RF{p:Plan}{lo hi:Int}(h:nP p lo hi=true):0≤lo∧lo≤hi∧hi≤7200:=by
 unfold nP at h
 simp only[Bool.and_eq_true,decide_eq_true_eq] at h
 omega
theorem Cr{l:Layout}{p:Plan}(o:rO l p){i:Int}(h:ig p i=true):uf (Bc p i):=by
 obtain⟨_,b,_⟩:=Gj h
 exact KZ (o.Uk _ (kE b)).1
theorem IL{l:Layout}{p:Plan}(o:rO l p){i k:Int}(h:eY p i k=true):ig p i=true∧0≤k∧k≤12:=by
 unfold eY at h
 simp only[Bool.and_eq_true,decide_eq_true_eq] at h
 obtain⟨_,b,_⟩:=Gj h.1.1
 have:=o.sz.ri _ (kE b)
 unfold dn at h
 exact⟨h.1.1,h.1.2,by omega⟩
theorem akL{s:aQ}(h:kW s.Name.ba=true∧uU s=true):jR (Fz s):=by
 have:=ala h.2
 exact⟨by simp[Fz],by simp[Fz],iJ ⟨by decide,by decide⟩ (iJ (KZ h.1) (iJ (lK (by omega) (by omega)) (iJ (lK (by omega) (by omega)) (iJ (lK (by omega) (by omega)) (iJ (lK (by omega) (by omega)) yI)))))⟩
theorem aii{l:Layout}{p:Plan}(o:rO l p){x:Line}(hx:x∈p.Lines):jR (I9 p x):=by
 obtain⟨h1,h2,h3,_⟩:=o.Uk x hx
 exact⟨by simp[I9],by simp[I9],iJ ⟨by decide,by decide⟩ (iJ (KZ h1) (iJ (KZ (o.Nb _ (kE (by omega))).1) (iJ (lK (by omega) (by omega)) yI)))⟩
theorem avh{p:Plan}{x:Line}{k:Nat}{r:bW}(h:uO p x k r=true):(0≤r.aG∧r.aG<(p.Routes.length:Int))∧(0≤r.Extra∧r.Extra<p.bJ)∧(0≤r.Min∧r.Min≤r.Max∧r.Max≤7200):=by
 unfold uO at h
 simp only[Bool.and_eq_true,decide_eq_true_eq] at h
 exact⟨⟨h.1.1.1.1.1,h.1.1.1.1.2⟩,⟨h.1.1.1.2,h.1.1.2⟩,RF h.1.2⟩
theorem akf{l:Layout}{p:Plan}(o:rO l p){x:Line}(hx:x∈p.Lines){r:bW}(hr:r∈x.bD):(0≤r.aG∧r.aG<(p.Routes.length:Int))∧(0≤r.Extra∧r.Extra<p.bJ)∧(0≤r.Min∧r.Min≤r.Max∧r.Max≤7200):=by
 obtain⟨_,_,_,h⟩:=o.Uk x hx
 obtain⟨k,hk,rfl⟩:=List.getElem_of_mem hr
 exact avh (h k hk)
theorem ajH{l:Layout}{p:Plan}(o:rO l p){x:Line}(hx:x∈p.Lines){r:bW}(hr:r∈x.bD):jR (El r):=by
 have h:=akf o hx hr
 have hp:=o.per;have hz:=o.sz.ro
 unfold El
 split
 ·exact⟨by simp,by simp,iJ ⟨by decide,by decide⟩ (iJ (lK (by omega) (by omega)) (iJ (lK (by omega) (by omega)) (iJ (NU h.2.2) yI)))⟩
 ·exact⟨by simp,by simp,iJ ⟨by decide,by decide⟩ (iJ (lK (by omega) (by omega)) (iJ (lK (by omega) (by omega)) yI))⟩
theorem agO{l:Layout}{p:Plan}(o:rO l p){c:Change}(h:zJ p c=true):(eY p c.fV c.iy=true∧eY p c.iG c.kQ=true)∧(0≤c.Min∧c.Min≤c.Max∧c.Max≤7200)∧0≤c.Weight∧c.Weight≤1048576:=by
 unfold zJ wB at h
 simp only[Bool.and_eq_true,decide_eq_true_eq] at h
 exact⟨⟨h.1.1.1.1,h.1.1.1.2⟩,RF h.1.2,h.2⟩
theorem agN{l:Layout}{p:Plan}(o:rO l p){c:Change}(h:zJ p c=true):jR (EF p c):=by
 obtain⟨⟨a,b⟩,hb,w⟩:=agO o h
 have a':=IL o a;have b':=IL o b
 exact⟨by simp[EF],by simp[EF],iJ ⟨by decide,by decide⟩ (iJ (Cr o a'.1) (iJ (lK (by omega) (by omega)) (iJ (Cr o b'.1) (iJ (lK (by omega) (by omega)) (iJ (NU hb) (iJ (lK (by omega) (by omega)) yI))))))⟩
theorem alk{l:Layout}{p:Plan}(o:rO l p){t:Turn}(h:(ig p t.From&&ig p t.To&&nP p t.Min t.Max)=true):jR (FD p t):=by
 simp only[Bool.and_eq_true] at h
 exact⟨by simp[FD],by simp[FD],iJ ⟨by decide,by decide⟩ (iJ (Cr o h.1.1) (iJ (Cr o h.1.2) (iJ (NU (RF h.2)) yI)))⟩
theorem alf{l:Layout}{p:Plan}(o:rO l p){s:Sync}(h:(eY p s.mE s.lJ&&eY p s.mM s.lV&& !(decide (s.mE=s.mM)&&decide (s.lJ=s.lV))&&decide (0≤s.Offset)&&decide (s.Offset<p.bJ))=true):jR (FB p s):=by
 simp only[Bool.and_eq_true,decide_eq_true_eq] at h
 have a':=IL o h.1.1.1.1;have b':=IL o h.1.1.1.2
 have hp:=o.per
 exact⟨by simp[FB],by simp[FB],iJ ⟨by decide,by decide⟩ (iJ (Cr o a'.1) (iJ (lK (by omega) (by omega)) (iJ (Cr o b'.1) (iJ (lK (by omega) (by omega)) (iJ (lK (by omega) (by omega)) yI)))))⟩
theorem aaZ{l:Layout}(v:Ie l){i:Int}(h:0≤i∧i<(l.aT.length:Int)):uf (WM l i):=by
 have:=v.stw _ (kE (xs:=l.aT) (i:=i.toNat) (by omega))
 exact⟨this.1,by unfold WM;omega⟩
theorem ab3{l:Layout}{d:bZ}(h:(decide (0≤d.From)&&decide (d.From<(l.aT.length:Int))&&decide (0≤d.To)&&decide (d.To<(l.aT.length:Int))&& !decide (d.From=d.To)&&decide (1≤d.Weight)&&decide (d.Weight≤1048576))=true):
  (0≤d.From∧d.From<(l.aT.length:Int))∧(0≤d.To∧d.To<(l.aT.length:Int))∧1≤d.Weight∧d.Weight≤1048576:=by
 simp only[Bool.and_eq_true,decide_eq_true_eq] at h
 exact⟨⟨h.1.1.1.1.1.1,h.1.1.1.1.1.2⟩,⟨h.1.1.1.1.2,h.1.1.1.2⟩,h.1.2,h.2⟩
theorem agY{l:Layout}(v:Ie l){d:bZ}(h:(0≤d.From∧d.From<(l.aT.length:Int))∧(0≤d.To∧d.To<(l.aT.length:Int))∧1≤d.Weight∧d.Weight≤1048576):jR (Gc l d):=
 ⟨by simp[Gc],by simp[Gc],iJ ⟨by decide,by decide⟩ (iJ (aaZ v h.1) (iJ (aaZ v h.2.1) (iJ (lK (by omega) (by omega)) yI)))⟩
/-! ### Loops that write lines -/
theorem arY{α σ β:Type}{B:((σ×Nat)→Option β)→(σ×Nat)→Option β}(rep:List (List Str)→σ)(xs:List α)(f:α→List (List Str))(K:σ→Option β)(m:Nat)
  (hs:∀c q (i:Nat) x,idx xs (i:Int)=some x→x∈xs→i<xs.length→q.length+m≤2000→(∀w∈q,jR w)→B c (rep q,i)=c (rep (q++f x),i+1))
  (he:∀c q,q.length≤2000→(∀w∈q,jR w)→B c (rep q,xs.length)=K (rep q))(hf:∀x∈xs,(f x).length≤m∧∀w∈f x,jR w):
  ∀n q i,q.length+m*(xs.length-i)≤2000→(∀w∈q,jR w)→i≤xs.length→xs.length-i<n→iter B n (rep q,i)=K (rep (q++(xs.drop i).flatMap f)):=by
 intro n
 induction n with
 |zero=>intro q i _ _ _ h;omega
 |succ n ih=>
  intro q i hq hg hi hn
  show B (iter B n) (rep q,i)=_
  by_cases hl:i=xs.length
  ·subst hl
   rw[he _ q (by omega) hg,List.drop_length];simp
  ·have hlt:i<xs.length:=by omega
   have hd:xs.drop i=xs[i]::xs.drop (i+1):=List.drop_eq_getElem_cons hlt
   have hm:=List.getElem_mem hlt
   have h1:=hf _ hm
   have hmul:m*(xs.length-i)=m*(xs.length-(i+1))+m:=by
    rw[show xs.length-i=(xs.length-(i+1))+1 by omega,Nat.mul_succ]
   rw[hs _ q i xs[i] (by simp[idx,hlt]) hm hlt (by omega) hg,ih (q++f xs[i]) (i+1) (by rw[List.length_append];omega) (fun w hw=>by
    rcases List.mem_append.1 hw with e|e
    ·exact hg w e
    ·exact h1.2 w e) (by omega) (by omega),hd]
   simp only[List.flatMap_cons,List.append_assoc]
theorem Jb{α σ β:Type}{B:((σ×Nat)→Option β)→(σ×Nat)→Option β}(rep:List (List Str)→σ)(xs:List α)(f:α→List (List Str))(K:σ→Option β)(m:Nat)
  (hs:∀c q (i:Nat) x,idx xs (i:Int)=some x→x∈xs→i<xs.length→q.length+m≤2000→(∀w∈q,jR w)→B c (rep q,i)=c (rep (q++f x),i+1))
  (he:∀c q,q.length≤2000→(∀w∈q,jR w)→B c (rep q,xs.length)=K (rep q))(hf:∀x∈xs,(f x).length≤m∧∀w∈f x,jR w)
  (q:List (List Str))(hq:q.length+m*xs.length≤2000)(hg:∀w∈q,jR w)(hl:xs.length≤1000000):iter B FUEL (rep q,0)=K (rep (q++xs.flatMap f)):=by
 have:=arY rep xs f K m hs he hf FUEL q 0 (by simpa using hq) hg (by omega) (fD (by omega))
 rwa [List.drop_zero] at this
def af5(a:Any):Prop:=match a with| .s _=>True| .i n=> -9223372036854775808≤n∧n≤9223372036854775807
theorem aS{s:Str}{r:List Any}(h:∀a∈r,af5 a):∀a∈Any.s s::r,af5 a:=fun a ha=>by
 rcases List.mem_cons.1 ha with e|e
 ·rw[e];trivial
 ·exact h a e
def Ch(l:Layout)(p:Plan):List (List Str):=
 [Mh p]++p.aP.flatMap (fun s=>[Fz s])++p.Routes.flatMap (fun r=>[Fv l r])++p.Lines.flatMap (Ja p)++p.Changes.flatMap (fun c=>[EF p c])++p.Turns.flatMap (fun t=>[FD p t])
  ++p.bB.flatMap (fun s=>[FB p s])++p.bA.flatMap (fun d=>[Gc l d])
theorem yV{w:List Str}(h:jR w):([w]:List (List Str)).length≤1∧∀v∈([w]:List (List Str)),jR v:=⟨by simp,fun v hv=>by rw[List.mem_singleton.1 hv];exact h⟩
theorem Ig{a b:List (List Str)}(ha:∀w∈a,jR w)(hb:∀w∈b,jR w):∀w∈a++b,jR w:=fun w hw=>by
 rcases List.mem_append.1 hw with e|e
 ·exact ha w e
 ·exact hb w e
theorem KY{α:Type}{xs:List α}{f:α→List (List Str)}(h:∀x∈xs,∀w∈f x,jR w):∀w∈xs.flatMap f,jR w:=fun w hw=>by
 obtain⟨x,hx,hw⟩:=List.mem_flatMap.1 hw
 exact h x hx w hw
theorem zK{α:Type}{f:α→List (List Str)}{m:Nat}:∀{xs:List α},(∀x∈xs,(f x).length≤m)→(xs.flatMap f).length≤m*xs.length
 |[],_=>by simp
 |x::r,h=>by
  have h1:=h x List.mem_cons_self
  have h2:=zK (f:=f) (xs:=r) (fun y hy=>h y (List.mem_cons_of_mem _ hy))
  simp only[List.flatMap_cons,List.length_append,List.length_cons,Nat.mul_succ]
  omega
theorem atG{l:Layout}{p:Plan}(o:rO l p):jR (Mh p):=by
 have:=o.per
 exact⟨by simp[Mh],by simp[Mh],iJ ⟨by decide,by decide⟩ (iJ (lK (by omega) (by omega)) yI)⟩
theorem Zf{l:Layout}{p:Plan}(o:rO l p){x:Line}(hx:x∈p.Lines):(Ja p x).length≤13∧∀w∈Ja p x,jR w:=by
 have:=o.sz.ri x hx
 unfold Ja
 refine⟨by simp;omega,fun w hw=>?_⟩
 rcases List.mem_cons.1 hw with e|e
 ·rw[e];exact aii o hx
 ·obtain⟨r,hr,rfl⟩:=List.mem_map.1 e
  exact ajH o hx hr
theorem ahl{l:Layout}{p:Plan}(o:rO l p):(∀w∈Ch l p,jR w)∧(Ch l p).length≤1000:=by
 have z:=o.sz
 refine⟨Ig (Ig (Ig (Ig (Ig (Ig (Ig (yV (atG o)).2 (KY fun s hs=>(yV (akL (o.Nb s hs))).2)) (KY fun r hr=>(yV (afr o.vn (CO (o.rt r hr)))).2))
  (KY fun x hx=>(Zf o hx).2)) (KY fun c hc=>(yV (agN o (o.X8 c hc))).2)) (KY fun t ht=>(yV (alk o (o.tnn t ht))).2)) (KY fun s hs=>(yV (alf o (o.syn s hs))).2))
  (KY fun d hd=>(yV (agY o.vn (ab3 (o.Yd d hd)))).2),?_⟩
 have h1:=zK (f:=fun s=>[Fz s]) (m:=1) (xs:=p.aP) (fun _ _=>by simp)
 have h2:=zK (f:=fun r=>[Fv l r]) (m:=1) (xs:=p.Routes) (fun _ _=>by simp)
 have h3:=zK (f:=Ja p) (m:=13) (xs:=p.Lines) (fun x hx=>(Zf o hx).1)
 have h4:=zK (f:=fun c=>[EF p c]) (m:=1) (xs:=p.Changes) (fun _ _=>by simp)
 have h5:=zK (f:=fun t=>[FD p t]) (m:=1) (xs:=p.Turns) (fun _ _=>by simp)
 have h6:=zK (f:=fun s=>[FB p s]) (m:=1) (xs:=p.bB) (fun _ _=>by simp)
 have h7:=zK (f:=fun d=>[Gc l d]) (m:=1) (xs:=p.bA) (fun _ _=>by simp)
 have:=z.st;have:=z.ro;have:=z.li;have:=z.ch;have:=z.tu;have:=z.sy;have:=z.de
 simp only[Ch,List.length_append,List.length_singleton]
 omega
theorem as0{α:Type}{xs:List α}{i:Nat}{x:α}(h:idx xs (i:Int)=some x):x∈xs:=List.mem_of_getElem? (by rw[kF] at h;exact h)
theorem OP{p:Plan}{i:Int}(h:ig p i=true):idx p.Lines i=some (p.Lines.getD i.toNat default):=(Gj h).1
theorem ak5{l:Layout}{i:Int}(h:0≤i∧i<(l.aT.length:Int)):idx l.aT i=some (WM l i):=tJ h.1 h.2
def Ym(l:Layout)(p:Plan)(e:Int):Str×Int:=if e=0 then (⟨tK (Ch l p)⟩,0) else (⟨[]⟩,1)
theorem cs{s t:Str}(h:s.l.length+t.l.length≤100000000000000:=by first|omega|(simp only[List.length_append,List.length_cons,List.length_nil]<;>omega)):dM s t=some ⟨s.l++t.l⟩:=abU s.l t.l h
theorem cx{s t c:Str}(e:s.l++t.l=c.l)(h:s.l.length+t.l.length≤100000000000000:=by first|omega|(simp only[List.length_append,List.length_cons,List.length_nil]<;>omega)):dM s t=some c:=by rw[cs h,e]
theorem d9{n:Int}(h1: -9223372036854775808≤n∧n≤9223372036854775807:=by omega):uN n=some (nI n):=by
 unfold uN
 rw[Yc n h1.1 h1.2];rfl
theorem afB{lo hi:Int}(h1:0≤lo∧lo≤hi∧hi≤7200):MW lo hi=some (rng lo hi):=by
 have c:=Tq lo (by omega) (by omega);have d:=Tq hi (by omega) (by omega)
 unfold MW
 rw[Yc _ (by omega) (by omega),Option.bind_some,Yc _ (by omega) (by omega),abU _ _ (by simp;omega),Option.bind_some,Option.bind_some,abU _ _ (by simp;omega)]
 rfl
theorem adB:∀(a:List (List Str)) (w:List Str),tK (a++[w])=tK a++(mo true w++[10])
 |[],w=>by simp[tK]
 |v::r,w=>by simp[tK,adB r w]
theorem aby:∀(a b:List Str) (f:Bool),a≠[]→mo f (a++b)=mo f a++mo false b
 |[],_,_,h=>absurd rfl h
 |[s],b,f,_=>by simp[mo]
 |s::t::r,b,f,_=>by
  have:=aby (t::r) b false (by simp)
  simp only[List.cons_append] at this ⊢
  simp only[mo] at this ⊢
  rw[this];simp
theorem ahq{q:List (List Str)}(hg:∀w∈q,jR w)(hq:q.length≤2000):(tK q).length≤10000000:=by
 have h1:=ahP q
 have h2:=ahr hg
 omega
theorem Yr{w:List Str}(h:∀s∈w,uf s)(hl:w.length≤100):(mo true w).length≤5000:=by
 have h1:=als true w
 have h2:=acn h
 omega
theorem avm{l:Layout}(v:Ie l){r:aG}(o:yx l r):Wh l r=some ⟨mo true (Fv l r)++[10]⟩:=by
 have hn:=o.len;have hv:=o.ov
 unfold Wh
 have:=jF (B:=V9 r l) (fun (s:List Str) i=>(⟨mo true s⟩,i)) r.Steps (fun s i=>s.length≤1+2*i∧s≠[]∧∀t∈s,uf t)
  (fun s t=>some ⟨mo true (s++t.flatMap (G9 l)++Md r)++[10]⟩) ?_ ?_ FUEL [GY] 0 ⟨by simp,by simp,iJ ⟨by decide,by decide⟩ yI⟩ (by omega) (fD (by omega))
 ·rw[List.drop_zero] at this
  exact Eq.trans (by simp[mo,GY]) (this.trans (by simp[Fv]))
 ·rintro c s i x t ⟨hs,h0,hg⟩ hdr hi hx hk
  have hm:x∈r.Steps:=as0 hx
  have hsn:=aky v (o.st x hm)
  have hw:=Yr hg (by omega)
  have axB:=hsn.2
  have hk2:∀w:Str,uf w→Qv i c ⟨mo true (s++[G7 l x,w])⟩=some ⟨mo true (s++[G7 l x,w]++t.flatMap (G9 l)++Md r)++[10]⟩:=fun w hw=>by
   unfold Qv
   rw[bH (bO (by omega) (by omega))]
   exact hk _ ⟨by simp;omega,by simp,fun u hu=>by
    rcases List.mem_append.1 hu with e|e
    ·exact hg u e
    ·exact iJ hsn (iJ hw yI) u e⟩
  simp only[V9]
  refine (if_pos (by simp;omega)).trans (bV hx (bV (WG o hm) ?_))
  rw[show (l.Sections.getD x.Section.toNat default).Name=G7 l x from rfl]
  refine bV cs (bV cs (bV hx ?_))
  have hd:=o.st x hm
  unfold jv at hd
  simp only[Bool.and_eq_true,Bool.or_eq_true,decide_eq_true_eq] at hd
  by_cases h1:x.Dir=0
  ·refine (if_pos (by simpa using h1)).trans (bV (cx (c:=⟨mo true (s++[G7 l x,BQ])⟩) ?_) ?_)
   ·rw[aby _ _ _ h0];simp[mo,BQ]
   ·rw[hk2 _ alp]
    simp[G9,h1]
  ·refine (if_neg (by simpa using h1)).trans (bV (cx (c:=⟨mo true (s++[G7 l x,vW])⟩) ?_) ?_)
   ·rw[aby _ _ _ h0];simp[mo,vW]
   ·rw[hk2 _ agZ]
    have:x.Dir=1:=by omega
    simp[G9,this]
 ·rintro c s ⟨hs,h0,hg⟩
  have hw:=Yr hg (by omega)
  simp only[V9]
  rw[if_neg (by simp)]
  unfold aff Md
  by_cases h1:r.Overlap=0
  ·rw[if_neg (by simp;omega),if_neg (fun h=>h h1)]
   unfold Qw
   rw[cs,Option.bind_some]
   simp
  ·have hi:=(lK (v:=r.Overlap) (by omega) (by omega)).2
   rw[if_pos (by simp;omega),if_pos h1,Yc _ (by omega) (by omega),Option.bind_some,show (⟨Lib.itoa r.Overlap⟩:Str)=nI r.Overlap from rfl]
   refine bV cs (bV (cx (c:=⟨mo true (s++[Ec,nI r.Overlap])⟩) ?_) ?_)
   ·rw[aby _ _ _ h0];simp[mo,Ec]
   ·have h2:=Yr (w:=s++[Ec,nI r.Overlap]) (fun u hu=>by
     rcases List.mem_append.1 hu with e|e
     ·exact hg u e
     ·exact iJ ⟨by decide,by decide⟩ (iJ (lK (by omega) (by omega)) yI) u e) (by simp;omega)
    unfold Qw
    rw[cs,Option.bind_some]
    simp
def kg(q:List (List Str)):Str:=⟨tK q⟩
theorem GV(q:List (List Str))(w:List Str):kg (q++[w])=⟨tK q++(mo true w++[10])⟩:=by unfold kg;rw[adB]
theorem JF{q:List (List Str)}(hg:∀w∈q,jR w)(hq:q.length≤2000):(kg q).l.length≤10000000:=ahq hg hq
theorem GU(q:List (List Str)):(kg q).l=tK q:=rfl
theorem avg{l:Layout}{p:Plan}(o:rO l p)(q:List (List Str))(hq:q.length≤1000)(hg:∀w∈q,jR w):Qp p l (kg q) ()=some (kg (q++p.bA.flatMap fun d=>[Gc l d]),0):=by
 have z:=o.sz.de
 unfold Qp
 refine Jb (B:=VN p l) kg p.bA (fun d=>[Gc l d]) (fun s=>some (s,0)) 1 (fun c q i x hx hm hi hq hg=>?_) (fun c q _ _=>?_) (fun d hd=>yV (agY o.vn (ab3 (o.Yd d hd)))) q (by omega) hg (by omega)
 ·have h:=ab3 (o.Yd x hm)
  have hj:=JF hg (by omega)
  have n1:=(aaZ o.vn h.1).2;have n2:=(aaZ o.vn h.2.1).2;have n3:=(lK (v:=x.Weight) (by omega) (by omega)).2
  simp only[VN]
  refine (if_pos (by simp;omega)).trans (bV hx (bV (ak5 h.1) (bV cs (bV cs (bV (ak5 h.2.1) (bV cs (bV cs (bV d9 (bV cs (bV cs (bV (cx (c:=kg (q++[Gc l x])) ?_) ?_)))))))))))
  ·rw[GV,GU];simp[Gc,mo,KR]
  ·exact bH (bO (by omega) (by omega))
 ·simp only[VN]
  rw[if_neg (by simp)];rfl
theorem avf{l:Layout}{p:Plan}(o:rO l p)(q:List (List Str))(hq:q.length≤900)(hg:∀w∈q,jR w):Qo p l (kg q) ()=Qp p l (kg (q++p.bB.flatMap fun s=>[FB p s])) ():=by
 have z:=o.sz.sy
 unfold Qo
 refine Jb (B:=VL p l) kg p.bB (fun s=>[FB p s]) (fun s=>Qp p l s ()) 1 (fun c q i x hx hm hi hq hg=>?_) (fun c q _ _=>?_) (fun s hs=>yV (alf o (o.syn s hs))) q (by omega) hg (by omega)
 ·have h:=o.syn x hm
  have hp:=o.per
  simp only[Bool.and_eq_true,decide_eq_true_eq] at h
  have a:=IL o h.1.1.1.1;have b:=IL o h.1.1.1.2
  have hj:=JF hg (by omega)
  have n1:=(Cr o a.1).2;have n2:=(Cr o b.1).2;have n3:=(lK (v:=x.lJ) (by omega) (by omega)).2;have n4:=(lK (v:=x.lV) (by omega) (by omega)).2;have n5:=(lK (v:=x.Offset) (by omega) (by omega)).2
  unfold Bc at n1 n2
  simp only[VL]
  refine (if_pos (by simp;omega)).trans (bV hx (bV (OP a.1) (bV cs (bV cs (bV (OP b.1) (bV d9 (bV cs (bV cs (bV cs (bV cs (bV d9 (bV cs (bV cs (bV d9 (bV cs (bV cs (bV (cx (c:=kg (q++[FB p x])) ?_) ?_)))))))))))))))))
  ·rw[GV,GU];simp[FB,mo,J4,Bc]
  ·exact bH (bO (by omega) (by omega))
 ·simp only[VL]
  rw[if_neg (by simp)]
theorem ave{l:Layout}{p:Plan}(o:rO l p)(q:List (List Str))(hq:q.length≤800)(hg:∀w∈q,jR w):Qn p l (kg q) ()=Qo p l (kg (q++p.Turns.flatMap fun t=>[FD p t])) ():=by
 have z:=o.sz.tu
 unfold Qn
 refine Jb (B:=VK p l) kg p.Turns (fun t=>[FD p t]) (fun s=>Qo p l s ()) 1 (fun c q i x hx hm hi hq hg=>?_) (fun c q _ _=>?_) (fun t ht=>yV (alk o (o.tnn t ht))) q (by omega) hg (by omega)
 ·have h:=o.tnn x hm
  simp only[Bool.and_eq_true] at h
  have hj:=JF hg (by omega)
  have n1:=(Cr o h.1.1).2;have n2:=(Cr o h.1.2).2;have n3:=(NU (RF h.2)).2
  unfold Bc at n1 n2
  simp only[VK]
  refine (if_pos (by simp;omega)).trans (bV hx (bV (OP h.1.1) (bV cs (bV cs (bV (OP h.1.2) (bV cs (bV cs (bV (afB (RF h.2)) (bV cs (bV cs (bV (cx (c:=kg (q++[FD p x])) ?_) ?_)))))))))))
  ·rw[GV,GU];simp[FD,mo,Kg,Bc]
  ·exact bH (bO (by omega) (by omega))
 ·simp only[VK]
  rw[if_neg (by simp)]
theorem avd{l:Layout}{p:Plan}(o:rO l p)(q:List (List Str))(hq:q.length≤700)(hg:∀w∈q,jR w):Ql p l (kg q) ()=Qn p l (kg (q++p.Changes.flatMap fun c=>[EF p c])) ():=by
 have z:=o.sz.ch
 unfold Ql
 refine Jb (B:=VJ p l) kg p.Changes (fun c=>[EF p c]) (fun s=>Qn p l s ()) 1 (fun c q i x hx hm hi hq hg=>?_) (fun c q _ _=>?_) (fun t ht=>yV (agN o (o.X8 t ht))) q (by omega) hg (by omega)
 ·obtain⟨⟨ha,hb⟩,hbn,hw⟩:=agO o (o.X8 x hm)
  have a:=IL o ha;have b:=IL o hb
  have hj:=JF hg (by omega)
  have n1:=(Cr o a.1).2;have n2:=(Cr o b.1).2;have n3:=(lK (v:=x.iy) (by omega) (by omega)).2;have n4:=(lK (v:=x.kQ) (by omega) (by omega)).2;have n5:=(NU hbn).2;have n6:=(lK (v:=x.Weight) (by omega) (by omega)).2
  unfold Bc at n1 n2
  simp only[VJ]
  refine (if_pos (by simp;omega)).trans (bV hx (bV (OP a.1) (bV cs (bV cs (bV (OP b.1) (bV d9 (bV cs (bV cs (bV cs (bV cs (bV d9 (bV cs (bV cs (bV (afB hbn) (bV cs (bV cs (bV d9 (bV cs (bV cs (bV (cx (c:=kg (q++[EF p x])) ?_) ?_))))))))))))))))))))
  ·rw[GV,GU];simp[EF,mo,Ip,Bc]
  ·exact bH (bO (by omega) (by omega))
 ·simp only[VJ]
  rw[if_neg (by simp)]
theorem avc{l:Layout}{p:Plan}(o:rO l p){x:Line}(hx:x∈p.Lines)(t:Nat)(ht:t≤1000)(c3:(Str×Nat)→Option (Str×Int))(q:List (List Str))(hq:q.length+12≤2000)(hg:∀w∈q,jR w):
  iter (Qi x t c3) FUEL (kg q,0)=c3 (kg (q++x.bD.map El),t+1):=by
 have z:=o.sz.ri x hx
 have e:x.bD.map El=x.bD.flatMap fun r=>[El r]:=by rw[List.map_eq_flatMap]
 rw[e]
 refine Jb (B:=Qi x t c3) kg x.bD (fun r=>[El r]) (fun s=>c3 (s,t+1)) 1 (fun c q i r hr hm hi hq hg=>?_) (fun c q _ _=>?_) (fun r hr=>yV (ajH o hx hr)) q (by omega) hg (by omega)
 ·have h:=akf o hx hm
  have hp:=o.per;have hz:=o.sz.ro
  have hj:=JF hg (by omega)
  have n1:=(lK (v:=r.aG) (by omega) (by omega)).2;have n2:=(lK (v:=r.Extra) (by omega) (by omega)).2;have n3:=(NU h.2.2).2
  simp only[Qi]
  refine (if_pos (by simp;omega)).trans (bV hr (bV hr (bV d9 (bV cs (bV cs (bV d9 (bV cs (bV cs (bV hr ?_)))))))))
  by_cases h0:r.Max=0
  ·refine (if_neg (by simp;omega)).trans ?_
   unfold Qm
   refine bV (cx (c:=kg (q++[El r])) ?_) (bH (bO (by omega) (by omega)))
   rw[GV,GU];simp[El,mo,GN,h0]
  ·refine (if_pos (by simp;omega)).trans (bV hr (bV hr (bV (afB h.2.2) (bV cs (bV cs ?_)))))
   unfold Qm
   refine bV (cx (c:=kg (q++[El r])) ?_) (bH (bO (by omega) (by omega)))
   rw[GV,GU];simp[El,mo,GN,h0]
 ·simp only[Qi]
  rw[if_neg (by simp)]
  unfold ae8
  exact bH (bO (by omega) (by omega))
theorem avb{l:Layout}{p:Plan}(o:rO l p)(q:List (List Str))(hq:q.length≤400)(hg:∀w∈q,jR w):Qk p l (kg q) ()=Ql p l (kg (q++p.Lines.flatMap (Ja p))) ():=by
 have z:=o.sz.li
 unfold Qk
 refine (Jb (B:=VI p l) kg p.Lines (Ja p) (fun s=>Ql p l s ()) 13 (fun c q i x hx hm hi hq hg=>?_) (fun c q _ _=>?_) (fun x hx=>Zf o hx) q (by omega) hg (by omega))
 ·obtain⟨h1,h2,h3,_⟩:=o.Uk x hm
  have hg2:∀w∈q++[I9 p x],jR w:=Ig hg (yV (aii o hm)).2
  have hj:=JF hg (by omega)
  have n1:=(KZ h1).2;have n2:=(KZ (o.Nb _ (kE (xs:=p.aP) (i:=x.aQ.toNat) (by omega))).1).2;have n3:=(lK (v:=x.Weight) (by omega) (by omega)).2
  simp only[VI]
  refine (if_pos (by simp;omega)).trans (bV hx (bV cs (bV cs (bV (tJ h2.1 h2.2) (bV cs (bV cs (bV d9 (bV cs (bV cs (bV (cx (c:=kg (q++[I9 p x])) ?_) ?_))))))))))
  ·rw[GV,GU];simp[I9,mo,LZ]
  ·have:=avc o hm i (by omega) c (q++[I9 p x]) (by simp;omega) hg2
   rw[List.append_assoc] at this
   exact this
 ·simp only[VI]
  rw[if_neg (by simp)]
theorem ava{l:Layout}{p:Plan}(o:rO l p)(q:List (List Str))(hq:q.length≤300)(hg:∀w∈q,jR w):Qj p l (kg q) ()=Qk p l (kg (q++p.Routes.flatMap fun r=>[Fv l r])) ():=by
 have z:=o.sz.ro
 unfold Qj
 refine Jb (B:=VH p l) kg p.Routes (fun r=>[Fv l r]) (fun s=>Qk p l s ()) 1 (fun c q i x hx hm hi hq hg=>?_) (fun c q _ _=>?_) (fun r hr=>yV (afr o.vn (CO (o.rt r hr)))) q (by omega) hg (by omega)
 ·have hj:=JF hg (by omega)
  have hr:=afr o.vn (CO (o.rt x hm))
  have hw:=Yr hr.2.2 (by have:=hr.2.1;omega)
  simp only[VH]
  refine (if_pos (by simp;omega)).trans (bV hx (bV (avm o.vn (CO (o.rt x hm))) (bV (cx (c:=kg (q++[Fv l x])) ?_) ?_)))
  ·rw[GV,GU]
  ·exact bH (bO (by omega) (by omega))
 ·simp only[VH]
  rw[if_neg (by simp)]
theorem au9{l:Layout}{p:Plan}(o:rO l p)(q:List (List Str))(hq:q.length≤200)(hg:∀w∈q,jR w):iter (Qh p l) FUEL (kg q,0)=Qj p l (kg (q++p.aP.flatMap fun s=>[Fz s])) ():=by
 have z:=o.sz.st
 refine Jb (B:=Qh p l) kg p.aP (fun s=>[Fz s]) (fun s=>Qj p l s ()) 1 (fun c q i x hx hm hi hq hg=>?_) (fun c q _ _=>?_) (fun s hs=>yV (akL (o.Nb s hs))) q (by omega) hg (by omega)
 ·have h:=ala (o.Nb x hm).2
  have hj:=JF hg (by omega)
  have n1:=(KZ (o.Nb x hm).1).2;have n2:=(lK (v:=x.Length) (by omega) (by omega)).2;have n3:=(lK (v:=x.qV) (by omega) (by omega)).2;have n4:=(lK (v:=x.qQ) (by omega) (by omega)).2;have n5:=(lK (v:=x.qR) (by omega) (by omega)).2
  simp only[Qh]
  refine (if_pos (by simp;omega)).trans (bV hx (bV cs (bV cs (bV d9 (bV cs (bV cs (bV d9 (bV cs (bV cs (bV d9 (bV cs (bV cs (bV d9 (bV cs (bV cs (bV (cx (c:=kg (q++[Fz x])) ?_) ?_))))))))))))))))
  ·rw[GV,GU];simp[Fz,mo,Na]
  ·exact bH (bO (by omega) (by omega))
 ·simp only[Qh]
  rw[if_neg (by simp)]
theorem anC(l:Layout)(p:Plan):VO l p=(Aa l p).bind fun e=>some (Ym l p e):=by
 unfold VO
 rw[agP]
 cases hE:Aa l p with
 |none=>rfl
 |some e=>
  simp only[Option.bind_some]
  unfold Ym
  by_cases h0:e=0
  ·subst h0
   have o:=aew hE
   have z:=o.sz
   have g:=ahl o
   have hp:=o.per
   rw[if_neg (by simp),if_pos rfl]
   have s1:=z.st;have s2:=z.ro;have s3:=z.li;have s4:=z.ch;have s5:=z.tu;have s6:=z.sy;have s7:=z.de
   have h1:=zK (f:=fun s=>[Fz s]) (m:=1) (xs:=p.aP) (fun _ _=>by simp)
   have h2:=zK (f:=fun r=>[Fv l r]) (m:=1) (xs:=p.Routes) (fun _ _=>by simp)
   have h3:=zK (f:=Ja p) (m:=13) (xs:=p.Lines) (fun x hx=>(Zf o hx).1)
   have h4:=zK (f:=fun c=>[EF p c]) (m:=1) (xs:=p.Changes) (fun _ _=>by simp)
   have h5:=zK (f:=fun t=>[FD p t]) (m:=1) (xs:=p.Turns) (fun _ _=>by simp)
   have h6:=zK (f:=fun s=>[FB p s]) (m:=1) (xs:=p.bB) (fun _ _=>by simp)
   have hsub:∀{a b:List (List Str)},(∀w∈a++b,jR w)→∀w∈a,jR w:=fun h w hw=>h w (List.mem_append.2 (.inl hw))
   have g7:=g.1
   have g6:=hsub g7;have g5:=hsub g6;have g4:=hsub g5;have g3:=hsub g4;have g2:=hsub g3;have g1:=hsub g2;have g0:=hsub g1
   have n1:=(lK (v:=p.bJ) (by omega) (by omega)).2
   refine bV d9 (bV cs (bV (cx (c:=kg [Mh p]) ?_) ?_))
   ·simp[kg,tK,Mh,mo,Mg]
   refine (au9 o [Mh p] (by simp) g0).trans ?_
   rw[ava o _ (by simp only[List.length_append,List.length_singleton];omega) g1,avb o _ (by simp only[List.length_append,List.length_singleton];omega) g2,avd o _ (by simp only[List.length_append,List.length_singleton];omega) g3,
    ave o _ (by simp only[List.length_append,List.length_singleton];omega) g4,avf o _ (by simp only[List.length_append,List.length_singleton];omega) g5,avg o _ (by simp only[List.length_append,List.length_singleton];omega) g6]
   rfl
  ·rw[if_pos (by simpa using h0),if_neg h0]
end Go.Proofs.YtcalibhfgdncaaaGreatDoor
