/- Several parts of the engine, one behind the other. -/
import Derived.Test.YtcalibhfgdncaaaGreatDoorQ1
import Derived.Test.YtcalibhfgdncaaaGreatDoorTm
import Derived.Test.YtcalibhfgdncaaaGreatDoorPs
import Derived.Test.YtcalibhfgdncaaaGreatDoorYx
set_option linter.all false
namespace Go.Dc
def errs(g:Nat→Option Int)(k:Option Int):Nat→Nat→Option Int
 |0,_=>k
 |m+1,i=>(g i).bind fun e=>if decide (e≠0) then some e else errs g k m (i+1)
theorem alD{B:(Nat→Option Int)→Nat→Option Int}{n:Nat}{g:Nat→Option Int}{k:Option Int}
  (hs:∀c i,i<n→B c i=(g i).bind fun e=>if decide (e≠0) then some e else c (i+1))(he:∀c,B c n=k):
  ∀m i f,i+m=n→m<f→iter B f i=errs g k m i:=by
 intro m
 induction m with
 |zero=>
  intro i f hi hf
  obtain⟨f,rfl⟩:∃x,f=x+1:=⟨f-1,by omega⟩
  show B (iter B f) i=k
  rw[show i=n by omega,he]
 |succ m ih=>
  intro i f hi hf
  obtain⟨f,rfl⟩:∃x,f=x+1:=⟨f-1,by omega⟩
  show B (iter B f) i=_
  rw[hs _ _ (by omega),ih (i+1) f (by omega) (by omega)]
  rfl
theorem EU{B:(Nat→Option Int)→Nat→Option Int}(n:Nat)(g:Nat→Option Int)(k:Option Int)
 (hs:∀c i,i<n→B c i=(g i).bind fun e=>if decide (e≠0) then some e else c (i+1))(he:∀c,B c n=k)(hn:n≤1000000000000000):
 iter B FUEL 0=errs g k n 0:=alD hs he n 0 FUEL (by omega) (iW (by omega))
theorem Gm(g:Nat→Option Int)(K:Option Int):∀m i,((errs g (some 0) m i).bind fun e=>if decide (e≠0) then some e else K)=errs g K m i:=by
 intro m
 induction m with
 |zero=>intro i;rfl
 |succ m ih=>
  intro i
  simp only[errs]
  cases h:g i with
  |none=>rfl
  |some e=>
   simp only[Option.bind_some]
   by_cases he:e=0
   ·rw[if_neg (by simp[he]),if_neg (by simp[he]),ih]
   ·rw[if_pos (by simp[he]),if_pos (by simp[he]),Option.bind_some,if_pos (by simp[he])]
theorem Jd{g g':Nat→Option Int}{k k':Option Int}:∀m i,(∀j,i≤j→j<i+m→(∀j',i≤j'→j'<j→g j'=some 0)→g j=g' j)→
  ((∀j,i≤j→j<i+m→g j=some 0)→k=k')→errs g k m i=errs g' k' m i:=by
 intro m
 induction m with
 |zero=>intro i _ hk;exact hk (fun j _ _=>by omega)
 |succ m ih=>
  intro i hg hk
  simp only[errs]
  rw[←hg i (Nat.le_refl _) (by omega) (fun j _ _=>by omega)]
  cases h:g i with
  |none=>rfl
  |some e=>
   simp only[Option.bind_some]
   by_cases he:e=0
   ·subst he
    rw[if_neg (by simp),if_neg (by simp)]
    refine ih (i+1) (fun j h1 h2 h3=>hg j (by omega) (by omega) fun j' a b=>?_) (fun h3=>hk fun j' a b=>?_)
    ·by_cases e:j'=i
     ·subst e;exact h
     ·exact h3 j' (by omega) b
    ·by_cases e:j'=i
     ·subst e;exact h
     ·exact h3 j' (by omega) (by omega)
   ·rw[if_pos (by simp[he]),if_pos (by simp[he])]
theorem Gn{g:Nat→Option Int}{k:Option Int}:∀m i,errs g k m i=some 0→(∀j,i≤j→j<i+m→g j=some 0)∧k=some 0:=by
 intro m
 induction m with
 |zero=>intro i h;exact⟨fun j _ _=>by omega,h⟩
 |succ m ih=>
  intro i h
  simp only[errs] at h
  cases hg:g i with
  |none=>rw[hg] at h;cases h
  |some e=>
   rw[hg,Option.bind_some] at h
   by_cases he:e=0
   ·subst he
    rw[if_neg (by simp)] at h
    obtain⟨h1,h2⟩:=ih (i+1) h
    refine⟨fun j a b=>?_,h2⟩
    by_cases e:j=i
    ·subst e;exact hg
    ·exact h1 j (by omega) (by omega)
   ·rw[if_pos (by simp[he])] at h
    cases h;exact absurd rfl he
theorem NU{α:Type}(g:Bool)(d v:α):fV g d (some v)=some (if g then v else d):=by cases g<;>rfl
theorem als{α:Type}{B:(Nat→Option Int)→Nat→Option Int}(xs:List α)(q:α→Bool)
  (hs:∀c (i:Nat) x,idx xs (i:Int)=some x→i<xs.length→B c i=if q x then some (i:Int) else c (i+1))(he:∀c,B c xs.length=some (-1)):
  ∀n i,i≤xs.length→xs.length-i<n→((iter B n i).bind fun y=>some (decide (0≤y)))=some ((xs.drop i).any q):=by
 intro n
 induction n with
 |zero=>intro i _ h;omega
 |succ n ih=>
  intro i hi hn
  show ((B (iter B n) i).bind _)=_
  by_cases hl:i=xs.length
  ·subst hl
   rw[he,List.drop_length];rfl
  ·have hlt:i<xs.length:=by omega
   have hd:xs.drop i=xs[i]::xs.drop (i+1):=List.drop_eq_getElem_cons hlt
   rw[hs _ i xs[i] (by simp[idx,hlt]) hlt,hd,List.any_cons]
   cases h:q xs[i] with
   |true=>simp
   |false=>rw[if_neg (by simp),ih (i+1) (by omega) (by omega)];simp
theorem ZI{α:Type}{B:(Nat→Option Int)→Nat→Option Int}(xs:List α)(q:α→Bool)
  (hs:∀c (i:Nat) x,idx xs (i:Int)=some x→i<xs.length→B c i=if q x then some (i:Int) else c (i+1))(he:∀c,B c xs.length=some (-1))
  (hl:xs.length≤1000000):((iter B FUEL 0).bind fun y=>some (decide (0≤y)))=some (xs.any q):=by
 have:=als xs q hs he FUEL 0 (by omega) (iW (by omega))
 rwa [List.drop_zero] at this
end Go.Dc
namespace Go.Proofs.YtcalibhfgdncaaaGreatDoor
open Go.Dc
def jG(p:Plan)(r:dD):aQ:=p.Routes.getD r.aQ.toNat default
def qY(r:aQ):Int:=(r.Steps.getD 0 default).Section
def pE(r:aQ):Int:=(r.Steps.getD ((r.Steps.length:Int)-r.Overlap-1).toNat default).Section
def yT(s:bA):Bool:=((((((decide (1≤s.Length)&&decide (s.Length≤40))&&decide (1000≤s.tX))&&decide (s.tX≤100000))&&decide (100≤s.tQ))&&decide (s.tQ≤2000))&&decide (100≤s.tV))&&decide (s.tV≤2000)
def sO(p:Plan)(lo hi:Int):Bool:=((decide (0≤lo)&&decide (lo≤hi))&&decide (hi≤7200))&&decide (hi<lo+p.bR)
def wB(w:Int):Bool:=decide (0≤w)&&decide (w≤1048576)
def zX(r:aQ):List Step:=r.Steps.take ((r.Steps.length:Int)-r.Overlap).toNat
def Jj(l:Layout)(r:aQ)(s:bA):Int:=
 if (Ap l r).2.2≠0 then (Ap l r).2.2 else if yT s=false then 1
 else if (zX r).any (fun st=>decide ((mM l st).Length<(if s.Length>2 then s.Length else 2)))=true then 12 else 0
def vG(p:Plan)(x:Line)(k:Nat)(r:dD):Bool:=
 decide (0≤r.aQ)&&decide (r.aQ<(p.Routes.length:Int))&&decide (0≤r.Extra)&&decide (r.Extra<p.bR)&&sO p r.Min r.Max&& !(decide (k+1=x.bL.length)&&(decide (r.Min≠0)||decide (r.Max≠0)))
def kX(x:Line)(k:Nat):dD:=x.bL.getD k default
def wN(l:Layout)(p:Plan)(x:Line)(k:Nat):Int:=
 if vG p x k (kX x k)=false then 4
 else if Jj l (jG p (kX x k)) (p.aU.getD x.bA.toNat default)≠0 then Jj l (jG p (kX x k)) (p.aU.getD x.bA.toNat default)
 else if 0<k∧qY (jG p (kX x k))≠pE (jG p (kX x (k-1))) then 11 else 0
def Tg(p:Plan)(i:Nat):Int:=
 if mK (p.aU.getD i default).Name.ba=false then 3 else if (p.aU.take i).any (fun t=>decide (t.Name=(p.aU.getD i default).Name))=true then 5
 else if yT (p.aU.getD i default)=false then 4 else 0
def Wh(l:Layout)(p:Plan)(i:Nat):Int:=(kJ l (p.Routes.getD i default)).2
def dS(p:Plan)(i:Nat):Line:=p.Lines.getD i default
def GR(l:Layout)(p:Plan)(i:Nat):Option Int:=
 if mK (dS p i).Name.ba=false then some 3 else if (p.Lines.take i).any (fun t=>decide (t.Name=(dS p i).Name))=true then some 5
 else if (decide (0≤(dS p i).bA)&&decide ((dS p i).bA<(p.aU.length:Int))&&wB (dS p i).Weight)=false then some 4
 else if (dS p i).bL.length=0 then some 1
 else errs (fun k=>some (wN l p (dS p i) k)) (some 0) (dS p i).bL.length 0
def jy(p:Plan)(i:Int):Bool:=decide (0≤i)&&decide (i<(p.Lines.length:Int))
def iE(p:Plan)(i k:Int):Bool:=jy p i&&decide (0≤k)&&decide (k<((dS p i.toNat).bL.length:Int))
def jM(p:Plan)(i k:Int):dD:=kX (dS p i.toNat) k.toNat
def xU(l:Layout)(s:Int):Int:=(l.Sections.getD s.toNat default).pQ
def Dh(p:Plan)(c:Change):Bool:=iE p c.jk c.kP&&iE p c.kg c.mX&& !decide (c.jk=c.kg)&&sO p c.Min c.Max&&wB c.Weight
def Lb(l:Layout)(p:Plan)(c:Change):Int:=
 if Dh p c=false then 4
 else if xU l (pE (jG p (jM p c.jk c.kP)))= -1∨xU l (pE (jG p (jM p c.jk c.kP)))≠xU l (qY (jG p (jM p c.kg c.mX))) then 11 else 0
def OL(l:Layout)(p:Plan)(i:Nat):Int:=Lb l p (p.Changes.getD i default)
def Xc(p:Plan)(i:Nat)(t:Turn):Int:=
 if (jy p t.From&&jy p t.To&&sO p t.Min t.Max)=false then 4
 else if (p.Turns.take i).any (fun u=>decide (u.From=t.From)||decide (u.To=t.To))=true then 5
 else if pE (jG p (jM p t.From ((dS p t.From.toNat).bL.length-1)))≠qY (jG p (jM p t.To 0))∨(dS p t.From.toNat).bA≠(dS p t.To.toNat).bA then 11 else 0
def TG(p:Plan)(i:Nat):Int:=Xc p i (p.Turns.getD i default)
def NQ(p:Plan)(s:Sync):Int:=
 if (iE p s.mD s.lV&&iE p s.mQ s.mE&& !(decide (s.mD=s.mQ)&&decide (s.lV=s.mE))&&decide (0≤s.Offset)&&decide (s.Offset<p.bR))=false then 4 else 0
def Tq(p:Plan)(i:Nat):Int:=NQ p (p.bq.getD i default)
def Ld(l:Layout)(d:dB):Int:=
 if (decide (0≤d.From)&&decide (d.From<(l.aM.length:Int))&&decide (0≤d.To)&&decide (d.To<(l.aM.length:Int))&& !decide (d.From=d.To)&&decide (1≤d.Weight)&&decide (d.Weight≤1048576))=false then 4 else 0
def OU(l:Layout)(p:Plan)(i:Nat):Int:=Ld l (p.bg.getD i default)
structure Sz(p:Plan):Prop where
 st:p.aU.length≤8
 ro:p.Routes.length≤48
 li:p.Lines.length≤16
 ch:p.Changes.length≤32
 tu:p.Turns.length≤32
 sy:p.bq.length≤32
 de:p.bg.length≤32
 ri:∀x∈p.Lines,x.bL.length≤12
instance (p:Plan):Decidable (Sz p):=
 decidable_of_iff (p.aU.length≤8∧p.Routes.length≤48∧p.Lines.length≤16∧p.Changes.length≤32∧p.Turns.length≤32∧p.bq.length≤32∧p.bg.length≤32∧∀x∈p.Lines,x.bL.length≤12)
  ⟨fun⟨a,b,c,d,e,f,g,h⟩=>⟨a,b,c,d,e,f,g,h⟩,fun⟨a,b,c,d,e,f,g,h⟩=>⟨a,b,c,d,e,f,g,h⟩⟩
def DZ(l:Layout)(p:Plan):Int:=if ko (iY l)≠0 then 1 else if ¬Sz p then 7 else if p.bR<2∨7200<p.bR then 4 else 0
def DJ(l:Layout)(p:Plan):Option Int:=
 if decide (DZ l p≠0) then some (DZ l p) else
 errs (fun i=>some (Tg p i)) (errs (fun i=>some (Wh l p i)) (errs (GR l p) (errs (fun i=>some (OL l p i)) (errs (fun i=>some (TG p i))
  (errs (fun i=>some (Tq p i)) (errs (fun i=>some (OU l p i)) (some 0) p.bg.length 0) p.bq.length 0) p.Turns.length 0) p.Changes.length 0) p.Lines.length 0) p.Routes.length 0) p.aU.length 0
/-! ### What holds so far -/
structure RvOk(l:Layout)(p:Plan):Prop where
 sz:Sz p
 per:2≤p.bR∧p.bR≤7200
 ck:ko (iY l)=0
 rt:∀r∈p.Routes,(kJ l r).2=0
theorem getD_lt{α:Type}[Inhabited α]{xs:List α}{i:Nat}(h:i<xs.length):xs.getD i default=xs[i]:=by simp[h]
theorem lY{α:Type}[Inhabited α]{xs:List α}{i:Nat}(h:i<xs.length):xs.getD i default∈xs:=by rw[getD_lt h];exact List.getElem_mem h
theorem Cc{α:Type}[Inhabited α]{xs:List α}{i:Nat}(h:i<xs.length):idx xs (i:Int)=some (xs.getD i default):=by rw[vZ];simp[h]
theorem abC{α:Type}{xs:List α}{i:Nat}(h:i≤xs.length):sub xs 0 (i:Int)=some (xs.take i):=by
 unfold sub
 rw[if_pos (by omega)]
 simp
theorem vV{e:Int}{c:Option Int}(h:e≠0):(some e:Option Int)=((some e).bind fun e=>if decide (e≠0) then some e else c):=by
 rw[Option.bind_some,if_pos (by simpa using h)]
theorem agS{l:Layout}{p:Plan}(h:DZ l p=0):Sz p∧(2≤p.bR∧p.bR≤7200)∧ko (iY l)=0:=by
 unfold DZ at h
 split at h
 ·cases h
 split at h
 ·cases h
 split at h
 ·cases h
 rename_i a b c
 exact⟨Classical.not_not.1 b,by omega,Classical.not_not.1 a⟩
theorem QY{l:Layout}{p:Plan}(o:RvOk l p){r:dD}(h0:0≤r.aQ)(h1:r.aQ<(p.Routes.length:Int)):idx p.Routes r.aQ=some (jG p r)∧Ak l (jG p r):=by
 have hlt:r.aQ.toNat<p.Routes.length:=by omega
 exact⟨uj h0 h1,DU (o.rt _ (lY hlt))⟩
theorem apH{l:Layout}{r:aQ}(o:Ak l r):idx r.Steps 0=some (r.Steps.getD 0 default):=by
 have:=o.two;have:=o.ov
 exact uj (i:=0) (by omega) (by omega)
theorem apI{l:Layout}{r:aQ}(o:Ak l r):idx r.Steps ((r.Steps.length:Int)-r.Overlap-1)=some (r.Steps.getD ((r.Steps.length:Int)-r.Overlap-1).toNat default):=by
 have:=o.two;have:=o.ov
 exact uj (by omega) (by omega)
theorem abt{l:Layout}{p:Plan}(o:RvOk l p){r:dD}(h0:0≤r.aQ)(h1:r.aQ<(p.Routes.length:Int)):J3 p r=some (qY (jG p r)):=by
 obtain⟨a,b⟩:=QY o h0 h1
 unfold J3
 rw[a,Option.bind_some,apH b,Option.bind_some];rfl
theorem aby{l:Layout}{p:Plan}(o:RvOk l p){r:dD}(h0:0≤r.aQ)(h1:r.aQ<(p.Routes.length:Int)):J4 p r=some (pE (jG p r)):=by
 obtain⟨a,b⟩:=QY o h0 h1
 have:=b.len;have:=b.ov
 unfold J4
 rw[a,Option.bind_some,Option.bind_some,fD (jB (by omega) (by omega)),fD (jB (by omega) (by omega)),apI b,Option.bind_some];rfl
theorem Yh{l:Layout}{p:Plan}(o:RvOk l p)(lo hi:Int):JV p lo hi=some (sO p lo hi):=by
 have:=o.per
 unfold JV
 by_cases h:0≤lo∧lo≤hi∧hi≤7200
 ·rw[fD (by simp[bW];omega)];rfl
 ·rw[fD (by simp;omega)];rfl
theorem SV{l:Layout}{r:aQ}(o:Ak l r){s:Step}(h:s∈r.Steps):idx l.Sections s.Section=some (l.Sections.getD s.Section.toNat default):=(Wq o.v (o.st s h)).1
/-! ### The checks -/
theorem acT(s:bA):OX s=some (yT s):=rfl
theorem ap4{l:Layout}{r:aQ}(o:Ak l r):OH r=some (zX r):=by
 have:=o.len;have:=o.ov;have:=o.two
 unfold OH
 rw[fD (jB (by omega) (by omega))]
 have:sub r.Steps 0 ((r.Steps.length:Int)-r.Overlap)=some (zX r):=by
  unfold sub zX
  rw[if_pos (by omega)]
  simp
 rw[this];rfl
theorem ah1{l:Layout}{r:aQ}(h:(Ap l r).2.2=0):Ak l r:=by
 refine DU ?_
 by_cases h0:(kJ l r).2=0
 ·exact h0
 ·unfold Ap at h;rw[if_pos h0] at h;exact h
theorem aiQ(l:Layout)(r:aQ)(s:bA):OE l r s=some (Jj l r s):=by
 unfold OE Uj Jj
 rw[an8,Option.bind_some]
 by_cases h0:(Ap l r).2.2=0
 ·rw[if_neg (by simp[h0]),if_neg (by simp[h0]),acT,Option.bind_some]
  have o:=ah1 h0
  cases hs:yT s with
  |false=>rfl
  |true=>
   rw[if_neg (by simp),if_neg (by simp),ap4 o,Option.bind_some]
   have hT:∀x∈zX r,jJ l x=true:=fun x hx=>o.st x (List.mem_of_mem_take hx)
   have hl:(zX r).length≤24:=by have:=o.len;unfold zX;rw[List.length_take];omega
   generalize zX r=T at hT hl
   have:=nR (B:=OG T l s (Ap l r)) (fun (_:Unit) i=>i) T (fun _ _=>True)
    (fun _ q=>some (if q.any (fun st=>decide ((mM l st).Length<(if s.Length>2 then s.Length else 2)))=true then (tT.mk ([]:List Cell) 0,(12:Int)) else (tT.mk (Ap l r).1 (Ap l r).2.1,0))) ?_ ?_ FUEL () 0 trivial (by omega) (iW (by omega))
   ·rw[this,Option.bind_some,List.drop_zero]
    cases (T.any fun st=>decide ((mM l st).Length<(if s.Length>2 then s.Length else 2)))<;>rfl
   ·intro c _ i x q _ hdr hi hx hk
    simp only[OG]
    have hm:x∈T:=List.mem_of_mem_drop (i:=i) (by rw[hdr];exact List.mem_cons_self)
    rw[if_pos (by simp;omega),hx,Option.bind_some,(Wq o.v (hT x hm)).1,Option.bind_some]
    by_cases hc:(mM l x).Length<(if s.Length>2 then s.Length else 2)
    ·rw[if_pos (by simpa using hc),if_pos (by simp[hc])]
    ·rw[if_neg (by simpa using hc),hk () trivial]
     simp only[List.any_cons,decide_eq_false hc,Bool.false_or]
   ·intro c _ _
    simp only[OG]
    rw[if_neg (by simp)]
    rfl
 ·rw[if_pos (by simp[h0]),if_pos h0];rfl
end Go.Proofs.YtcalibhfgdncaaaGreatDoor
namespace Go.Proofs.YtcalibhfgdncaaaGreatDoor
open Go.Dc
theorem ail(xs:List bA)(y:bA)(h:xs.length≤1000):S9 xs y=some (xs.any fun t=>decide (t.Name=y.Name)):=by
 unfold S9 WC
 refine ZI xs _ (fun c i x hx hi=>?_) (fun c=>?_) (by omega)
 ·simp only[WB]
  rw[if_pos (by simp;omega),hx];rfl
 ·simp only[WB]
  rw[if_neg (by simp)];rfl
theorem aik(xs:List Line)(y:Line)(h:xs.length≤1000):SY xs y=some (xs.any fun t=>decide (t.Name=y.Name)):=by
 unfold SY Ww
 refine ZI xs _ (fun c i x hx hi=>?_) (fun c=>?_) (by omega)
 ·simp only[Wv]
  rw[if_pos (by simp;omega),hx];rfl
 ·simp only[Wv]
  rw[if_neg (by simp)];rfl
theorem ain(xs:List Turn)(y:Turn)(h:xs.length≤1000):Ta xs y=some (xs.any fun u=>decide (u.From=y.From)||decide (u.To=y.To)):=by
 unfold Ta WI
 refine ZI xs _ (fun c i x hx hi=>?_) (fun c=>?_) (by omega)
 ·simp only[WH]
  rw[if_pos (by simp;omega),hx];rfl
 ·simp only[WH]
  rw[if_neg (by simp)];rfl
theorem aia(l:Layout)(p:Plan)(h:p.aU.length≤1000):MZ l p=errs (fun i=>some (Tg p i)) (some 0) p.aU.length 0:=by
 unfold MZ
 refine EU _ _ _ (fun c i hi=>?_) (fun c=>?_) (by omega)
 ·simp only[Vv]
  rw[if_pos (by simp;omega),Cc hi,Option.bind_some,aeM,Option.bind_some]
  unfold Tg
  by_cases h1:mK (p.aU.getD i default).Name.ba=false
  ·rw[if_pos h1,if_pos (by rw[h1];rfl)];exact vV (by decide)
  ·rw[if_neg h1,if_neg (by simpa using h1),abC (by omega),Option.bind_some,ail _ _ (by rw[List.length_take];omega),Option.bind_some]
   by_cases h2:((p.aU.take i).any fun t=>decide (t.Name=(p.aU.getD i default).Name))=true
   ·rw[if_pos h2,if_pos h2];exact vV (by decide)
   ·rw[if_neg h2,if_neg h2,acT,Option.bind_some]
    by_cases h3:yT (p.aU.getD i default)=false
    ·rw[if_pos h3,if_pos (by rw[h3];rfl)];exact vV (by decide)
    ·rw[if_neg h3,if_neg (by simpa using h3)];rfl
 ·simp only[Vv]
  rw[if_neg (by simp)];rfl
theorem ah8(l:Layout)(p:Plan)(h:p.Routes.length≤1000):MW l p=errs (fun i=>some (Wh l p i)) (some 0) p.Routes.length 0:=by
 unfold MW
 refine EU _ _ _ (fun c i hi=>?_) (fun c=>?_) (by omega)
 ·simp only[Vu]
  rw[if_pos (by simp;omega),Cc hi,Option.bind_some,afi];rfl
 ·simp only[Vu]
  rw[if_neg (by simp)];rfl
theorem afX{p:Plan}{x:Line}{k:Nat}{r:dD}(h:vG p x k r=true):0≤r.aQ∧r.aQ<(p.Routes.length:Int):=by
 unfold vG at h
 simp only[Bool.and_eq_true,decide_eq_true_eq] at h
 exact⟨h.1.1.1.1.1,h.1.1.1.1.2⟩
theorem V9{l:Layout}{p:Plan}{x:Line}{k:Nat}(h:wN l p x k=0):0≤(kX x k).aQ∧(kX x k).aQ<(p.Routes.length:Int):=by
 unfold wN at h
 split at h
 ·cases h
 ·rename_i h1;exact afX (by simpa using h1)
theorem aon{l:Layout}{p:Plan}(o:RvOk l p)(x:Line)(hs:0≤x.bA∧x.bA<(p.aU.length:Int))(hx:x.bL.length≤12)(k:Nat)(hk:k<x.bL.length)
  (Zl:∀j,j<k→wN l p x j=0)(hb:vG p x k (kX x k)=true):Cr p (kX x k) x l k false=some (wN l p x k):=by
 obtain⟨r0,r1⟩:=afX hb
 unfold wN
 rw[if_neg (by simp[hb])]
 simp only[Cr]
 rw[if_neg (by simp),(QY o r0 r1).1,Option.bind_some,uj hs.1 hs.2,Option.bind_some,aiQ,Option.bind_some]
 by_cases f0:Jj l (jG p (kX x k)) (p.aU.getD x.bA.toNat default)=0
 ·rw[if_neg (by rw[f0];simp),if_neg (fun h=>h f0)]
  by_cases k0:0<k
  ·have e1:((k:Int)-1)=((k-1:Nat):Int):=by omega
   obtain⟨q0,q1⟩:=V9 (Zl (k-1) (by omega))
   have g:decide (0<(k:Int))=true:=by simp;omega
   rw[fD (by simp[bW];omega),qJ g,e1,Cc (by omega),Option.bind_some,qJ g,abt o r0 r1,Option.bind_some,qJ g]
   rw[show x.bL.getD (k-1) default=kX x (k-1) from rfl,aby o q0 q1,Option.bind_some,g,Bool.true_and]
   by_cases e:qY (jG p (kX x k))=pE (jG p (kX x (k-1)))
   ·rw[if_neg (by simp[e]),if_neg (by simp[e])]
   ·rw[if_pos (by simpa using e),if_pos ⟨k0,e⟩]
  ·have g:decide (0<(k:Int))=false:=by simp;omega
   rw[fD (by simp;omega),CQ g,Option.bind_some,CQ g,Option.bind_some,CQ g,Option.bind_some,g,Bool.false_and,if_neg (by simp),if_neg (fun h=>k0 h.1)]
 ·rw[if_pos (by simpa using f0),if_pos f0]
theorem afY{l:Layout}{p:Plan}(o:RvOk l p)(x:Line)(hs:0≤x.bA∧x.bA<(p.aU.length:Int))(hx:x.bL.length≤12)(k:Nat)(hk:k<x.bL.length)
  (Zl:∀j,j<k→wN l p x j=0):MV l p x k=some (wN l p x k):=by
 have hgood:=aon o x hs hx k hk Zl
 have hbad:vG p x k (kX x k)=false→Cr p (kX x k) x l k true=some (wN l p x k):=by
  intro h;unfold wN;rw[if_pos h];rfl
 unfold MV
 rw[Cc hk,Option.bind_some,show x.bL.getD k default=kX x k from rfl]
 generalize kX x k=r at*
 by_cases a1:r.aQ<0
 ·rw[if_pos (by simpa using a1),decide_eq_true a1]
  exact hbad (by unfold vG;rw[decide_eq_false (show ¬0≤r.aQ by omega)];simp)
 rw[if_neg (by simpa using a1)]
 by_cases a2:(p.Routes.length:Int)≤r.aQ
 ·rw[if_pos (by simpa using a2),decide_eq_true a2]
  exact hbad (by unfold vG;rw[decide_eq_false (show ¬r.aQ<(p.Routes.length:Int) by omega)];simp)
 rw[if_neg (by simpa using a2)]
 by_cases a3:r.Extra<0
 ·rw[if_pos (by simpa using a3),decide_eq_true a3]
  exact hbad (by unfold vG;rw[decide_eq_false (show ¬0≤r.Extra by omega)];simp)
 rw[if_neg (by simpa using a3)]
 by_cases a4:p.bR≤r.Extra
 ·rw[if_pos (by simpa using a4),decide_eq_true a4]
  exact hbad (by unfold vG;rw[decide_eq_false (show ¬r.Extra<p.bR by omega)];simp)
 rw[if_neg (by simpa using a4),Yh o,Option.bind_some]
 cases a5:sO p r.Min r.Max with
 |false=>
  rw[Bool.not_false,if_pos rfl]
  exact hbad (by unfold vG;rw[a5];simp)
 |true=>
  rw[Bool.not_true,if_neg (by simp),fD (jB (by omega) (by omega))]
  have e:(decide ((k:Int)=(x.bL.length:Int)-1))=decide (k+1=x.bL.length):=by
   rw[Bool.eq_iff_iff];simp only[decide_eq_true_eq];omega
  rw[e]
  have hB:vG p x k r= !(decide (k+1=x.bL.length)&&(decide (r.Min≠0)||decide (r.Max≠0))):=by
   unfold vG
   rw[decide_eq_true (show 0≤r.aQ by omega),decide_eq_true (show r.aQ<(p.Routes.length:Int) by omega),decide_eq_true (show 0≤r.Extra by omega),decide_eq_true (show r.Extra<p.bR by omega),a5]
   rfl
  cases hg:(decide (k+1=x.bL.length)&&(decide (r.Min≠0)||decide (r.Max≠0))) with
  |true=>rw[hg] at hB;exact hbad hB
  |false=>rw[hg] at hB;exact hgood hB
theorem ag1(w:Int):RF w=some (wB w):=rfl
theorem ah6{l:Layout}{p:Plan}(o:RvOk l p):MU l p=errs (GR l p) (some 0) p.Lines.length 0:=by
 have hz:=o.sz.li
 unfold MU
 refine EU _ _ _ (fun c i hi=>?_) (fun c=>?_) (by omega)
 ·simp only[Vt]
  rw[if_pos (by simp;omega),Cc hi,Option.bind_some,show p.Lines.getD i default=dS p i from rfl,aeM,Option.bind_some]
  have hr:(dS p i).bL.length≤12:=o.sz.ri _ (lY hi)
  unfold GR
  by_cases h1:mK (dS p i).Name.ba=false
  ·rw[if_pos h1,if_pos (by rw[h1];rfl)];exact vV (by decide)
  rw[if_neg h1,if_neg (by simpa using h1),abC (by omega),Option.bind_some,aik _ _ (by rw[List.length_take];omega),Option.bind_some]
  by_cases h2:((p.Lines.take i).any fun t=>decide (t.Name=(dS p i).Name))=true
  ·rw[if_pos h2,if_pos h2];exact vV (by decide)
  rw[if_neg h2,if_neg h2]
  have hk3:JW (dS p i) l p c i true=some 4:=rfl
  by_cases a1:(dS p i).bA<0
  ·rw[if_pos (by simpa using a1),decide_eq_true a1,hk3,if_pos (by rw[decide_eq_false (show ¬0≤(dS p i).bA by omega)];simp)];exact vV (by decide)
  rw[if_neg (by simpa using a1)]
  by_cases a2:(p.aU.length:Int)≤(dS p i).bA
  ·rw[if_pos (by simpa using a2),decide_eq_true a2,hk3,if_pos (by rw[decide_eq_false (show ¬(dS p i).bA<(p.aU.length:Int) by omega)];simp)];exact vV (by decide)
  rw[if_neg (by simpa using a2),ag1,Option.bind_some]
  rw[decide_eq_true (show 0≤(dS p i).bA by omega),decide_eq_true (show (dS p i).bA<(p.aU.length:Int) by omega),Bool.true_and,Bool.true_and]
  cases hw:wB (dS p i).Weight with
  |false=>rw[Bool.not_false,hk3,if_pos rfl];exact vV (by decide)
  |true=>
   rw[Bool.not_true,if_neg (by simp)]
   simp only[JW]
   rw[if_neg (by simp)]
   by_cases h0:(dS p i).bL.length=0
   ·rw[if_pos (by simp[h0]),if_pos h0];exact vV (by decide)
   ·rw[if_neg (by simp;intro e;exact h0 (by rw[e];rfl)),if_neg h0]
    rw[Gm,EU (B:=Rt (dS p i) l p c i) (dS p i).bL.length (fun k=>MV l p (dS p i) k) (c (i+1)) (fun c' k hk=>?_) (fun c'=>?_) (by omega)]
    ·refine Jd _ _ (fun j _ hj hp=>?_) (fun _=>rfl)
     have:∀m,m≤j→(∀j',j'<m→wN l p (dS p i) j'=0):=by
      intro m
      induction m with
      |zero=>intro _ j' h;omega
      |succ m ih=>
       intro hm j' hj'
       have ih':=ih (by omega)
       by_cases e:j'=m
       ·subst e
        have h3:=afY o (dS p i) (by omega) hr j' (by omega) ih'
        have h4:=hp j' (by omega) (by omega)
        rw[h3] at h4
        exact Option.some.inj h4
       ·exact ih' j' (by omega)
     exact afY o (dS p i) (by omega) hr j (by omega) (this j (Nat.le_refl _))
    ·simp only[Rt]
     rw[if_pos (by simp;omega)]
    ·simp only[Rt]
     rw[if_neg (by simp)];rfl
 ·simp only[Vt]
  rw[if_neg (by simp)];rfl
structure LnOk(l:Layout)(p:Plan):Prop extends RvOk l p where
 ln:∀i,i<p.Lines.length→(0≤(dS p i).bA∧(dS p i).bA<(p.aU.length:Int))∧0<(dS p i).bL.length∧∀k,k<(dS p i).bL.length→wN l p (dS p i) k=0
theorem aez{l:Layout}{p:Plan}{i:Nat}(h:GR l p i=some 0):(0≤(dS p i).bA∧(dS p i).bA<(p.aU.length:Int))∧0<(dS p i).bL.length∧∀k,k<(dS p i).bL.length→wN l p (dS p i) k=0:=by
 unfold GR at h
 split at h
 ·cases h
 split at h
 ·cases h
 split at h
 ·cases h
 split at h
 ·cases h
 rename_i _ _ h3 h4
 simp only[Bool.not_eq_false,Bool.and_eq_true,decide_eq_true_eq] at h3
 refine⟨h3.1,by omega,fun k hk=>?_⟩
 exact Option.some.inj ((Gn _ _ h).1 k (by omega) (by omega))
theorem aeB{l:Layout}{p:Plan}(o:RvOk l p)(h:∀j,0≤j→j<0+p.Lines.length→GR l p j=some 0):LnOk l p:=
 {toRvOk:=o,ln:=fun i hi=>aez (h i (by omega) (by omega))}
theorem adu(p:Plan)(i k:Int):G8 p i k=some (iE p i k):=by
 unfold G8 JX iE
 simp only[Option.bind_some]
 rw[show (decide (0≤i)&&decide (i<(p.Lines.length:Int)))=jy p i from rfl]
 cases h:(jy p i&&decide (0≤k)) with
 |false=>rw[CQ rfl,Option.bind_some];rfl
 |true=>
  have h1:jy p i=true:=by simp only[Bool.and_eq_true] at h;exact h.1
  unfold jy at h1
  simp only[Bool.and_eq_true,decide_eq_true_eq] at h1
  rw[qJ rfl,uj h1.1 h1.2,Option.bind_some];rfl
theorem ajG(p:Plan)(i:Int):JX p i=some (jy p i):=rfl
theorem Lm{p:Plan}{i:Int}(h:jy p i=true):idx p.Lines i=some (dS p i.toNat)∧i.toNat<p.Lines.length∧((i.toNat:Nat):Int)=i:=by
 unfold jy at h
 simp only[Bool.and_eq_true,decide_eq_true_eq] at h
 exact⟨uj h.1 h.2,by omega,by omega⟩
theorem adt{l:Layout}{p:Plan}(o:LnOk l p){i k:Int}(h:iE p i k=true):idx p.Lines i=some (dS p i.toNat)∧idx (dS p i.toNat).bL k=some (jM p i k)∧0≤(jM p i k).aQ∧(jM p i k).aQ<(p.Routes.length:Int):=by
 unfold iE at h
 simp only[Bool.and_eq_true,decide_eq_true_eq] at h
 obtain⟨a,b,_⟩:=Lm h.1.1
 have:=(o.ln _ b).2.2 k.toNat (by omega)
 exact⟨a,uj h.1.2 h.2,V9 this⟩
theorem ao4{l:Layout}{r:aQ}(o:Ak l r):idx l.Sections (qY r)=some (l.Sections.getD (qY r).toNat default):=by
 have:=o.two;have:=o.ov
 exact SV o (lY (by omega))
theorem ao5{l:Layout}{r:aQ}(o:Ak l r):idx l.Sections (pE r)=some (l.Sections.getD (pE r).toNat default):=by
 have:=o.two;have:=o.ov
 exact SV o (lY (by omega))
theorem ah4{l:Layout}{p:Plan}(o:LnOk l p):MQ l p=errs (fun i=>some (OL l p i)) (some 0) p.Changes.length 0:=by
 have hz:=o.sz.ch
 unfold MQ
 refine EU _ _ _ (fun c i hi=>?_) (fun c=>?_) (by omega)
 ·simp only[Vr]
  rw[if_pos (by simp;omega),Cc hi,Option.bind_some]
  unfold OL
  generalize p.Changes.getD i default=x
  unfold Lb
  conv=>lhs;simp only[adu,Yh o.toRvOk,ag1,NU,Option.bind_some]
  have hc:(((((!iE p x.jk x.kP)||(!(if (!(!iE p x.jk x.kP))=true then iE p x.kg x.mX else default)))||decide (x.jk=x.kg))||
    (!(if (!(((!iE p x.jk x.kP)||(!(if (!(!iE p x.jk x.kP))=true then iE p x.kg x.mX else default)))||decide (x.jk=x.kg)))=true then sO p x.Min x.Max else default)))||
    (!(if (!((((!iE p x.jk x.kP)||(!(if (!(!iE p x.jk x.kP))=true then iE p x.kg x.mX else default)))||decide (x.jk=x.kg))||
    (!(if (!(((!iE p x.jk x.kP)||(!(if (!(!iE p x.jk x.kP))=true then iE p x.kg x.mX else default)))||decide (x.jk=x.kg)))=true then sO p x.Min x.Max else default))))=true then wB x.Weight else default)))= !Dh p x:=by
   unfold Dh
   cases iE p x.jk x.kP<;>cases iE p x.kg x.mX<;>cases decide (x.jk=x.kg)<;>cases sO p x.Min x.Max<;>cases wB x.Weight<;>rfl
  rw[hc]
  cases hb:Dh p x with
  |false=>rw[Bool.not_false,if_pos rfl,if_pos rfl];exact vV (by decide)
  |true=>
   rw[Bool.not_true,if_neg (by simp),if_neg (by simp)]
   unfold Dh at hb
   simp only[Bool.and_eq_true] at hb
   obtain⟨a1,a2,a3,a4⟩:=adt o hb.1.1.1.1
   obtain⟨b1,b2,b3,b4⟩:=adt o hb.1.1.1.2
   rw[a1,Option.bind_some,a2,Option.bind_some,aby o.toRvOk a3 a4,Option.bind_some,ao5 (QY o.toRvOk a3 a4).2,Option.bind_some]
   rw[b1,Option.bind_some,b2,Option.bind_some,abt o.toRvOk b3 b4,Option.bind_some,ao4 (QY o.toRvOk b3 b4).2,Option.bind_some]
   rw[show (l.Sections.getD (pE (jG p (jM p x.jk x.kP))).toNat default).pQ=xU l (pE (jG p (jM p x.jk x.kP))) from rfl,
    show (l.Sections.getD (qY (jG p (jM p x.kg x.mX))).toNat default).pQ=xU l (qY (jG p (jM p x.kg x.mX))) from rfl]
   by_cases e:xU l (pE (jG p (jM p x.jk x.kP)))= -1∨xU l (pE (jG p (jM p x.jk x.kP)))≠xU l (qY (jG p (jM p x.kg x.mX)))
   ·rw[if_pos (by simpa using e),if_pos e];exact vV (by decide)
   ·rw[if_neg (by simpa using e),if_neg e];rfl
 ·simp only[Vr]
  rw[if_neg (by simp)];rfl
theorem aic{l:Layout}{p:Plan}(o:LnOk l p):M4 l p=errs (fun i=>some (TG p i)) (some 0) p.Turns.length 0:=by
 have hz:=o.sz.tu
 unfold M4
 refine EU _ _ _ (fun c i hi=>?_) (fun c=>?_) (by omega)
 ·simp only[Vx]
  rw[if_pos (by simp;omega),Cc hi,Option.bind_some]
  unfold TG
  generalize p.Turns.getD i default=x
  unfold Xc
  conv=>lhs;simp only[ajG,Yh o.toRvOk,NU,Option.bind_some]
  have hc:(((!jy p x.From)||(!(if (!(!jy p x.From))=true then jy p x.To else default)))||
    (!(if (!((!jy p x.From)||(!(if (!(!jy p x.From))=true then jy p x.To else default))))=true then sO p x.Min x.Max else default)))= !(jy p x.From&&jy p x.To&&sO p x.Min x.Max):=by
   cases jy p x.From<;>cases jy p x.To<;>cases sO p x.Min x.Max<;>rfl
  rw[hc]
  cases hb:(jy p x.From&&jy p x.To&&sO p x.Min x.Max) with
  |false=>rw[Bool.not_false,if_pos rfl,if_pos rfl];exact vV (by decide)
  |true=>
   rw[Bool.not_true,if_neg (by simp),if_neg (by simp),abC (by omega),Option.bind_some,ain _ _ (by rw[List.length_take];omega),Option.bind_some]
   by_cases h2:((p.Turns.take i).any fun u=>decide (u.From=x.From)||decide (u.To=x.To))=true
   ·rw[if_pos h2,if_pos h2];exact vV (by decide)
   rw[if_neg h2,if_neg h2]
   simp only[Bool.and_eq_true] at hb
   obtain⟨a1,a2,a3⟩:=Lm hb.1.1
   obtain⟨b1,b2,b3⟩:=Lm hb.1.2
   obtain⟨_,l1,l2⟩:=o.ln _ a2
   obtain⟨_,m1,m2⟩:=o.ln _ b2
   have hr:=o.sz.ri _ (lY a2)
   rw[show p.Lines.getD x.From.toNat default=dS p x.From.toNat from rfl] at hr
   rw[a1,Option.bind_some,b1,Option.bind_some]
   simp only[Vy]
   have e1:((dS p x.From.toNat).bL.length:Int)-1=(((dS p x.From.toNat).bL.length-1:Nat):Int):=by omega
   have ra:jM p x.From ((dS p x.From.toNat).bL.length-1)=kX (dS p x.From.toNat) ((dS p x.From.toNat).bL.length-1):=by
    unfold jM;rw[e1];rfl
   rw[ra,show jM p x.To 0=kX (dS p x.To.toNat) 0 from rfl]
   obtain⟨q0,q1⟩:=V9 (l2 ((dS p x.From.toNat).bL.length-1) (by omega))
   obtain⟨t0,t1⟩:=V9 (m2 0 (by omega))
   rw[fD (jB (by omega) (by omega)),e1,Cc (by omega),Option.bind_some,uj (i:=0) (by omega) (by omega),Option.bind_some]
   rw[show (dS p x.From.toNat).bL.getD ((dS p x.From.toNat).bL.length-1) default=kX (dS p x.From.toNat) ((dS p x.From.toNat).bL.length-1) from rfl,
    show (dS p x.To.toNat).bL.getD (0:Int).toNat default=kX (dS p x.To.toNat) 0 from rfl]
   rw[aby o.toRvOk q0 q1,Option.bind_some,abt o.toRvOk t0 t1,Option.bind_some]
   by_cases e:pE (jG p (kX (dS p x.From.toNat) ((dS p x.From.toNat).bL.length-1)))≠qY (jG p (kX (dS p x.To.toNat) 0))∨(dS p x.From.toNat).bA≠(dS p x.To.toNat).bA
   ·rw[if_pos (by simpa using e),if_pos e];exact vV (by decide)
   ·rw[if_neg (by simpa using e),if_neg e];rfl
 ·simp only[Vx]
  rw[if_neg (by simp)];rfl
theorem aib{l:Layout}{p:Plan}(o:LnOk l p):M0 l p=errs (fun i=>some (Tq p i)) (some 0) p.bq.length 0:=by
 have hz:=o.sz.sy
 unfold M0
 refine EU _ _ _ (fun c i hi=>?_) (fun c=>?_) (by omega)
 ·simp only[Vw]
  rw[if_pos (by simp;omega),Cc hi,Option.bind_some]
  unfold Tq
  generalize p.bq.getD i default=x
  unfold NQ
  conv=>lhs;simp only[adu,NU,Option.bind_some]
  have hc:(((((!iE p x.mD x.lV)||(!(if (!(!iE p x.mD x.lV))=true then iE p x.mQ x.mE else default)))||(decide (x.mD=x.mQ)&&decide (x.lV=x.mE)))||decide (x.Offset<0))||decide (p.bR≤x.Offset))
    = !(iE p x.mD x.lV&&iE p x.mQ x.mE&& !(decide (x.mD=x.mQ)&&decide (x.lV=x.mE))&&decide (0≤x.Offset)&&decide (x.Offset<p.bR)):=by
   rw[show decide (x.Offset<0)= !decide (0≤x.Offset) by rw[←decide_not];simp,show decide (p.bR≤x.Offset)= !decide (x.Offset<p.bR) by rw[←decide_not];simp]
   cases iE p x.mD x.lV<;>cases iE p x.mQ x.mE<;>cases decide (x.mD=x.mQ)<;>cases decide (x.lV=x.mE)<;>cases decide (0≤x.Offset)<;>cases decide (x.Offset<p.bR)<;>rfl
  rw[hc]
  cases (iE p x.mD x.lV&&iE p x.mQ x.mE&& !(decide (x.mD=x.mQ)&&decide (x.lV=x.mE))&&decide (0≤x.Offset)&&decide (x.Offset<p.bR)) with
  |false=>rw[Bool.not_false,if_pos rfl,if_pos rfl];exact vV (by decide)
  |true=>rw[Bool.not_true,if_neg (by simp),if_neg (by simp)];rfl
 ·simp only[Vw]
  rw[if_neg (by simp)];rfl
theorem ah5{l:Layout}{p:Plan}(hz:p.bg.length≤1000):MS l p=errs (fun i=>some (OU l p i)) (some 0) p.bg.length 0:=by
 unfold MS
 refine EU _ _ _ (fun c i hi=>?_) (fun c=>?_) (by omega)
 ·simp only[Vs]
  rw[if_pos (by simp;omega),Cc hi,Option.bind_some]
  unfold OU
  generalize p.bg.getD i default=x
  unfold Ld
  have hc:((((((decide (x.From<0)||decide ((l.aM.length:Int)≤x.From))||decide (x.To<0))||decide ((l.aM.length:Int)≤x.To))||decide (x.From=x.To))||decide (x.Weight<1))||decide (1048576<x.Weight))
    = !(decide (0≤x.From)&&decide (x.From<(l.aM.length:Int))&&decide (0≤x.To)&&decide (x.To<(l.aM.length:Int))&& !decide (x.From=x.To)&&decide (1≤x.Weight)&&decide (x.Weight≤1048576)):=by
   rw[Bool.eq_iff_iff]
   simp only[Bool.or_eq_true,Bool.not_eq_true',Bool.and_eq_false_imp,Bool.and_eq_true,decide_eq_true_eq,decide_eq_false_iff_not,Bool.not_eq_false']
   omega
  rw[hc]
  cases (decide (0≤x.From)&&decide (x.From<(l.aM.length:Int))&&decide (0≤x.To)&&decide (x.To<(l.aM.length:Int))&& !decide (x.From=x.To)&&decide (1≤x.Weight)&&decide (x.Weight≤1048576)) with
  |false=>rw[Bool.not_false,if_pos rfl,if_pos rfl];exact vV (by decide)
  |true=>rw[Bool.not_true,if_neg (by simp),if_neg (by simp)];rfl
 ·simp only[Vs]
  rw[if_neg (by simp)];rfl
theorem ah9(l:Layout)(p:Plan):MX l p=some (DZ l p):=by
 unfold MX LY DZ
 simp only[Option.bind_some]
 by_cases h0:ko (iY l)=0
 ·rw[if_neg (by simp[h0]),if_neg (show ¬ko (iY l)≠0 from fun h=>h h0)]
  have hbad:¬Sz p→Ct p true=some (if ¬Sz p then 7 else if p.bR<2∨7200<p.bR then 4 else 0):=fun h=>by rw[if_pos h];rfl
  by_cases a1:8<p.aU.length
  ·rw[if_pos (by simp;omega),decide_eq_true (by omega)];exact hbad (fun h=>by have:=h.st;omega)
  rw[if_neg (by simp;omega)]
  by_cases a2:48<p.Routes.length
  ·rw[if_pos (by simp;omega),decide_eq_true (by omega)];exact hbad (fun h=>by have:=h.ro;omega)
  rw[if_neg (by simp;omega)]
  by_cases a3:16<p.Lines.length
  ·rw[if_pos (by simp;omega),decide_eq_true (by omega)];exact hbad (fun h=>by have:=h.li;omega)
  rw[if_neg (by simp;omega)]
  by_cases a4:32<p.Changes.length
  ·rw[if_pos (by simp;omega),decide_eq_true (by omega)];exact hbad (fun h=>by have:=h.ch;omega)
  rw[if_neg (by simp;omega)]
  by_cases a5:32<p.Turns.length
  ·rw[if_pos (by simp;omega),decide_eq_true (by omega)];exact hbad (fun h=>by have:=h.tu;omega)
  rw[if_neg (by simp;omega)]
  by_cases a6:32<p.bq.length
  ·rw[if_pos (by simp;omega),decide_eq_true (by omega)];exact hbad (fun h=>by have:=h.sy;omega)
  rw[if_neg (by simp;omega)]
  by_cases a7:32<p.bg.length
  ·rw[decide_eq_true (by omega)];exact hbad (fun h=>by have:=h.de;omega)
  rw[decide_eq_false (by omega)]
  unfold Ct
  rw[if_neg (by simp)]
  have:=nR (B:=Ru p) (fun (_:Unit) i=>i) p.Lines (fun _ i=>∀x∈p.Lines.take i,x.bL.length≤12)
   (fun _ q=>some (if (¬∀x∈q,x.bL.length≤12) then (7:Int) else if p.bR<2∨7200<p.bR then 4 else 0)) ?_ ?_ FUEL () 0 (by simp) (by omega) (iW (by omega))
  ·rw[this,List.drop_zero]
   congr 1
   by_cases hr:∀x∈p.Lines,x.bL.length≤12
   ·have hs:Sz p:=⟨by omega,by omega,by omega,by omega,by omega,by omega,by omega,hr⟩
    rw[if_neg (show ¬¬∀x∈p.Lines,x.bL.length≤12 from fun h=>h hr),if_neg (show ¬¬Sz p from fun h=>h hs)]
   ·rw[if_pos hr,if_pos (fun h=>hr h.ri)]
  ·intro c _ i x q hI hdr hi hx hk
   simp only[Ru]
   rw[if_pos (by simp;omega),hx,Option.bind_some]
   by_cases Zq:12<x.bL.length
   ·rw[if_pos (by simp;omega),if_pos (fun h=>by have:=h x List.mem_cons_self;omega)]
   ·have ht:p.Lines.take (i+1)=p.Lines.take i++[x]:=by
     rw[List.take_succ_eq_append_getElem hi]
     rw[vZ,List.getElem?_eq_getElem hi] at hx
     cases hx;rfl
    rw[if_neg (by simp;omega),hk () (by
     intro y hy;rw[ht] at hy
     rcases List.mem_append.1 hy with h|h
     ·exact hI y h
     ·rw[List.mem_singleton.1 h];omega)]
    congr 1
    by_cases hq:∀y∈q,y.bL.length≤12
    ·have hxq:∀y∈x::q,y.bL.length≤12:=fun y hy=>by
      rcases List.mem_cons.1 hy with e|e
      ·rw[e];omega
      ·exact hq y e
     rw[if_neg (show ¬¬∀y∈q,y.bL.length≤12 from fun h=>h hq),if_neg (show ¬¬∀y∈x::q,y.bL.length≤12 from fun h=>h hxq)]
    ·rw[if_pos hq,if_pos (fun h=>hq fun y hy=>h y (List.mem_cons_of_mem _ hy))]
  ·intro c _ hI
   simp only[Ru]
   rw[if_neg (by simp)]
   unfold aaC
   rw[if_neg (show ¬¬∀y∈([]:List Line),y.bL.length≤12 from fun h=>h (fun y hy=>by cases hy))]
   by_cases hp:p.bR<2∨7200<p.bR
   ·rw[if_pos (by simpa using hp),if_pos hp]
   ·rw[if_neg (by simpa using hp),if_neg hp]
 ·rw[if_pos (by simpa using h0),if_pos h0]
theorem acy(l:Layout)(p:Plan):JR l p=DJ l p:=by
 unfold JR
 rw[EU 8 (fun i=>(idx ([32,33,34,35,36,37,38,39]:List Nat) (i:Int)).bind fun x=>Vq x l p) (some 0) (fun c i hi=>?_) (fun c=>?_) (by omega)]
 ·show ((MX l p).bind fun e=>if decide (e≠0) then some e else (MZ l p).bind fun e=>if decide (e≠0) then some e else (MW l p).bind fun e=>if decide (e≠0) then some e else
   (MU l p).bind fun e=>if decide (e≠0) then some e else (MQ l p).bind fun e=>if decide (e≠0) then some e else (M4 l p).bind fun e=>if decide (e≠0) then some e else
   (M0 l p).bind fun e=>if decide (e≠0) then some e else (MS l p).bind fun e=>if decide (e≠0) then some e else some 0)=DJ l p
  unfold DJ
  rw[ah9,Option.bind_some]
  by_cases h0:DZ l p=0
  ·obtain⟨hz,hp,hc⟩:=agS h0
   rw[if_neg (by simp[h0]),if_neg (by simp[h0]),aia l p (by have:=hz.st;omega),Gm]
   refine Jd _ _ (fun _ _ _ _=>rfl) (fun _=>?_)
   rw[ah8 l p (by have:=hz.ro;omega),Gm]
   refine Jd _ _ (fun _ _ _ _=>rfl) (fun hR=>?_)
   have o:RvOk l p:=⟨hz,hp,hc,fun r hr=>by
    obtain⟨i,hi,rfl⟩:=List.getElem_of_mem hr
    have:=Option.some.inj (hR i (by omega) (by omega))
    unfold Wh at this
    rwa [getD_lt hi] at this⟩
   rw[ah6 o,Gm]
   refine Jd _ _ (fun _ _ _ _=>rfl) (fun hL=>?_)
   have o':=aeB o hL
   rw[ah4 o',Gm]
   refine Jd _ _ (fun _ _ _ _=>rfl) (fun _=>?_)
   rw[aic o',Gm]
   refine Jd _ _ (fun _ _ _ _=>rfl) (fun _=>?_)
   rw[aib o',Gm]
   refine Jd _ _ (fun _ _ _ _=>rfl) (fun _=>?_)
   rw[ah5 (by have:=hz.de;omega),Gm]
  ·rw[if_pos (by simpa using h0),if_pos (by simpa using h0)]
 ·simp only[Vp]
  rw[if_pos (by simp;omega),Option.bind_assoc]
 ·simp only[Vp]
  rw[if_neg (by simp)];rfl
end Go.Proofs.YtcalibhfgdncaaaGreatDoor
namespace Go.Proofs.YtcalibhfgdncaaaGreatDoor
open Go.Dc
set_option maxRecDepth 10000
theorem kE{α β:Type}{o:Option α}{x:α}{K:α→Option β}{r:Option β}(h:o=some x)(h2:K x=r):o.bind K=r:=by rw[h];exact h2
def nI(v:Int):Str:=⟨Lib.itoa v⟩
def Fh:Str:=⟨[112,101,114,105,111,100]⟩
def NI:Str:=⟨[115,116,111,99,107]⟩
def Ih:Str:=⟨[114,111,117,116,101]⟩
def Mk:Str:=⟨[108,105,110,101]⟩
def Fy:Str:=⟨[114,105,100,101]⟩
def La:Str:=⟨[99,104,97,110,103,101]⟩
def NR:Str:=⟨[116,117,114,110]⟩
def NP:Str:=⟨[115,121,110,99]⟩
def Le:Str:=⟨[100,101,109,97,110,100]⟩
def MC:Str:=⟨[111,118,101,114,108,97,112]⟩
def Ac:Str:=⟨[117,112]⟩
def xg:Str:=⟨[100,111,119,110]⟩
def rng(lo hi:Int):Str:=⟨Lib.itoa lo++[46,46]++Lib.itoa hi⟩
def JQ(p:Plan):List Str:=[Fh,nI p.bR]
def vK(s:bA):List Str:=[NI,s.Name,nI s.Length,nI s.tX,nI s.tQ,nI s.tV]
def Bo(l:Layout)(s:Step):Str:=(l.Sections.getD s.Section.toNat default).Name
def vL(l:Layout)(s:Step):List Str:=[Bo l s,if s.Dir=1 then xg else Ac]
def DI(r:aQ):List Str:=if r.Overlap≠0 then [MC,nI r.Overlap] else []
def nY(l:Layout)(r:aQ):List Str:=Ih::(r.Steps.flatMap (vL l)++DI r)
def Cj(p:Plan)(x:Line):List Str:=[Mk,x.Name,(p.aU.getD x.bA.toNat default).Name,nI x.Weight]
def qI(r:dD):List Str:=[Fy,nI r.aQ,nI r.Extra]++if r.Max≠0 then [rng r.Min r.Max] else []
def qE(p:Plan)(i:Int):Str:=(p.Lines.getD i.toNat default).Name
def sP(p:Plan)(c:Change):List Str:=[La,qE p c.jk,nI c.kP,qE p c.kg,nI c.mX,rng c.Min c.Max,nI c.Weight]
def wR(p:Plan)(t:Turn):List Str:=[NR,qE p t.From,qE p t.To,rng t.Min t.Max]
def uK(p:Plan)(s:Sync):List Str:=[NP,qE p s.mD,nI s.lV,qE p s.mQ,nI s.mE,nI s.Offset]
def FE(l:Layout)(i:Int):Str:=l.aM.getD i.toNat default
def w9(l:Layout)(d:dB):List Str:=[Le,FE l d.From,FE l d.To,nI d.Weight]
def zH(p:Plan)(x:Line):List (List Str):=Cj p x::x.bL.map qI
/-! ### What a valid plan has -/
structure rD(l:Layout)(p:Plan):Prop extends LnOk l p where
 vn:C8 l
 NJ:∀s∈p.aU,mK s.Name.ba=true∧yT s=true
 QO:∀x∈p.Lines,mK x.Name.ba=true∧(0≤x.bA∧x.bA<(p.aU.length:Int))∧(0≤x.Weight∧x.Weight≤1048576)∧∀k,(h:k<x.bL.length)→vG p x k x.bL[k]=true
 OM:∀c∈p.Changes,Dh p c=true
 TD:∀t∈p.Turns,(jy p t.From&&jy p t.To&&sO p t.Min t.Max)=true
 syn:∀s∈p.bq,(iE p s.mD s.lV&&iE p s.mQ s.mE&& !(decide (s.mD=s.mQ)&&decide (s.lV=s.mE))&&decide (0≤s.Offset)&&decide (s.Offset<p.bR))=true
 OV:∀d∈p.bg,(decide (0≤d.From)&&decide (d.From<(l.aM.length:Int))&&decide (0≤d.To)&&decide (d.To<(l.aM.length:Int))&& !decide (d.From=d.To)&&decide (1≤d.Weight)&&decide (d.Weight≤1048576))=true
theorem JI{α:Type}[Inhabited α]{xs:List α}{x:α}(h:x∈xs):∃i,i<xs.length∧xs.getD i default=x:=by
 obtain⟨i,hi,rfl⟩:=List.getElem_of_mem h
 exact⟨i,hi,getD_lt hi⟩
theorem Vo{l:Layout}{p:Plan}(h:DJ l p=some 0):rD l p:=by
 unfold DJ at h
 by_cases h0:DZ l p=0
 ·rw[if_neg (by simp[h0])] at h
  obtain⟨hz,hp,hc⟩:=agS h0
  obtain⟨a1,h⟩:=Gn _ _ h
  obtain⟨a2,h⟩:=Gn _ _ h
  obtain⟨a3,h⟩:=Gn _ _ h
  obtain⟨a4,h⟩:=Gn _ _ h
  obtain⟨a5,h⟩:=Gn _ _ h
  obtain⟨a6,h⟩:=Gn _ _ h
  obtain⟨a7,_⟩:=Gn _ _ h
  have o:RvOk l p:=⟨hz,hp,hc,fun r hr=>by
   obtain⟨i,hi,rfl⟩:=JI hr
   exact Option.some.inj (a2 i (by omega) (by omega))⟩
  have o':=aeB o a3
  refine {toLnOk:=o',vn:=aqa hc,NJ:=fun s hs=>?_,QO:=fun x hx=>?_,OM:=fun c hc=>?_,TD:=fun t ht=>?_,syn:=fun s hs=>?_,OV:=fun d hd=>?_}
  ·obtain⟨i,hi,rfl⟩:=JI hs
   have:=Option.some.inj (a1 i (by omega) (by omega))
   unfold Tg at this
   split at this
   ·cases this
   split at this
   ·cases this
   split at this
   ·cases this
   rename_i b1 _ b2
   exact⟨by simpa only[Bool.not_eq_false] using b1,by simpa only[Bool.not_eq_false] using b2⟩
  ·obtain⟨i,hi,rfl⟩:=JI hx
   have:=a3 i (by omega) (by omega)
   have hl:=aez this
   unfold GR at this
   split at this
   ·cases this
   split at this
   ·cases this
   split at this
   ·cases this
   rename_i b1 _ b2
   have b2':(decide (0≤(dS p i).bA)&&decide ((dS p i).bA<(p.aU.length:Int))&&wB (dS p i).Weight)=true:=by simpa only[Bool.not_eq_false] using b2
   unfold wB at b2'
   simp only[Bool.and_eq_true,decide_eq_true_eq] at b2'
   have b1':mK (dS p i).Name.ba=true:=by simpa only[Bool.not_eq_false] using b1
   refine⟨b1',hl.1,b2'.2,fun k hk=>?_⟩
   have hr:=hl.2.2 k hk
   unfold wN at hr
   split at hr
   ·cases hr
   rename_i c1
   have e:kX (dS p i) k=(p.Lines.getD i default).bL[k]:=getD_lt hk
   rw[e] at c1
   have c1':vG p (dS p i) k (p.Lines.getD i default).bL[k]=true:=by simpa only[Bool.not_eq_false] using c1
   exact c1'
  ·obtain⟨i,hi,rfl⟩:=JI hc
   have:=Option.some.inj (a4 i (by omega) (by omega))
   unfold OL Lb at this
   split at this
   ·cases this
   rename_i b1
   simpa only[Bool.not_eq_false] using b1
  ·obtain⟨i,hi,rfl⟩:=JI ht
   have:=Option.some.inj (a5 i (by omega) (by omega))
   unfold TG Xc at this
   split at this
   ·cases this
   rename_i b1
   simpa only[Bool.not_eq_false] using b1
  ·obtain⟨i,hi,rfl⟩:=JI hs
   have:=Option.some.inj (a6 i (by omega) (by omega))
   unfold Tq NQ at this
   split at this
   ·cases this
   rename_i b1
   simpa only[Bool.not_eq_false] using b1
  ·obtain⟨i,hi,rfl⟩:=JI hd
   have:=Option.some.inj (a7 i (by omega) (by omega))
   unfold OU Ld at this
   split at this
   ·cases this
   rename_i b1
   simpa only[Bool.not_eq_false] using b1
 ·rw[if_pos (by simpa using h0)] at h
  exact absurd (Option.some.inj h) h0
/-! ### Words and lines -/
def vT(s:Str):Prop:=oZ s=true∧s.l.length≤46
def jD(w:List Str):Prop:=0<w.length∧w.length≤64∧∀s∈w,vT s
theorem Uz{s:Str}(h:mK s.ba=true):vT s:=⟨(QX h).1,by have:=(QX h).2;omega⟩
theorem ug{v:Int}(h1: -9223372036854775808≤v)(h2:v≤9223372036854775807):vT (nI v):=⟨ZL v,by have:=LG v h1 h2;unfold nI;simp only;omega⟩
theorem YG{lo hi:Int}(h1:0≤lo∧lo≤hi∧hi≤7200):vT (rng lo hi):=by
 have a:=ZL lo;have b:=ZL hi
 have c:=LG lo (by omega) (by omega);have d:=LG hi (by omega) (by omega)
 unfold oZ at a b
 simp only[Bool.and_eq_true,decide_eq_true_eq] at a b
 refine⟨?_,by unfold rng;simp;omega⟩
 unfold oZ rng
 simp only[Bool.and_eq_true,decide_eq_true_eq,List.all_append,a.2,b.2]
 exact⟨by simp,by decide⟩
theorem Az:∀s∈([]:List Str),vT s:=fun s h=>by cases h
theorem jd{s:Str}{w:List Str}(h:vT s)(hw:∀t∈w,vT t):∀t∈s::w,vT t:=fun t ht=>by
 rcases List.mem_cons.1 ht with e|e
 ·rw[e];exact h
 ·exact hw t e
theorem adf{w:List Str}(h:jD w):QN w:=⟨h.1,h.2.1,List.all_eq_true.2 fun s hs=>(h.2.2 s hs).1⟩
theorem YH:∀{w:List Str},(∀s∈w,vT s)→CO w≤47*w.length
 |[],_=>by simp[CO]
 |s::r,h=>by
  have h1:=(h s List.mem_cons_self).2
  have h2:=YH (w:=r) (fun t ht=>h t (List.mem_cons_of_mem _ ht))
  rw[WW]
  simp only[List.length_cons];omega
theorem adg:∀{a:List (List Str)},(∀w∈a,jD w)→CK a≤3009*a.length
 |[],_=>by simp[CK]
 |w::r,h=>by
  have h1:=h w List.mem_cons_self
  have h2:=adg (a:=r) (fun t ht=>h t (List.mem_cons_of_mem _ ht))
  have h3:=YH h1.2.2
  have h4:=h1.2.1
  rw[Tt]
  simp only[List.length_cons];omega
theorem ai9{a:List (List Str)}(h:∀w∈a,jD w)(hl:a.length≤10000):IK a=some ⟨wh a⟩:=by
 have h1:=adg h
 rw[alK a (by omega),aea a [] (fun w hw=>adf (h w hw))]
 rfl
theorem ap9:vT Ac:=⟨by decide,by decide⟩
theorem aiz:vT xg:=⟨by decide,by decide⟩
theorem ao3{l:Layout}(v:C8 l){s:Step}(h:jJ l s=true):vT (Bo l s):=by
 unfold jJ at h
 simp only[Bool.and_eq_true,decide_eq_true_eq] at h
 have:=v.scw _ (lY (xs:=l.Sections) (i:=s.Section.toNat) (by omega))
 exact⟨this.1,by unfold Bo;omega⟩
theorem agN{l:Layout}(v:C8 l):∀{ss:List Step},(∀s∈ss,jJ l s=true)→(∀t∈ss.flatMap (vL l),vT t)∧(ss.flatMap (vL l)).length=2*ss.length
 |[],_=>⟨Az,rfl⟩
 |s::r,h=>by
  have ih:=agN v (ss:=r) (fun t ht=>h t (List.mem_cons_of_mem _ ht))
  have e:(s::r).flatMap (vL l)=Bo l s::(if s.Dir=1 then xg else Ac)::r.flatMap (vL l):=rfl
  rw[e]
  refine⟨jd (ao3 v (h s List.mem_cons_self)) (jd ?_ ih.1),by simp only[List.length_cons,ih.2];omega⟩
  split
  ·exact aiz
  ·exact ap9
theorem af8{l:Layout}(v:C8 l){r:aQ}(o:Ak l r):jD (nY l r):=by
 have h:=agN v o.st
 have hn:=o.len;have hv:=o.ov
 have ho:(∀t∈DI r,vT t)∧(DI r).length≤2:=by
  unfold DI
  split
  ·exact⟨jd ⟨by decide,by decide⟩ (jd (ug (by omega) (by omega)) Az),by simp⟩
  ·exact⟨Az,by simp⟩
 unfold nY
 refine⟨by simp,by simp only[List.length_cons,List.length_append];omega,jd ⟨by decide,by decide⟩ fun t ht=>?_⟩
 rcases List.mem_append.1 ht with e|e
 ·exact h.1 t e
 ·exact ho.1 t e
theorem abx{s:bA}(h:yT s=true):(1≤s.Length∧s.Length≤40)∧(1000≤s.tX∧s.tX≤100000)∧(100≤s.tQ∧s.tQ≤2000)∧(100≤s.tV∧s.tV≤2000):=by
 unfold yT at h
 simp only[Bool.and_eq_true,decide_eq_true_eq] at h
 omega
theorem OI{p:Plan}{lo hi:Int}(h:sO p lo hi=true):0≤lo∧lo≤hi∧hi≤7200:=by
 unfold sO at h
 simp only[Bool.and_eq_true,decide_eq_true_eq] at h
 omega
theorem Mj{l:Layout}{p:Plan}(o:rD l p){i:Int}(h:jy p i=true):vT (qE p i):=by
 obtain⟨_,b,_⟩:=Lm h
 exact Uz (o.QO _ (lY b)).1
theorem AA{l:Layout}{p:Plan}(o:rD l p){i k:Int}(h:iE p i k=true):jy p i=true∧0≤k∧k≤12:=by
 unfold iE at h
 simp only[Bool.and_eq_true,decide_eq_true_eq] at h
 obtain⟨_,b,_⟩:=Lm h.1.1
 have:=o.sz.ri _ (lY b)
 unfold dS at h
 exact⟨h.1.1,h.1.2,by omega⟩
theorem agt{s:bA}(h:mK s.Name.ba=true∧yT s=true):jD (vK s):=by
 have:=abx h.2
 exact⟨by simp[vK],by simp[vK],jd ⟨by decide,by decide⟩ (jd (Uz h.1) (jd (ug (by omega) (by omega)) (jd (ug (by omega) (by omega)) (jd (ug (by omega) (by omega)) (jd (ug (by omega) (by omega)) Az)))))⟩
theorem aeC{l:Layout}{p:Plan}(o:rD l p){x:Line}(hx:x∈p.Lines):jD (Cj p x):=by
 obtain⟨h1,h2,h3,_⟩:=o.QO x hx
 exact⟨by simp[Cj],by simp[Cj],jd ⟨by decide,by decide⟩ (jd (Uz h1) (jd (Uz (o.NJ _ (lY (by omega))).1) (jd (ug (by omega) (by omega)) Az)))⟩
theorem aom{p:Plan}{x:Line}{k:Nat}{r:dD}(h:vG p x k r=true):(0≤r.aQ∧r.aQ<(p.Routes.length:Int))∧(0≤r.Extra∧r.Extra<p.bR)∧(0≤r.Min∧r.Min≤r.Max∧r.Max≤7200):=by
 unfold vG at h
 simp only[Bool.and_eq_true,decide_eq_true_eq] at h
 exact⟨⟨h.1.1.1.1.1,h.1.1.1.1.2⟩,⟨h.1.1.1.2,h.1.1.2⟩,OI h.1.2⟩
theorem Sg{l:Layout}{p:Plan}(o:rD l p){x:Line}(hx:x∈p.Lines){r:dD}(hr:r∈x.bL):(0≤r.aQ∧r.aQ<(p.Routes.length:Int))∧(0≤r.Extra∧r.Extra<p.bR)∧(0≤r.Min∧r.Min≤r.Max∧r.Max≤7200):=by
 obtain⟨_,_,_,h⟩:=o.QO x hx
 obtain⟨k,hk,rfl⟩:=List.getElem_of_mem hr
 exact aom (h k hk)
theorem afj{l:Layout}{p:Plan}(o:rD l p){x:Line}(hx:x∈p.Lines){r:dD}(hr:r∈x.bL):jD (qI r):=by
 have h:=Sg o hx hr
 have hp:=o.per;have hz:=o.sz.ro
 unfold qI
 split
 ·exact⟨by simp,by simp,jd ⟨by decide,by decide⟩ (jd (ug (by omega) (by omega)) (jd (ug (by omega) (by omega)) (jd (YG h.2.2) Az)))⟩
 ·exact⟨by simp,by simp,jd ⟨by decide,by decide⟩ (jd (ug (by omega) (by omega)) (jd (ug (by omega) (by omega)) Az))⟩
theorem Yi{l:Layout}{p:Plan}(o:rD l p){c:Change}(h:Dh p c=true):(iE p c.jk c.kP=true∧iE p c.kg c.mX=true)∧(0≤c.Min∧c.Min≤c.Max∧c.Max≤7200)∧0≤c.Weight∧c.Weight≤1048576:=by
 unfold Dh wB at h
 simp only[Bool.and_eq_true,decide_eq_true_eq] at h
 exact⟨⟨h.1.1.1.1,h.1.1.1.2⟩,OI h.1.2,h.2⟩
theorem acv{l:Layout}{p:Plan}(o:rD l p){c:Change}(h:Dh p c=true):jD (sP p c):=by
 obtain⟨⟨a,b⟩,hb,w⟩:=Yi o h
 have a':=AA o a;have b':=AA o b
 exact⟨by simp[sP],by simp[sP],jd ⟨by decide,by decide⟩ (jd (Mj o a'.1) (jd (ug (by omega) (by omega)) (jd (Mj o b'.1) (jd (ug (by omega) (by omega)) (jd (YG hb) (jd (ug (by omega) (by omega)) Az))))))⟩
theorem agX{l:Layout}{p:Plan}(o:rD l p){t:Turn}(h:(jy p t.From&&jy p t.To&&sO p t.Min t.Max)=true):jD (wR p t):=by
 simp only[Bool.and_eq_true] at h
 exact⟨by simp[wR],by simp[wR],jd ⟨by decide,by decide⟩ (jd (Mj o h.1.1) (jd (Mj o h.1.2) (jd (YG (OI h.2)) Az)))⟩
theorem agR{l:Layout}{p:Plan}(o:rD l p){s:Sync}(h:(iE p s.mD s.lV&&iE p s.mQ s.mE&& !(decide (s.mD=s.mQ)&&decide (s.lV=s.mE))&&decide (0≤s.Offset)&&decide (s.Offset<p.bR))=true):jD (uK p s):=by
 simp only[Bool.and_eq_true,decide_eq_true_eq] at h
 have a':=AA o h.1.1.1.1;have b':=AA o h.1.1.1.2
 have hp:=o.per
 exact⟨by simp[uK],by simp[uK],jd ⟨by decide,by decide⟩ (jd (Mj o a'.1) (jd (ug (by omega) (by omega)) (jd (Mj o b'.1) (jd (ug (by omega) (by omega)) (jd (ug (by omega) (by omega)) Az)))))⟩
theorem agL{l:Layout}(v:C8 l){i:Int}(h:0≤i∧i<(l.aM.length:Int)):vT (FE l i):=by
 have:=v.stw _ (lY (xs:=l.aM) (i:=i.toNat) (by omega))
 exact⟨this.1,by unfold FE;omega⟩
theorem Uo{l:Layout}{d:dB}(h:(decide (0≤d.From)&&decide (d.From<(l.aM.length:Int))&&decide (0≤d.To)&&decide (d.To<(l.aM.length:Int))&& !decide (d.From=d.To)&&decide (1≤d.Weight)&&decide (d.Weight≤1048576))=true):
  (0≤d.From∧d.From<(l.aM.length:Int))∧(0≤d.To∧d.To<(l.aM.length:Int))∧1≤d.Weight∧d.Weight≤1048576:=by
 simp only[Bool.and_eq_true,decide_eq_true_eq] at h
 exact⟨⟨h.1.1.1.1.1.1,h.1.1.1.1.1.2⟩,⟨h.1.1.1.1.2,h.1.1.1.2⟩,h.1.2,h.2⟩
theorem acR{l:Layout}(v:C8 l){d:dB}(h:(0≤d.From∧d.From<(l.aM.length:Int))∧(0≤d.To∧d.To<(l.aM.length:Int))∧1≤d.Weight∧d.Weight≤1048576):jD (w9 l d):=
 ⟨by simp[w9],by simp[w9],jd ⟨by decide,by decide⟩ (jd (agL v h.1) (jd (agL v h.2.1) (jd (ug (by omega) (by omega)) Az)))⟩
/-! ### Loops that write lines -/
theorem alG{α σ β:Type}{B:((σ×Nat)→Option β)→(σ×Nat)→Option β}(rep:List (List Str)→σ)(xs:List α)(f:α→List (List Str))(K:σ→Option β)(m:Nat)
  (hs:∀c q (i:Nat) x,idx xs (i:Int)=some x→x∈xs→i<xs.length→q.length+m≤2000→(∀w∈q,jD w)→B c (rep q,i)=c (rep (q++f x),i+1))
  (he:∀c q,q.length≤2000→(∀w∈q,jD w)→B c (rep q,xs.length)=K (rep q))(hf:∀x∈xs,(f x).length≤m∧∀w∈f x,jD w):
  ∀n q i,q.length+m*(xs.length-i)≤2000→(∀w∈q,jD w)→i≤xs.length→xs.length-i<n→iter B n (rep q,i)=K (rep (q++(xs.drop i).flatMap f)):=by
 intro n
 induction n with
 |zero=>intro q i _ _ _ h;omega
 |succ n ih=>
  intro q i hq hg hi hn
  show B (iter B n) (rep q,i)=_
  by_cases hl:i=xs.length
  ·subst hl
   rw[he _ q (by omega) hg,List.drop_length];simp
  ·have hlt:i<xs.length:=by omega
   have hd:xs.drop i=xs[i]::xs.drop (i+1):=List.drop_eq_getElem_cons hlt
   have hm:=List.getElem_mem hlt
   have h1:=hf _ hm
   have hmul:m*(xs.length-i)=m*(xs.length-(i+1))+m:=by
    rw[show xs.length-i=(xs.length-(i+1))+1 by omega,Nat.mul_succ]
   rw[hs _ q i xs[i] (by simp[idx,hlt]) hm hlt (by omega) hg,ih (q++f xs[i]) (i+1) (by rw[List.length_append];omega) (fun w hw=>by
    rcases List.mem_append.1 hw with e|e
    ·exact hg w e
    ·exact h1.2 w e) (by omega) (by omega),hd]
   simp only[List.flatMap_cons,List.append_assoc]
theorem GV{α σ β:Type}{B:((σ×Nat)→Option β)→(σ×Nat)→Option β}(rep:List (List Str)→σ)(xs:List α)(f:α→List (List Str))(K:σ→Option β)(m:Nat)
  (hs:∀c q (i:Nat) x,idx xs (i:Int)=some x→x∈xs→i<xs.length→q.length+m≤2000→(∀w∈q,jD w)→B c (rep q,i)=c (rep (q++f x),i+1))
  (he:∀c q,q.length≤2000→(∀w∈q,jD w)→B c (rep q,xs.length)=K (rep q))(hf:∀x∈xs,(f x).length≤m∧∀w∈f x,jD w)
  (q:List (List Str))(hq:q.length+m*xs.length≤2000)(hg:∀w∈q,jD w)(hl:xs.length≤1000000):iter B FUEL (rep q,0)=K (rep (q++xs.flatMap f)):=by
 have:=alG rep xs f K m hs he hf FUEL q 0 (by simpa using hq) hg (by omega) (iW (by omega))
 rwa [List.drop_zero] at this
end Go.Proofs.YtcalibhfgdncaaaGreatDoor
namespace Go.Proofs.YtcalibhfgdncaaaGreatDoor
open Go.Dc
set_option maxRecDepth 10000
def Gd(a:Any):Str:=match a with| .s x=>x| .i n=>nI n
def IV(a:Any):Prop:=match a with| .s _=>True| .i n=> -9223372036854775808≤n∧n≤9223372036854775807
theorem U7(v:Int)(h1: -9223372036854775808≤v)(h2:v≤9223372036854775807):Ip v=some (nI v):=by
 unfold Ip
 rw[if_pos ⟨h1,h2⟩];rfl
theorem aqc(ps:List Any)(h:∀a∈ps,IV a)(hl:ps.length≤1000):RH ps=some (ps.map Gd):=by
 unfold RH
 have:=nR (B:=RG ps) (fun (q:List Str) i=>(q,i)) ps (fun q i=>q.length≤i) (fun q r=>some (q++r.map Gd)) ?_ ?_ FUEL [] 0 (by simp) (by omega) (iW (by omega))
 ·simpa using this
 ·intro c q i x r hq hdr hi hx hk
  have hm:=h x (List.mem_of_getElem? (by rw[vZ] at hx;exact hx))
  have hc:∀w:Str,bG (decide ((q.length+([w]:List Str).length)*16≤140737488355328)) (Nb c i (q++[w]))=some (q++[w]++r.map Gd):=fun w=>by
   rw[fD (by simp;omega)]
   exact hk _ (by simp;omega)
  simp only[RG]
  rw[if_pos (by simp;omega),hx,Option.bind_some]
  cases x with
  |s t=>
   rw[if_pos (show (Any.s t).jJ=true from rfl),show (Any.s t).str=t from rfl,hc]
   simp[Gd]
  |i n=>
   rw[if_neg (by simp[Any.jJ]),if_pos (show (Any.i n).Jv=true from rfl),show (Any.i n).int=n from rfl,U7 n hm.1 hm.2,Option.bind_some,hc]
   simp[Gd]
 ·intro c q _
  simp only[RG]
  rw[if_neg (by simp)]
  simp[aaL]
theorem FQ(q:List (List Str))(ps:List Any)(h:∀a∈ps,IV a)(hl:ps.length≤1000)(hq:q.length≤3000):zK (kC.mk q) ps=some (q++[ps.map Gd]):=by
 unfold zK
 rw[aqc ps h hl,Option.bind_some,fD (by simp;omega)]
theorem aS{s:Str}{r:List Any}(h:∀a∈r,IV a):∀a∈Any.s s::r,IV a:=fun a ha=>by
 rcases List.mem_cons.1 ha with e|e
 ·rw[e];trivial
 ·exact h a e
theorem aI{n:Int}{r:List Any}(h0: -9223372036854775808≤n∧n≤9223372036854775807)(h:∀a∈r,IV a):∀a∈Any.i n::r,IV a:=fun a ha=>by
 rcases List.mem_cons.1 ha with e|e
 ·rw[e];exact h0
 ·exact h a e
theorem aN:∀a∈([]:List Any),IV a:=fun a h=>by cases h
theorem abp{lo hi:Int}(h1:0≤lo∧lo≤hi∧hi≤7200):J2 lo hi=some (rng lo hi):=by
 have c:=LG lo (by omega) (by omega);have d:=LG hi (by omega) (by omega)
 unfold J2
 rw[U7 _ (by omega) (by omega),Option.bind_some,U7 _ (by omega) (by omega)]
 unfold nI
 rw[acr _ _ (by simp;omega),Option.bind_some,Option.bind_some,acr _ _ (by simp;omega)]
 rfl
theorem ahI{l:Layout}{r:aQ}(o:Ak l r)(q:List (List Str))(hq:q.length≤3000):RJ (kC.mk q) l r=some (q++[nY l r]):=by
 have hn:=o.len;have hv:=o.ov
 unfold RJ
 have:=nR (B:=RI r l (kC.mk q)) (fun (s:List Str) i=>(s,i)) r.Steps (fun s i=>s.length≤1+2*i)
  (fun s t=>some (q++[s++t.flatMap (vL l)++DI r])) ?_ ?_ FUEL [Ih] 0 (by simp) (by omega) (iW (by omega))
 ·rw[List.drop_zero] at this
  exact this.trans (by simp[nY])
 ·intro c s i x t hs hdr hi hx hk
  have hm:x∈r.Steps:=List.mem_of_getElem? (by rw[vZ] at hx;exact hx)
  have hk2:∀w:Str,Nc l x s c i w=some (q++[(s++[Bo l x,w])++t.flatMap (vL l)++DI r]):=fun w=>by
   unfold Nc
   rw[SV o hm,Option.bind_some,fD (by simp;omega)]
   exact hk _ (by simp;omega)
  simp only[RI]
  rw[if_pos (by simp;omega),hx,Option.bind_some]
  by_cases hd:x.Dir=1
  ·rw[if_pos (by simpa using hd),hk2]
   simp[vL,hd,xg]
  ·rw[if_neg (by simpa using hd),hk2]
   simp[vL,hd,Ac]
 ·intro c s hs
  simp only[RI]
  rw[if_neg (by simp)]
  unfold aaM DI
  by_cases h0:r.Overlap=0
  ·rw[if_neg (by simpa using h0),if_neg (fun h=>h h0)]
   unfold Nf
   rw[fD (by simp;omega)]
   simp
  ·rw[if_pos (by simpa using h0),if_pos h0,U7 _ (by omega) (by omega),Option.bind_some,fD (by simp;omega)]
   unfold Nf
   rw[fD (by simp;omega)]
   simp[MC]
def uf(l:Layout)(p:Plan):List (List Str):=
 [JQ p]++p.aU.flatMap (fun s=>[vK s])++p.Routes.flatMap (fun r=>[nY l r])++p.Lines.flatMap (zH p)++p.Changes.flatMap (fun c=>[sP p c])++p.Turns.flatMap (fun t=>[wR p t])
  ++p.bq.flatMap (fun s=>[uK p s])++p.bg.flatMap (fun d=>[w9 l d])
theorem xL{w:List Str}(h:jD w):([w]:List (List Str)).length≤1∧∀v∈([w]:List (List Str)),jD v:=⟨by simp,fun v hv=>by rw[List.mem_singleton.1 hv];exact h⟩
theorem Gf{a b:List (List Str)}(ha:∀w∈a,jD w)(hb:∀w∈b,jD w):∀w∈a++b,jD w:=fun w hw=>by
 rcases List.mem_append.1 hw with e|e
 ·exact ha w e
 ·exact hb w e
theorem Jk{α:Type}{xs:List α}{f:α→List (List Str)}(h:∀x∈xs,∀w∈f x,jD w):∀w∈xs.flatMap f,jD w:=fun w hw=>by
 obtain⟨x,hx,hw⟩:=List.mem_flatMap.1 hw
 exact h x hx w hw
theorem rG{α:Type}{f:α→List (List Str)}{m:Nat}:∀{xs:List α},(∀x∈xs,(f x).length≤m)→(xs.flatMap f).length≤m*xs.length
 |[],_=>by simp
 |x::r,h=>by
  have h1:=h x List.mem_cons_self
  have h2:=rG (f:=f) (xs:=r) (fun y hy=>h y (List.mem_cons_of_mem _ hy))
  simp only[List.flatMap_cons,List.length_append,List.length_cons,Nat.mul_succ]
  omega
theorem anp{l:Layout}{p:Plan}(o:rD l p):jD (JQ p):=by
 have:=o.per
 exact⟨by simp[JQ],by simp[JQ],jd ⟨by decide,by decide⟩ (jd (ug (by omega) (by omega)) Az)⟩
theorem Vj{l:Layout}{p:Plan}(o:rD l p){x:Line}(hx:x∈p.Lines):(zH p x).length≤13∧∀w∈zH p x,jD w:=by
 have:=o.sz.ri x hx
 unfold zH
 refine⟨by simp;omega,fun w hw=>?_⟩
 rcases List.mem_cons.1 hw with e|e
 ·rw[e];exact aeC o hx
 ·obtain⟨r,hr,rfl⟩:=List.mem_map.1 e
  exact afj o hx hr
theorem YB{l:Layout}{p:Plan}(o:rD l p):(∀w∈uf l p,jD w)∧(uf l p).length≤1000:=by
 have z:=o.sz
 refine⟨Gf (Gf (Gf (Gf (Gf (Gf (Gf (xL (anp o)).2 (Jk fun s hs=>(xL (agt (o.NJ s hs))).2)) (Jk fun r hr=>(xL (af8 o.vn (DU (o.rt r hr)))).2))
  (Jk fun x hx=>(Vj o hx).2)) (Jk fun c hc=>(xL (acv o (o.OM c hc))).2)) (Jk fun t ht=>(xL (agX o (o.TD t ht))).2)) (Jk fun s hs=>(xL (agR o (o.syn s hs))).2))
  (Jk fun d hd=>(xL (acR o.vn (Uo (o.OV d hd)))).2),?_⟩
 have h1:=rG (f:=fun s=>[vK s]) (m:=1) (xs:=p.aU) (fun _ _=>by simp)
 have h2:=rG (f:=fun r=>[nY l r]) (m:=1) (xs:=p.Routes) (fun _ _=>by simp)
 have h3:=rG (f:=zH p) (m:=13) (xs:=p.Lines) (fun x hx=>(Vj o hx).1)
 have h4:=rG (f:=fun c=>[sP p c]) (m:=1) (xs:=p.Changes) (fun _ _=>by simp)
 have h5:=rG (f:=fun t=>[wR p t]) (m:=1) (xs:=p.Turns) (fun _ _=>by simp)
 have h6:=rG (f:=fun s=>[uK p s]) (m:=1) (xs:=p.bq) (fun _ _=>by simp)
 have h7:=rG (f:=fun d=>[w9 l d]) (m:=1) (xs:=p.bg) (fun _ _=>by simp)
 have:=z.st;have:=z.ro;have:=z.li;have:=z.ch;have:=z.tu;have:=z.sy;have:=z.de
 simp only[uf,List.length_append,List.length_singleton]
 omega
theorem Mi{p:Plan}{i:Int}(h:jy p i=true):idx p.Lines i=some (p.Lines.getD i.toNat default):=(Lm h).1
theorem agK{l:Layout}{i:Int}(h:0≤i∧i<(l.aM.length:Int)):idx l.aM i=some (FE l i):=uj h.1 h.2
theorem ai0{l:Layout}{p:Plan}(o:rD l p)(q:List (List Str))(hq:q.length≤1000)(hg:∀w∈q,jD w):MP p l q ()=(IK (q++p.bg.flatMap fun d=>[w9 l d])).bind fun y=>some (y,0):=by
 have z:=o.sz.de
 unfold MP
 refine GV (B:=Rp p l) id p.bg (fun d=>[w9 l d]) (fun s=>(IK s).bind fun y=>some (y,0)) 1 (fun c q i x hx hm hi hq _=>?_) (fun c q _ _=>?_) (fun d hd=>xL (acR o.vn (Uo (o.OV d hd)))) q (by omega) hg (by omega)
 ·have h:=Uo (o.OV x hm)
  simp only[Rp,id]
  refine (if_pos (by simp;omega)).trans (kE hx (kE (agK h.1) (kE (agK h.2.1) (kE (FQ q _ (aS (aS (aS (aI (by omega) aN)))) (by simp) (by omega)) ?_))))
  rfl
 ·simp only[Rp,id]
  rw[if_neg (by simp)];rfl
theorem aiZ{l:Layout}{p:Plan}(o:rD l p)(q:List (List Str))(hq:q.length≤900)(hg:∀w∈q,jD w):MO p l q ()=MP p l (q++p.bq.flatMap fun s=>[uK p s]) ():=by
 have z:=o.sz.sy
 unfold MO
 refine GV (B:=Ro p l) id p.bq (fun s=>[uK p s]) (fun s=>MP p l s ()) 1 (fun c q i x hx hm hi hq _=>?_) (fun c q _ _=>?_) (fun s hs=>xL (agR o (o.syn s hs))) q (by omega) hg (by omega)
 ·have h:=o.syn x hm
  have hp:=o.per
  simp only[Bool.and_eq_true,decide_eq_true_eq] at h
  have a:=AA o h.1.1.1.1;have b:=AA o h.1.1.1.2
  simp only[Ro,id]
  refine (if_pos (by simp;omega)).trans (kE hx (kE (Mi a.1) (kE (Mi b.1) (kE (FQ q _ (aS (aS (aI (by omega) (aS (aI (by omega) (aI (by omega) aN)))))) (by simp) (by omega)) ?_))))
  rfl
 ·simp only[Ro,id]
  rw[if_neg (by simp)]
theorem aiY{l:Layout}{p:Plan}(o:rD l p)(q:List (List Str))(hq:q.length≤800)(hg:∀w∈q,jD w):MN p l q ()=MO p l (q++p.Turns.flatMap fun t=>[wR p t]) ():=by
 have z:=o.sz.tu
 unfold MN
 refine GV (B:=Rn p l) id p.Turns (fun t=>[wR p t]) (fun s=>MO p l s ()) 1 (fun c q i x hx hm hi hq _=>?_) (fun c q _ _=>?_) (fun t ht=>xL (agX o (o.TD t ht))) q (by omega) hg (by omega)
 ·have h:=o.TD x hm
  simp only[Bool.and_eq_true] at h
  simp only[Rn,id]
  refine (if_pos (by simp;omega)).trans (kE hx (kE (Mi h.1.1) (kE (Mi h.1.2) (kE (abp (OI h.2)) (kE (FQ q _ (aS (aS (aS (aS aN)))) (by simp) (by omega)) ?_)))))
  rfl
 ·simp only[Rn,id]
  rw[if_neg (by simp)]
theorem aiX{l:Layout}{p:Plan}(o:rD l p)(q:List (List Str))(hq:q.length≤700)(hg:∀w∈q,jD w):MK p l q ()=MN p l (q++p.Changes.flatMap fun c=>[sP p c]) ():=by
 have z:=o.sz.ch
 unfold MK
 refine GV (B:=Rm p l) id p.Changes (fun c=>[sP p c]) (fun s=>MN p l s ()) 1 (fun c q i x hx hm hi hq _=>?_) (fun c q _ _=>?_) (fun t ht=>xL (acv o (o.OM t ht))) q (by omega) hg (by omega)
 ·obtain⟨⟨ha,hb⟩,hbn,hw⟩:=Yi o (o.OM x hm)
  have a:=AA o ha;have b:=AA o hb
  simp only[Rm,id]
  refine (if_pos (by simp;omega)).trans (kE hx (kE (Mi a.1) (kE (Mi b.1) (kE (abp hbn) (kE (FQ q _ (aS (aS (aI (by omega) (aS (aI (by omega) (aS (aI (by omega) aN))))))) (by simp) (by omega)) ?_)))))
  rfl
 ·simp only[Rm,id]
  rw[if_neg (by simp)]
theorem aiW{l:Layout}{p:Plan}(o:rD l p){x:Line}(hx:x∈p.Lines)(c3:(List (List Str)×Nat)→Option (Str×Int))(t:Nat)(q:List (List Str))(hq:q.length+12≤2000)(hg:∀w∈q,jD w):
  iter (MH x c3 t) FUEL (q,0)=c3 (q++x.bL.map qI,t+1):=by
 have z:=o.sz.ri x hx
 have e:x.bL.map qI=x.bL.flatMap fun r=>[qI r]:=by rw[List.map_eq_flatMap]
 rw[e]
 refine GV (B:=MH x c3 t) id x.bL (fun r=>[qI r]) (fun s=>c3 (s,t+1)) 1 (fun c q i r hr hm hi hq _=>?_) (fun c q _ _=>?_) (fun r hr=>xL (afj o hx hr)) q (by omega) hg (by omega)
 ·have h:=Sg o hx hm
  have hp:=o.per;have hz:=o.sz.ro
  simp only[MH,id]
  refine (if_pos (by simp;omega)).trans (kE hr ?_)
  by_cases h0:r.Max=0
  ·refine (if_neg (by simpa using h0)).trans (kE (FQ q _ (aS (aI (by omega) (aI (by omega) aN))) (by simp) (by omega)) ?_)
   simp[ML,qI,h0,Gd,Fy]
  ·refine (if_pos (by simpa using h0)).trans (kE (abp h.2.2) (kE (FQ q _ (aS (aI (by omega) (aI (by omega) (aS aN)))) (by simp) (by omega)) ?_))
   simp[ML,qI,h0,Gd,Fy]
 ·simp only[MH,id]
  rw[if_neg (by simp)];rfl
theorem aiV{l:Layout}{p:Plan}(o:rD l p)(q:List (List Str))(hq:q.length≤400)(hg:∀w∈q,jD w):MJ p l q ()=MK p l (q++p.Lines.flatMap (zH p)) ():=by
 have z:=o.sz.li
 unfold MJ
 refine (GV (B:=Rl p l) id p.Lines (zH p) (fun s=>MK p l s ()) 13 (fun c q i x hx hm hi hq hg=>?_) (fun c q _ _=>?_) (fun x hx=>Vj o hx) q (by omega) hg (by omega))
 ·obtain⟨h1,h2,h3,_⟩:=o.QO x hm
  have hg2:∀w∈q++[Cj p x],jD w:=Gf hg (xL (aeC o hm)).2
  simp only[Rl,id]
  refine (if_pos (by simp;omega)).trans (kE hx (kE (uj h2.1 h2.2) (kE (FQ q _ (aS (aS (aS (aI (by omega) aN)))) (by simp) (by omega)) ?_)))
  have:=aiW o hm c i (q++[Cj p x]) (by simp;omega) hg2
  rw[List.append_assoc] at this
  exact this
 ·simp only[Rl,id]
  rw[if_neg (by simp)]
theorem aiU{l:Layout}{p:Plan}(o:rD l p)(q:List (List Str))(hq:q.length≤300)(hg:∀w∈q,jD w):MI p l q ()=MJ p l (q++p.Routes.flatMap fun r=>[nY l r]) ():=by
 have z:=o.sz.ro
 unfold MI
 refine GV (B:=Rk p l) id p.Routes (fun r=>[nY l r]) (fun s=>MJ p l s ()) 1 (fun c q i x hx hm hi hq _=>?_) (fun c q _ _=>?_) (fun r hr=>xL (af8 o.vn (DU (o.rt r hr)))) q (by omega) hg (by omega)
 ·simp only[Rk,id]
  exact (if_pos (by simp;omega)).trans (kE hx (kE (ahI (DU (o.rt x hm)) q (by omega)) rfl))
 ·simp only[Rk,id]
  rw[if_neg (by simp)]
theorem aiT{l:Layout}{p:Plan}(o:rD l p)(q:List (List Str))(hq:q.length≤200)(hg:∀w∈q,jD w):iter (MG p l) FUEL (q,0)=MI p l (q++p.aU.flatMap fun s=>[vK s]) ():=by
 have z:=o.sz.st
 refine GV (B:=MG p l) id p.aU (fun s=>[vK s]) (fun s=>MI p l s ()) 1 (fun c q i x hx hm hi hq _=>?_) (fun c q _ _=>?_) (fun s hs=>xL (agt (o.NJ s hs))) q (by omega) hg (by omega)
 ·have h:=abx (o.NJ x hm).2
  simp only[MG,id]
  exact (if_pos (by simp;omega)).trans (kE hx (kE (FQ q _ (aS (aS (aI (by omega) (aI (by omega) (aI (by omega) (aI (by omega) aN)))))) (by simp) (by omega)) rfl))
 ·simp only[MG,id]
  rw[if_neg (by simp)]
def Uu(l:Layout)(p:Plan)(e:Int):Str×Int:=if e=0 then (⟨wh (uf l p)⟩,0) else (⟨[]⟩,1)
theorem ai2(l:Layout)(p:Plan):Rq l p=(DJ l p).bind fun e=>some (Uu l p e):=by
 unfold Rq
 rw[acy]
 cases hE:DJ l p with
 |none=>rfl
 |some e=>
  simp only[Option.bind_some]
  unfold Uu
  by_cases h0:e=0
  ·subst h0
   have o:=Vo hE
   have z:=o.sz
   have g:=YB o
   have hp:=o.per
   rw[if_neg (by simp),if_pos rfl]
   have s1:=z.st;have s2:=z.ro;have s3:=z.li;have s4:=z.ch;have s5:=z.tu;have s6:=z.sy;have s7:=z.de
   have h1:=rG (f:=fun s=>[vK s]) (m:=1) (xs:=p.aU) (fun _ _=>by simp)
   have h2:=rG (f:=fun r=>[nY l r]) (m:=1) (xs:=p.Routes) (fun _ _=>by simp)
   have h3:=rG (f:=zH p) (m:=13) (xs:=p.Lines) (fun x hx=>(Vj o hx).1)
   have h4:=rG (f:=fun c=>[sP p c]) (m:=1) (xs:=p.Changes) (fun _ _=>by simp)
   have h5:=rG (f:=fun t=>[wR p t]) (m:=1) (xs:=p.Turns) (fun _ _=>by simp)
   have h6:=rG (f:=fun s=>[uK p s]) (m:=1) (xs:=p.bq) (fun _ _=>by simp)
   have hsub:∀{a b:List (List Str)},(∀w∈a++b,jD w)→∀w∈a,jD w:=fun h w hw=>h w (List.mem_append.2 (.inl hw))
   have g7:=g.1
   have g6:=hsub g7;have g5:=hsub g6;have g4:=hsub g5;have g3:=hsub g4;have g2:=hsub g3;have g1:=hsub g2;have g0:=hsub g1
   refine kE (FQ [] _ (aS (aI (by omega) aN)) (by simp) (by simp)) ?_
   refine (aiT o [JQ p] (by simp) g0).trans ?_
   rw[aiU o _ (by simp only[List.length_append,List.length_singleton];omega) g1,aiV o _ (by simp only[List.length_append,List.length_singleton];omega) g2,aiX o _ (by simp only[List.length_append,List.length_singleton];omega) g3,
    aiY o _ (by simp only[List.length_append,List.length_singleton];omega) g4,aiZ o _ (by simp only[List.length_append,List.length_singleton];omega) g5,ai0 o _ (by simp only[List.length_append,List.length_singleton];omega) g6]
   exact kE (ai9 g7 (by have:=g.2;unfold uf at this;omega)) rfl
  ·rw[if_pos (by simpa using h0),if_neg h0]
end Go.Proofs.YtcalibhfgdncaaaGreatDoor
