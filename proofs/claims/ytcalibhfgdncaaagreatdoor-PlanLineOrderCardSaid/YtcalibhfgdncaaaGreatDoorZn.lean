/- Several parts of the engine, one behind the other. -/
import Derived.Test.YtcalibhfgdncaaaGreatDoorSm
import Derived.Test.YtcalibhfgdncaaaGreatDoorYh
namespace Go.Proofs.YtcalibhfgdncaaaGreatDoor
open Go.Dc
set_option maxRecDepth 10000
set_option linter.all false
def Jo{α:Type}(p:α→Bool):Nat→List α→Int
 |_,[]=> -1
 |i,x::r=>if p x then (i:Int) else Jo p (i+1) r
theorem J2{α:Type}{B:(Nat→Option Int)→Nat→Option Int}(p:α→Bool)(xs:List α)(hl:xs.length≤140737488355328)
  (h1:∀c i x,i<xs.length→idx xs (i:Int)=some x→B c i=if p x then some (i:Int) else c (i+1))(h2:∀c,B c xs.length=some (-1)):iter B FUEL 0=some (Jo p 0 xs):=by
 have:=jF (B:=B) (fun (_:Nat) i=>i) xs (fun q i=>q=i) (fun q r=>some (Jo p q r)) ?_ ?_ FUEL 0 0 rfl (by omega) (fD (by omega))
 ·exact this
 ·intro c q i x r hq hdr hi hx hk
  subst hq
  rw[h1 c q x hi hx]
  simp only[Jo]
  by_cases hp:p x=true
  ·rw[if_pos hp,if_pos hp]
  ·rw[if_neg hp,if_neg hp];exact hk (q+1) rfl
 ·intro c q hq
  subst hq
  exact h2 c
def Cz(xs:List Str)(s:Str):Int:=Jo (fun x=>decide (x=s)) 0 xs
theorem arM(xs:List Str)(s:Str)(hl:xs.length≤140737488355328):WK xs s=some (Cz xs s):=by
 unfold WK Cz
 refine J2 _ xs hl (fun c i x hi hx=>?_) (fun c=>?_)
 ·simp only[aaU]
  rw[if_pos (by simp;omega),hx,Option.bind_some]
  by_cases h:x=s
  ·rw[if_pos (by simp[h]),if_pos (by simp[h])]
  ·rw[if_neg (by simp only[decide_eq_true_eq];exact fun e=>h e.symm),if_neg (by simp[h])]
 ·simp only[aaU]
  rw[if_neg (by simp)]
  rfl
theorem aiJ(xs:List Str)(s:Str)(hl:xs.length≤140737488355328):Fh xs s=some (Cz xs s):=by
 unfold Fh Cz
 refine J2 _ xs hl (fun c i x hi hx=>?_) (fun c=>?_)
 ·simp only[ZR]
  rw[if_pos (by simp;omega),hx,Option.bind_some,bH (bO (by omega) (by omega))]
 ·simp only[ZR]
  rw[if_neg (by simp)]
  rfl
def gW(w:List Str)(k:Nat):Str:=w.getD k default
theorem Yq{w:List Str}{k:Nat}(h:k<w.length):idx w (k:Int)=some (gW w k):=tJ (by omega) (by omega)
theorem anF{w:List Str}{k:Nat}(h:k<w.length):gW w k∈w:=kE h
theorem Nr{ln:List Word}{k:Nat}(h:k<ln.length):∃x,idx ln (k:Int)=some x∧x.Text=gW (ln.map (·.Text)) k:=by
 refine⟨ln[k],by rw[kF,List.getElem?_eq_getElem h],?_⟩
 unfold gW
 rw[List.getD_eq_getElem?_getD,List.getElem?_map,List.getElem?_eq_getElem h]
 rfl
theorem arI{w:List Str}(k:Nat){i:Int}(hi:i=k)(h:k<w.length):idx w i=some (gW w k):=by subst hi;exact Yq h
theorem aa7(ln:Int)(n:Nat):∀(l:List UInt8) (i:Nat) (prev:Bool) (acc r:List Word),tk ln l i prev acc=some r→i+l.length≤n→(∀w∈acc,w.Text.l.length≤i)→∀w∈r,w.Text.l.length≤n
 |[],i,prev,acc,r,h,hn,ha=>by
  simp only[tk,Option.some.injEq] at h
  subst h
  intro w hw
  have:=ha w hw
  simp only[List.length_nil] at hn
  omega
 |c::cs,i,prev,acc,r,h,hn,ha=>by
  simp only[List.length_cons] at hn
  unfold tk at h
  split at h
  ·simp only[Option.some.injEq] at h
   subst h
   intro w hw
   have:=ha w hw
   omega
  ·split at h
   ·exact aa7 ln n cs (i+1) false acc r h (by omega) (fun w hw=>by have:=ha w hw;omega)
   ·split at h
    ·cases prev with
     |true=>
      refine aa7 ln n cs (i+1) true _ r h (by omega) (fun w hw=>?_)
      rcases List.mem_append.1 hw with hw|hw
      ·have:=ha w (List.dropLast_subset _ hw);omega
      ·rw[List.mem_singleton] at hw
       subst hw
       simp only[List.length_append,List.length_cons,List.length_nil]
       cases acc with
       |nil=>simp[List.getLastD];show (default:Word).Text.l.length≤i;exact Nat.zero_le _
       |cons a tl=>
        have hm:(a::tl).getLastD default∈a::tl:=by
         rw[List.getLastD_eq_getLast?,List.getLast?_eq_some_getLast (by simp)]
         exact List.getLast_mem _
        have:=ha _ hm
        omega
     |false=>
      refine aa7 ln n cs (i+1) true _ r h (by omega) (fun w hw=>?_)
      rcases List.mem_append.1 hw with hw|hw
      ·have:=ha w hw;omega
      ·rw[List.mem_singleton] at hw
       subst hw
       simp
    ·cases h
theorem atj(n:Nat):∀l:List UInt8,l.length≤n→∀p∈oO l,p.length≤n:=by
 intro l
 induction l generalizing n with
 |nil=>intro _ p hp;simp[oO] at hp;subst hp;simp
 |cons c cs ih=>
  intro h p hp
  simp only[List.length_cons] at h
  unfold oO at hp
  split at hp
  ·rcases List.mem_cons.1 hp with e|e
   ·subst e;simp
   ·exact ih n (by omega) p e
  ·cases hs:oO cs with
   |nil=>rw[hs] at hp;simp only[List.mem_singleton] at hp;subst hp;simp;omega
   |cons q qs=>
    rw[hs] at hp
    have i2:=ih (n-1) (by omega)
    rcases List.mem_cons.1 hp with e|e
    ·subst e
     have:=i2 q (by rw[hs];exact List.mem_cons_self)
     simp only[List.length_cons];omega
    ·have:=i2 p (by rw[hs];exact List.mem_cons_of_mem _ e)
     omega
def xB(w:List Word):Prop:=0<w.length∧w.length≤64∧∀x∈w,x.Text.l.length≤65536
theorem aik:∀(ps:List (List UInt8)) (ln:Int) (acc:List (List Word)),(∀p∈ps,p.length≤65536)→(∀w∈acc,xB w)→∀w∈(yR ln ps acc).1,xB w
 |[],ln,acc,_,h=>h
 |p::ps,ln,acc,hp,h=>by
  unfold yR
  cases ht:toks ln p with
  |none=>simp
  |some w=>
   simp only
   by_cases h64:64<w.length
   ·rw[if_pos h64];simp
   ·rw[if_neg h64]
    refine aik ps (ln+1) _ (fun q hq=>hp q (List.mem_cons_of_mem _ hq)) (fun v hv=>?_)
    split at hv
    ·rename_i h0
     rcases List.mem_append.1 hv with hv|hv
     ·exact h v hv
     ·rw[List.mem_singleton] at hv;subst hv
      exact⟨h0,by omega,aa7 ln 65536 p 0 false [] _ ht (by have:=hp p List.mem_cons_self;omega) (by simp)⟩
    ·exact h v hv
theorem aie(l:List UInt8):∀w∈(tN l).1,xB w:=by
 unfold tN
 by_cases h:65536<l.length
 ·rw[if_pos h];simp
 ·rw[if_neg h]
  exact aik _ _ _ (atj 65536 l (by omega)) (by simp)
theorem ahg{w:List Word}(h:xB w):idx w 0=some (w.getD 0 default):=tJ (i:=0) (by omega) (by have:=h.1;omega)
/-! ### A line in plain words -/
def nW(w:List Str)(k:Nat):Int×Bool:=gJ (gW w k).l
def rW(w:List Str)(k:Nat):Int×Int×Bool:=Ab (gW w k).l
def He(p:Plan)(s:Str):Int:=Jo (fun x:aQ=>decide (x.Name=s)) 0 p.aP
def nK(p:Plan)(s:Str):Int:=Jo (fun x:Line=>decide (x.Name=s)) 0 p.Lines
def vN(l:Layout)(s:Str):Int:=Jo (fun x:Section=>decide (x.Name=s)) 0 l.Sections
def fE(form names:Bool):Int:=if form then (if names then 0 else 3) else 2
def ok0(i:Int):Bool:= !decide (i<0)
def isDir(s:Str):Bool:=decide (s=BQ)||decide (s=vW)
def pE(w:List Str):Int×Nat:=if (nW w (w.length-1)).2=true∧3<w.length∧gW w (w.length-2)=Ec then ((nW w (w.length-1)).1,w.length-2) else (0,w.length)
def xG(w:List Str)(m:Nat):Bool:=(List.range m).all fun j=>isDir (gW w (2*j+2))
def tV(l:Layout)(w:List Str)(m:Nat):Bool:=(List.range m).all fun j=>ok0 (vN l (gW w (2*j+1)))
def pJ(l:Layout)(w:List Str)(m:Nat):List Step:=(List.range m).map fun j=>⟨vN l (gW w (2*j+1)),if gW w (2*j+2)=vW then 1 else 0⟩
def JQ(w:List Str):Bool:=(decide (3≤(pE w).2)&&decide ((pE w).2 % 2=1))&&xG w (((pE w).2-1) / 2)
def Vf(w:List Str):bW:=⟨(nW w 1).1,(nW w 2).1,if w.length=4 then (rW w 3).1 else 0,if w.length=4 then (rW w 3).2.1 else 0⟩
def Ej(p:Plan)(w:List Str):Bool:=(((((decide (w.length=3)||decide (w.length=4))&&(nW w 1).2)&&(nW w 2).2)&&(!decide (w.length=4)||(rW w 3).2.2)))&& !decide (p.Lines.length=0)
def sF(p:Plan):Line:=p.Lines.getD (p.Lines.length-1) default
def qg(l:Layout)(p:Plan)(per:Bool)(w:List Str):Int×Plan×Bool:=
 if gW w 0=Mg then ((if decide (w.length=2)&&(nW w 1).2 then (if per then 5 else 0) else 2),{p with bJ:=(nW w 1).1},true)
 else if gW w 0=Na then (fE ((((decide (w.length=6)&&(nW w 2).2)&&(nW w 3).2)&&(nW w 4).2)&&(nW w 5).2) true,{p with aP:=p.aP++[⟨gW w 1,(nW w 2).1,(nW w 3).1,(nW w 4).1,(nW w 5).1⟩]},per)
 else if gW w 0=GY then (fE (JQ w) (tV l w (((pE w).2-1) / 2)),{p with Routes:=p.Routes++[⟨pJ l w (((pE w).2-1) / 2),(pE w).1⟩]},per)
 else if gW w 0=LZ then (fE (decide (w.length=4)&&(nW w 3).2) (ok0 (He p (gW w 2))),{p with Lines:=p.Lines++[⟨gW w 1,He p (gW w 2),(nW w 3).1,[]⟩]},per)
 else if gW w 0=GN then (fE (Ej p w) true,{p with Lines:=p.Lines.set (p.Lines.length-1) ⟨(sF p).Name,(sF p).aQ,(sF p).Weight,(sF p).bD++[Vf w]⟩},per)
 else if gW w 0=Ip then (fE ((((decide (w.length=7)&&(rW w 5).2.2)&&(nW w 2).2)&&(nW w 4).2)&&(nW w 6).2) (ok0 (nK p (gW w 1))&&ok0 (nK p (gW w 3))),{p with Changes:=p.Changes++[⟨nK p (gW w 1),(nW w 2).1,nK p (gW w 3),(nW w 4).1,(rW w 5).1,(rW w 5).2.1,(nW w 6).1⟩]},per)
 else if gW w 0=Kg then (fE (decide (w.length=4)&&(rW w 3).2.2) (ok0 (nK p (gW w 1))&&ok0 (nK p (gW w 2))),{p with Turns:=p.Turns++[⟨nK p (gW w 1),nK p (gW w 2),(rW w 3).1,(rW w 3).2.1⟩]},per)
 else if gW w 0=J4 then (fE (((decide (w.length=6)&&(nW w 2).2)&&(nW w 4).2)&&(nW w 5).2) (ok0 (nK p (gW w 1))&&ok0 (nK p (gW w 3))),{p with bB:=p.bB++[⟨nK p (gW w 1),(nW w 2).1,nK p (gW w 3),(nW w 4).1,(nW w 5).1⟩]},per)
 else if gW w 0=KR then (fE (decide (w.length=4)&&(nW w 3).2) (ok0 (Cz l.aT (gW w 1))&&ok0 (Cz l.aT (gW w 2))),{p with bA:=p.bA++[⟨Cz l.aT (gW w 1),Cz l.aT (gW w 2),(nW w 3).1⟩]},per)
 else (2,p,per)
structure PB(n:Nat)(p:Plan):Prop where
 st:p.aP.length≤n
 ro:p.Routes.length≤n
 li:p.Lines.length≤n
 ch:p.Changes.length≤n
 tu:p.Turns.length≤n
 sy:p.bB.length≤n
 de:p.bA.length≤n
 ri:∀x∈p.Lines,x.bD.length≤n
theorem PB.mono{n:Nat}{p:Plan}(h:PB n p):PB (n+1) p:=by
 have a1:=h.st;have a2:=h.ro;have a3:=h.li;have a4:=h.ch;have a5:=h.tu;have a6:=h.sy;have a7:=h.de
 exact⟨by omega,by omega,by omega,by omega,by omega,by omega,by omega,fun x hx=>by have:=h.ri x hx;omega⟩
theorem ad3{p:Plan}(h:p.Lines.length≠0):sF p∈p.Lines:=kE (by omega)
theorem aiI{l:Layout}{p:Plan}{per:Bool}{w:List Str}{n:Nat}(h:PB n p)(h0:(qg l p per w).1=0):PB (n+1) (qg l p per w).2.1:=by
 have a1:=h.st;have a2:=h.ro;have a3:=h.li;have a4:=h.ch;have a5:=h.tu;have a6:=h.sy;have a7:=h.de
 have a8:∀x∈p.Lines,x.bD.length≤n+1:=fun x hx=>by have:=h.ri x hx;omega
 revert h0
 unfold qg
 repeat' split
 all_goals intro h0
 ·exact⟨by simp only;omega,by simp only;omega,by simp only;omega,by simp only;omega,by simp only;omega,by simp only;omega,by simp only;omega,a8⟩
 ·exact⟨by simp only;omega,by simp only;omega,by simp only;omega,by simp only;omega,by simp only;omega,by simp only;omega,by simp only;omega,a8⟩
 ·exact⟨by simp only;omega,by simp only;omega,by simp only;omega,by simp only;omega,by simp only;omega,by simp only;omega,by simp only;omega,a8⟩
 ·exact⟨by simp;omega,by simp only;omega,by simp only;omega,by simp only;omega,by simp only;omega,by simp only;omega,by simp only;omega,a8⟩
 ·exact⟨by simp only;omega,by simp;omega,by simp only;omega,by simp only;omega,by simp only;omega,by simp only;omega,by simp only;omega,a8⟩
 ·refine⟨by simp only;omega,by simp only;omega,by simp;omega,by simp only;omega,by simp only;omega,by simp only;omega,by simp only;omega,fun x hx=>?_⟩
  rcases List.mem_append.1 hx with e|e
  ·exact a8 x e
  ·rw[List.mem_singleton] at e;subst e;simp
 ·refine⟨by simp only;omega,by simp only;omega,by simp;omega,by simp only;omega,by simp only;omega,by simp only;omega,by simp only;omega,fun x hx=>?_⟩
  rcases List.mem_or_eq_of_mem_set hx with e|e
  ·exact a8 x e
  ·subst e
   have hne:p.Lines.length≠0:=by
    intro h9
    unfold Ej fE at h0
    simp[h9] at h0
   have:=h.ri _ (ad3 hne)
   simp;omega
 ·exact⟨by simp only;omega,by simp only;omega,by simp only;omega,by simp;omega,by simp only;omega,by simp only;omega,by simp only;omega,a8⟩
 ·exact⟨by simp only;omega,by simp only;omega,by simp only;omega,by simp only;omega,by simp;omega,by simp only;omega,by simp only;omega,a8⟩
 ·exact⟨by simp only;omega,by simp only;omega,by simp only;omega,by simp only;omega,by simp only;omega,by simp;omega,by simp only;omega,a8⟩
 ·exact⟨by simp only;omega,by simp only;omega,by simp only;omega,by simp only;omega,by simp only;omega,by simp only;omega,by simp;omega,a8⟩
 ·exact h.mono
/-! ### The reader's words -/
def nE(ok:Bool)(e:Int):Int:=if ok then e else 2
def dE(i e:Int):Int:=if i<0∧e=0 then 3 else e
def FT(w:List Str):Prop:=0<w.length∧w.length≤64∧∀s∈w,s.l.length≤65536
theorem aci{w:List Str}(h:FT w)(k:Nat):(gW w k).l.length≤65536:=by
 by_cases hk:k<w.length
 ·exact h.2.2 _ (anF hk)
 ·have:gW w k=default:=by unfold gW;simp[List.getD_eq_getElem?_getD,List.getElem?_eq_none (by omega:w.length≤k)]
  rw[this];exact Nat.zero_le _
theorem GZ(l:Layout)(p:Plan)(per:Bool)(w:List Str)(e:Int)(k:Nat){i:Int}(hi:i=k):Bd ⟨l,p,per,w,e⟩ i=some (gW w k):=by
 subst hi
 unfold Bd
 try dsimp only
 by_cases h:w.length≤k
 ·rw[if_pos (by simpa using h)]
  unfold gW
  rw[List.getD_eq_getElem?_getD,List.getElem?_eq_none h];rfl
 ·rw[if_neg (by simp;omega)]
  exact bV (Yq (by omega)) rfl
theorem En(l:Layout)(p:Plan)(per:Bool)(w:List Str)(e:Int)(ok:Bool):yX ⟨l,p,per,w,e⟩ ok=some (nE ok e):=by
 unfold yX nE
 cases ok<;>rfl
theorem ZK(l:Layout)(p:Plan)(per:Bool)(w:List Str)(e i:Int):Jm ⟨l,p,per,w,e⟩ i=some (i,dE i e):=by
 unfold Jm dE UO
 try dsimp only
 by_cases h:i<0∧e=0
 ·rw[if_pos (by simpa using h),if_pos h]
 ·rw[if_neg (by simpa using h),if_neg h]
section
variable {l:Layout}{p:Plan}{per:Bool}{w:List Str}{e:Int}
theorem zi(h:FT w)(k:Nat){i:Int}(hi:i=k):uJ ⟨l,p,per,w,e⟩ i=some ((nW w k).1,nE (nW w k).2 e):=by
 unfold uJ
 try dsimp only
 rw[GZ _ _ _ _ _ k hi,Option.bind_some,OX _ (by have:=aci h k;omega),Option.bind_some,En,Option.bind_some];rfl
theorem aeL(h:FT w)(k:Nat){i:Int}(hi:i=k):Mq ⟨l,p,per,w,e⟩ i=some ((rW w k).1,(rW w k).2.1,nE (rW w k).2.2 e):=by
 unfold Mq
 try dsimp only
 rw[GZ _ _ _ _ _ k hi,Option.bind_some,auz _ (by have:=aci h k;omega),Option.bind_some,En,Option.bind_some];rfl
theorem avG(hl:l.Sections.length≤1000000)(k:Nat){i:Int}(hi:i=k):UQ ⟨l,p,per,w,e⟩ i=some (vN l (gW w k),dE (vN l (gW w k)) e):=by
 unfold UQ
 try dsimp only
 refine bV (x:=vN l (gW w k)) ?_ ?_
 ·unfold aaN vN
  refine J2 _ _ (by show l.Sections.length≤_;omega) (fun c j x hj hx=>?_) (fun c=>?_)
  ·simp only[aaM,Zy]
   rw[if_pos (by simp;omega),hx,Option.bind_some,GZ _ _ _ _ _ k hi,Option.bind_some,Option.bind_some]
  ·simp only[aaM]
   rw[if_neg (by simp)];rfl
 ·rw[ZK,Option.bind_some]
theorem avH(hl:p.aP.length≤1000000)(k:Nat){i:Int}(hi:i=k):UR ⟨l,p,per,w,e⟩ i=some (He p (gW w k),dE (He p (gW w k)) e):=by
 unfold UR
 try dsimp only
 refine bV (x:=He p (gW w k)) ?_ ?_
 ·unfold aaR He
  refine J2 _ _ (by show p.aP.length≤_;omega) (fun c j x hj hx=>?_) (fun c=>?_)
  ·simp only[aaQ,Zz]
   rw[if_pos (by simp;omega),hx,Option.bind_some,GZ _ _ _ _ _ k hi,Option.bind_some,Option.bind_some]
  ·simp only[aaQ]
   rw[if_neg (by simp)];rfl
 ·rw[ZK,Option.bind_some]
theorem Qz(hl:p.Lines.length≤1000000)(k:Nat){i:Int}(hi:i=k):E9 ⟨l,p,per,w,e⟩ i=some (nK p (gW w k),dE (nK p (gW w k)) e):=by
 unfold E9
 try dsimp only
 refine bV (x:=nK p (gW w k)) ?_ ?_
 ·unfold aaL nK
  refine J2 _ _ (by show p.Lines.length≤_;omega) (fun c j x hj hx=>?_) (fun c=>?_)
  ·simp only[aaK,Zx]
   rw[if_pos (by simp;omega),hx,Option.bind_some,GZ _ _ _ _ _ k hi,Option.bind_some,Option.bind_some]
  ·simp only[aaK]
   rw[if_neg (by simp)];rfl
 ·rw[ZK,Option.bind_some]
theorem akn(hl:l.aT.length≤1000000)(k:Nat){i:Int}(hi:i=k):Po ⟨l,p,per,w,e⟩ i=some (Cz l.aT (gW w k),dE (Cz l.aT (gW w k)) e):=by
 unfold Po
 try dsimp only
 rw[GZ _ _ _ _ _ k hi,Option.bind_some,arM _ _ (by omega),Option.bind_some,ZK,Option.bind_some]
end
theorem EI(f n:Bool)(i:Int):dE i (fE f n)=fE f (n&&ok0 i):=by
 unfold dE fE ok0
 cases f<;>cases n<;>simp
 by_cases h:i<0<;>simp[h]
theorem vG(f n ok:Bool):nE ok (fE f n)=fE (f&&ok) n:=by
 unfold nE fE
 cases f<;>cases n<;>cases ok<;>rfl
theorem Gz(ok:Bool):nE ok 0=fE ok true:=by cases ok<;>rfl
theorem avC{l:Layout}{p:Plan}{per:Bool}{w:List Str}(h:FT w):UK ⟨l,p,per,w,0⟩=some ((nW w 1).1,true,if decide (w.length=2)&&(nW w 1).2 then (if per then 5 else 0) else 2):=by
 unfold UK UJ
 try dsimp only
 rw[En,Option.bind_some,zi (i:=1) h 1 rfl,Option.bind_some]
 have e:decide ((w.length:Int)=2)=decide (w.length=2):=by rw[decide_eq_decide];omega
 rw[e,Gz,vG]
 cases (decide (w.length=2))<;>cases (nW w 1).2<;>cases per<;>rfl
theorem avD{l:Layout}{p:Plan}{per:Bool}{w:List Str}(h:FT w){n:Nat}(hn:n≤1000000)(b:PB n p):WP (UL ⟨l,p,per,w,0⟩) fun y=>y.2=fE (Ej p w) true∧(y.2=0→y.1=p.Lines.set (p.Lines.length-1) ⟨(sF p).Name,(sF p).aQ,(sF p).Weight,(sF p).bD++[Vf w]⟩):=by
 unfold UL
 try dsimp only
 rw[En,Option.bind_some,zi (i:=1) h 1 rfl,Option.bind_some,zi (i:=2) h 2 rfl,Option.bind_some]
 have e:(decide ((w.length:Int)=3)||decide ((w.length:Int)=4))=(decide (w.length=3)||decide (w.length=4)):=by
  rw[Bool.eq_iff_iff];simp;omega
 rw[e,Gz,vG,vG]
 have k1:∀(a c:Int) (f:Bool),WP (Ph ⟨l,p,per,w,0⟩ ((nW w 1).1,fE ((decide (w.length=3)||decide (w.length=4))&&(nW w 1).2) true) ((nW w 2).1,fE (((decide (w.length=3)||decide (w.length=4))&&(nW w 1).2)&&(nW w 2).2) true) (fE f true,a,c))
   fun y=>y.2=fE (f&& !decide (p.Lines.length=0)) true∧(y.2=0→y.1=p.Lines.set (p.Lines.length-1) ⟨(sF p).Name,(sF p).aQ,(sF p).Weight,(sF p).bD++[⟨(nW w 1).1,(nW w 2).1,a,c⟩]⟩):=by
  intro a c f
  simp only[Ph]
  by_cases hL:p.Lines.length=0
  ·rw[if_pos (by simp[hL])]
   exact gD ⟨by simp[hL,fE],fun h=>by cases h⟩
  ·have hm:=ad3 hL
   have hr:=b.ri _ hm
   have e1:((p.Lines.length:Int)-1)=((p.Lines.length-1:Nat):Int):=by omega
   have e2:(((p.Lines.length-1:Nat):Int)).toNat=p.Lines.length-1:=by omega
   rw[if_neg (by simp only[decide_eq_true_eq];omega),e1]
   refine iM (by have:=b.li;omega) ?_
   rw[oM (by omega),Option.bind_some,e2]
   refine mV (by have:(p.Lines.getD (p.Lines.length-1) default).bD.length≤n:=hr;simp only[List.length_append,List.length_singleton,List.length_cons,List.length_nil,decide_eq_true_eq];omega) (gD ⟨by simp[hL],fun _=>rfl⟩)
 by_cases h4:w.length=4
 ·rw[if_pos (by simp;omega),aeL (i:=3) h 3 rfl,Option.bind_some]
  simp only[vG]
  refine alF (k1 (rW w 3).1 (rW w 3).2.1 _) ?_
  rintro y ⟨q1,q2⟩
  refine⟨?_,?_⟩
  ·rw[q1];unfold Ej;simp[h4]
  ·intro h;rw[q2 h];unfold Vf;rw[if_pos h4,if_pos h4]
 ·rw[if_neg (by simp;omega)]
  refine alF (k1 0 0 _) ?_
  rintro y ⟨q1,q2⟩
  refine⟨?_,?_⟩
  ·rw[q1];unfold Ej;simp[h4]
  ·intro h;rw[q2 h];unfold Vf;rw[if_neg h4,if_neg h4]
theorem ZI(p:Nat→Bool)(m:Nat):(List.range (m+1)).all p=((List.range m).all p&&p m):=by
 rw[List.range_succ,List.all_append];simp
theorem avE{l:Layout}{p:Plan}{per:Bool}{w:List Str}(h:FT w)(hl:l.Sections.length≤1000000)(ov:Int)(nd:Nat)(hnd:nd≤w.length)(h1:1≤nd)(f:Bool)(hr:p.Routes.length≤1000000):∀(k m fuel:Nat),m+k=(nd-1) / 2→k<fuel→
  iter (GI (nd:Int) ⟨l,p,per,w,0⟩ ov) fuel (fE (f&&xG w m) (tV l w m),pJ l w m,((2*m+1:Nat):Int))=
   some (p.Routes++[⟨pJ l w ((nd-1) / 2),ov⟩],fE (f&&xG w ((nd-1) / 2)) (tV l w ((nd-1) / 2))):=by
 have h64:=h.2.1
 have hs:∀m,(pJ l w m).length=m:=fun m=>by simp[pJ]
 intro k
 induction k with
 |zero=>
  intro m fuel hm hf
  obtain⟨fuel,rfl⟩:∃x,fuel=x+1:=⟨fuel-1,by omega⟩
  show GI _ _ _ (iter _ fuel) _=_
  simp only[GI]
  rw[bH (bO (by omega) (by omega)),if_neg (by simp;omega)]
  unfold aeF
  try dsimp only
  rw[bH (by have:=hs m;simp;omega),show m=(nd-1) / 2 by omega]
 |succ k ih=>
  intro m fuel hm hf
  obtain⟨fuel,rfl⟩:∃x,fuel=x+1:=⟨fuel-1,by omega⟩
  show GI _ _ _ (iter _ fuel) _=_
  simp only[GI]
  have e2:(((2*m+1:Nat):Int)+1)=((2*m+2:Nat):Int):=by omega
  have e3:(((2*m+1:Nat):Int)+2)=((2*(m+1)+1:Nat):Int):=by omega
  rw[bH (bO (by omega) (by omega)),if_pos (by simp;omega),avG hl (2*m+1) rfl,Option.bind_some,bH (bO (by omega) (by omega)),e2,Yq (by omega),Option.bind_some]
  simp only[EI]
  have k3:∀(e d:Int),Mr (pJ l w m) (vN l (gW w (2*m+1)),fE (f&&xG w m) (tV l w m&&ok0 (vN l (gW w (2*m+1))))) ((2*m+1:Nat):Int) (iter (GI (nd:Int) ⟨l,p,per,w,0⟩ ov) fuel) (e,d)
    =iter (GI (nd:Int) ⟨l,p,per,w,0⟩ ov) fuel (e,pJ l w m++[⟨vN l (gW w (2*m+1)),d⟩],((2*(m+1)+1:Nat):Int)):=by
   intro e d
   simp only[Mr]
   rw[bH (by have:=hs m;simp;omega),bH (bO (by omega) (by omega)),e3]
  have st:∀d,d=(if gW w (2*m+2)=vW then (1:Int) else 0)→pJ l w m++[⟨vN l (gW w (2*m+1)),d⟩]=pJ l w (m+1):=by
   intro d hd
   unfold pJ
   rw[List.range_succ,List.map_append,hd];rfl
  have sb:tV l w (m+1)=(tV l w m&&ok0 (vN l (gW w (2*m+1)))):=ZI _ m
  have db:xG w (m+1)=(xG w m&&isDir (gW w (2*m+2))):=ZI _ m
  have fin:=ih (m+1) fuel (by omega) (by omega)
  rw[sb,db] at fin
  by_cases c1:gW w (2*m+2)=BQ
  ·rw[if_pos (by simpa [BQ] using c1),k3,st 0 (by rw[c1];rfl)]
   have:isDir (gW w (2*m+2))=true:=by unfold isDir;simp[c1]
   rw[this,Bool.and_true] at fin
   exact fin
  ·rw[if_neg (by simpa [BQ] using c1)]
   by_cases c2:gW w (2*m+2)=vW
   ·rw[if_pos (by simpa [vW] using c2),k3,st 1 (by rw[if_pos c2])]
    have:isDir (gW w (2*m+2))=true:=by unfold isDir;simp[c2]
    rw[this,Bool.and_true] at fin
    exact fin
   ·rw[if_neg (by simpa [vW] using c2),k3,st 0 (by rw[if_neg c2])]
    have:isDir (gW w (2*m+2))=false:=by unfold isDir;simp[c1,c2]
    rw[this,Bool.and_false,Bool.and_false] at fin
    exact fin
theorem avF{l:Layout}{p:Plan}{per:Bool}{w:List Str}(h:FT w)(hl:l.Sections.length≤1000000)(hr:p.Routes.length≤1000000):
  UM ⟨l,p,per,w,0⟩=some (p.Routes++[⟨pJ l w (((pE w).2-1) / 2),(pE w).1⟩],fE (JQ w) (tV l w (((pE w).2-1) / 2))):=by
 have h64:=h.2.1
 have hpos:=h.1
 have k1:∀(ov:Int) (nd:Nat),nd≤w.length→1≤nd→Pj ⟨l,p,per,w,0⟩ (ov,(nd:Int))=some (p.Routes++[⟨pJ l w ((nd-1) / 2),ov⟩],fE ((decide (3≤nd)&&decide (nd % 2=1))&&xG w ((nd-1) / 2)) (tV l w ((nd-1) / 2))):=by
  intro ov nd a b
  simp only[Pj]
  rw[En,Option.bind_some,Gz]
  have e:(decide (3≤(nd:Int))&&decide (((nd:Int)).tmod 2=1))=(decide (3≤nd)&&decide (nd % 2=1)):=by
   have:((nd:Int)).tmod 2=((nd % 2:Nat):Int):=by rw[Int.tmod_eq_emod_of_nonneg (by omega)];omega
   rw[this,Bool.eq_iff_iff];simp;omega
  rw[e]
  have:=avE (per:=per) h hl ov nd a b (decide (3≤nd)&&decide (nd % 2=1)) hr ((nd-1) / 2) 0 FUEL (by omega) (fD (by omega))
  simpa [xG,tV,pJ] using this
 have e1:((w.length:Int)-1)=((w.length-1:Nat):Int):=by omega
 unfold UM
 try dsimp only
 rw[bH (bO (by omega) (by omega)),GZ _ _ _ _ _ (w.length-1) e1,Option.bind_some,OX _ (by have:=aci h (w.length-1);omega),Option.bind_some]
 rw[show gJ (gW w (w.length-1)).l=nW w (w.length-1) from rfl,bH (by rw[bO (by omega) (by omega)];simp)]
 unfold JQ
 unfold pE
 by_cases c:(nW w (w.length-1)).2=true∧3<w.length
 ·have g:((nW w (w.length-1)).2&&decide (3<(w.length:Int)))=true:=by simp[c.1];omega
  have e2:((w.length:Int)-2)=((w.length-2:Nat):Int):=by omega
  rw[g,jP rfl,e2,Yq (by omega),Option.bind_some]
  by_cases c2:gW w (w.length-2)=Ec
  ·rw[if_pos (show (_∧_∧_) from⟨c.1,c.2,c2⟩),if_pos (by simpa [Ec] using c2),bH (bO (by omega) (by omega))]
   exact k1 _ _ (by omega) (by omega)
  ·rw[if_neg (show ¬(_∧_∧_) from fun h=>c2 h.2.2),if_neg (by simpa [Ec] using c2)]
   exact k1 _ _ (by omega) (by omega)
 ·have g:((nW w (w.length-1)).2&&decide (3<(w.length:Int)))=false:=by
   rw[Bool.eq_false_iff];intro h;simp at h;exact c ⟨h.1,by omega⟩
  rw[g,oU rfl,Option.bind_some,Bool.false_and,if_neg (by simp),if_neg (fun h=>c ⟨h.1,h.2.1⟩)]
  exact k1 _ _ (by omega) (by omega)
theorem dz{α β:Type}{o:Option α}{x:α}{K:α→Option β}{Q:β→Prop}(h:o=some x)(hk:WP (K x) Q):WP (o.bind K) Q:=by rw[h];exact hk
def txt(ln:List Word):List Str:=ln.map (·.Text)
theorem dLen(w:List Str)(k:Nat):decide ((w.length:Int)=(k:Int))=decide (w.length=k):=by rw[decide_eq_decide];omega
abbrev alO:=Int×Int×(List aQ)×(List aG)×(List Line)×(List Change)×(List Turn)×(List Sync)×(List bZ)×Bool×(List Str)×Int
def DQ(d:Int×Plan×Bool)(y:alO):Prop:=
 y.1=d.1∧(y.1=0→Plan.mk y.2.1 y.2.2.1 y.2.2.2.1 y.2.2.2.2.1 y.2.2.2.2.2.1 y.2.2.2.2.2.2.1 y.2.2.2.2.2.2.2.1 y.2.2.2.2.2.2.2.2.1=d.2.1∧y.2.2.2.2.2.2.2.2.2.1=d.2.2)
theorem auC{l:Layout}{p:Plan}{per:Bool}{w0 w:List Str}{e0:Int}(hw:FT w){n:Nat}(hn:n≤1000000)(b:PB n p)(hl:l.Sections.length≤1000000∧l.aT.length≤1000000):
  WP (Pm w ⟨l,p,per,w0,e0⟩ ()) (DQ (qg l p per w)):=by
 have b1:=b.st;have b2:=b.ro;have b3:=b.li;have b4:=b.ch;have b5:=b.tu;have b6:=b.sy;have b7:=b.de
 have d2:=dLen w 2;have d4:=dLen w 4;have d6:=dLen w 6;have d7:=dLen w 7
 unfold Pm qg
 dsimp only
 refine dz (arI 0 rfl hw.1) ?_
 by_cases c1:gW w 0=Mg
 ·rw[if_pos (by simpa [Mg] using c1),if_pos c1]
  refine dz (avC hw) (gD ⟨rfl,fun _=>⟨rfl,rfl⟩⟩)
 rw[if_neg (by simpa [Mg] using c1),if_neg c1]
 by_cases c2:gW w 0=Na
 ·rw[if_pos (by simpa [Na] using c2),if_pos c2]
  refine dz (En _ _ _ _ _ _) (dz (GZ _ _ _ _ _ 1 rfl) (dz (zi hw 2 rfl) (dz (zi hw 3 rfl) (dz (zi hw 4 rfl) (dz (zi hw 5 rfl) (mV (by simp;omega) (gD ⟨?_,fun _=>⟨rfl,rfl⟩⟩)))))))
  show nE _ (nE _ (nE _ (nE _ (nE (decide ((w.length:Int)=((6:Nat):Int))) 0))))=_
  rw[d6,Gz,vG,vG,vG,vG]
 rw[if_neg (by simpa [Na] using c2),if_neg c2]
 by_cases c3:gW w 0=GY
 ·rw[if_pos (by simpa [GY] using c3),if_pos c3]
  exact dz (avF hw hl.1 (by omega)) (gD ⟨rfl,fun _=>⟨rfl,rfl⟩⟩)
 rw[if_neg (by simpa [GY] using c3),if_neg c3]
 by_cases c4:gW w 0=LZ
 ·rw[if_pos (by simpa [LZ] using c4),if_pos c4]
  refine dz (En _ _ _ _ _ _) (dz (GZ _ _ _ _ _ 1 rfl) (dz (avH (by omega) 2 rfl) (dz (zi hw 3 rfl) (mV (by simp;omega) (gD ⟨?_,fun _=>⟨rfl,rfl⟩⟩)))))
  show nE _ (dE _ (nE (decide ((w.length:Int)=((4:Nat):Int))) 0))=_
  rw[d4,Gz,EI,vG,Bool.true_and]
 rw[if_neg (by simpa [LZ] using c4),if_neg c4]
 by_cases c5:gW w 0=GN
 ·rw[if_pos (by simpa [GN] using c5),if_pos c5]
  refine wp_bind _ (avD hw hn b) fun y hy=>gD ⟨hy.1,fun h=>⟨?_,rfl⟩⟩
  rw[hy.2 h]
 rw[if_neg (by simpa [GN] using c5),if_neg c5]
 by_cases c6:gW w 0=Ip
 ·rw[if_pos (by simpa [Ip] using c6),if_pos c6]
  refine dz (En _ _ _ _ _ _) (dz (aeL hw 5 rfl) (dz (Qz (by omega) 1 rfl) (dz (zi hw 2 rfl) (dz (Qz (by omega) 3 rfl) (dz (zi hw 4 rfl) (dz (zi hw 6 rfl) (mV (by simp;omega) (gD ⟨?_,fun _=>⟨rfl,rfl⟩⟩))))))))
  show nE _ (nE _ (dE _ (nE _ (dE _ (nE _ (nE (decide ((w.length:Int)=((7:Nat):Int))) 0))))))=_
  rw[d7,Gz,vG,EI,vG,EI,vG,vG,Bool.true_and]
 rw[if_neg (by simpa [Ip] using c6),if_neg c6]
 by_cases c7:gW w 0=Kg
 ·rw[if_pos (by simpa [Kg] using c7),if_pos c7]
  refine dz (En _ _ _ _ _ _) (dz (aeL hw 3 rfl) (dz (Qz (by omega) 1 rfl) (dz (Qz (by omega) 2 rfl) (mV (by simp;omega) (gD ⟨?_,fun _=>⟨rfl,rfl⟩⟩)))))
  show dE _ (dE _ (nE _ (nE (decide ((w.length:Int)=((4:Nat):Int))) 0)))=_
  rw[d4,Gz,vG,EI,EI,Bool.true_and]
 rw[if_neg (by simpa [Kg] using c7),if_neg c7]
 by_cases c8:gW w 0=J4
 ·rw[if_pos (by simpa [J4] using c8),if_pos c8]
  refine dz (En _ _ _ _ _ _) (dz (Qz (by omega) 1 rfl) (dz (zi hw 2 rfl) (dz (Qz (by omega) 3 rfl) (dz (zi hw 4 rfl) (dz (zi hw 5 rfl) (mV (by simp;omega) (gD ⟨?_,fun _=>⟨rfl,rfl⟩⟩)))))))
  show nE _ (nE _ (dE _ (nE _ (dE _ (nE (decide ((w.length:Int)=((6:Nat):Int))) 0)))))=_
  rw[d6,Gz,EI,vG,EI,vG,vG,Bool.true_and]
 rw[if_neg (by simpa [J4] using c8),if_neg c8]
 by_cases c9:gW w 0=KR
 ·rw[if_pos (by simpa [KR] using c9),if_pos c9]
  refine dz (En _ _ _ _ _ _) (dz (akn hl.2 1 rfl) (dz (akn hl.2 2 rfl) (dz (zi hw 3 rfl) (mV (by simp;omega) (gD ⟨?_,fun _=>⟨rfl,rfl⟩⟩)))))
  show nE _ (dE _ (dE _ (nE (decide ((w.length:Int)=((4:Nat):Int))) 0)))=_
  rw[d4,Gz,EI,EI,vG,Bool.true_and]
 rw[if_neg (by simpa [KR] using c9),if_neg c9]
 exact gD ⟨rfl,fun h=>by cases h⟩
theorem awW{ln:List Word}(h:xB ln):FT (txt ln):=by
 refine⟨by unfold txt;simpa using h.1,by unfold txt;simpa using h.2.1,fun s hs=>?_⟩
 obtain⟨x,hx,rfl⟩:=List.mem_map.1 hs
 exact h.2.2 x hx
theorem auD{l:Layout}{p:Plan}{per:Bool}{w0:List Str}{e0:Int}{ln:List Word}(hw:xB ln){n:Nat}(hn:n≤1000000)(b:PB n p)(hl:l.Sections.length≤1000000∧l.aT.length≤1000000):
  WP (UN ⟨l,p,per,w0,e0⟩ ln) (DQ (qg l p per (txt ln))):=by
 have h64:=hw.2.1
 unfold UN
 have key:iter (Pk ln ⟨l,p,per,w0,e0⟩) FUEL (([]:List Str),0)=Pm (txt ln) ⟨l,p,per,w0,e0⟩ ():=by
  have:=jF (B:=Pk ln ⟨l,p,per,w0,e0⟩) (fun (q:List Str) i=>(q,i)) ln (fun q i=>q.length=i) (fun q r=>Pm (q++txt r) ⟨l,p,per,w0,e0⟩ ()) ?_ ?_ FUEL [] 0 rfl (by omega) (fD (by omega))
  ·simpa using this
  ·intro c q i x r hq hdr hi hx hk
   simp only[Pk]
   rw[if_pos (by simp;omega),hx,Option.bind_some,bH (by simp;omega),hk _ (by simp[hq])]
   simp[txt]
  ·intro c q hq
   simp only[Pk]
   rw[if_neg (by simp)]
   simp[txt]
 rw[key]
 exact auC (awW hw) hn b hl
/-! ### The text -/
def GA:Plan:=⟨0,[],[],[],[],[],[],[]⟩
def Ei(l:Layout):Plan→Bool→List (List Word)→Option (Plan×Int×Int)
 |p,_,[]=>(Aa l p).bind fun e=>if decide (e≠0) then some (GA,0,e) else some (p,0,0)
 |p,per,ln::r=>if (qg l p per (txt ln)).1≠0 then some (GA,(ln.getD 0 default).Line,(qg l p per (txt ln)).1) else Ei l (qg l p per (txt ln)).2.1 (qg l p per (txt ln)).2.2 r
def Pp(l:Layout)(s:List UInt8):Option (Plan×Int×Int):=
 if jB (dZ l)≠0 then some (GA,0,1) else if (tN s).2.2≠0 then some (GA,(tN s).2.1,(tN s).2.2) else Ei l GA false (tN s).1
theorem aiH:PB 0 GA:=⟨Nat.le_refl _,Nat.le_refl _,Nat.le_refl _,Nat.le_refl _,Nat.le_refl _,Nat.le_refl _,Nat.le_refl _,fun x hx=>by cases hx⟩
theorem atB{l:Layout}(hl:l.Sections.length≤1000000∧l.aT.length≤1000000)(y:(List (List Word))×Int×Int)(hok:∀w∈y.1,xB w)(hlen:y.1.length≤1000000):
  ∀(r:List (List Word)) (i fuel:Nat) (p:Plan) (per:Bool) (w:List Str) (e:Int),y.1.drop i=r→r.length<fuel→PB i p→i≤y.1.length→
  iter (Mi y l) fuel (p.bJ,p.aP,p.Routes,p.Lines,p.Changes,p.Turns,p.bB,p.bA,per,w,e,i)=Ei l p per r:=by
 intro r
 induction r with
 |nil=>
  intro i fuel p per w e hd hf hb hi
  obtain⟨fuel,rfl⟩:∃x,fuel=x+1:=⟨fuel-1,by simp at hf;omega⟩
  have hi2:y.1.length≤i:=by
   apply Nat.le_of_not_lt;intro h
   rw[List.drop_eq_getElem_cons h] at hd;cases hd
  show Mi y l (iter _ fuel) _=_
  simp only[Mi,aex,Ei]
  rw[if_neg (by simp;omega),amT]
  rfl
 |cons ln r ih=>
  intro i fuel p per w e hd hf hb hi
  obtain⟨fuel,rfl⟩:∃x,fuel=x+1:=⟨fuel-1,by omega⟩
  have hi2:i<y.1.length:=by
   apply Nat.lt_of_not_le;intro h
   rw[List.drop_eq_nil_of_le h] at hd;cases hd
  rw[List.drop_eq_getElem_cons hi2] at hd
  obtain⟨e1,e2⟩:=List.cons.inj hd
  have ok:xB ln:=hok ln (by rw[←e1];exact List.getElem_mem hi2)
  have hx:idx y.1 (i:Int)=some ln:=by rw[kF,List.getElem?_eq_getElem hi2,e1]
  show Mi y l (iter _ fuel) _=_
  simp only[Mi,Ei]
  rw[if_pos (by simp;omega),hx,Option.bind_some]
  obtain⟨z,hz,q1,q2⟩:=auD (l:=l) (p:=p) (per:=per) (w0:=w) (e0:=e) ok (by omega) hb hl
  rw[show (bK.mk l (Plan.mk p.bJ p.aP p.Routes p.Lines p.Changes p.Turns p.bB p.bA) per w e)=⟨l,p,per,w,e⟩ from rfl,hz,Option.bind_some]
  by_cases h0:z.1=0
  ·obtain⟨q3,q4⟩:=q2 h0
   have hp:=aiI (l:=l) (per:=per) (w:=txt ln) hb (by rw[←q1];exact h0)
   rw[if_neg (by simp[h0]),if_neg (by rw[←q1];simp[h0])]
   have:=ih (i+1) fuel (qg l p per (txt ln)).2.1 (qg l p per (txt ln)).2.2 z.2.2.2.2.2.2.2.2.2.2.1 z.2.2.2.2.2.2.2.2.2.2.2 (by rw[←List.drop_drop,List.drop_eq_getElem_cons hi2];simpa using e2) (by simp at hf;omega) hp (by omega)
   rw[←this,←q3,←q4]
  ·rw[if_pos (by simpa using h0),if_pos (by rw[←q1];exact h0),ahg ok,Option.bind_some,q1]
   rfl
theorem auh(l:Layout)(s:Str):UF l s=Pp l s.l:=by
 unfold UF Pp
 refine bV (x:=jB (dZ l)) rfl ?_
 by_cases hc:jB (dZ l)=0
 ·rw[if_neg (by simp[hc]),if_neg (by simp[hc]),asI,Option.bind_some]
  have hf:=RJ hc
  have hlen:=(aic s.l).1
  by_cases h2:(tN s.l).2.2=0
  ·rw[if_neg (by simp[h2]),if_neg (by simp[h2])]
   exact atB ⟨by omega,by omega⟩ (tN s.l) (aie s.l) hlen (tN s.l).1 0 FUEL GA false [] 0 rfl (fD (by omega)) aiH (by omega)
  ·rw[if_pos (by simpa using h2),if_pos (by simpa using h2)];rfl
 ·rw[if_pos (by simpa using hc),if_pos (by simpa using hc)];rfl
def DE{α:Type}(e:Int)(v:α)(y:Int×α):Prop:=y.1=e∧(y.1=0→y.2=v)
theorem ug{α:Type}{e:Int}{v x:α}(h:e≠0){e':Int}(he:e'=e):DE e' v (e,x):=⟨he.symm,fun q=>absurd q h⟩
theorem aw6{α:Type}{l:List α}(h:l.length=2):∃a b,l=[a,b]:=by
 match l,h with
 |[a,b],_=>exact⟨a,b,rfl⟩
theorem aw7{α:Type}{l:List α}(h:l.length=3):∃a b c,l=[a,b,c]:=by
 match l,h with
 |[a,b,c],_=>exact⟨a,b,c,rfl⟩
theorem abD{α:Type}{l:List α}(h:l.length=4):∃a b c d,l=[a,b,c,d]:=by
 match l,h with
 |[a,b,c,d],_=>exact⟨a,b,c,d,rfl⟩
theorem alM{α:Type}{l:List α}(h:l.length=6):∃a b c d e f,l=[a,b,c,d,e,f]:=by
 match l,h with
 |[a,b,c,d,e,f],_=>exact⟨a,b,c,d,e,f,rfl⟩
theorem aw8{α:Type}{l:List α}(h:l.length=7):∃a b c d e f g,l=[a,b,c,d,e,f,g]:=by
 match l,h with
 |[a,b,c,d,e,f,g],_=>exact⟨a,b,c,d,e,f,g,rfl⟩
section
variable {l:Layout}{p:Plan}{pn:Int}
theorem OZ(s:Str)(h:p.Lines.length≤1000000):Fq ⟨l,p,pn⟩ s=some (nK p s):=by
 unfold Fq nK
 refine J2 _ _ (by omega) (fun c i x hi hx=>?_) (fun c=>?_)
 ·simp only[aao]
  rw[if_pos (by simp;omega),hx,Option.bind_some,bH (bO (by omega) (by omega))]
 ·simp only[aao]
  rw[if_neg (by simp)];rfl
theorem aum(s:Str)(h:p.aP.length≤1000000):V6 ⟨l,p,pn⟩ s=some (He p s):=by
 unfold V6 He
 refine J2 _ _ (by omega) (fun c i x hi hx=>?_) (fun c=>?_)
 ·simp only[aaq]
  rw[if_pos (by simp;omega),hx,Option.bind_some,bH (bO (by omega) (by omega))]
 ·simp only[aaq]
  rw[if_neg (by simp)];rfl
theorem aul(s:Str)(h:l.Sections.length≤1000000):V5 ⟨l,p,pn⟩ s=some (vN l s):=by
 unfold V5 vN
 refine J2 _ _ (by omega) (fun c i x hi hx=>?_) (fun c=>?_)
 ·simp only[aap]
  rw[if_pos (by simp;omega),hx,Option.bind_some,bH (bO (by omega) (by omega))]
 ·simp only[aap]
  rw[if_neg (by simp)];rfl
theorem yF{f n:Bool}(h:f=false):fE f n=2:=by subst h;rfl
theorem R8{f n:Bool}(h:f=true)(hn:n=false):fE f n=3:=by subst h;subst hn;rfl
theorem KV{f n:Bool}(h:f=true)(hn:n=true):fE f n=0:=by subst h;subst hn;rfl
theorem Zh{i j:Int}(h:(decide (i<0)||decide (j<0))=true):(ok0 i&&ok0 j)=false:=by
 unfold ok0
 simp only[Bool.or_eq_true,decide_eq_true_eq] at h
 rcases h with h|h<;>simp[h]
theorem Zi{i j:Int}(h:(decide (i<0)||decide (j<0))=false):(ok0 i&&ok0 j)=true:=by
 unfold ok0
 simp only[Bool.or_eq_false_iff] at h
 rw[h.1,h.2];rfl
theorem atE{ln:List Word}(hw:xB ln){n:Nat}(hn:n≤1000000)(b:PB n p):
  WP (VW ⟨l,p,pn⟩ ln) (DE (fE ((((decide ((txt ln).length=7)&&(rW (txt ln) 5).2.2)&&(nW (txt ln) 2).2)&&(nW (txt ln) 4).2)&&(nW (txt ln) 6).2) (ok0 (nK p (gW (txt ln) 1))&&ok0 (nK p (gW (txt ln) 3))))
   (p.Changes++[⟨nK p (gW (txt ln) 1),(nW (txt ln) 2).1,nK p (gW (txt ln) 3),(nW (txt ln) 4).1,(rW (txt ln) 5).1,(rW (txt ln) 5).2.1,(nW (txt ln) 6).1⟩])):=by
 have b4:=b.ch;have b3:=b.li
 unfold VW
 by_cases h:ln.length=7
 ·obtain⟨w0,w1,w2,w3,w4,w5,w6,rfl⟩:=aw8 h
  have h5:=hw.2.2 w5 (by simp)
  refine gX (fun h=>by simp at h) (fun _=>dz (x:=w2) rfl (dz (Br _) (dz (x:=w4) rfl (dz (Br _) (dz (x:=w5) rfl (dz (afq _ (by omega)) (dz (x:=w6) rfl (dz (Br _) ?_))))))))
  show WP (if ((((!(nW (txt [w0,w1,w2,w3,w4,w5,w6]) 2).2)||(!(nW (txt [w0,w1,w2,w3,w4,w5,w6]) 4).2))||(!(rW (txt [w0,w1,w2,w3,w4,w5,w6]) 5).2.2))||(!(nW (txt [w0,w1,w2,w3,w4,w5,w6]) 6).2))=true then _ else _) _
  generalize hA:(nW (txt [w0,w1,w2,w3,w4,w5,w6]) 2).2=A
  generalize hB:(nW (txt [w0,w1,w2,w3,w4,w5,w6]) 4).2=B
  generalize hC:(rW (txt [w0,w1,w2,w3,w4,w5,w6]) 5).2.2=C
  generalize hD:(nW (txt [w0,w1,w2,w3,w4,w5,w6]) 6).2=D
  refine gX (fun h=>gD (ug (by decide) (yF (by cases A<;>cases B<;>cases C<;>cases D<;>simp_all)))) (fun h=>?_)
  refine dz (x:=w1) rfl (dz (x:=w3) rfl (dz (OZ _ (by omega)) (dz (OZ _ (by omega)) ?_)))
  unfold aan
  have hf:(((decide ((txt [w0,w1,w2,w3,w4,w5,w6]).length=7)&&C)&&A)&&B&&D)=true:=by cases A<;>cases B<;>cases C<;>cases D<;>simp_all [txt]
  refine gX (fun h2=>gD (ug (by decide) (R8 hf (Zh h2)))) (fun h2=>mV (by simp;omega) (gD ⟨(KV hf (Zi h2)).symm,fun _=>rfl⟩))
 ·refine gX (fun _=>gD (ug (by decide) (yF (by simp[txt,h])))) (fun h2=>by simp at h2;omega)
theorem auo{ln:List Word}(hw:xB ln){n:Nat}(hn:n≤1000000)(b:PB n p):
  WP (V8 ⟨l,p,pn⟩ ln) (DE (fE (decide ((txt ln).length=4)&&(rW (txt ln) 3).2.2) (ok0 (nK p (gW (txt ln) 1))&&ok0 (nK p (gW (txt ln) 2))))
   (p.Turns++[⟨nK p (gW (txt ln) 1),nK p (gW (txt ln) 2),(rW (txt ln) 3).1,(rW (txt ln) 3).2.1⟩])):=by
 have b4:=b.tu;have b3:=b.li
 unfold V8
 by_cases h:ln.length=4
 ·obtain⟨w0,w1,w2,w3,rfl⟩:=abD h
  have h5:=hw.2.2 w3 (by simp)
  refine gX (fun h=>by simp at h) (fun _=>dz (x:=w3) rfl (dz (afq _ (by omega)) ?_))
  show WP (if (!(rW (txt [w0,w1,w2,w3]) 3).2.2)=true then _ else _) _
  generalize hA:(rW (txt [w0,w1,w2,w3]) 3).2.2=A
  refine gX (fun h=>gD (ug (by decide) (yF (by cases A<;>simp_all)))) (fun h=>?_)
  refine dz (x:=w1) rfl (dz (x:=w2) rfl (dz (OZ _ (by omega)) (dz (OZ _ (by omega)) ?_)))
  unfold aas
  have hf:(decide ((txt [w0,w1,w2,w3]).length=4)&&A)=true:=by cases A<;>simp_all [txt]
  refine gX (fun h2=>gD (ug (by decide) (R8 hf (Zh h2)))) (fun h2=>mV (by simp;omega) (gD ⟨(KV hf (Zi h2)).symm,fun _=>rfl⟩))
 ·refine gX (fun _=>gD (ug (by decide) (yF (by simp[txt,h])))) (fun h2=>by simp at h2;omega)
theorem aun{ln:List Word}{n:Nat}(hn:n≤1000000)(b:PB n p):
  WP (V7 ⟨l,p,pn⟩ ln) (DE (fE (((decide ((txt ln).length=6)&&(nW (txt ln) 2).2)&&(nW (txt ln) 4).2)&&(nW (txt ln) 5).2) (ok0 (nK p (gW (txt ln) 1))&&ok0 (nK p (gW (txt ln) 3))))
   (p.bB++[⟨nK p (gW (txt ln) 1),(nW (txt ln) 2).1,nK p (gW (txt ln) 3),(nW (txt ln) 4).1,(nW (txt ln) 5).1⟩])):=by
 have b4:=b.sy;have b3:=b.li
 unfold V7
 by_cases h:ln.length=6
 ·obtain⟨w0,w1,w2,w3,w4,w5,rfl⟩:=alM h
  refine gX (fun h=>by simp at h) (fun _=>dz (x:=w2) rfl (dz (Br _) (dz (x:=w4) rfl (dz (Br _) (dz (x:=w5) rfl (dz (Br _) ?_))))))
  show WP (if (((!(nW (txt [w0,w1,w2,w3,w4,w5]) 2).2)||(!(nW (txt [w0,w1,w2,w3,w4,w5]) 4).2))||(!(nW (txt [w0,w1,w2,w3,w4,w5]) 5).2))=true then _ else _) _
  generalize hA:(nW (txt [w0,w1,w2,w3,w4,w5]) 2).2=A
  generalize hB:(nW (txt [w0,w1,w2,w3,w4,w5]) 4).2=B
  generalize hC:(nW (txt [w0,w1,w2,w3,w4,w5]) 5).2=C
  refine gX (fun h=>gD (ug (by decide) (yF (by cases A<;>cases B<;>cases C<;>simp_all)))) (fun h=>?_)
  refine dz (x:=w1) rfl (dz (x:=w3) rfl (dz (OZ _ (by omega)) (dz (OZ _ (by omega)) ?_)))
  unfold aar
  have hf:(((decide ((txt [w0,w1,w2,w3,w4,w5]).length=6)&&A)&&B)&&C)=true:=by cases A<;>cases B<;>cases C<;>simp_all [txt]
  refine gX (fun h2=>gD (ug (by decide) (R8 hf (Zh h2)))) (fun h2=>mV (by simp;omega) (gD ⟨(KV hf (Zi h2)).symm,fun _=>rfl⟩))
 ·refine gX (fun _=>gD (ug (by decide) (yF (by simp[txt,h])))) (fun h2=>by simp at h2;omega)
/-! ### Numbers, rides -/
def EZ:List Word→Option (List Int)
 |[]=>some []
 |x::r=>if (gJ x.Text.l).2 then (EZ r).map ((gJ x.Text.l).1:: ·) else none
theorem aen(ws:List Word)(hl:ws.length≤1000):Qs ws=some (match EZ ws with|some q=>(q,true)|none=>([],false)):=by
 unfold Qs
 have:=jF (B:=VU ws) (fun (q:List Int) i=>(q,i)) ws (fun q i=>q.length=i) (fun q r=>some (match EZ r with|some z=>(q++z,true)|none=>([],false))) ?_ ?_ FUEL [] 0 rfl (by omega) (fD (by omega))
 ·simpa using this
 ·intro c q i x r hq hdr hi hx hk
  simp only[VU]
  rw[if_pos (by simp;omega),hx,Option.bind_some,Br,Option.bind_some]
  simp only[EZ]
  cases h:(gJ x.Text.l).2 with
  |false=>simp
  |true=>
   rw[if_neg (by simp),bH (by simp;omega),bH (bO (by omega) (by omega)),hk _ (by simp[hq])]
   cases EZ r with
   |none=>rfl
   |some z=>simp
 ·intro c q hq
  simp only[VU]
  rw[if_neg (by simp)]
  simp[afd,EZ]
theorem auj{ln:List Word}(hw:xB ln){n:Nat}(hn:n≤1000000)(b:PB n p):
  WP (VZ ⟨l,p,pn⟩ ln) (DE (fE (Ej p (txt ln)) true) (p.Lines.set (p.Lines.length-1) ⟨(sF p).Name,(sF p).aQ,(sF p).Weight,(sF p).bD++[Vf (txt ln)]⟩)):=by
 have b3:=b.li
 unfold VZ
 have tl:(txt ln).length=ln.length:=by simp[txt]
 by_cases h:(ln.length=3∨ln.length=4)∧p.Lines.length≠0
 ·refine gX (fun h2=>by simp[-List.length_eq_zero_iff] at h2;omega) (fun _=>?_)
  have hm:=ad3 h.2
  have hr:=b.ri _ hm
  have e1:((p.Lines.length:Int)-1)=((p.Lines.length-1:Nat):Int):=by omega
  have e2:(((p.Lines.length-1:Nat):Int)).toNat=p.Lines.length-1:=by omega
  have k1:∀(a c x z:Int) {E:Int}{v:bW},E=0→v=⟨a,c,x,z⟩→WP (Qt ⟨l,p,pn⟩ a c (x,z)) (DE E (p.Lines.set (p.Lines.length-1) ⟨(sF p).Name,(sF p).aQ,(sF p).Weight,(sF p).bD++[v]⟩)):=by
   intro a c x z E v hE hv
   simp only[Qt]
   rw[e1]
   refine iM (by omega) (dz (oM (by omega)) ?_)
   have hr':(p.Lines.getD (p.Lines.length-1) default).bD.length≤n:=hr
   refine mV (by simp only[List.length_append,List.length_singleton,List.length_cons,List.length_nil,decide_eq_true_eq];omega) (dz (oM (by omega)) (gD ⟨hE.symm,fun _=>?_⟩))
   rw[hv,e2];rfl
  rcases h.1 with h3|h4
  ·obtain⟨w0,w1,w2,rfl⟩:=aw7 h3
   refine dz (x:=[w1,w2]) rfl (dz (aen _ (by simp)) ?_)
   have f:Ej p (txt [w0,w1,w2])=((gJ w1.Text.l).2&&(gJ w2.Text.l).2):=by
    unfold Ej
    show ((((((decide (3=3)||decide (3=4))&&(gJ w1.Text.l).2)&&(gJ w2.Text.l).2)&&(!decide (3=4)||(Ab (gW (txt [w0,w1,w2]) 3).l).2.2)))&& !(decide (p.Lines.length=0)))=_
    rw[decide_eq_false h.2]
    cases (gJ w1.Text.l).2<;>cases (gJ w2.Text.l).2<;>rfl
   simp only[EZ]
   cases h1:(gJ w1.Text.l).2 with
   |false=>rw[h1] at f;exact gX (fun _=>gD (ug (by decide) (yF (by rw[f];rfl)))) (fun h=>by simp at h)
   |true=>
    cases h2:(gJ w2.Text.l).2 with
    |false=>rw[h1,h2] at f;exact gX (fun _=>gD (ug (by decide) (yF (by rw[f];rfl)))) (fun h=>by simp at h)
    |true=>
     rw[h1,h2] at f
     refine gX (fun h=>by simp at h) (fun _=>dz (x:=(gJ w1.Text.l).1) rfl (dz (x:=(gJ w2.Text.l).1) rfl ?_))
     exact gX (fun h=>by simp at h) (fun _=>k1 _ _ _ _ (KV (by rw[f];rfl) rfl) rfl)
  ·obtain⟨w0,w1,w2,w3,rfl⟩:=abD h4
   have h5:=hw.2.2 w3 (by simp)
   refine dz (x:=[w1,w2]) rfl (dz (aen _ (by simp)) ?_)
   have f:Ej p (txt [w0,w1,w2,w3])=(((gJ w1.Text.l).2&&(gJ w2.Text.l).2)&&(Ab w3.Text.l).2.2):=by
    unfold Ej
    show ((((((decide (4=3)||decide (4=4))&&(gJ w1.Text.l).2)&&(gJ w2.Text.l).2)&&(!decide (4=4)||(Ab w3.Text.l).2.2)))&& !(decide (p.Lines.length=0)))=_
    rw[decide_eq_false h.2]
    cases (gJ w1.Text.l).2<;>cases (gJ w2.Text.l).2<;>cases (Ab w3.Text.l).2.2<;>rfl
   simp only[EZ]
   cases h1:(gJ w1.Text.l).2 with
   |false=>rw[h1] at f;exact gX (fun _=>gD (ug (by decide) (yF (by rw[f];rfl)))) (fun h=>by simp at h)
   |true=>
    cases h2:(gJ w2.Text.l).2 with
    |false=>rw[h1,h2] at f;exact gX (fun _=>gD (ug (by decide) (yF (by rw[f];rfl)))) (fun h=>by simp at h)
    |true=>
     rw[h1,h2] at f
     refine gX (fun h=>by simp at h) (fun _=>dz (x:=(gJ w1.Text.l).1) rfl (dz (x:=(gJ w2.Text.l).1) rfl ?_))
     refine gX (fun _=>dz (x:=w3) rfl (dz (afq _ (by omega)) ?_)) (fun h=>by simp at h)
     cases h3:(Ab w3.Text.l).2.2 with
     |false=>rw[h3] at f;exact gX (fun _=>gD (ug (by decide) (yF (by rw[f];rfl)))) (fun h=>by simp at h)
     |true=>rw[h3] at f;exact gX (fun h=>by simp at h) (fun _=>k1 _ _ _ _ (KV (by rw[f];rfl) rfl) rfl)
 ·refine gX (fun _=>gD (ug (by decide) (yF ?_))) (fun h2=>by simp[-List.length_eq_zero_iff] at h2;omega)
  unfold Ej
  rw[tl]
  by_cases h0:p.Lines.length=0
  ·simp[h0]
  ·have:¬(ln.length=3∨ln.length=4):=fun q=>h ⟨q,h0⟩
   have a:(decide (ln.length=3)||decide (ln.length=4))=false:=by simp;omega
   rw[a];rfl
end
theorem avY(a:List aQ)(h:a.length≤1000000):TN a a=some true:=by
 unfold TN
 rw[if_neg (by simp)]
 have:=jF (B:=TM a a) (fun (_:Unit) i=>i) a (fun _ _=>True) (fun _ _=>some true) ?_ ?_ FUEL () 0 trivial (by omega) (fD (by omega))
 ·exact this
 ·intro c _ i x q _ hdr hi hx hk
  simp only[TM]
  rw[if_pos (by simp;omega),hx,Option.bind_some,Option.bind_some,if_neg (by simp),hk () trivial]
 ·intro c _ _
  simp only[TM]
  rw[if_neg (by simp)]
  rfl
theorem avX(a:List Step)(h:a.length≤1000000):TL a a=some true:=by
 unfold TL
 rw[if_neg (by simp)]
 have:=jF (B:=TK a a) (fun (_:Unit) i=>i) a (fun _ _=>True) (fun _ _=>some true) ?_ ?_ FUEL () 0 trivial (by omega) (fD (by omega))
 ·exact this
 ·intro c _ i x q _ hdr hi hx hk
  simp only[TK]
  rw[if_pos (by simp;omega),hx,Option.bind_some,Option.bind_some,if_neg (by simp),hk () trivial]
 ·intro c _ _
  simp only[TK]
  rw[if_neg (by simp)]
  rfl
theorem avS(a:List Change)(h:a.length≤1000000):TF a a=some true:=by
 unfold TF
 rw[if_neg (by simp)]
 have:=jF (B:=TD a a) (fun (_:Unit) i=>i) a (fun _ _=>True) (fun _ _=>some true) ?_ ?_ FUEL () 0 trivial (by omega) (fD (by omega))
 ·exact this
 ·intro c _ i x q _ hdr hi hx hk
  simp only[TD]
  rw[if_pos (by simp;omega),hx,Option.bind_some,Option.bind_some,if_neg (by simp),hk () trivial]
 ·intro c _ _
  simp only[TD]
  rw[if_neg (by simp)]
  rfl
theorem av0(a:List Turn)(h:a.length≤1000000):TS a a=some true:=by
 unfold TS
 rw[if_neg (by simp)]
 have:=jF (B:=TR a a) (fun (_:Unit) i=>i) a (fun _ _=>True) (fun _ _=>some true) ?_ ?_ FUEL () 0 trivial (by omega) (fD (by omega))
 ·exact this
 ·intro c _ i x q _ hdr hi hx hk
  simp only[TR]
  rw[if_pos (by simp;omega),hx,Option.bind_some,Option.bind_some,if_neg (by simp),hk () trivial]
 ·intro c _ _
  simp only[TR]
  rw[if_neg (by simp)]
  rfl
theorem avZ(a:List Sync)(h:a.length≤1000000):TQ a a=some true:=by
 unfold TQ
 rw[if_neg (by simp)]
 have:=jF (B:=TP a a) (fun (_:Unit) i=>i) a (fun _ _=>True) (fun _ _=>some true) ?_ ?_ FUEL () 0 trivial (by omega) (fD (by omega))
 ·exact this
 ·intro c _ i x q _ hdr hi hx hk
  simp only[TP]
  rw[if_pos (by simp;omega),hx,Option.bind_some,Option.bind_some,if_neg (by simp),hk () trivial]
 ·intro c _ _
  simp only[TP]
  rw[if_neg (by simp)]
  rfl
theorem avT(a:List bZ)(h:a.length≤1000000):TH a a=some true:=by
 unfold TH
 rw[if_neg (by simp)]
 have:=jF (B:=TG a a) (fun (_:Unit) i=>i) a (fun _ _=>True) (fun _ _=>some true) ?_ ?_ FUEL () 0 trivial (by omega) (fD (by omega))
 ·exact this
 ·intro c _ i x q _ hdr hi hx hk
  simp only[TG]
  rw[if_pos (by simp;omega),hx,Option.bind_some,Option.bind_some,if_neg (by simp),hk () trivial]
 ·intro c _ _
  simp only[TG]
  rw[if_neg (by simp)]
  rfl
theorem avV(a:List bW)(h:a.length≤1000000):TJ a a=some true:=by
 unfold TJ
 rw[if_neg (by simp)]
 have:=jF (B:=TI a a) (fun (_:Unit) i=>i) a (fun _ _=>True) (fun _ _=>some true) ?_ ?_ FUEL () 0 trivial (by omega) (fD (by omega))
 ·exact this
 ·intro c _ i x q _ hdr hi hx hk
  simp only[TI]
  rw[if_pos (by simp;omega),hx,Option.bind_some,Option.bind_some,if_neg (by simp),hk () trivial]
 ·intro c _ _
  simp only[TI]
  rw[if_neg (by simp)]
  rfl
structure Xw(p:Plan):Prop where
 st:p.aP.length≤1000000
 ro:p.Routes.length≤1000000
 li:p.Lines.length≤1000000
 ch:p.Changes.length≤1000000
 tu:p.Turns.length≤1000000
 sy:p.bB.length≤1000000
 de:p.bA.length≤1000000
 rs:∀r∈p.Routes,r.Steps.length≤1000000
 ri:∀x∈p.Lines,x.bD.length≤1000000
theorem avW(a:List aG)(h:a.length≤1000000)(hs:∀r∈a,r.Steps.length≤1000000):TB a a=some true:=by
 unfold TB
 rw[if_neg (by simp)]
 have:=jF (B:=TA a a) (fun (_:Unit) i=>i) a (fun _ _=>True) (fun _ _=>some true) ?_ ?_ FUEL () 0 trivial (by omega) (fD (by omega))
 ·exact this
 ·intro c _ i x q _ hdr hi hx hk
  simp only[TA]
  have hm:x∈a:=by rw[kF] at hx;exact List.mem_of_getElem? hx
  have e:Tz x x=some true:=by
   unfold Tz
   rw[jP (by simp),avX _ (hs x hm),Option.bind_some];simp
  rw[if_pos (by simp;omega),hx,Option.bind_some,Option.bind_some,e,Option.bind_some,if_neg (by simp),hk () trivial]
 ·intro c _ _
  simp only[TA]
  rw[if_neg (by simp)]
  rfl
theorem avU{p:Plan}(b:Xw p):Tx p p=some true:=by
 have hli:=b.li
 unfold Tx
 rw[jP (by simp),avY _ b.st,Option.bind_some,jP (by simp),avW _ b.ro b.rs,Option.bind_some,jP (by simp),avS _ b.ch,Option.bind_some,jP (by simp),av0 _ b.tu,Option.bind_some,
  jP (by simp),avZ _ b.sy,Option.bind_some,jP (by simp),avT _ b.de,Option.bind_some,if_neg (by simp)]
 have:=jF (B:=Tw p p) (fun (_:Unit) i=>i) p.Lines (fun _ _=>True) (fun _ _=>some true) ?_ ?_ FUEL () 0 trivial (by omega) (fD (by omega))
 ·exact this
 ·intro c _ i x q _ hdr hi hx hk
  simp only[Tw]
  have hm:x∈p.Lines:=by rw[kF] at hx;exact List.mem_of_getElem? hx
  have e:Tv x x=some true:=by
   unfold Tv
   rw[jP (by simp),avV _ (b.ri x hm),Option.bind_some];simp
  rw[if_pos (by simp;omega),hx,Option.bind_some,Option.bind_some,e,Option.bind_some,if_neg (by simp),hk () trivial]
 ·intro c _ _
  simp only[Tw]
  rw[if_neg (by simp)]
  rfl
section
variable {l:Layout}{p:Plan}{pn:Int}
/-! ### Routes -/
theorem atq(a b c d:Word):EZ [a,b,c,d]=if ((((gJ a.Text.l).2&&(gJ b.Text.l).2)&&(gJ c.Text.l).2)&&(gJ d.Text.l).2)=true then some [(gJ a.Text.l).1,(gJ b.Text.l).1,(gJ c.Text.l).1,(gJ d.Text.l).1] else none:=by
 simp only[EZ]
 cases (gJ a.Text.l).2<;>cases (gJ b.Text.l).2<;>cases (gJ c.Text.l).2<;>cases (gJ d.Text.l).2<;>rfl
theorem all_false{f:Nat→Bool}{m j:Nat}(hj:j<m)(h:f j=false):(List.range m).all f=false:=by
 rw[Bool.eq_false_iff]
 intro hh
 have:=List.all_eq_true.1 hh j (List.mem_range.2 hj)
 rw[h] at this;cases this
theorem avo{ln:List Word}(h64:ln.length≤64)(nd m:Nat)(hnd:nd≤ln.length)(hm:nd=2*m+1)(r:Int):∀(k j fuel:Nat),j+k=m→k<fuel→xG (txt ln) j=true→
  iter (JC (nd:Int) ln ⟨l,p,pn⟩ r) fuel ((2*j+1:Nat):Int)=if xG (txt ln) m=true then V3 (nd:Int) ln ⟨l,p,pn⟩ r () else some (2,p.Routes):=by
 intro k
 induction k with
 |zero=>
  intro j fuel hj hf hd
  obtain⟨fuel,rfl⟩:∃x,fuel=x+1:=⟨fuel-1,by omega⟩
  show JC _ _ _ _ (iter _ fuel) _=_
  simp only[JC]
  rw[if_neg (by simp;omega),if_pos (by rw[show m=j by omega];exact hd)]
 |succ k ih=>
  intro j fuel hj hf hd
  obtain⟨fuel,rfl⟩:∃x,fuel=x+1:=⟨fuel-1,by omega⟩
  show JC _ _ _ _ (iter _ fuel) _=_
  simp only[JC]
  have e2:(((2*j+1:Nat):Int)+1)=((2*j+2:Nat):Int):=by omega
  have e3:(((2*j+1:Nat):Int)+2)=((2*(j+1)+1:Nat):Int):=by omega
  obtain⟨x,ex,tx⟩:=Nr (ln:=ln) (k:=2*j+2) (by omega)
  have QT:x.Text=gW (txt ln) (2*j+2):=tx
  rw[if_pos (by simp;omega),bH (bO (by omega) (by omega)),e2,ex,Option.bind_some,bH (by rw[bO (by omega) (by omega)];simp),QT]
  have db:xG (txt ln) (j+1)=(xG (txt ln) j&&isDir (gW (txt ln) (2*j+2))):=ZI _ j
  have go:isDir (gW (txt ln) (2*j+2))=true→aO (aX (((2*j+1:Nat):Int)+2)) (iter (JC (nd:Int) ln ⟨l,p,pn⟩ r) fuel (((2*j+1:Nat):Int)+2))=if xG (txt ln) m=true then V3 (nd:Int) ln ⟨l,p,pn⟩ r () else some (2,p.Routes):=by
   intro hi
   rw[bH (bO (by omega) (by omega)),e3]
   exact ih (j+1) fuel (by omega) (by omega) (by rw[db,hd,hi];rfl)
  by_cases c1:gW (txt ln) (2*j+2)=BQ
  ·rw[oU (by simp[c1,BQ]),Option.bind_some,if_neg (by simp[c1,BQ])]
   exact go (by unfold isDir;simp[c1])
  ·rw[jP (by simpa [BQ] using c1),Option.bind_some,QT]
   by_cases c2:gW (txt ln) (2*j+2)=vW
   ·rw[if_neg (by simp[c2,vW])]
    exact go (by unfold isDir;simp[c2])
   ·rw[if_pos (by
     simp only[Bool.and_eq_true,Bool.not_eq_true',decide_eq_false_iff_not]
     exact⟨c1,c2⟩),if_neg]
    have:=all_false (f:=fun j=>isDir (gW (txt ln) (2*j+2))) (m:=m) (j:=j) (by omega) (by unfold isDir;simp[c1,c2])
    unfold xG
    rw[this];simp
theorem avs{ln:List Word}(h64:ln.length≤64)(hl:l.Sections.length≤1000000)(hr:p.Routes.length≤1000000)(nd m:Nat)(hnd:nd≤ln.length)(hm:nd=2*m+1)(r:Int):∀(k j fuel:Nat),j+k=m→k<fuel→tV l (txt ln) j=true→
  iter (JD (nd:Int) ln ⟨l,p,pn⟩ r) fuel (pJ l (txt ln) j,((2*j+1:Nat):Int))=if tV l (txt ln) m=true then some (0,p.Routes++[⟨pJ l (txt ln) m,r⟩]) else some (3,p.Routes):=by
 have hs:∀m,(pJ l (txt ln) m).length=m:=fun m=>by simp[pJ]
 intro k
 induction k with
 |zero=>
  intro j fuel hj hf hd
  obtain⟨fuel,rfl⟩:∃x,fuel=x+1:=⟨fuel-1,by omega⟩
  show JD _ _ _ _ (iter _ fuel) _=_
  simp only[JD,afe]
  rw[if_neg (by simp;omega),bH (by simp;omega),if_pos (by rw[show m=j by omega];exact hd),show m=j by omega]
 |succ k ih=>
  intro j fuel hj hf hd
  obtain⟨fuel,rfl⟩:∃x,fuel=x+1:=⟨fuel-1,by omega⟩
  show JD _ _ _ _ (iter _ fuel) _=_
  simp only[JD]
  have e2:(((2*j+1:Nat):Int)+1)=((2*j+2:Nat):Int):=by omega
  have e3:(((2*j+1:Nat):Int)+2)=((2*(j+1)+1:Nat):Int):=by omega
  obtain⟨x,ex,tx⟩:=Nr (ln:=ln) (k:=2*j+1) (by omega)
  have QT:x.Text=gW (txt ln) (2*j+1):=tx
  obtain⟨z,ez,tz⟩:=Nr (ln:=ln) (k:=2*j+2) (by omega)
  have tz':z.Text=gW (txt ln) (2*j+2):=tz
  rw[if_pos (by simp;omega),ex,Option.bind_some,aul _ hl,Option.bind_some,QT]
  have sb:tV l (txt ln) (j+1)=(tV l (txt ln) j&&ok0 (vN l (gW (txt ln) (2*j+1)))):=ZI _ j
  by_cases h0:vN l (gW (txt ln) (2*j+1))<0
  ·rw[if_pos (by simpa using h0),if_neg]
   have:=all_false (f:=fun j=>ok0 (vN l (gW (txt ln) (2*j+1)))) (m:=m) (j:=j) (by omega) (by unfold ok0;simp;omega)
   unfold tV
   rw[this];simp
  ·rw[if_neg (by simpa using h0),bH (bO (by omega) (by omega)),e2,ez,Option.bind_some,tz']
   have k4:∀d,d=(if gW (txt ln) (2*j+2)=vW then (1:Int) else 0)→Qu (pJ l (txt ln) j) (vN l (gW (txt ln) (2*j+1))) ((2*j+1:Nat):Int) (iter (JD (nd:Int) ln ⟨l,p,pn⟩ r) fuel) d
     =if tV l (txt ln) m=true then some (0,p.Routes++[⟨pJ l (txt ln) m,r⟩]) else some (3,p.Routes):=by
    intro d hd2
    simp only[Qu]
    have:=hs j
    rw[bH (by simp;omega),bH (bO (by omega) (by omega)),e3]
    have st:pJ l (txt ln) j++[⟨vN l (gW (txt ln) (2*j+1)),d⟩]=pJ l (txt ln) (j+1):=by
     unfold pJ
     rw[List.range_succ,List.map_append,hd2];rfl
    rw[st]
    exact ih (j+1) fuel (by omega) (by omega) (by rw[sb,hd];unfold ok0;simp;omega)
   by_cases c2:gW (txt ln) (2*j+2)=vW
   ·rw[if_pos (by simpa [vW] using c2)]
    exact k4 1 (by rw[if_pos c2])
   ·rw[if_neg (by simpa [vW] using c2)]
    exact k4 0 (by rw[if_neg c2])
theorem auk {ln : List Word} (hw : xB ln) (hl : l.Sections.length ≤ 1000000) (hr : p.Routes.length ≤ 1000000) :
  WP (V4 ⟨l, p, pn⟩ ln) (DE (fE (JQ (txt ln)) (tV l (txt ln) (((pE (txt ln)).2 - 1) / 2))) (p.Routes ++ [⟨pJ l (txt ln) (((pE (txt ln)).2 - 1) / 2), (pE (txt ln)).1⟩])) := by
 have h64 := hw.2.1
 have hpos := hw.1
 have tl : (txt ln).length = ln.length := by simp [txt]
 have k1 : ∀ (nd : Nat) (r : Int), nd ≤ ln.length → pE (txt ln) = (r, nd) → WP (GR ⟨l, p, pn⟩ ln ((nd : Int), r)) (DE (fE (JQ (txt ln)) (tV l (txt ln) (((pE (txt ln)).2 - 1) / 2))) (p.Routes ++ [⟨pJ l (txt ln) (((pE (txt ln)).2 - 1) / 2), (pE (txt ln)).1⟩])) := by
  intro nd r hnd hO
  simp only [GR]
  unfold JQ
  rw [hO]
  have ht : ((nd : Int)).tmod 2 = ((nd % 2 : Nat) : Int) := by rw [Int.tmod_eq_emod_of_nonneg (by omega)]; omega
  by_cases h : 3 ≤ nd ∧ nd % 2 = 1
  ·refine gX (fun h2 => by rw [ht] at h2; simp at h2; omega) (fun _ => ?_)
   have hm : nd = 2 * ((nd - 1) / 2) + 1 := by omega
   have e1 : (decide (3 ≤ nd) && decide (nd % 2 = 1)) = true := by simp [h]
   have := avo (l := l) (p := p) (pn := pn) h64 nd ((nd - 1) / 2) hnd hm r ((nd - 1) / 2) 0 FUEL (by omega) (fD (by omega)) (by simp [xG])
   rw [show (((2 * 0 + 1 : Nat)) : Int) = 1 from rfl] at this
   rw [this]
   cases hd : xG (txt ln) ((nd - 1) / 2) with
   | false => rw [if_neg (by simp)]; exact gD (ug (by decide) (yF (by rw [Bool.and_false])))
   | true =>
    rw [if_pos rfl]
    unfold V3
    have := avs (l := l) (p := p) (pn := pn) h64 hl hr nd ((nd - 1) / 2) hnd hm r ((nd - 1) / 2) 0 FUEL (by omega) (fD (by omega)) (by simp [tV])
    rw [show (((2 * 0 + 1 : Nat)) : Int) = 1 from rfl, show pJ l (txt ln) 0 = [] from rfl] at this
    rw [this, e1]
    cases hs : tV l (txt ln) ((nd - 1) / 2) with
    | false => rw [if_neg (by simp)]; exact gD (ug (by decide) rfl)
    | true => rw [if_pos rfl]; exact gD ⟨rfl, fun _ => rfl⟩
  ·refine gX (fun _ => gD (ug (by decide) (yF ?_))) (fun h2 => by rw [ht] at h2; simp at h2; omega)
   have : (decide (3 ≤ nd) && decide (nd % 2 = 1)) = false := by
    rw [Bool.eq_false_iff]; intro q; simp at q; exact h q
   rw [this]; rfl
 have ht : ((ln.length : Int)).tmod 2 = ((ln.length % 2 : Nat) : Int) := by rw [Int.tmod_eq_emod_of_nonneg (by omega)]; omega
 -- an even number of words is no route
 have bad : ln.length % 2 = 0 → WP (GR ⟨l, p, pn⟩ ln ((ln.length : Int), 0)) (DE (fE (JQ (txt ln)) (tV l (txt ln) (((pE (txt ln)).2 - 1) / 2))) (p.Routes ++ [⟨pJ l (txt ln) (((pE (txt ln)).2 - 1) / 2), (pE (txt ln)).1⟩])) := by
  intro he
  simp only [GR]
  refine gX (fun _ => gD (ug (by decide) (yF ?_))) (fun h2 => by rw [ht] at h2; simp at h2; omega)
  unfold JQ
  have : ((pE (txt ln)).2 % 2) = 0 := by
   unfold pE
   split
   ·simp only; omega
   ·simp only; omega
  rw [this]; simp
 unfold V4
 refine mV (by rw [bO (by omega) (by omega)]; simp) ?_
 by_cases h5 : ln.length % 2 = 1 ∧ 5 ≤ ln.length
 ·have g : (decide (((ln.length : Int).tmod 2) = 1) && decide (5 ≤ (ln.length : Int))) = true := by rw [ht]; simp; omega
  have e2 : ((ln.length : Int) - 2) = ((ln.length - 2 : Nat) : Int) := by omega
  have e1 : ((ln.length : Int) - 1) = ((ln.length - 1 : Nat) : Int) := by omega
  obtain ⟨x, ex, tx⟩ := Nr (ln := ln) (k := ln.length - 2) (by omega)
  have QT : x.Text = gW (txt ln) (ln.length - 2) := tx
  obtain ⟨z, ez, tz⟩ := Nr (ln := ln) (k := ln.length - 1) (by omega)
  have tz' : z.Text = gW (txt ln) (ln.length - 1) := tz
  rw [g, jP rfl, e2, ex, Option.bind_some, QT]
  by_cases c : gW (txt ln) (ln.length - 2) = Ec
  ·rw [if_pos (by simpa [Ec] using c)]
   refine iM (by omega) ?_
   rw [e1, ez, Option.bind_some, Br, Option.bind_some, tz']
   refine gX (fun hn => iM (by omega) (k1 (ln.length - 2) _ (by omega) ?_)) (fun hn => k1 ln.length 0 (by omega) ?_)
   ·unfold pE
    rw [tl, if_pos ⟨hn, by omega, c⟩]; rfl
   ·unfold pE
    rw [tl, if_neg (fun q => by have h1 : (nW (txt ln) (ln.length - 1)).2 = false := hn; rw [h1] at q; exact absurd q.1 (by simp))]
  ·rw [if_neg (by simpa [Ec] using c)]
   refine k1 ln.length 0 (by omega) ?_
   unfold pE
   rw [tl, if_neg (fun q => c q.2.2)]
 ·have g : (decide (((ln.length : Int).tmod 2) = 1) && decide (5 ≤ (ln.length : Int))) = false := by
   rw [ht, Bool.eq_false_iff]; intro q; simp at q; exact h5 (by omega)
  rw [g, oU rfl, Option.bind_some, Bool.false_and, if_neg (by simp)]
  by_cases he : ln.length % 2 = 0
  ·exact bad he
  ·refine k1 ln.length 0 (by omega) ?_
   unfold pE
   rw [tl, if_neg (fun q => by have := q.2.1; omega)]
/-! ### The rest -/
theorem au7{ln:List Word}(hw:xB ln){n:Nat}(hn:n≤1000000)(b:PB n p)(hl:l.aT.length≤1000000){per:Bool}(hp:pn=if per then 1 else 0)
  (h3:gW (txt ln) 0≠GY)(h5:gW (txt ln) 0≠GN)(h6:gW (txt ln) 0≠Ip)(h7:gW (txt ln) 0≠Kg)(h8:gW (txt ln) 0≠J4):
  WP (VY ⟨l,p,pn⟩ ln) fun y=>y.1=(qg l p per (txt ln)).1∧(y.1=0→Plan.mk y.2.1 y.2.2.1 p.Routes y.2.2.2.1 p.Changes p.Turns p.bB y.2.2.2.2.1=(qg l p per (txt ln)).2.1∧y.2.2.2.2.2=if (qg l p per (txt ln)).2.2 then 1 else 0):=by
 have b1:=b.st;have b3:=b.li;have b7:=b.de
 have tl:(txt ln).length=ln.length:=by simp[txt]
 obtain⟨w0,e0,t0⟩:=Nr (ln:=ln) (k:=0) hw.1
 have t0':w0.Text=gW (txt ln) 0:=t0
 have RV:idx ln 0=some w0:=e0
 have QV:∀g:Bool,∃x,dH g default (idx ln 0)=some x∧(g=true→x.Text=gW (txt ln) 0):=fun g=>by
  cases g with
  |false=>exact⟨default,rfl,fun h=>by cases h⟩
  |true=>exact⟨w0,RV,fun _=>t0'⟩
 unfold VY qg
 simp only[if_neg h3,if_neg h5,if_neg h6,if_neg h7,if_neg h8]
 obtain⟨x1,f1,q1⟩:=QV (decide ((ln.length:Int)=2))
 rw[f1,Option.bind_some]
 by_cases c1:gW (txt ln) 0=Mg
 ·simp only[if_pos c1]
  by_cases h:ln.length=2
  ·obtain⟨a,d,rfl⟩:=aw6 h
   rw[if_pos (by rw[q1 (by simp),c1];rfl)]
   refine dz (x:=d) rfl (dz (Br _) ?_)
   show WP (if (!(nW (txt [a,d]) 1).2)=true then _ else _) _
   have e2:(decide ((txt [a,d]).length=2))=true:=rfl
   rw[e2,Bool.true_and]
   cases hA:(nW (txt [a,d]) 1).2 with
   |false=>exact gD ⟨by simp,fun h=>by simp at h⟩
   |true=>
    rw[if_neg (by simp)]
    refine iM (by rw[hp];split<;>omega) ?_
    cases per with
    |true=>rw[if_pos (by simp[hp])];exact gD ⟨by simp,fun h=>by simp at h⟩
    |false=>rw[if_neg (by simp[hp])];exact gD ⟨by simp,fun _=>⟨rfl,by simp[hp]⟩⟩
  ·have hd:decide ((txt ln).length=2)=false:=by rw[tl];simp[h]
   rw[hd,Bool.false_and,if_neg (by simp;intro q;omega)]
   obtain⟨x2,f2,q2⟩:=QV (decide ((ln.length:Int)=6))
   obtain⟨x4,f4,q4⟩:=QV (decide ((ln.length:Int)=4))
   rw[f2,Option.bind_some,if_neg (by simp only[Bool.and_eq_true,decide_eq_true_eq];rintro⟨g1,g2⟩;rw[q2 (by simpa using g1),c1] at g2;exact absurd g2 (by decide))]
   rw[f4,Option.bind_some,if_neg (by simp only[Bool.and_eq_true,decide_eq_true_eq];rintro⟨g1,g2⟩;rw[q4 (by simpa using g1),c1] at g2;exact absurd g2 (by decide))]
   rw[Option.bind_some,if_neg (by simp only[Bool.and_eq_true,decide_eq_true_eq];rintro⟨g1,g2⟩;rw[q4 (by simpa using g1),c1] at g2;exact absurd g2 (by decide))]
   exact gD ⟨by simp,fun h=>by simp at h⟩
 simp only[if_neg c1]
 rw[if_neg (by simp only[Bool.and_eq_true,decide_eq_true_eq];rintro⟨g1,g2⟩;rw[q1 (by simpa using g1)] at g2;exact c1 g2)]
 obtain⟨x2,f2,q2⟩:=QV (decide ((ln.length:Int)=6))
 rw[f2,Option.bind_some]
 by_cases c2:gW (txt ln) 0=Na
 ·simp only[if_pos c2]
  by_cases h:ln.length=6
  ·obtain⟨a0,a1,a2,a3,a4,a5,rfl⟩:=alM h
   rw[if_pos (by rw[q2 (by simp),c2];rfl)]
   have e2:(decide ((txt [a0,a1,a2,a3,a4,a5]).length=6))=true:=rfl
   rw[e2,Bool.true_and]
   have n2:nW (txt [a0,a1,a2,a3,a4,a5]) 2=gJ a2.Text.l:=rfl
   have n3:nW (txt [a0,a1,a2,a3,a4,a5]) 3=gJ a3.Text.l:=rfl
   have n4:nW (txt [a0,a1,a2,a3,a4,a5]) 4=gJ a4.Text.l:=rfl
   have n5:nW (txt [a0,a1,a2,a3,a4,a5]) 5=gJ a5.Text.l:=rfl
   rw[n2,n3,n4,n5]
   have nf:=aen [a2,a3,a4,a5] (by simp)
   rw[atq] at nf
   by_cases hf:((((gJ a2.Text.l).2&&(gJ a3.Text.l).2)&&(gJ a4.Text.l).2)&&(gJ a5.Text.l).2)=true
   ·rw[if_pos hf] at nf
    rw[hf]
    exact dz (x:=[a2,a3,a4,a5]) rfl (dz nf (gX (fun h=>by simp at h) (fun _=>dz (x:=a1) rfl (dz (x:=(gJ a2.Text.l).1) rfl (dz (x:=(gJ a3.Text.l).1) rfl (dz (x:=(gJ a4.Text.l).1) rfl (dz (x:=(gJ a5.Text.l).1) rfl (mV (by simp;omega) (gD ⟨rfl,fun _=>⟨rfl,hp⟩⟩)))))))))
   ·rw[if_neg hf] at nf
    have hf':((((gJ a2.Text.l).2&&(gJ a3.Text.l).2)&&(gJ a4.Text.l).2)&&(gJ a5.Text.l).2)=false:=by simpa using hf
    rw[hf']
    exact dz (x:=[a2,a3,a4,a5]) rfl (dz nf (gX (fun _=>gD ⟨rfl,fun h=>by simp at h⟩) (fun h=>by simp at h)))
  ·have hd:decide ((txt ln).length=6)=false:=by rw[tl];simp[h]
   rw[hd,Bool.false_and,Bool.false_and,Bool.false_and,Bool.false_and,if_neg (by simp;intro q;omega)]
   obtain⟨x4,f4,q4⟩:=QV (decide ((ln.length:Int)=4))
   rw[f4,Option.bind_some,if_neg (by simp only[Bool.and_eq_true,decide_eq_true_eq];rintro⟨g1,g2⟩;rw[q4 (by simpa using g1),c2] at g2;exact absurd g2 (by decide))]
   rw[Option.bind_some,if_neg (by simp only[Bool.and_eq_true,decide_eq_true_eq];rintro⟨g1,g2⟩;rw[q4 (by simpa using g1),c2] at g2;exact absurd g2 (by decide))]
   exact gD ⟨rfl,fun h=>by simp at h⟩
 simp only[if_neg c2]
 rw[if_neg (by simp only[Bool.and_eq_true,decide_eq_true_eq];rintro⟨g1,g2⟩;rw[q2 (by simpa using g1)] at g2;exact c2 g2)]
 obtain⟨x4,f4,q4⟩:=QV (decide ((ln.length:Int)=4))
 rw[f4,Option.bind_some]
 by_cases c4:gW (txt ln) 0=LZ
 ·simp only[if_pos c4]
  by_cases h:ln.length=4
  ·obtain⟨a0,a1,a2,a3,rfl⟩:=abD h
   rw[if_pos (by rw[q4 (by simp),c4];rfl)]
   refine dz (x:=a3) rfl (dz (Br _) ?_)
   have e2:(decide ((txt [a0,a1,a2,a3]).length=4))=true:=rfl
   rw[e2,Bool.true_and]
   show WP (if (!(nW (txt [a0,a1,a2,a3]) 3).2)=true then _ else _) _
   cases hA:(nW (txt [a0,a1,a2,a3]) 3).2 with
   |false=>exact gD ⟨rfl,fun h=>by simp at h⟩
   |true=>
    rw[if_neg (by simp)]
    refine dz (x:=a2) rfl (dz (aum _ (by omega)) ?_)
    show WP (if decide (He p (gW (txt [a0,a1,a2,a3]) 2)<0)=true then _ else _) _
    refine gX (fun h=>gD ⟨?_,fun h=>by simp at h⟩) (fun h=>dz (x:=a1) rfl (mV (by simp;omega) (gD ⟨?_,fun _=>⟨rfl,hp⟩⟩)))
    ·exact (R8 rfl (by unfold ok0;rw[h];rfl)).symm
    ·exact (KV rfl (by unfold ok0;rw[h];rfl)).symm
  ·have hd:decide ((txt ln).length=4)=false:=by rw[tl];simp[h]
   rw[hd,Bool.false_and,if_neg (by simp;intro q;omega)]
   rw[Option.bind_some,if_neg (by simp;intro q;omega)]
   exact gD ⟨rfl,fun h=>by simp at h⟩
 simp only[if_neg c4]
 rw[if_neg (by simp only[Bool.and_eq_true,decide_eq_true_eq];rintro⟨g1,g2⟩;rw[q4 (by simpa using g1)] at g2;exact c4 g2),Option.bind_some]
 by_cases c9:gW (txt ln) 0=KR
 ·simp only[if_pos c9]
  by_cases h:ln.length=4
  ·obtain⟨a0,a1,a2,a3,rfl⟩:=abD h
   rw[if_pos (by rw[q4 (by simp),c9];rfl)]
   refine dz (x:=a3) rfl (dz (Br _) ?_)
   have e2:(decide ((txt [a0,a1,a2,a3]).length=4))=true:=rfl
   rw[e2,Bool.true_and]
   show WP (if (!(nW (txt [a0,a1,a2,a3]) 3).2)=true then _ else _) _
   cases hA:(nW (txt [a0,a1,a2,a3]) 3).2 with
   |false=>exact gD ⟨rfl,fun h=>by simp at h⟩
   |true=>
    rw[if_neg (by simp)]
    refine dz (x:=a1) rfl (dz (x:=a2) rfl (dz (aiJ _ _ (by omega)) (dz (aiJ _ _ (by omega)) ?_)))
    show WP (if (decide (Cz l.aT (gW (txt [a0,a1,a2,a3]) 1)<0)||decide (Cz l.aT (gW (txt [a0,a1,a2,a3]) 2)<0))=true then _ else _) _
    refine gX (fun h=>gD ⟨?_,fun h=>by simp at h⟩) (fun h=>mV (by simp;omega) (gD ⟨?_,fun _=>⟨rfl,hp⟩⟩))
    ·exact (R8 rfl (Zh h)).symm
    ·exact (KV rfl (Zi h)).symm
  ·have hd:decide ((txt ln).length=4)=false:=by rw[tl];simp[h]
   rw[hd,Bool.false_and,if_neg (by simp;intro q;omega)]
   exact gD ⟨rfl,fun h=>by simp at h⟩
 simp only[if_neg c9]
 rw[if_neg (by simp only[Bool.and_eq_true,decide_eq_true_eq];rintro⟨g1,g2⟩;rw[q4 (by simpa using g1)] at g2;exact c9 g2)]
 exact gD ⟨rfl,fun h=>by simp at h⟩
end
theorem Q0{α β:Type}{o:Option α}{K:α→Option β}{Q:α→Prop}{R:β→Prop}(h:WP o Q)(hk:∀y,Q y→WP (K y) R):WP (o.bind K) R:=by
 obtain⟨y,e,q⟩:=h
 rw[e]
 exact hk y q
def D9(d:Int×Plan×Bool)(y:Int×Int×(List aQ)×(List aG)×(List Line)×(List Change)×(List Turn)×(List Sync)×(List bZ)×Int):Prop:=
 y.1=d.1∧(y.1=0→Plan.mk y.2.1 y.2.2.1 y.2.2.2.1 y.2.2.2.2.1 y.2.2.2.2.2.1 y.2.2.2.2.2.2.1 y.2.2.2.2.2.2.2.1 y.2.2.2.2.2.2.2.2.1=d.2.1∧y.2.2.2.2.2.2.2.2.2=if d.2.2 then 1 else 0)
theorem atF{l:Layout}{p:Plan}{pn:Int}{per:Bool}{ln:List Word}(hw:xB ln){n:Nat}(hn:n≤1000000)(b:PB n p)(hl:l.Sections.length≤1000000∧l.aT.length≤1000000)(hp:pn=if per then 1 else 0):
  WP (VX ⟨l,p,pn⟩ ln) (D9 (qg l p per (txt ln))):=by
 have b2:=b.ro
 obtain⟨w0,e0,t0⟩:=Nr (ln:=ln) (k:=0) hw.1
 have t0':w0.Text=gW (txt ln) 0:=t0
 have RV:idx ln 0=some w0:=e0
 unfold VX
 rw[RV,Option.bind_some,t0']
 refine gX (fun c=>?_) (fun c3=>gX (fun c=>?_) (fun c5=>gX (fun c=>?_) (fun c6=>gX (fun c=>?_) (fun c7=>gX (fun c=>?_) (fun c8=>?_)))))
 ·have c:gW (txt ln) 0=GY:=of_decide_eq_true c
  refine Q0 (auk hw hl.1 (by omega)) fun y q=>gD ?_
  unfold qg
  rw[c,if_neg (by decide),if_neg (by decide),if_pos rfl]
  exact⟨q.1,fun h=>⟨by rw[←q.2 h],hp⟩⟩
 ·have c:gW (txt ln) 0=GN:=of_decide_eq_true c
  refine Q0 (auj hw hn b) fun y q=>gD ?_
  unfold qg
  rw[c,if_neg (by decide),if_neg (by decide),if_neg (by decide),if_neg (by decide),if_pos rfl]
  exact⟨q.1,fun h=>⟨by rw[←q.2 h],hp⟩⟩
 ·have c:gW (txt ln) 0=Ip:=of_decide_eq_true c
  refine Q0 (atE hw hn b) fun y q=>gD ?_
  unfold qg
  rw[c,if_neg (by decide),if_neg (by decide),if_neg (by decide),if_neg (by decide),if_neg (by decide),if_pos rfl]
  exact⟨q.1,fun h=>⟨by rw[←q.2 h],hp⟩⟩
 ·have c:gW (txt ln) 0=Kg:=of_decide_eq_true c
  refine Q0 (auo hw hn b) fun y q=>gD ?_
  unfold qg
  rw[c,if_neg (by decide),if_neg (by decide),if_neg (by decide),if_neg (by decide),if_neg (by decide),if_neg (by decide),if_pos rfl]
  exact⟨q.1,fun h=>⟨by rw[←q.2 h],hp⟩⟩
 ·have c:gW (txt ln) 0=J4:=of_decide_eq_true c
  refine Q0 (aun hn b) fun y q=>gD ?_
  unfold qg
  rw[c,if_neg (by decide),if_neg (by decide),if_neg (by decide),if_neg (by decide),if_neg (by decide),if_neg (by decide),if_neg (by decide),if_pos rfl]
  exact⟨q.1,fun h=>⟨by rw[←q.2 h],hp⟩⟩
 ·exact Q0 (au7 hw hn b hl.2 hp (of_decide_eq_false c3) (of_decide_eq_false c5) (of_decide_eq_false c6) (of_decide_eq_false c7) (of_decide_eq_false c8)) fun y q=>gD q
theorem atC{l:Layout}(hl:l.Sections.length≤1000000∧l.aT.length≤1000000)(y:(List (List Word))×Int×Int)(hok:∀w∈y.1,xB w)(hlen:y.1.length≤1000000):
  ∀(r:List (List Word)) (i fuel:Nat) (p:Plan) (per:Bool) (pn:Int),y.1.drop i=r→r.length<fuel→PB i p→i≤y.1.length→pn=(if per then 1 else 0)→
  iter (MQ y l) fuel (p.bJ,p.aP,p.Routes,p.Lines,p.Changes,p.Turns,p.bB,p.bA,pn,i)=Ei l p per r:=by
 intro r
 induction r with
 |nil=>
  intro i fuel p per pn hd hf hb hi hp
  obtain⟨fuel,rfl⟩:∃x,fuel=x+1:=⟨fuel-1,by simp at hf;omega⟩
  have hi2:y.1.length≤i:=by
   apply Nat.le_of_not_lt;intro h
   rw[List.drop_eq_getElem_cons h] at hd;cases hd
  show MQ y l (iter _ fuel) _=_
  simp only[MQ,ae9,Ei]
  rw[if_neg (by simp;omega),agP]
  rfl
 |cons ln r ih=>
  intro i fuel p per pn hd hf hb hi hp
  obtain⟨fuel,rfl⟩:∃x,fuel=x+1:=⟨fuel-1,by omega⟩
  have hi2:i<y.1.length:=by
   apply Nat.lt_of_not_le;intro h
   rw[List.drop_eq_nil_of_le h] at hd;cases hd
  rw[List.drop_eq_getElem_cons hi2] at hd
  obtain⟨e1,e2⟩:=List.cons.inj hd
  have ok:xB ln:=hok ln (by rw[←e1];exact List.getElem_mem hi2)
  have hx:idx y.1 (i:Int)=some ln:=by rw[kF,List.getElem?_eq_getElem hi2,e1]
  show MQ y l (iter _ fuel) _=_
  simp only[MQ,Ei]
  rw[if_pos (by simp;omega),hx,Option.bind_some]
  obtain⟨z,hz,q1,q2⟩:=atF (l:=l) (p:=p) (per:=per) (pn:=pn) ok (by omega) hb hl hp
  rw[show (iN.mk l (Plan.mk p.bJ p.aP p.Routes p.Lines p.Changes p.Turns p.bB p.bA) pn)=⟨l,p,pn⟩ from rfl,hz,Option.bind_some]
  by_cases h0:z.1=0
  ·obtain⟨q3,q4⟩:=q2 h0
   have hb':=aiI (l:=l) (per:=per) (w:=txt ln) hb (by rw[←q1];exact h0)
   rw[if_neg (by simp[h0]),if_neg (by rw[←q1];simp[h0]),bH (bO (by omega) (by omega))]
   have:=ih (i+1) fuel (qg l p per (txt ln)).2.1 (qg l p per (txt ln)).2.2 z.2.2.2.2.2.2.2.2.2 (by rw[←List.drop_drop,List.drop_eq_getElem_cons hi2];simpa using e2) (by simp at hf;omega) hb' (by omega) q4
   rw[←this,←q3]
  ·rw[if_pos (by simpa using h0),if_pos (by rw[←q1];exact h0),Option.bind_some,ahg ok,Option.bind_some,q1]
   rfl
theorem avB(l:Layout)(s:Str):VP l s=Pp l s.l:=by
 unfold VP Pp
 rw[abW,Option.bind_some]
 by_cases hc:jB (dZ l)=0
 ·rw[if_neg (by simp[hc]),if_neg (by simp[hc]),au5,Option.bind_some]
  have hf:=RJ hc
  have hlen:=(aic s.l).1
  by_cases h2:(tN s.l).2.2=0
  ·rw[if_neg (by simp[h2]),if_neg (by simp[h2])]
   exact atC ⟨by omega,by omega⟩ (tN s.l) (aie s.l) hlen (tN s.l).1 0 FUEL GA false 0 rfl (fD (by omega)) aiH (by omega) rfl
  ·rw[if_pos (by simpa using h2),if_pos (by simpa using h2)];rfl
 ·rw[if_pos (by simpa using hc),if_pos (by simpa using hc)];rfl
theorem aaY:Xw GA:=⟨by decide,by decide,by decide,by decide,by decide,by decide,by decide,fun r h=>absurd (show r∈([]:List aG) from h) (by simp),fun r h=>absurd (show r∈([]:List Line) from h) (by simp)⟩
theorem Iz{g:Nat→Option Int}{k:Option Int}(hg:∀j,∃e,g j=some e)(hk:∃e,k=some e):∀m i,∃e,errs g k m i=some e:=by
 intro m
 induction m with
 |zero=>intro _;exact hk
 |succ m ih=>
  intro i
  obtain⟨e,he⟩:=hg i
  simp only[errs]
  rw[he,Option.bind_some]
  split
  ·exact⟨e,rfl⟩
  ·exact ih (i+1)
theorem asC(l:Layout)(p:Plan)(i:Nat):∃e,Cq l p i=some e:=by
 unfold Cq
 split
 ·exact⟨_,rfl⟩
 split
 ·exact⟨_,rfl⟩
 split
 ·exact⟨_,rfl⟩
 split
 ·exact⟨_,rfl⟩
 exact Iz (fun j=>⟨_,rfl⟩) ⟨_,rfl⟩ _ _
theorem atH(l:Layout)(p:Plan):∃e,Aa l p=some e:=by
 unfold Aa
 split
 ·exact⟨_,rfl⟩
 exact Iz (fun j=>⟨_,rfl⟩) (Iz (fun j=>⟨_,rfl⟩) (Iz (asC l p) (Iz (fun j=>⟨_,rfl⟩) (Iz (fun j=>⟨_,rfl⟩) (Iz (fun j=>⟨_,rfl⟩) (Iz (fun j=>⟨_,rfl⟩) ⟨_,rfl⟩ _ _) _ _) _ _) _ _) _ _) _ _) _ _
theorem aiX(l:Layout):∀(ws:List (List Word)) (p:Plan) (per:Bool),∃y,Ei l p per ws=some y∧Xw y.1
 |[],p,per=>by
  obtain⟨e,he⟩:=atH l p
  simp only[Ei]
  rw[he,Option.bind_some]
  by_cases h:e=0
  ·subst h
   have o:=aew he
   have z:=o.sz
   refine⟨(p,0,0),by rw[if_neg (by simp)],⟨?_,?_,?_,?_,?_,?_,?_,fun r hr=>?_,fun x hx=>?_⟩⟩
   ·have:=z.st;show p.aP.length≤_;omega
   ·have:=z.ro;show p.Routes.length≤_;omega
   ·have:=z.li;show p.Lines.length≤_;omega
   ·have:=z.ch;show p.Changes.length≤_;omega
   ·have:=z.tu;show p.Turns.length≤_;omega
   ·have:=z.sy;show p.bB.length≤_;omega
   ·have:=z.de;show p.bA.length≤_;omega
   ·have:=(CO (o.rt r hr)).len;omega
   ·have:=z.ri x hx;omega
  ·exact⟨_,by rw[if_pos (by simpa using h)],aaY⟩
 |w::ws,p,per=>by
  simp only[Ei]
  by_cases h:(qg l p per (txt w)).1=0
  ·rw[if_neg (by simp[h])];exact aiX l ws _ _
  ·rw[if_pos h];exact⟨_,rfl,aaY⟩
theorem aui(l:Layout)(s:List UInt8):∃y,Pp l s=some y∧Xw y.1:=by
 unfold Pp
 by_cases h:jB (dZ l)=0
 ·rw[if_neg (by simp[h])]
  by_cases h2:(tN s).2.2=0
  ·rw[if_neg (by simp[h2])];exact aiX l _ _ _
  ·rw[if_pos h2];exact⟨_,rfl,aaY⟩
 ·rw[if_pos h];exact⟨_,rfl,aaY⟩
theorem atD(l:Layout)(s:Str):Uf l s=some true:=by
 obtain⟨y,hy,hb⟩:=aui l s.l
 unfold Uf
 rw[auh,hy,Option.bind_some,avB,hy,Option.bind_some,avU hb,Option.bind_some]
 simp
end Go.Proofs.YtcalibhfgdncaaaGreatDoor
