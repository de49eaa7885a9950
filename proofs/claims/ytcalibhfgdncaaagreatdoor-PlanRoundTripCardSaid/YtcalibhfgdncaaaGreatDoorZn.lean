/- Several parts of the engine, one behind the other. -/
import Derived.Test.YtcalibhfgdncaaaGreatDoorSm
import Derived.Test.YtcalibhfgdncaaaGreatDoorVw
import Derived.Test.YtcalibhfgdncaaaGreatDoorYa
import Derived.Test.YtcalibhfgdncaaaGreatDoorRa
import Derived.Test.YtcalibhfgdncaaaGreatDoorYb
import Derived.Test.YtcalibhfgdncaaaGreatDoorYf
import Derived.Test.YtcalibhfgdncaaaGreatDoorQ1
import Derived.Test.YtcalibhfgdncaaaGreatDoorGn
set_option linter.all false
namespace Go.Proofs.YtcalibhfgdncaaaGreatDoor
open Go.Dc
set_option maxRecDepth 10000
def wH{α:Type}(p:α→Bool):Nat→List α→Int
 |_,[]=> -1
 |i,x::r=>if p x then (i:Int) else wH p (i+1) r
theorem aaN{α β:Type}(p:β→Bool)(f:α→β):∀(l:List α) (i:Nat),wH p i (l.map f)=wH (fun x=>p (f x)) i l
 |[],_=>rfl
 |x::r,i=>by
  simp only[List.map_cons,wH]
  rw[aaN p f r]
theorem Wp{α:Type}{B:(Nat→Option Int)→Nat→Option Int}(p:α→Bool)(xs:List α)(hl:xs.length≤140737488355328)
  (h1:∀c i x,i<xs.length→idx xs (i:Int)=some x→B c i=if p x then some (i:Int) else c (i+1))(h2:∀c,B c xs.length=some (-1)):iter B FUEL 0=some (wH p 0 xs):=by
 have:=nR (B:=B) (fun (_:Nat) i=>i) xs (fun q i=>q=i) (fun q r=>some (wH p q r)) ?_ ?_ FUEL 0 0 rfl (by omega) (iW (by omega))
 ·exact this
 ·intro c q i x r hq hdr hi hx hk
  subst hq
  rw[h1 c q x hi hx]
  simp only[wH]
  by_cases hp:p x=true
  ·rw[if_pos hp,if_pos hp]
  ·rw[if_neg hp,if_neg hp];exact hk (q+1) rfl
 ·intro c q hq
  subst hq
  exact h2 c
def yN(xs:List Str)(s:Str):Int:=wH (fun x=>decide (x=s)) 0 xs
theorem alx(xs:List Str)(s:Str)(hl:xs.length≤140737488355328):Tc xs s=some (yN xs s):=by
 unfold Tc yN
 refine Wp _ xs hl (fun c i x hi hx=>?_) (fun c=>?_)
 ·simp only[WJ]
  rw[if_pos (by simp;omega),hx,Option.bind_some]
  by_cases h:x=s
  ·rw[if_pos (by simp[h]),if_pos (by simp[h])]
  ·rw[if_neg (by simp only[decide_eq_true_eq];exact fun e=>h e.symm),if_neg (by simp[h])]
 ·simp only[WJ]
  rw[if_neg (by simp)]
  rfl
def gW(w:List Str)(k:Nat):Str:=w.getD k default
theorem Uy{w:List Str}{k:Nat}(h:k<w.length):idx w (k:Int)=some (gW w k):=uj (by omega) (by omega)
theorem ai4{w:List Str}{k:Nat}(h:k<w.length):gW w k∈w:=lY h
theorem alr{w:List Str}(k:Nat){i:Int}(hi:i=k)(h:k<w.length):idx w i=some (gW w k):=by subst hi;exact Uy h
theorem WY(ln:Int)(n:Nat):∀(l:List UInt8) (i:Nat) (prev:Bool) (acc r:List Word),tk ln l i prev acc=some r→i+l.length≤n→(∀w∈acc,w.Text.l.length≤i)→∀w∈r,w.Text.l.length≤n
 |[],i,prev,acc,r,h,hn,ha=>by
  simp only[tk,Option.some.injEq] at h
  subst h
  intro w hw
  have:=ha w hw
  simp only[List.length_nil] at hn
  omega
 |c::cs,i,prev,acc,r,h,hn,ha=>by
  simp only[List.length_cons] at hn
  unfold tk at h
  split at h
  ·simp only[Option.some.injEq] at h
   subst h
   intro w hw
   have:=ha w hw
   omega
  ·split at h
   ·exact WY ln n cs (i+1) false acc r h (by omega) (fun w hw=>by have:=ha w hw;omega)
   ·split at h
    ·cases prev with
     |true=>
      refine WY ln n cs (i+1) true _ r h (by omega) (fun w hw=>?_)
      rcases List.mem_append.1 hw with hw|hw
      ·have:=ha w (List.dropLast_subset _ hw);omega
      ·rw[List.mem_singleton] at hw
       subst hw
       simp only[List.length_append,List.length_cons,List.length_nil]
       cases acc with
       |nil=>simp[List.getLastD];show (default:Word).Text.l.length≤i;exact Nat.zero_le _
       |cons a tl=>
        have hm:(a::tl).getLastD default∈a::tl:=by
         rw[List.getLastD_eq_getLast?,List.getLast?_eq_some_getLast (by simp)]
         exact List.getLast_mem _
        have:=ha _ hm
        omega
     |false=>
      refine WY ln n cs (i+1) true _ r h (by omega) (fun w hw=>?_)
      rcases List.mem_append.1 hw with hw|hw
      ·have:=ha w hw;omega
      ·rw[List.mem_singleton] at hw
       subst hw
       simp
    ·cases h
theorem amV(n:Nat):∀l:List UInt8,l.length≤n→∀p∈qd l,p.length≤n:=by
 intro l
 induction l generalizing n with
 |nil=>intro _ p hp;simp[qd] at hp;subst hp;simp
 |cons c cs ih=>
  intro h p hp
  simp only[List.length_cons] at h
  unfold qd at hp
  split at hp
  ·rcases List.mem_cons.1 hp with e|e
   ·subst e;simp
   ·exact ih n (by omega) p e
  ·cases hs:qd cs with
   |nil=>rw[hs] at hp;simp only[List.mem_singleton] at hp;subst hp;simp;omega
   |cons q qs=>
    rw[hs] at hp
    have i2:=ih (n-1) (by omega)
    rcases List.mem_cons.1 hp with e|e
    ·subst e
     have:=i2 q (by rw[hs];exact List.mem_cons_self)
     simp only[List.length_cons];omega
    ·have:=i2 p (by rw[hs];exact List.mem_cons_of_mem _ e)
     omega
def F8(w:List Word):Prop:=0<w.length∧w.length≤64∧∀x∈w,x.Text.l.length≤65536
theorem aeF:∀(ps:List (List UInt8)) (ln:Int) (acc:List (List Word)),(∀p∈ps,p.length≤65536)→(∀w∈acc,F8 w)→∀w∈(yJ ln ps acc).1,F8 w
 |[],ln,acc,_,h=>h
 |p::ps,ln,acc,hp,h=>by
  unfold yJ
  cases ht:toks ln p with
  |none=>simp
  |some w=>
   simp only
   by_cases h64:64<w.length
   ·rw[if_pos h64];simp
   ·rw[if_neg h64]
    refine aeF ps (ln+1) _ (fun q hq=>hp q (List.mem_cons_of_mem _ hq)) (fun v hv=>?_)
    split at hv
    ·rename_i h0
     rcases List.mem_append.1 hv with hv|hv
     ·exact h v hv
     ·rw[List.mem_singleton] at hv;subst hv
      exact⟨h0,by omega,WY ln 65536 p 0 false [] _ ht (by have:=hp p List.mem_cons_self;omega) (by simp)⟩
    ·exact h v hv
theorem amq(l:List UInt8):∀w∈(wu l).1,F8 w:=by
 unfold wu
 by_cases h:65536<l.length
 ·rw[if_pos h];simp
 ·rw[if_neg h]
  exact aeF _ _ _ (amV 65536 l (by omega)) (by simp)
theorem aiO{w:List Word}(h:F8 w):idx w 0=some (w.getD 0 default):=uj (i:=0) (by omega) (by have:=h.1;omega)
theorem afa:∀(xs:List Str) (b i:Nat) (_:xs.Nodup) (hi:i<xs.length),wH (fun x=>decide (x=xs[i])) b xs=((b+i:Nat):Int)
 |[],_,_,_,hi=>absurd hi (by simp)
 |x::r,b,0,_,_=>by simp[wH]
 |x::r,b,i+1,h,hi=>by
  have hi':i<r.length:=by simpa using hi
  rw[List.nodup_cons] at h
  unfold wH
  rw[if_neg (by
   simp only[List.getElem_cons_succ,decide_eq_true_eq]
   exact fun e=>h.1 (e▸List.getElem_mem hi'))]
  have:=afa r (b+1) i h.2 hi'
  simp only[List.getElem_cons_succ]
  rw[this]
  congr 1
  omega
theorem VF{xs:List Str}(h:xs.Nodup){i:Int}(h0:0≤i)(hi:i<xs.length):yN xs (xs.getD i.toNat default)=i:=by
 have hl:i.toNat<xs.length:=by omega
 have:=afa xs 0 i.toNat h hl
 unfold yN
 rw[List.getD_eq_getElem?_getD,List.getElem?_eq_getElem hl]
 show wH (fun x=>decide (x=xs[i.toNat])) 0 xs=i
 rw[this]
 omega
end Go.Proofs.YtcalibhfgdncaaaGreatDoor
namespace Go.Proofs.YtcalibhfgdncaaaGreatDoor
open Go.Dc
set_option maxRecDepth 10000
/-! ### A line in plain words -/
def nW(w:List Str)(k:Nat):Int×Bool:=Fg (gW w k).l
def rW(w:List Str)(k:Nat):Int×Int×Bool:=Nl (gW w k).l
def FH(p:Plan)(s:Str):Int:=wH (fun x:bA=>decide (x.Name=s)) 0 p.aU
def o9(p:Plan)(s:Str):Int:=wH (fun x:Line=>decide (x.Name=s)) 0 p.Lines
def Bn(l:Layout)(s:Str):Int:=wH (fun x:Section=>decide (x.Name=s)) 0 l.Sections
def fE(form names:Bool):Int:=if form then (if names then 0 else 3) else 2
def ok0(i:Int):Bool:= !decide (i<0)
def isDir(s:Str):Bool:=decide (s=Ac)||decide (s=xg)
def zS(w:List Str):Int×Nat:=if (nW w (w.length-1)).2=true∧3<w.length∧gW w (w.length-2)=MC then ((nW w (w.length-1)).1,w.length-2) else (0,w.length)
def Dn(w:List Str)(m:Nat):Bool:=(List.range m).all fun j=>isDir (gW w (2*j+2))
def CF(l:Layout)(w:List Str)(m:Nat):Bool:=(List.range m).all fun j=>ok0 (Bn l (gW w (2*j+1)))
def xV(l:Layout)(w:List Str)(m:Nat):List Step:=(List.range m).map fun j=>⟨Bn l (gW w (2*j+1)),if gW w (2*j+2)=xg then 1 else 0⟩
def Wo(w:List Str):Bool:=(decide (3≤(zS w).2)&&decide ((zS w).2 % 2=1))&&Dn w (((zS w).2-1) / 2)
def Nq(w:List Str):dD:=⟨(nW w 1).1,(nW w 2).1,if w.length=4 then (rW w 3).1 else 0,if w.length=4 then (rW w 3).2.1 else 0⟩
def Ki(p:Plan)(w:List Str):Bool:=(((((decide (w.length=3)||decide (w.length=4))&&(nW w 1).2)&&(nW w 2).2)&&(!decide (w.length=4)||(rW w 3).2.2)))&& !decide (p.Lines.length=0)
def xG(p:Plan):Line:=p.Lines.getD (p.Lines.length-1) default
def kr(l:Layout)(p:Plan)(per:Bool)(w:List Str):Int×Plan×Bool:=
 if gW w 0=Fh then ((if decide (w.length=2)&&(nW w 1).2 then (if per then 5 else 0) else 2),{p with bR:=(nW w 1).1},true)
 else if gW w 0=NI then (fE ((((decide (w.length=6)&&(nW w 2).2)&&(nW w 3).2)&&(nW w 4).2)&&(nW w 5).2) true,{p with aU:=p.aU++[⟨gW w 1,(nW w 2).1,(nW w 3).1,(nW w 4).1,(nW w 5).1⟩]},per)
 else if gW w 0=Ih then (fE (Wo w) (CF l w (((zS w).2-1) / 2)),{p with Routes:=p.Routes++[⟨xV l w (((zS w).2-1) / 2),(zS w).1⟩]},per)
 else if gW w 0=Mk then (fE (decide (w.length=4)&&(nW w 3).2) (ok0 (FH p (gW w 2))),{p with Lines:=p.Lines++[⟨gW w 1,FH p (gW w 2),(nW w 3).1,[]⟩]},per)
 else if gW w 0=Fy then (fE (Ki p w) true,{p with Lines:=p.Lines.set (p.Lines.length-1) ⟨(xG p).Name,(xG p).bA,(xG p).Weight,(xG p).bL++[Nq w]⟩},per)
 else if gW w 0=La then (fE ((((decide (w.length=7)&&(rW w 5).2.2)&&(nW w 2).2)&&(nW w 4).2)&&(nW w 6).2) (ok0 (o9 p (gW w 1))&&ok0 (o9 p (gW w 3))),{p with Changes:=p.Changes++[⟨o9 p (gW w 1),(nW w 2).1,o9 p (gW w 3),(nW w 4).1,(rW w 5).1,(rW w 5).2.1,(nW w 6).1⟩]},per)
 else if gW w 0=NR then (fE (decide (w.length=4)&&(rW w 3).2.2) (ok0 (o9 p (gW w 1))&&ok0 (o9 p (gW w 2))),{p with Turns:=p.Turns++[⟨o9 p (gW w 1),o9 p (gW w 2),(rW w 3).1,(rW w 3).2.1⟩]},per)
 else if gW w 0=NP then (fE (((decide (w.length=6)&&(nW w 2).2)&&(nW w 4).2)&&(nW w 5).2) (ok0 (o9 p (gW w 1))&&ok0 (o9 p (gW w 3))),{p with bq:=p.bq++[⟨o9 p (gW w 1),(nW w 2).1,o9 p (gW w 3),(nW w 4).1,(nW w 5).1⟩]},per)
 else if gW w 0=Le then (fE (decide (w.length=4)&&(nW w 3).2) (ok0 (yN l.aM (gW w 1))&&ok0 (yN l.aM (gW w 2))),{p with bg:=p.bg++[⟨yN l.aM (gW w 1),yN l.aM (gW w 2),(nW w 3).1⟩]},per)
 else (2,p,per)
structure PB(n:Nat)(p:Plan):Prop where
 st:p.aU.length≤n
 ro:p.Routes.length≤n
 li:p.Lines.length≤n
 ch:p.Changes.length≤n
 tu:p.Turns.length≤n
 sy:p.bq.length≤n
 de:p.bg.length≤n
 ri:∀x∈p.Lines,x.bL.length≤n
theorem PB.mono{n:Nat}{p:Plan}(h:PB n p):PB (n+1) p:=by
 have a1:=h.st;have a2:=h.ro;have a3:=h.li;have a4:=h.ch;have a5:=h.tu;have a6:=h.sy;have a7:=h.de
 exact⟨by omega,by omega,by omega,by omega,by omega,by omega,by omega,fun x hx=>by have:=h.ri x hx;omega⟩
theorem aew{p:Plan}(h:p.Lines.length≠0):xG p∈p.Lines:=lY (by omega)
theorem ano{l:Layout}{p:Plan}{per:Bool}{w:List Str}{n:Nat}(h:PB n p)(h0:(kr l p per w).1=0):PB (n+1) (kr l p per w).2.1:=by
 have a1:=h.st;have a2:=h.ro;have a3:=h.li;have a4:=h.ch;have a5:=h.tu;have a6:=h.sy;have a7:=h.de
 have a8:∀x∈p.Lines,x.bL.length≤n+1:=fun x hx=>by have:=h.ri x hx;omega
 revert h0
 unfold kr
 repeat' split
 all_goals intro h0
 ·exact⟨by simp only;omega,by simp only;omega,by simp only;omega,by simp only;omega,by simp only;omega,by simp only;omega,by simp only;omega,a8⟩
 ·exact⟨by simp only;omega,by simp only;omega,by simp only;omega,by simp only;omega,by simp only;omega,by simp only;omega,by simp only;omega,a8⟩
 ·exact⟨by simp only;omega,by simp only;omega,by simp only;omega,by simp only;omega,by simp only;omega,by simp only;omega,by simp only;omega,a8⟩
 ·exact⟨by simp;omega,by simp only;omega,by simp only;omega,by simp only;omega,by simp only;omega,by simp only;omega,by simp only;omega,a8⟩
 ·exact⟨by simp only;omega,by simp;omega,by simp only;omega,by simp only;omega,by simp only;omega,by simp only;omega,by simp only;omega,a8⟩
 ·refine⟨by simp only;omega,by simp only;omega,by simp;omega,by simp only;omega,by simp only;omega,by simp only;omega,by simp only;omega,fun x hx=>?_⟩
  rcases List.mem_append.1 hx with e|e
  ·exact a8 x e
  ·rw[List.mem_singleton] at e;subst e;simp
 ·refine⟨by simp only;omega,by simp only;omega,by simp;omega,by simp only;omega,by simp only;omega,by simp only;omega,by simp only;omega,fun x hx=>?_⟩
  rcases List.mem_or_eq_of_mem_set hx with e|e
  ·exact a8 x e
  ·subst e
   have hne:p.Lines.length≠0:=by
    intro h9
    unfold Ki fE at h0
    simp[h9] at h0
   have:=h.ri _ (aew hne)
   simp;omega
 ·exact⟨by simp only;omega,by simp only;omega,by simp only;omega,by simp;omega,by simp only;omega,by simp only;omega,by simp only;omega,a8⟩
 ·exact⟨by simp only;omega,by simp only;omega,by simp only;omega,by simp only;omega,by simp;omega,by simp only;omega,by simp only;omega,a8⟩
 ·exact⟨by simp only;omega,by simp only;omega,by simp only;omega,by simp only;omega,by simp only;omega,by simp;omega,by simp only;omega,a8⟩
 ·exact⟨by simp only;omega,by simp only;omega,by simp only;omega,by simp only;omega,by simp only;omega,by simp only;omega,by simp;omega,a8⟩
 ·exact h.mono
/-! ### The reader's words -/
def nE(ok:Bool)(e:Int):Int:=if ok then e else 2
def dE(i e:Int):Int:=if i<0∧e=0 then 3 else e
def El(w:List Str):Prop:=0<w.length∧w.length≤64∧∀s∈w,s.l.length≤65536
theorem YC{w:List Str}(h:El w)(k:Nat):(gW w k).l.length≤65536:=by
 by_cases hk:k<w.length
 ·exact h.2.2 _ (ai4 hk)
 ·have:gW w k=default:=by unfold gW;simp[List.getD_eq_getElem?_getD,List.getElem?_eq_none (by omega:w.length≤k)]
  rw[this];exact Nat.zero_le _
theorem FC(l:Layout)(p:Plan)(per:Bool)(w:List Str)(e:Int)(k:Nat){i:Int}(hi:i=k):zJ ⟨l,p,per,w,e⟩ i=some (gW w k):=by
 subst hi
 unfold zJ
 try dsimp only
 by_cases h:w.length≤k
 ·rw[if_pos (by simpa using h)]
  unfold gW
  rw[List.getD_eq_getElem?_getD,List.getElem?_eq_none h];rfl
 ·rw[if_neg (by simp;omega)]
  exact kE (Uy (by omega)) rfl
theorem Cy(l:Layout)(p:Plan)(per:Bool)(w:List Str)(e:Int)(ok:Bool):xO ⟨l,p,per,w,e⟩ ok=some (nE ok e):=by
 unfold xO nE
 cases ok<;>rfl
theorem VP(l:Layout)(p:Plan)(per:Bool)(w:List Str)(e i:Int):G9 ⟨l,p,per,w,e⟩ i=some (i,dE i e):=by
 unfold G9 dE RA
 try dsimp only
 by_cases h:i<0∧e=0
 ·rw[if_pos (by simpa using h),if_pos h]
 ·rw[if_neg (by simpa using h),if_neg h]
section
variable {l:Layout}{p:Plan}{per:Bool}{w:List Str}{e:Int}
theorem xR(h:El w)(k:Nat){i:Int}(hi:i=k):tC ⟨l,p,per,w,e⟩ i=some ((nW w k).1,nE (nW w k).2 e):=by
 unfold tC
 try dsimp only
 rw[FC _ _ _ _ _ k hi,Option.bind_some,JL _ (by have:=YC h k;omega),Option.bind_some,Cy,Option.bind_some];rfl
theorem aaW(h:El w)(k:Nat){i:Int}(hi:i=k):JY ⟨l,p,per,w,e⟩ i=some ((rW w k).1,(rW w k).2.1,nE (rW w k).2.2 e):=by
 unfold JY
 try dsimp only
 rw[FC _ _ _ _ _ k hi,Option.bind_some,an6 _ (by have:=YC h k;omega),Option.bind_some,Cy,Option.bind_some];rfl
theorem aoF(hl:l.Sections.length≤1000000)(k:Nat){i:Int}(hi:i=k):RB ⟨l,p,per,w,e⟩ i=some (Bn l (gW w k),dE (Bn l (gW w k)) e):=by
 unfold RB
 try dsimp only
 refine kE (x:=Bn l (gW w k)) ?_ ?_
 ·unfold WA Bn
  refine Wp _ _ (by show l.Sections.length≤_;omega) (fun c j x hj hx=>?_) (fun c=>?_)
  ·simp only[Wz,VD]
   rw[if_pos (by simp;omega),hx,Option.bind_some,FC _ _ _ _ _ k hi,Option.bind_some,Option.bind_some]
  ·simp only[Wz]
   rw[if_neg (by simp)];rfl
 ·rw[VP,Option.bind_some]
theorem aoG(hl:p.aU.length≤1000000)(k:Nat){i:Int}(hi:i=k):RD ⟨l,p,per,w,e⟩ i=some (FH p (gW w k),dE (FH p (gW w k)) e):=by
 unfold RD
 try dsimp only
 refine kE (x:=FH p (gW w k)) ?_ ?_
 ·unfold WG FH
  refine Wp _ _ (by show p.aU.length≤_;omega) (fun c j x hj hx=>?_) (fun c=>?_)
  ·simp only[WE,VE]
   rw[if_pos (by simp;omega),hx,Option.bind_some,FC _ _ _ _ _ k hi,Option.bind_some,Option.bind_some]
  ·simp only[WE]
   rw[if_neg (by simp)];rfl
 ·rw[VP,Option.bind_some]
theorem Nt(hl:p.Lines.length≤1000000)(k:Nat){i:Int}(hi:i=k):DK ⟨l,p,per,w,e⟩ i=some (o9 p (gW w k),dE (o9 p (gW w k)) e):=by
 unfold DK
 try dsimp only
 refine kE (x:=o9 p (gW w k)) ?_ ?_
 ·unfold Wy o9
  refine Wp _ _ (by show p.Lines.length≤_;omega) (fun c j x hj hx=>?_) (fun c=>?_)
  ·simp only[Wx,VB]
   rw[if_pos (by simp;omega),hx,Option.bind_some,FC _ _ _ _ _ k hi,Option.bind_some,Option.bind_some]
  ·simp only[Wx]
   rw[if_neg (by simp)];rfl
 ·rw[VP,Option.bind_some]
theorem af6(hl:l.aM.length≤1000000)(k:Nat){i:Int}(hi:i=k):Na ⟨l,p,per,w,e⟩ i=some (yN l.aM (gW w k),dE (yN l.aM (gW w k)) e):=by
 unfold Na
 try dsimp only
 rw[FC _ _ _ _ _ k hi,Option.bind_some,alx _ _ (by omega),Option.bind_some,VP,Option.bind_some]
end
theorem Dl(f n:Bool)(i:Int):dE i (fE f n)=fE f (n&&ok0 i):=by
 unfold dE fE ok0
 cases f<;>cases n<;>simp
 by_cases h:i<0<;>simp[h]
theorem uD(f n ok:Bool):nE ok (fE f n)=fE (f&&ok) n:=by
 unfold nE fE
 cases f<;>cases n<;>cases ok<;>rfl
theorem Fe(ok:Bool):nE ok 0=fE ok true:=by cases ok<;>rfl
theorem aoB{l:Layout}{p:Plan}{per:Bool}{w:List Str}(h:El w):Rw ⟨l,p,per,w,0⟩=some ((nW w 1).1,true,if decide (w.length=2)&&(nW w 1).2 then (if per then 5 else 0) else 2):=by
 unfold Rw Rv
 try dsimp only
 rw[Cy,Option.bind_some,xR (i:=1) h 1 rfl,Option.bind_some]
 have e:decide ((w.length:Int)=2)=decide (w.length=2):=by rw[decide_eq_decide];omega
 rw[e,Fe,uD]
 cases (decide (w.length=2))<;>cases (nW w 1).2<;>cases per<;>rfl
theorem aoC{l:Layout}{p:Plan}{per:Bool}{w:List Str}(h:El w){n:Nat}(hn:n≤1000000)(b:PB n p):WP (Rx ⟨l,p,per,w,0⟩) fun y=>y.2=fE (Ki p w) true∧(y.2=0→y.1=p.Lines.set (p.Lines.length-1) ⟨(xG p).Name,(xG p).bA,(xG p).Weight,(xG p).bL++[Nq w]⟩):=by
 unfold Rx
 try dsimp only
 rw[Cy,Option.bind_some,xR (i:=1) h 1 rfl,Option.bind_some,xR (i:=2) h 2 rfl,Option.bind_some]
 have e:(decide ((w.length:Int)=3)||decide ((w.length:Int)=4))=(decide (w.length=3)||decide (w.length=4)):=by
  rw[Bool.eq_iff_iff];simp;omega
 rw[e,Fe,uD,uD]
 have k1:∀(a c:Int) (f:Bool),WP (M5 ⟨l,p,per,w,0⟩ ((nW w 1).1,fE ((decide (w.length=3)||decide (w.length=4))&&(nW w 1).2) true) ((nW w 2).1,fE (((decide (w.length=3)||decide (w.length=4))&&(nW w 1).2)&&(nW w 2).2) true) (fE f true,a,c))
   fun y=>y.2=fE (f&& !decide (p.Lines.length=0)) true∧(y.2=0→y.1=p.Lines.set (p.Lines.length-1) ⟨(xG p).Name,(xG p).bA,(xG p).Weight,(xG p).bL++[⟨(nW w 1).1,(nW w 2).1,a,c⟩]⟩):=by
  intro a c f
  simp only[M5]
  by_cases hL:p.Lines.length=0
  ·rw[if_pos (by simp[hL])]
   exact vR ⟨by simp[hL,fE],fun h=>by cases h⟩
  ·have hm:=aew hL
   have hr:=b.ri _ hm
   have e1:((p.Lines.length:Int)-1)=((p.Lines.length-1:Nat):Int):=by omega
   have e2:(((p.Lines.length-1:Nat):Int)).toNat=p.Lines.length-1:=by omega
   rw[if_neg (by simp only[decide_eq_true_eq];omega),e1]
   refine jq (by have:=b.li;omega) ?_
   rw[Cc (by omega),Option.bind_some,e2]
   refine qZ (by have:(p.Lines.getD (p.Lines.length-1) default).bL.length≤n:=hr;simp only[List.length_append,List.length_singleton,List.length_cons,List.length_nil,decide_eq_true_eq];omega) (vR ⟨by simp[hL],fun _=>rfl⟩)
 by_cases h4:w.length=4
 ·rw[if_pos (by simp;omega),aaW (i:=3) h 3 rfl,Option.bind_some]
  simp only[uD]
  refine ahh (k1 (rW w 3).1 (rW w 3).2.1 _) ?_
  rintro y ⟨q1,q2⟩
  refine⟨?_,?_⟩
  ·rw[q1];unfold Ki;simp[h4]
  ·intro h;rw[q2 h];unfold Nq;rw[if_pos h4,if_pos h4]
 ·rw[if_neg (by simp;omega)]
  refine ahh (k1 0 0 _) ?_
  rintro y ⟨q1,q2⟩
  refine⟨?_,?_⟩
  ·rw[q1];unfold Ki;simp[h4]
  ·intro h;rw[q2 h];unfold Nq;rw[if_neg h4,if_neg h4]
theorem afh(p:Nat→Bool)(m:Nat):(List.range (m+1)).all p=((List.range m).all p&&p m):=by
 rw[List.range_succ,List.all_append];simp
theorem aoD{l:Layout}{p:Plan}{per:Bool}{w:List Str}(h:El w)(hl:l.Sections.length≤1000000)(ov:Int)(nd:Nat)(hnd:nd≤w.length)(h1:1≤nd)(f:Bool)(hr:p.Routes.length≤1000000):∀(k m fuel:Nat),m+k=(nd-1) / 2→k<fuel→
  iter (Fj (nd:Int) ⟨l,p,per,w,0⟩ ov) fuel (fE (f&&Dn w m) (CF l w m),xV l w m,((2*m+1:Nat):Int))=
   some (p.Routes++[⟨xV l w ((nd-1) / 2),ov⟩],fE (f&&Dn w ((nd-1) / 2)) (CF l w ((nd-1) / 2))):=by
 have h64:=h.2.1
 have hs:∀m,(xV l w m).length=m:=fun m=>by simp[xV]
 intro k
 induction k with
 |zero=>
  intro m fuel hm hf
  obtain⟨fuel,rfl⟩:∃x,fuel=x+1:=⟨fuel-1,by omega⟩
  show Fj _ _ _ (iter _ fuel) _=_
  simp only[Fj]
  rw[fD (jB (by omega) (by omega)),if_neg (by simp;omega)]
  unfold aaH
  try dsimp only
  rw[fD (by have:=hs m;simp;omega),show m=(nd-1) / 2 by omega]
 |succ k ih=>
  intro m fuel hm hf
  obtain⟨fuel,rfl⟩:∃x,fuel=x+1:=⟨fuel-1,by omega⟩
  show Fj _ _ _ (iter _ fuel) _=_
  simp only[Fj]
  have e2:(((2*m+1:Nat):Int)+1)=((2*m+2:Nat):Int):=by omega
  have e3:(((2*m+1:Nat):Int)+2)=((2*(m+1)+1:Nat):Int):=by omega
  rw[fD (jB (by omega) (by omega)),if_pos (by simp;omega),aoF hl (2*m+1) rfl,Option.bind_some,fD (jB (by omega) (by omega)),e2,Uy (by omega),Option.bind_some]
  simp only[Dl]
  have k3:∀(e d:Int),JZ (xV l w m) (Bn l (gW w (2*m+1)),fE (f&&Dn w m) (CF l w m&&ok0 (Bn l (gW w (2*m+1))))) ((2*m+1:Nat):Int) (iter (Fj (nd:Int) ⟨l,p,per,w,0⟩ ov) fuel) (e,d)
    =iter (Fj (nd:Int) ⟨l,p,per,w,0⟩ ov) fuel (e,xV l w m++[⟨Bn l (gW w (2*m+1)),d⟩],((2*(m+1)+1:Nat):Int)):=by
   intro e d
   simp only[JZ]
   rw[fD (by have:=hs m;simp;omega),fD (jB (by omega) (by omega)),e3]
  have st:∀d,d=(if gW w (2*m+2)=xg then (1:Int) else 0)→xV l w m++[⟨Bn l (gW w (2*m+1)),d⟩]=xV l w (m+1):=by
   intro d hd
   unfold xV
   rw[List.range_succ,List.map_append,hd];rfl
  have sb:CF l w (m+1)=(CF l w m&&ok0 (Bn l (gW w (2*m+1)))):=afh _ m
  have db:Dn w (m+1)=(Dn w m&&isDir (gW w (2*m+2))):=afh _ m
  have fin:=ih (m+1) fuel (by omega) (by omega)
  rw[sb,db] at fin
  by_cases c1:gW w (2*m+2)=Ac
  ·rw[if_pos (by simpa [Ac] using c1),k3,st 0 (by rw[c1];rfl)]
   have:isDir (gW w (2*m+2))=true:=by unfold isDir;simp[c1]
   rw[this,Bool.and_true] at fin
   exact fin
  ·rw[if_neg (by simpa [Ac] using c1)]
   by_cases c2:gW w (2*m+2)=xg
   ·rw[if_pos (by simpa [xg] using c2),k3,st 1 (by rw[if_pos c2])]
    have:isDir (gW w (2*m+2))=true:=by unfold isDir;simp[c2]
    rw[this,Bool.and_true] at fin
    exact fin
   ·rw[if_neg (by simpa [xg] using c2),k3,st 0 (by rw[if_neg c2])]
    have:isDir (gW w (2*m+2))=false:=by unfold isDir;simp[c1,c2]
    rw[this,Bool.and_false,Bool.and_false] at fin
    exact fin
theorem aoE{l:Layout}{p:Plan}{per:Bool}{w:List Str}(h:El w)(hl:l.Sections.length≤1000000)(hr:p.Routes.length≤1000000):
  Ry ⟨l,p,per,w,0⟩=some (p.Routes++[⟨xV l w (((zS w).2-1) / 2),(zS w).1⟩],fE (Wo w) (CF l w (((zS w).2-1) / 2))):=by
 have h64:=h.2.1
 have hpos:=h.1
 have k1:∀(ov:Int) (nd:Nat),nd≤w.length→1≤nd→M6 ⟨l,p,per,w,0⟩ (ov,(nd:Int))=some (p.Routes++[⟨xV l w ((nd-1) / 2),ov⟩],fE ((decide (3≤nd)&&decide (nd % 2=1))&&Dn w ((nd-1) / 2)) (CF l w ((nd-1) / 2))):=by
  intro ov nd a b
  simp only[M6]
  rw[Cy,Option.bind_some,Fe]
  have e:(decide (3≤(nd:Int))&&decide (((nd:Int)).tmod 2=1))=(decide (3≤nd)&&decide (nd % 2=1)):=by
   have:((nd:Int)).tmod 2=((nd % 2:Nat):Int):=by rw[Int.tmod_eq_emod_of_nonneg (by omega)];omega
   rw[this,Bool.eq_iff_iff];simp;omega
  rw[e]
  have:=aoD (per:=per) h hl ov nd a b (decide (3≤nd)&&decide (nd % 2=1)) hr ((nd-1) / 2) 0 FUEL (by omega) (iW (by omega))
  simpa [Dn,CF,xV] using this
 have e1:((w.length:Int)-1)=((w.length-1:Nat):Int):=by omega
 unfold Ry
 try dsimp only
 rw[fD (jB (by omega) (by omega)),FC _ _ _ _ _ (w.length-1) e1,Option.bind_some,JL _ (by have:=YC h (w.length-1);omega),Option.bind_some]
 rw[show Fg (gW w (w.length-1)).l=nW w (w.length-1) from rfl,fD (by rw[jB (by omega) (by omega)];simp)]
 unfold Wo
 unfold zS
 by_cases c:(nW w (w.length-1)).2=true∧3<w.length
 ·have g:((nW w (w.length-1)).2&&decide (3<(w.length:Int)))=true:=by simp[c.1];omega
  have e2:((w.length:Int)-2)=((w.length-2:Nat):Int):=by omega
  rw[g,qJ rfl,e2,Uy (by omega),Option.bind_some]
  by_cases c2:gW w (w.length-2)=MC
  ·rw[if_pos (show (_∧_∧_) from⟨c.1,c.2,c2⟩),if_pos (by simpa [MC] using c2),fD (jB (by omega) (by omega))]
   exact k1 _ _ (by omega) (by omega)
  ·rw[if_neg (show ¬(_∧_∧_) from fun h=>c2 h.2.2),if_neg (by simpa [MC] using c2)]
   exact k1 _ _ (by omega) (by omega)
 ·have g:((nW w (w.length-1)).2&&decide (3<(w.length:Int)))=false:=by
   rw[Bool.eq_false_iff];intro h;simp at h;exact c ⟨h.1,by omega⟩
  rw[g,CQ rfl,Option.bind_some,Bool.false_and,if_neg (by simp),if_neg (fun h=>c ⟨h.1,h.2.1⟩)]
  exact k1 _ _ (by omega) (by omega)
end Go.Proofs.YtcalibhfgdncaaaGreatDoor
namespace Go.Proofs.YtcalibhfgdncaaaGreatDoor
open Go.Dc
set_option maxRecDepth 10000
theorem lG{α β:Type}{o:Option α}{x:α}{K:α→Option β}{Q:β→Prop}(h:o=some x)(hk:WP (K x) Q):WP (o.bind K) Q:=by rw[h];exact hk
def txt(ln:List Word):List Str:=ln.map (·.Text)
theorem dLen(w:List Str)(k:Nat):decide ((w.length:Int)=(k:Int))=decide (w.length=k):=by rw[decide_eq_decide];omega
abbrev ahm:=Int×Int×(List bA)×(List aQ)×(List Line)×(List Change)×(List Turn)×(List Sync)×(List dB)×Bool×(List Str)×Int
def DQ(d:Int×Plan×Bool)(y:ahm):Prop:=
 y.1=d.1∧(y.1=0→Plan.mk y.2.1 y.2.2.1 y.2.2.2.1 y.2.2.2.2.1 y.2.2.2.2.2.1 y.2.2.2.2.2.2.1 y.2.2.2.2.2.2.2.1 y.2.2.2.2.2.2.2.2.1=d.2.1∧y.2.2.2.2.2.2.2.2.2.1=d.2.2)
theorem an9{l:Layout}{p:Plan}{per:Bool}{w0 w:List Str}{e0:Int}(hw:El w){n:Nat}(hn:n≤1000000)(b:PB n p)(hl:l.Sections.length≤1000000∧l.aM.length≤1000000):
  WP (M8 w ⟨l,p,per,w0,e0⟩ ()) (DQ (kr l p per w)):=by
 have b1:=b.st;have b2:=b.ro;have b3:=b.li;have b4:=b.ch;have b5:=b.tu;have b6:=b.sy;have b7:=b.de
 have d2:=dLen w 2;have d4:=dLen w 4;have d6:=dLen w 6;have d7:=dLen w 7
 unfold M8 kr
 dsimp only
 refine lG (alr 0 rfl hw.1) ?_
 by_cases c1:gW w 0=Fh
 ·rw[if_pos (by simpa [Fh] using c1),if_pos c1]
  refine lG (aoB hw) (vR ⟨rfl,fun _=>⟨rfl,rfl⟩⟩)
 rw[if_neg (by simpa [Fh] using c1),if_neg c1]
 by_cases c2:gW w 0=NI
 ·rw[if_pos (by simpa [NI] using c2),if_pos c2]
  refine lG (Cy _ _ _ _ _ _) (lG (FC _ _ _ _ _ 1 rfl) (lG (xR hw 2 rfl) (lG (xR hw 3 rfl) (lG (xR hw 4 rfl) (lG (xR hw 5 rfl) (qZ (by simp;omega) (vR ⟨?_,fun _=>⟨rfl,rfl⟩⟩)))))))
  show nE _ (nE _ (nE _ (nE _ (nE (decide ((w.length:Int)=((6:Nat):Int))) 0))))=_
  rw[d6,Fe,uD,uD,uD,uD]
 rw[if_neg (by simpa [NI] using c2),if_neg c2]
 by_cases c3:gW w 0=Ih
 ·rw[if_pos (by simpa [Ih] using c3),if_pos c3]
  exact lG (aoE hw hl.1 (by omega)) (vR ⟨rfl,fun _=>⟨rfl,rfl⟩⟩)
 rw[if_neg (by simpa [Ih] using c3),if_neg c3]
 by_cases c4:gW w 0=Mk
 ·rw[if_pos (by simpa [Mk] using c4),if_pos c4]
  refine lG (Cy _ _ _ _ _ _) (lG (FC _ _ _ _ _ 1 rfl) (lG (aoG (by omega) 2 rfl) (lG (xR hw 3 rfl) (qZ (by simp;omega) (vR ⟨?_,fun _=>⟨rfl,rfl⟩⟩)))))
  show nE _ (dE _ (nE (decide ((w.length:Int)=((4:Nat):Int))) 0))=_
  rw[d4,Fe,Dl,uD,Bool.true_and]
 rw[if_neg (by simpa [Mk] using c4),if_neg c4]
 by_cases c5:gW w 0=Fy
 ·rw[if_pos (by simpa [Fy] using c5),if_pos c5]
  refine wp_bind _ (aoC hw hn b) fun y hy=>vR ⟨hy.1,fun h=>⟨?_,rfl⟩⟩
  rw[hy.2 h]
 rw[if_neg (by simpa [Fy] using c5),if_neg c5]
 by_cases c6:gW w 0=La
 ·rw[if_pos (by simpa [La] using c6),if_pos c6]
  refine lG (Cy _ _ _ _ _ _) (lG (aaW hw 5 rfl) (lG (Nt (by omega) 1 rfl) (lG (xR hw 2 rfl) (lG (Nt (by omega) 3 rfl) (lG (xR hw 4 rfl) (lG (xR hw 6 rfl) (qZ (by simp;omega) (vR ⟨?_,fun _=>⟨rfl,rfl⟩⟩))))))))
  show nE _ (nE _ (dE _ (nE _ (dE _ (nE _ (nE (decide ((w.length:Int)=((7:Nat):Int))) 0))))))=_
  rw[d7,Fe,uD,Dl,uD,Dl,uD,uD,Bool.true_and]
 rw[if_neg (by simpa [La] using c6),if_neg c6]
 by_cases c7:gW w 0=NR
 ·rw[if_pos (by simpa [NR] using c7),if_pos c7]
  refine lG (Cy _ _ _ _ _ _) (lG (aaW hw 3 rfl) (lG (Nt (by omega) 1 rfl) (lG (Nt (by omega) 2 rfl) (qZ (by simp;omega) (vR ⟨?_,fun _=>⟨rfl,rfl⟩⟩)))))
  show dE _ (dE _ (nE _ (nE (decide ((w.length:Int)=((4:Nat):Int))) 0)))=_
  rw[d4,Fe,uD,Dl,Dl,Bool.true_and]
 rw[if_neg (by simpa [NR] using c7),if_neg c7]
 by_cases c8:gW w 0=NP
 ·rw[if_pos (by simpa [NP] using c8),if_pos c8]
  refine lG (Cy _ _ _ _ _ _) (lG (Nt (by omega) 1 rfl) (lG (xR hw 2 rfl) (lG (Nt (by omega) 3 rfl) (lG (xR hw 4 rfl) (lG (xR hw 5 rfl) (qZ (by simp;omega) (vR ⟨?_,fun _=>⟨rfl,rfl⟩⟩)))))))
  show nE _ (nE _ (dE _ (nE _ (dE _ (nE (decide ((w.length:Int)=((6:Nat):Int))) 0)))))=_
  rw[d6,Fe,Dl,uD,Dl,uD,uD,Bool.true_and]
 rw[if_neg (by simpa [NP] using c8),if_neg c8]
 by_cases c9:gW w 0=Le
 ·rw[if_pos (by simpa [Le] using c9),if_pos c9]
  refine lG (Cy _ _ _ _ _ _) (lG (af6 hl.2 1 rfl) (lG (af6 hl.2 2 rfl) (lG (xR hw 3 rfl) (qZ (by simp;omega) (vR ⟨?_,fun _=>⟨rfl,rfl⟩⟩)))))
  show nE _ (dE _ (dE _ (nE (decide ((w.length:Int)=((4:Nat):Int))) 0)))=_
  rw[d4,Fe,Dl,Dl,uD,Bool.true_and]
 rw[if_neg (by simpa [Le] using c9),if_neg c9]
 exact vR ⟨rfl,fun h=>by cases h⟩
theorem ap6{ln:List Word}(h:F8 ln):El (txt ln):=by
 refine⟨by unfold txt;simpa using h.1,by unfold txt;simpa using h.2.1,fun s hs=>?_⟩
 obtain⟨x,hx,rfl⟩:=List.mem_map.1 hs
 exact h.2.2 x hx
theorem aoa{l:Layout}{p:Plan}{per:Bool}{w0:List Str}{e0:Int}{ln:List Word}(hw:F8 ln){n:Nat}(hn:n≤1000000)(b:PB n p)(hl:l.Sections.length≤1000000∧l.aM.length≤1000000):
  WP (Rz ⟨l,p,per,w0,e0⟩ ln) (DQ (kr l p per (txt ln))):=by
 have h64:=hw.2.1
 unfold Rz
 have key:iter (M7 ln ⟨l,p,per,w0,e0⟩) FUEL (([]:List Str),0)=M8 (txt ln) ⟨l,p,per,w0,e0⟩ ():=by
  have:=nR (B:=M7 ln ⟨l,p,per,w0,e0⟩) (fun (q:List Str) i=>(q,i)) ln (fun q i=>q.length=i) (fun q r=>M8 (q++txt r) ⟨l,p,per,w0,e0⟩ ()) ?_ ?_ FUEL [] 0 rfl (by omega) (iW (by omega))
  ·simpa using this
  ·intro c q i x r hq hdr hi hx hk
   simp only[M7]
   rw[if_pos (by simp;omega),hx,Option.bind_some,fD (by simp;omega),hk _ (by simp[hq])]
   simp[txt]
  ·intro c q hq
   simp only[M7]
   rw[if_neg (by simp)]
   simp[txt]
 rw[key]
 exact an9 (ap6 hw) hn b hl
/-! ### The text -/
def Cm:Plan:=⟨0,[],[],[],[],[],[],[]⟩
def DL(l:Layout):Plan→Bool→List (List Word)→Option (Plan×Int×Int)
 |p,_,[]=>(DJ l p).bind fun e=>if decide (e≠0) then some (Cm,0,e) else some (p,0,0)
 |p,per,ln::r=>if (kr l p per (txt ln)).1≠0 then some (Cm,(ln.getD 0 default).Line,(kr l p per (txt ln)).1) else DL l (kr l p per (txt ln)).2.1 (kr l p per (txt ln)).2.2 r
def VG(l:Layout)(s:List UInt8):Option (Plan×Int×Int):=
 if ko (iY l)≠0 then some (Cm,0,1) else if (wu s).2.2≠0 then some (Cm,(wu s).2.1,(wu s).2.2) else DL l Cm false (wu s).1
theorem anm:PB 0 Cm:=⟨Nat.le_refl _,Nat.le_refl _,Nat.le_refl _,Nat.le_refl _,Nat.le_refl _,Nat.le_refl _,Nat.le_refl _,fun x hx=>by cases hx⟩
theorem anl{l:Layout}(hl:l.Sections.length≤1000000∧l.aM.length≤1000000)(y:(List (List Word))×Int×Int)(hok:∀w∈y.1,F8 w)(hlen:y.1.length≤1000000):
  ∀(r:List (List Word)) (i fuel:Nat) (p:Plan) (per:Bool) (w:List Str) (e:Int),y.1.drop i=r→r.length<fuel→PB i p→i≤y.1.length→
  iter (JU y l) fuel (p.bR,p.aU,p.Routes,p.Lines,p.Changes,p.Turns,p.bq,p.bg,per,w,e,i)=DL l p per r:=by
 intro r
 induction r with
 |nil=>
  intro i fuel p per w e hd hf hb hi
  obtain⟨fuel,rfl⟩:∃x,fuel=x+1:=⟨fuel-1,by simp at hf;omega⟩
  have hi2:y.1.length≤i:=by
   apply Nat.le_of_not_lt;intro h
   rw[List.drop_eq_getElem_cons h] at hd;cases hd
  show JU y l (iter _ fuel) _=_
  simp only[JU,aaz,DL]
  rw[if_neg (by simp;omega),acy]
  rfl
 |cons ln r ih=>
  intro i fuel p per w e hd hf hb hi
  obtain⟨fuel,rfl⟩:∃x,fuel=x+1:=⟨fuel-1,by omega⟩
  have hi2:i<y.1.length:=by
   apply Nat.lt_of_not_le;intro h
   rw[List.drop_eq_nil_of_le h] at hd;cases hd
  rw[List.drop_eq_getElem_cons hi2] at hd
  obtain⟨e1,e2⟩:=List.cons.inj hd
  have ok:F8 ln:=hok ln (by rw[←e1];exact List.getElem_mem hi2)
  have hx:idx y.1 (i:Int)=some ln:=by rw[vZ,List.getElem?_eq_getElem hi2,e1]
  show JU y l (iter _ fuel) _=_
  simp only[JU,DL]
  rw[if_pos (by simp;omega),hx,Option.bind_some]
  obtain⟨z,hz,q1,q2⟩:=aoa (l:=l) (p:=p) (per:=per) (w0:=w) (e0:=e) ok (by omega) hb hl
  rw[show (bO.mk l (Plan.mk p.bR p.aU p.Routes p.Lines p.Changes p.Turns p.bq p.bg) per w e)=⟨l,p,per,w,e⟩ from rfl,hz,Option.bind_some]
  by_cases h0:z.1=0
  ·obtain⟨q3,q4⟩:=q2 h0
   have hp:=ano (l:=l) (per:=per) (w:=txt ln) hb (by rw[←q1];exact h0)
   rw[if_neg (by simp[h0]),if_neg (by rw[←q1];simp[h0])]
   have:=ih (i+1) fuel (kr l p per (txt ln)).2.1 (kr l p per (txt ln)).2.2 z.2.2.2.2.2.2.2.2.2.2.1 z.2.2.2.2.2.2.2.2.2.2.2 (by rw[←List.drop_drop,List.drop_eq_getElem_cons hi2];simpa using e2) (by simp at hf;omega) hp (by omega)
   rw[←this,←q3,←q4]
  ·rw[if_pos (by simpa using h0),if_pos (by rw[←q1];exact h0),aiO ok,Option.bind_some,q1]
   rfl
theorem an0(l:Layout)(s:Str):Rs l s=VG l s.l:=by
 unfold Rs VG
 refine kE (x:=ko (iY l)) rfl ?_
 by_cases hc:ko (iY l)=0
 ·rw[if_neg (by simp[hc]),if_neg (by simp[hc]),amo,Option.bind_some]
  have hf:=Uk hc
  have hlen:=(amm s.l).1
  by_cases h2:(wu s.l).2.2=0
  ·rw[if_neg (by simp[h2]),if_neg (by simp[h2])]
   exact anl ⟨by omega,by omega⟩ (wu s.l) (amq s.l) hlen (wu s.l).1 0 FUEL Cm false [] 0 rfl (iW (by omega)) anm (by omega)
  ·rw[if_pos (by simpa using h2),if_pos (by simpa using h2)];rfl
 ·rw[if_pos (by simpa using hc),if_pos (by simpa using hc)];rfl
end Go.Proofs.YtcalibhfgdncaaaGreatDoor
namespace Go.Proofs.YtcalibhfgdncaaaGreatDoor
open Go.Dc
set_option maxRecDepth 10000
theorem ao0(a:List bA)(h:a.length≤1000000):Qv a a=some true:=by
 unfold Qv
 rw[if_neg (by simp)]
 have:=nR (B:=Qu a a) (fun (_:Unit) i=>i) a (fun _ _=>True) (fun _ _=>some true) ?_ ?_ FUEL () 0 trivial (by omega) (iW (by omega))
 ·exact this
 ·intro c _ i x q _ hdr hi hx hk
  simp only[Qu]
  rw[if_pos (by simp;omega),hx,Option.bind_some,Option.bind_some,if_neg (by simp),hk () trivial]
 ·intro c _ _
  simp only[Qu]
  rw[if_neg (by simp)]
  rfl
theorem aoZ(a:List Step)(h:a.length≤1000000):Qt a a=some true:=by
 unfold Qt
 rw[if_neg (by simp)]
 have:=nR (B:=Qs a a) (fun (_:Unit) i=>i) a (fun _ _=>True) (fun _ _=>some true) ?_ ?_ FUEL () 0 trivial (by omega) (iW (by omega))
 ·exact this
 ·intro c _ i x q _ hdr hi hx hk
  simp only[Qs]
  rw[if_pos (by simp;omega),hx,Option.bind_some,Option.bind_some,if_neg (by simp),hk () trivial]
 ·intro c _ _
  simp only[Qs]
  rw[if_neg (by simp)]
  rfl
theorem aoU(a:List Change)(h:a.length≤1000000):Qn a a=some true:=by
 unfold Qn
 rw[if_neg (by simp)]
 have:=nR (B:=Qm a a) (fun (_:Unit) i=>i) a (fun _ _=>True) (fun _ _=>some true) ?_ ?_ FUEL () 0 trivial (by omega) (iW (by omega))
 ·exact this
 ·intro c _ i x q _ hdr hi hx hk
  simp only[Qm]
  rw[if_pos (by simp;omega),hx,Option.bind_some,Option.bind_some,if_neg (by simp),hk () trivial]
 ·intro c _ _
  simp only[Qm]
  rw[if_neg (by simp)]
  rfl
theorem ao2(a:List Turn)(h:a.length≤1000000):Qz a a=some true:=by
 unfold Qz
 rw[if_neg (by simp)]
 have:=nR (B:=Qy a a) (fun (_:Unit) i=>i) a (fun _ _=>True) (fun _ _=>some true) ?_ ?_ FUEL () 0 trivial (by omega) (iW (by omega))
 ·exact this
 ·intro c _ i x q _ hdr hi hx hk
  simp only[Qy]
  rw[if_pos (by simp;omega),hx,Option.bind_some,Option.bind_some,if_neg (by simp),hk () trivial]
 ·intro c _ _
  simp only[Qy]
  rw[if_neg (by simp)]
  rfl
theorem ao1(a:List Sync)(h:a.length≤1000000):Qx a a=some true:=by
 unfold Qx
 rw[if_neg (by simp)]
 have:=nR (B:=Qw a a) (fun (_:Unit) i=>i) a (fun _ _=>True) (fun _ _=>some true) ?_ ?_ FUEL () 0 trivial (by omega) (iW (by omega))
 ·exact this
 ·intro c _ i x q _ hdr hi hx hk
  simp only[Qw]
  rw[if_pos (by simp;omega),hx,Option.bind_some,Option.bind_some,if_neg (by simp),hk () trivial]
 ·intro c _ _
  simp only[Qw]
  rw[if_neg (by simp)]
  rfl
theorem aoV(a:List dB)(h:a.length≤1000000):Qp a a=some true:=by
 unfold Qp
 rw[if_neg (by simp)]
 have:=nR (B:=Qo a a) (fun (_:Unit) i=>i) a (fun _ _=>True) (fun _ _=>some true) ?_ ?_ FUEL () 0 trivial (by omega) (iW (by omega))
 ·exact this
 ·intro c _ i x q _ hdr hi hx hk
  simp only[Qo]
  rw[if_pos (by simp;omega),hx,Option.bind_some,Option.bind_some,if_neg (by simp),hk () trivial]
 ·intro c _ _
  simp only[Qo]
  rw[if_neg (by simp)]
  rfl
theorem aoX(a:List dD)(h:a.length≤1000000):Qr a a=some true:=by
 unfold Qr
 rw[if_neg (by simp)]
 have:=nR (B:=Qq a a) (fun (_:Unit) i=>i) a (fun _ _=>True) (fun _ _=>some true) ?_ ?_ FUEL () 0 trivial (by omega) (iW (by omega))
 ·exact this
 ·intro c _ i x q _ hdr hi hx hk
  simp only[Qq]
  rw[if_pos (by simp;omega),hx,Option.bind_some,Option.bind_some,if_neg (by simp),hk () trivial]
 ·intro c _ _
  simp only[Qq]
  rw[if_neg (by simp)]
  rfl
structure SmB(p:Plan):Prop where
 st:p.aU.length≤1000000
 ro:p.Routes.length≤1000000
 li:p.Lines.length≤1000000
 ch:p.Changes.length≤1000000
 tu:p.Turns.length≤1000000
 sy:p.bq.length≤1000000
 de:p.bg.length≤1000000
 rs:∀r∈p.Routes,r.Steps.length≤1000000
 ri:∀x∈p.Lines,x.bL.length≤1000000
theorem aoY(a:List aQ)(h:a.length≤1000000)(hs:∀r∈a,r.Steps.length≤1000000):Ql a a=some true:=by
 unfold Ql
 rw[if_neg (by simp)]
 have:=nR (B:=Qk a a) (fun (_:Unit) i=>i) a (fun _ _=>True) (fun _ _=>some true) ?_ ?_ FUEL () 0 trivial (by omega) (iW (by omega))
 ·exact this
 ·intro c _ i x q _ hdr hi hx hk
  simp only[Qk]
  have hm:x∈a:=by rw[vZ] at hx;exact List.mem_of_getElem? hx
  have e:Qj x x=some true:=by
   unfold Qj
   rw[qJ (by simp),aoZ _ (hs x hm),Option.bind_some];simp
  rw[if_pos (by simp;omega),hx,Option.bind_some,Option.bind_some,e,Option.bind_some,if_neg (by simp),hk () trivial]
 ·intro c _ _
  simp only[Qk]
  rw[if_neg (by simp)]
  rfl
theorem aoW{p:Plan}(b:SmB p):Qi p p=some true:=by
 have hli:=b.li
 unfold Qi
 rw[qJ (by simp),ao0 _ b.st,Option.bind_some,qJ (by simp),aoY _ b.ro b.rs,Option.bind_some,qJ (by simp),aoU _ b.ch,Option.bind_some,qJ (by simp),ao2 _ b.tu,Option.bind_some,
  qJ (by simp),ao1 _ b.sy,Option.bind_some,qJ (by simp),aoV _ b.de,Option.bind_some,if_neg (by simp)]
 have:=nR (B:=Qh p p) (fun (_:Unit) i=>i) p.Lines (fun _ _=>True) (fun _ _=>some true) ?_ ?_ FUEL () 0 trivial (by omega) (iW (by omega))
 ·exact this
 ·intro c _ i x q _ hdr hi hx hk
  simp only[Qh]
  have hm:x∈p.Lines:=by rw[vZ] at hx;exact List.mem_of_getElem? hx
  have e:Qg x x=some true:=by
   unfold Qg
   rw[qJ (by simp),aoX _ (b.ri x hm),Option.bind_some];simp
  rw[if_pos (by simp;omega),hx,Option.bind_some,Option.bind_some,e,Option.bind_some,if_neg (by simp),hk () trivial]
 ·intro c _ _
  simp only[Qh]
  rw[if_neg (by simp)]
  rfl
end Go.Proofs.YtcalibhfgdncaaaGreatDoor
namespace Go.Proofs.YtcalibhfgdncaaaGreatDoor
open Go.Dc
set_option maxRecDepth 10000
/-! ### Numbers and ranges -/
theorem xK(v:Int)(h1: -1099511627776≤v)(h2:v≤1099511627776):Fg (nI v).l=(v,true):=ZK v h1 h2
theorem acO:∀(k m:Nat),m<k→46∉Lib.decDigits m
 |0,_,h=>by omega
 |k+1,m,h=>by
  have hd:∀d:Nat,d<10→UInt8.ofNat (48+d)≠46:=fun d hd=>by
   have key:∀q:Fin 10,UInt8.ofNat (48+q.val)≠46:=by decide
   exact key ⟨d,hd⟩
  by_cases h1:m<10
  ·rw[Lib.decDigits_one h1,List.mem_singleton]
   exact fun e=>hd m h1 e.symm
  ·rw[Lib.decDigits,dif_neg h1,List.mem_append,List.mem_singleton]
   rintro (e|e)
   ·exact acO k (m / 10) (by omega) e
   ·exact hd (m % 10) (by omega) e.symm
theorem alI{v:Int}(h:0≤v):46∉Lib.itoa v:=by
 unfold Lib.itoa
 rw[if_neg (by omega)]
 exact acO (v.toNat+1) _ (by omega)
theorem alv(a b:List UInt8)(h:46∉a):Lib.index (a++46::46::b) [46,46]=(a.length:Int):=by
 refine Lib.index_first (by simp) ((aeS _ _).2 ⟨by simp,by simp⟩) (fun j hj=>?_)
 cases ho:Lib.occAt (a++46::46::b) [46,46] j with
 |false=>rfl
 |true=>
  have:=((aeS _ _).1 ho).1
  rw[List.getElem?_append_left hj] at this
  exact absurd (List.mem_of_getElem? this) h
theorem abd{lo hi:Int}(h:0≤lo∧lo≤hi∧hi≤7200):Nl (rng lo hi).l=(lo,hi,true):=by
 have e:(rng lo hi).l=Lib.itoa lo++46::46::Lib.itoa hi:=by simp[rng]
 have hi':=alv (Lib.itoa lo) (Lib.itoa hi) (alI h.1)
 unfold Nl
 rw[e,hi',if_pos (by omega)]
 have t1:(Lib.itoa lo++46::46::Lib.itoa hi).take ((Lib.itoa lo).length:Int).toNat=Lib.itoa lo:=by simp
 have t2:(Lib.itoa lo++46::46::Lib.itoa hi).drop (((Lib.itoa lo).length:Int).toNat+2)=Lib.itoa hi:=by
  rw[show ((Lib.itoa lo).length:Int).toNat=(Lib.itoa lo).length by omega,←List.drop_drop,List.drop_left];rfl
 rw[t1,t2,ZK lo (by omega) (by omega),ZK hi (by omega) (by omega)]
 unfold RP
 rw[if_pos ⟨rfl,rfl,h.2.1⟩]
/-! ### Line by line -/
def vE(l:Layout):Plan→Bool→List (List Str)→Option (Plan×Bool)
 |p,b,[]=>some (p,b)
 |p,b,w::r=>if (kr l p b w).1≠0 then none else vE l (kr l p b w).2.1 (kr l p b w).2.2 r
theorem aaO{l:Layout}{p p':Plan}{b b':Bool}{w:List Str}(h:kr l p b w=(0,p',b'))(r:List (List Str)):vE l p b (w::r)=vE l p' b' r:=by
 simp only[vE]
 rw[h]
 exact if_neg (by simp)
theorem Hg(l:Layout):∀(a b:List (List Str)) (p:Plan) (q:Bool),vE l p q (a++b)=(vE l p q a).bind fun x=>vE l x.1 x.2 b
 |[],_,_,_=>rfl
 |w::a,b,p,q=>by
  simp only[List.cons_append,vE]
  by_cases h:(kr l p q w).1≠0
  ·rw[if_pos h,if_pos h];rfl
  ·rw[if_neg h,if_neg h];exact Hg l a b _ _
theorem afb(l:Layout):∀(ws:List (List Str)) (ln:Int) (p:Plan) (b:Bool) (y:Plan×Bool),vE l p b ws=some y→DL l p b (GU ln ws)=DL l y.1 y.2 []
 |[],_,p,b,y,h=>by simp only[vE,Option.some.injEq] at h;subst h;rfl
 |w::r,ln,p,b,y,h=>by
  unfold vE at h
  have e:txt (wordsAt ln w 0)=w:=ag5 ln w 0
  simp only[GU,DL]
  rw[e]
  by_cases hd:(kr l p b w).1≠0
  ·rw[if_pos hd] at h;cases h
  ·rw[if_neg hd] at h
   rw[if_neg hd]
   exact afb l r _ _ _ _ h
theorem DF{i:Int}(h:0≤i):ok0 i=true:=by unfold ok0;simp;omega
theorem anf(l:Layout){v:Int}(h:0≤v∧v≤7200):kr l Cm false [Fh,nI v]=(0,{Cm with bR:=v},true):=by
 have e1:nW [Fh,nI v] 1=(v,true):=xK v (by omega) (by omega)
 unfold kr
 rw[if_pos (show gW [Fh,nI v] 0=Fh from rfl),e1]
 rfl
theorem ani(l:Layout)(q:Plan)(b:Bool){s:bA}(h:yT s=true):kr l q b (vK s)=(0,{q with aU:=q.aU++[s]},b):=by
 have hs:=abx h
 have e2:nW (vK s) 2=(s.Length,true):=xK _ (by omega) (by omega)
 have e3:nW (vK s) 3=(s.tX,true):=xK _ (by omega) (by omega)
 have e4:nW (vK s) 4=(s.tQ,true):=xK _ (by omega) (by omega)
 have e5:nW (vK s) 5=(s.tV,true):=xK _ (by omega) (by omega)
 have g0:gW (vK s) 0=NI:=rfl
 unfold kr
 rw[g0,if_neg (by decide),if_pos rfl,e2,e3,e4,e5]
 rfl
theorem agj{l:Layout}(v:C8 l){s:Step}(h:jJ l s=true):Bn l (Bo l s)=s.Section:=by
 unfold jJ at h
 simp only[Bool.and_eq_true,decide_eq_true_eq] at h
 have:=VF v.scd (i:=s.Section) h.1.1 (by simpa using h.1.2)
 unfold yN at this
 rw[aaN] at this
 have e:(l.Sections.map (fun x:Section=>x.Name)).getD s.Section.toNat default=Bo l s:=by
  unfold Bo
  rw[List.getD_eq_getElem?_getD,List.getD_eq_getElem?_getD,List.getElem?_map,List.getElem?_eq_getElem (show s.Section.toNat<l.Sections.length by omega)]
  rfl
 rw[e] at this
 exact this
theorem abv(l:Layout):∀(ss:List Step) (j:Nat),(h:j<ss.length)→(ss.flatMap (vL l))[2*j]?=some (Bo l ss[j])∧(ss.flatMap (vL l))[2*j+1]?=some (if ss[j].Dir=1 then xg else Ac)
 |s::r,0,_=>⟨rfl,rfl⟩
 |s::r,j+1,h=>by
  have ih:=abv l r j (by simpa using h)
  have e:(s::r).flatMap (vL l)=Bo l s::(if s.Dir=1 then xg else Ac)::r.flatMap (vL l):=rfl
  rw[e,show 2*(j+1)=2*j+1+1 by omega]
  simpa using ih
theorem abw(l:Layout):∀ss:List Step,(ss.flatMap (vL l)).length=2*ss.length
 |[]=>rfl
 |s::r=>by
  have e:(s::r).flatMap (vL l)=Bo l s::(if s.Dir=1 then xg else Ac)::r.flatMap (vL l):=rfl
  rw[e];simp only[List.length_cons,abw l r];omega
theorem ada{w:List Str}{k:Nat}{s:Str}(h:w[k]?=some s):gW w k=s:=by unfold gW;rw[List.getD_eq_getElem?_getD,h];rfl
theorem anh{l:Layout}(v:C8 l)(q:Plan)(b:Bool){r:aQ}(o:Ak l r)(h0:r.Overlap=0):kr l q b (nY l r)=(0,{q with Routes:=q.Routes++[r]},b):=by
 have hn:=o.two
 have ho:DI r=[]:=by unfold DI;rw[if_neg (by omega)]
 have ew:nY l r=Ih::r.Steps.flatMap (vL l):=by unfold nY;rw[ho,List.append_nil]
 have len:(nY l r).length=2*r.Steps.length+1:=by rw[ew,List.length_cons,abw]
 have g1:∀j,(h:j<r.Steps.length)→gW (nY l r) (2*j+1)=Bo l r.Steps[j]:=fun j h=>ada (by rw[ew];simpa using (abv l r.Steps j h).1)
 have g2:∀j,(h:j<r.Steps.length)→gW (nY l r) (2*j+2)=if r.Steps[j].Dir=1 then xg else Ac:=fun j h=>ada (by rw[ew];simpa using (abv l r.Steps j h).2)
 have gl:gW (nY l r) ((nY l r).length-1)=Ac∨gW (nY l r) ((nY l r).length-1)=xg:=by
  rw[len,show 2*r.Steps.length+1-1=2*(r.Steps.length-1)+2 by omega,g2 _ (by omega)]
  split
  ·exact .inr rfl
  ·exact .inl rfl
 have hO:zS (nY l r)=(0,2*r.Steps.length+1):=by
  unfold zS
  rw[if_neg,len]
  rintro⟨h,_⟩
  unfold nW at h
  rcases gl with e|e<;>rw[e] at h<;>exact absurd h (by decide)
 have hm:((zS (nY l r)).2-1) / 2=r.Steps.length:=by rw[hO];simp only;omega
 have akA:Dn (nY l r) r.Steps.length=true:=by
  unfold Dn
  rw[List.all_eq_true]
  intro j hj
  rw[List.mem_range] at hj
  rw[g2 j hj]
  split<;>decide
 have PN:CF l (nY l r) r.Steps.length=true:=by
  unfold CF
  rw[List.all_eq_true]
  intro j hj
  rw[List.mem_range] at hj
  have hs:=o.st _ (List.getElem_mem hj)
  rw[g1 j hj,agj v hs]
  unfold jJ at hs
  simp only[Bool.and_eq_true,decide_eq_true_eq] at hs
  exact DF hs.1.1
 have hst:xV l (nY l r) r.Steps.length=r.Steps:=by
  unfold xV
  apply List.ext_getElem
  ·simp
  ·intro j h1 h2
   have hs:=o.st _ (List.getElem_mem h2)
   simp only[List.getElem_map,List.getElem_range]
   rw[g1 j h2,agj v hs,g2 j h2]
   unfold jJ at hs
   simp only[Bool.and_eq_true,Bool.or_eq_true,decide_eq_true_eq] at hs
   rcases hs.2 with e|e
   ·rw[if_neg (show ¬r.Steps[j].Dir=1 by omega),if_neg (by decide),←e]
   ·rw[if_pos (show r.Steps[j].Dir=1 from e),if_pos rfl,←e]
 have g0:gW (nY l r) 0=Ih:=rfl
 unfold kr
 rw[g0,if_neg (by decide),if_neg (by decide),if_pos rfl]
 unfold Wo
 rw[hm,akA,PN,hst,hO]
 have e1:(decide (3≤(0,2*r.Steps.length+1).2)&&decide ((0,2*r.Steps.length+1).2 % 2=1)&&true)=true:=by
  simp;omega
 rw[show ((0:Int),2*r.Steps.length+1).2=2*r.Steps.length+1 from rfl]
 have e2:(decide (3≤2*r.Steps.length+1)&&decide ((2*r.Steps.length+1) % 2=1)&&true)=true:=by
  simp;omega
 rw[e2]
 have e3:(⟨r.Steps,(0:Int)⟩:aQ)=r:=by cases r;simp only at h0;subst h0;rfl
 rw[e3];rfl
theorem ane(l:Layout)(q:Plan)(b:Bool)(p:Plan){x:Line}(h:0≤x.Weight∧x.Weight≤1048576)(hs:FH q (p.aU.getD x.bA.toNat default).Name=x.bA)(h0:0≤x.bA):
  kr l q b (Cj p x)=(0,{q with Lines:=q.Lines++[⟨x.Name,x.bA,x.Weight,[]⟩]},b):=by
 have e3:nW (Cj p x) 3=(x.Weight,true):=xK _ (by omega) (by omega)
 have g0:gW (Cj p x) 0=Mk:=rfl
 have g2:gW (Cj p x) 2=(p.aU.getD x.bA.toNat default).Name:=rfl
 unfold kr
 rw[g0,if_neg (by decide),if_neg (by decide),if_neg (by decide),if_pos rfl,e3,g2,hs,DF h0]
 rfl
theorem ang(l:Layout)(q:Plan)(b:Bool){L:List Line}{n:Str}{s w:Int}{R:List dD}(hL:q.Lines=L++[⟨n,s,w,R⟩]){r:dD}(h1:0≤r.aQ∧r.aQ≤100000)(h2:0≤r.Extra∧r.Extra≤100000)(h3:0≤r.Min∧r.Min≤r.Max∧r.Max≤7200):
  kr l q b (qI r)=(0,{q with Lines:=L++[⟨n,s,w,R++[r]⟩]},b):=by
 have e1:nW (qI r) 1=(r.aQ,true):=xK _ (by omega) (by omega)
 have e2:nW (qI r) 2=(r.Extra,true):=xK _ (by omega) (by omega)
 have g0:gW (qI r) 0=Fy:=rfl
 have hlen:q.Lines.length=L.length+1:=by rw[hL];simp
 have hlast:xG q=⟨n,s,w,R⟩:=by
  unfold xG
  rw[hlen,hL,Nat.add_sub_cancel,List.getD_eq_getElem?_getD,List.getElem?_append_right (by omega)]
  simp
 have key:Ki q (qI r)=true∧Nq (qI r)=r:=by
  unfold Ki Nq
  rw[e1,e2,hlen]
  by_cases h0:r.Max=0
  ·have el:(qI r).length=3:=by unfold qI;rw[if_neg (by omega)];rfl
   rw[el]
   refine⟨by simp,?_⟩
   have:r.Min=0:=by omega
   cases r;simp only at h0 this;subst h0;subst this;rfl
  ·have ew:qI r=[Fy,nI r.aQ,nI r.Extra,rng r.Min r.Max]:=by unfold qI;rw[if_pos h0];rfl
   have e3:rW (qI r) 3=(r.Min,r.Max,true):=by rw[ew];exact abd h3
   have el:(qI r).length=4:=by rw[ew];rfl
   rw[e3,el]
   exact⟨by simp,rfl⟩
 unfold kr
 rw[g0,if_neg (by decide),if_neg (by decide),if_neg (by decide),if_neg (by decide),if_pos rfl,key.1,key.2,hlast,hlen,Nat.add_sub_cancel,hL,List.set_append_right _ _ (by omega),Nat.sub_self]
 rfl
theorem anb(l:Layout)(q:Plan)(b:Bool)(p:Plan){c:Change}(h1:0≤c.kP∧c.kP≤100000)(h2:0≤c.mX∧c.mX≤100000)(h3:0≤c.Min∧c.Min≤c.Max∧c.Max≤7200)(h4:0≤c.Weight∧c.Weight≤1048576)
  (hf:o9 q (qE p c.jk)=c.jk)(ht:o9 q (qE p c.kg)=c.kg)(f0:0≤c.jk)(t0:0≤c.kg):kr l q b (sP p c)=(0,{q with Changes:=q.Changes++[c]},b):=by
 have e2:nW (sP p c) 2=(c.kP,true):=xK _ (by omega) (by omega)
 have e4:nW (sP p c) 4=(c.mX,true):=xK _ (by omega) (by omega)
 have e5:rW (sP p c) 5=(c.Min,c.Max,true):=abd h3
 have e6:nW (sP p c) 6=(c.Weight,true):=xK _ (by omega) (by omega)
 have g0:gW (sP p c) 0=La:=rfl
 have g1:gW (sP p c) 1=qE p c.jk:=rfl
 have g3:gW (sP p c) 3=qE p c.kg:=rfl
 unfold kr
 rw[g0,if_neg (by decide),if_neg (by decide),if_neg (by decide),if_neg (by decide),if_neg (by decide),if_pos rfl,e2,e4,e5,e6,g1,g3,hf,ht,DF f0,DF t0]
 rfl
theorem ank(l:Layout)(q:Plan)(b:Bool)(p:Plan){t:Turn}(h3:0≤t.Min∧t.Min≤t.Max∧t.Max≤7200)(hf:o9 q (qE p t.From)=t.From)(ht:o9 q (qE p t.To)=t.To)(f0:0≤t.From)(t0:0≤t.To):
  kr l q b (wR p t)=(0,{q with Turns:=q.Turns++[t]},b):=by
 have e3:rW (wR p t) 3=(t.Min,t.Max,true):=abd h3
 have g0:gW (wR p t) 0=NR:=rfl
 have g1:gW (wR p t) 1=qE p t.From:=rfl
 have g2:gW (wR p t) 2=qE p t.To:=rfl
 unfold kr
 rw[g0,if_neg (by decide),if_neg (by decide),if_neg (by decide),if_neg (by decide),if_neg (by decide),if_neg (by decide),if_pos rfl,e3,g1,g2,hf,ht,DF f0,DF t0]
 rfl
theorem anj(l:Layout)(q:Plan)(b:Bool)(p:Plan){s:Sync}(h1:0≤s.lV∧s.lV≤100000)(h2:0≤s.mE∧s.mE≤100000)(h4:0≤s.Offset∧s.Offset≤100000)
  (hf:o9 q (qE p s.mD)=s.mD)(ht:o9 q (qE p s.mQ)=s.mQ)(f0:0≤s.mD)(t0:0≤s.mQ):kr l q b (uK p s)=(0,{q with bq:=q.bq++[s]},b):=by
 have e2:nW (uK p s) 2=(s.lV,true):=xK _ (by omega) (by omega)
 have e4:nW (uK p s) 4=(s.mE,true):=xK _ (by omega) (by omega)
 have e5:nW (uK p s) 5=(s.Offset,true):=xK _ (by omega) (by omega)
 have g0:gW (uK p s) 0=NP:=rfl
 have g1:gW (uK p s) 1=qE p s.mD:=rfl
 have g3:gW (uK p s) 3=qE p s.mQ:=rfl
 unfold kr
 rw[g0,if_neg (by decide),if_neg (by decide),if_neg (by decide),if_neg (by decide),if_neg (by decide),if_neg (by decide),if_neg (by decide),if_pos rfl,e2,e4,e5,g1,g3,hf,ht,DF f0,DF t0]
 rfl
theorem anc{l:Layout}(v:C8 l)(q:Plan)(b:Bool){d:dB}(h1:0≤d.From∧d.From<(l.aM.length:Int))(h2:0≤d.To∧d.To<(l.aM.length:Int))(h4:0≤d.Weight∧d.Weight≤1048576):
  kr l q b (w9 l d)=(0,{q with bg:=q.bg++[d]},b):=by
 have e3:nW (w9 l d) 3=(d.Weight,true):=xK _ (by omega) (by omega)
 have g0:gW (w9 l d) 0=Le:=rfl
 have g1:gW (w9 l d) 1=FE l d.From:=rfl
 have g2:gW (w9 l d) 2=FE l d.To:=rfl
 have f1:yN l.aM (FE l d.From)=d.From:=VF v.std h1.1 h1.2
 have f2:yN l.aM (FE l d.To)=d.To:=VF v.std h2.1 h2.2
 unfold kr
 rw[g0,if_neg (by decide),if_neg (by decide),if_neg (by decide),if_neg (by decide),if_neg (by decide),if_neg (by decide),if_neg (by decide),if_neg (by decide),if_pos rfl,e3,g1,g2,f1,f2,DF h1.1,DF h2.1]
 rfl
/-! ### The whole text -/
theorem Hl{α:Type}(l:Layout)(b:Bool)(f:α→List (List Str))(g:List α→Plan)(xs:List α)(h:∀(done:List α) (x:α) (r:List α),done++x::r=xs→vE l (g done) b (f x)=some (g (done++[x]),b)):
  vE l (g []) b (xs.flatMap f)=some (g xs,b):=by
 have key:∀(r done:List α),done++r=xs→vE l (g done) b (r.flatMap f)=some (g xs,b):=by
  intro r
  induction r with
  |nil=>intro done e;rw[List.append_nil] at e;rw[e];rfl
  |cons x r ih=>
   intro done e
   rw[List.flatMap_cons,Hg,h done x r e,Option.bind_some]
   exact ih (done++[x]) (by rw[List.append_assoc];exact e)
 exact key xs [] rfl
theorem J5{l:Layout}{q q':Plan}{b:Bool}{w:List Str}(h:kr l q b w=(0,q',b)):vE l q b [w]=some (q',b):=by rw[aaO h];rfl
theorem amw{l:Layout}{p q:Plan}(v:CZ l p)(hq:q.Lines=p.Lines){i:Int}(h0:0≤i)(h1:i<(p.Lines.length:Int)):o9 q (qE p i)=i:=by
 have nd:(p.Lines.map (fun x:Line=>x.Name)).Nodup:=by
  unfold List.Nodup
  rw[List.pairwise_iff_getElem]
  intro a b ha hb hab
  simp only[List.length_map] at ha hb
  have h3:=v.ln
  have na:=v.ok.nm a ha
  have nb:=v.ok.nm b hb
  rw[getD_lt ha] at na
  rw[getD_lt hb] at nb
  rw[List.getElem_map,List.getElem_map,na,nb]
  exact aeN ⟨a,by omega⟩ ⟨b,by omega⟩ (by simp[Fin.ext_iff];omega)
 have:=VF nd (i:=i) h0 (by simpa using h1)
 unfold yN at this
 rw[aaN] at this
 have e:(p.Lines.map (fun x:Line=>x.Name)).getD i.toNat default=qE p i:=by
  unfold qE
  rw[List.getD_eq_getElem?_getD,List.getD_eq_getElem?_getD,List.getElem?_map,List.getElem?_eq_getElem (show i.toNat<p.Lines.length by omega)]
  rfl
 rw[e] at this
 unfold o9
 rw[hq]
 exact this
theorem an1{l:Layout}{p:Plan}(v:CZ l p):vE l Cm false (uf l p)=some (p,true):=by
 have o:=Vo (Rj v)
 have per:=v.per
 obtain⟨sk,es,_,_,_⟩:=v.sk
 obtain⟨P,st,ro,li,ch,tu,sy,de⟩:=p
 simp only at per es
 unfold uf
 simp only[List.append_assoc]
 rw[List.singleton_append]
 unfold JQ
 dsimp only
 rw[aaO (anf l (v:=P) (by omega))]
 change vE l ⟨P,[],[],[],[],[],[],[]⟩ true _=_
 rw[Hg,Hl l true (fun s=>[vK s]) (fun d=>⟨P,d,[],[],[],[],[],[]⟩) st (fun d s r e=>J5 (ani l _ _ (o.NJ s (by show s∈st;rw[←e];simp)).2)),Option.bind_some]
 rw[Hg,Hl l true (fun r=>[nY l r]) (fun d=>⟨P,st,d,[],[],[],[],[]⟩) ro (fun d r s e=>J5 (anh o.vn _ _ (DU (o.rt r (by show r∈ro;rw[←e];simp))) (v.ok.rt r (by show r∈ro;rw[←e];simp)).ov)),Option.bind_some]
 rw[Hg,Hl l true (zH ⟨P,st,ro,li,ch,tu,sy,de⟩) (fun d=>⟨P,st,ro,d,[],[],[],[]⟩) li (fun d x r e=>?_),Option.bind_some]
 rotate_left
 ·have hx:x∈li:=by rw[←e];simp
  have hl:=v.ok.ln x hx
  have hw:=hl.w
  unfold zH
  have hs:FH ⟨P,st,ro,d,[],[],[],[]⟩ (st.getD x.bA.toNat default).Name=x.bA:=by
   rw[hl.st,es];unfold FH;simp[wH]
  rw[aaO (ane l _ _ _ (by omega) hs (by rw[hl.st];omega))]
  have:=Hl l true (fun r=>[qI r]) (fun q=>(⟨P,st,ro,d++[⟨x.Name,x.bA,x.Weight,q⟩],[],[],[],[]⟩:Plan)) x.bL (fun q r t e=>J5 (ang l _ _ rfl (h1:=?_) (h2:=?_) (h3:=?_)))
  ·rw[←List.map_eq_flatMap] at this
   exact this
  ·have h:=Sg o hx (r:=r) (by rw[←e];simp)
   have:=v.few.1
   simp only at h this
   omega
  ·have h:=Sg o hx (r:=r) (by rw[←e];simp)
   simp only at h
   omega
  ·exact (Sg o hx (r:=r) (by rw[←e];simp)).2.2
 have nm:∀(q:Plan),q.Lines=li→∀i:Int,0≤i→i<(li.length:Int)→o9 q (qE ⟨P,st,ro,li,ch,tu,sy,de⟩ i)=i:=fun q hq i h0 h1=>amw v hq h0 h1
 rw[Hg,Hl l true (fun c=>[sP ⟨P,st,ro,li,ch,tu,sy,de⟩ c]) (fun d=>⟨P,st,ro,li,d,[],[],[]⟩) ch (fun d c r e=>?_),Option.bind_some]
 rotate_left
 ·obtain⟨⟨ha,hb⟩,hbn,hw⟩:=Yi o (o.OM c (by show c∈ch;rw[←e];simp))
  have a:=AA o ha;have b:=AA o hb
  have a2:=a.1;have b2:=b.1
  unfold jy at a2 b2
  simp only[Bool.and_eq_true,decide_eq_true_eq] at a2 b2
  exact J5 (anb l _ _ _ (by omega) (by omega) hbn hw (nm _ rfl _ a2.1 a2.2) (nm _ rfl _ b2.1 b2.2) a2.1 b2.1)
 rw[Hg,Hl l true (fun t=>[wR ⟨P,st,ro,li,ch,tu,sy,de⟩ t]) (fun d=>⟨P,st,ro,li,ch,d,[],[]⟩) tu (fun d t r e=>?_),Option.bind_some]
 rotate_left
 ·have h:=o.TD t (by show t∈tu;rw[←e];simp)
  simp only[Bool.and_eq_true] at h
  have a2:=h.1.1;have b2:=h.1.2
  unfold jy at a2 b2
  simp only[Bool.and_eq_true,decide_eq_true_eq] at a2 b2
  exact J5 (ank l _ _ _ (OI h.2) (nm _ rfl _ a2.1 a2.2) (nm _ rfl _ b2.1 b2.2) a2.1 b2.1)
 rw[Hg,Hl l true (fun s=>[uK ⟨P,st,ro,li,ch,tu,sy,de⟩ s]) (fun d=>⟨P,st,ro,li,ch,tu,d,[]⟩) sy (fun d s r e=>?_),Option.bind_some]
 rotate_left
 ·have h:=o.syn s (by show s∈sy;rw[←e];simp)
  simp only[Bool.and_eq_true,decide_eq_true_eq] at h
  have a:=AA o h.1.1.1.1;have b:=AA o h.1.1.1.2
  have a2:=a.1;have b2:=b.1
  unfold jy at a2 b2
  simp only[Bool.and_eq_true,decide_eq_true_eq] at a2 b2
  exact J5 (anj l _ _ _ (by omega) (by omega) (by omega) (nm _ rfl _ a2.1 a2.2) (nm _ rfl _ b2.1 b2.2) a2.1 b2.1)
 rw[Hl l true (fun d=>[w9 l d]) (fun d=>⟨P,st,ro,li,ch,tu,sy,d⟩) de (fun d x r e=>?_)]
 have h:=Uo (o.OV x (by show x∈de;rw[←e];simp))
 exact J5 (anc o.vn _ _ h.1 h.2.1 (by omega))
theorem ai1{l:Layout}{p:Plan}(v:CZ l p):(wh (uf l p)).length≤65536:=by
 have o:=Vo (Rj v)
 have g:=(YB o).1
 have key:∀{a:List (List Str)},(∀w∈a,jD w∧w.length≤24)→CK a≤1129*a.length:=by
  intro a
  induction a with
  |nil=>intro _;simp[CK]
  |cons w r ih=>
   intro h
   have h1:=h w List.mem_cons_self
   have h2:=ih fun t ht=>h t (List.mem_cons_of_mem _ ht)
   have h3:=YH h1.1.2.2
   rw[Tt]
   simp only[List.length_cons];omega
 have hk:∀w∈uf l p,w.length≤24:=by
  intro w hw
  unfold uf at hw
  simp only[List.mem_append,List.mem_flatMap,List.mem_singleton] at hw
  rcases hw with ((((((h|⟨s,_,h⟩)|⟨r,hr,h⟩)|⟨x,_,h⟩)|⟨c,_,h⟩)|⟨t,_,h⟩)|⟨s,_,h⟩)|⟨d,_,h⟩
  ·subst h;simp[JQ]
  ·subst h;simp[vK]
  ·subst h
   have h1:=(v.ok.rt r hr).few
   have h2:=(v.ok.rt r hr).ov
   unfold nY DI
   rw[if_neg (by omega),List.append_nil,List.length_cons,abw];omega
  ·unfold zH at h
   rcases List.mem_cons.1 h with h|h
   ·subst h;simp[Cj]
   ·obtain⟨r,_,rfl⟩:=List.mem_map.1 h
    unfold qI
    split<;>simp
  ·subst h;simp[sP]
  ·subst h;simp[wR]
  ·subst h;simp[uK]
  ·subst h;simp[w9]
 have hn:(uf l p).length≤36:=by
  obtain⟨f1,f2,f3,f4,f5⟩:=v.few
  obtain⟨sk,es,_⟩:=v.sk
  have h3:=v.ln
  have r3:=rG (f:=zH p) (m:=3) (xs:=p.Lines) (fun x hx=>by have:=v.ri2 x hx;unfold zH;simp;omega)
  have r1:=rG (f:=fun s=>[vK s]) (m:=1) (xs:=p.aU) (fun _ _=>by simp)
  have r2:=rG (f:=fun r=>[nY l r]) (m:=1) (xs:=p.Routes) (fun _ _=>by simp)
  have r4:=rG (f:=fun c=>[sP p c]) (m:=1) (xs:=p.Changes) (fun _ _=>by simp)
  have r5:=rG (f:=fun t=>[wR p t]) (m:=1) (xs:=p.Turns) (fun _ _=>by simp)
  have r6:=rG (f:=fun s=>[uK p s]) (m:=1) (xs:=p.bq) (fun _ _=>by simp)
  have r7:=rG (f:=fun d=>[w9 l d]) (m:=1) (xs:=p.bg) (fun _ _=>by simp)
  rw[es] at r1
  unfold uf
  simp only[List.length_append,List.length_singleton]
  rw[es]
  simp only[List.length_singleton] at r1
  omega
 have h1:=aec (uf l p)
 have h2:=key (a:=uf l p) (fun w hw=>⟨g w hw,hk w hw⟩)
 omega
theorem anZ{l:Layout}{p:Plan}(v:CZ l p):VG l (wh (uf l p))=some (p,0,0):=by
 have o:=Vo (Rj v)
 have e:=amn (uf l p) (fun w hw=>adf ((YB o).1 w hw)) (ai1 v)
 unfold VG
 rw[if_neg (by simp[YE v.g]),e,if_neg (by simp)]
 show DL l Cm false (GU 1 (uf l p))=_
 rw[afb l _ _ _ _ _ (an1 v)]
 simp only[DL]
 rw[Rj v]
 rfl
end Go.Proofs.YtcalibhfgdncaaaGreatDoor
