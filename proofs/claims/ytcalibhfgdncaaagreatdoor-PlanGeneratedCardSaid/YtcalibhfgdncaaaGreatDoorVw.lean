/- Several parts of the engine, one behind the other. -/
import Derived.Test.YtcalibhfgdncaaaGreatDoorWd
import Derived.Test.YtcalibhfgdncaaaGreatDoorWe
import Derived.Test.YtcalibhfgdncaaaGreatDoorQ1
import Derived.Test.YtcalibhfgdncaaaGreatDoorWk
import Derived.Test.YtcalibhfgdncaaaGreatDoorWa
import Derived.Test.YtcalibhfgdncaaaGreatDoorWb
set_option linter.all false
namespace Go.Proofs.YtcalibhfgdncaaaGreatDoor
open Go.Dc
theorem ai6{s:Str}{i:Nat}{x:UInt8}(h:s.l[i]?=some x):pK s (i:Int)=some (x.toNat:Int):=by simp[pK,h]
theorem aoq{α:Type}{xs:List α}{i:Nat}{x:α}(h:idx xs (i:Int)=some x):xs[i]?=some x:=by rwa [mR] at h
/-! ### The first place of a byte -/
def before(c:UInt8)(l:List UInt8):List UInt8:=l.takeWhile (fun b=>b != c)
def behind(c:UInt8)(l:List UInt8):List UInt8:=(l.dropWhile (fun b=>b != c)).drop 1
/-! ### The words of a line -/
def GY(c:UInt8):Bool:=decide (33≤c.toNat)&&decide (c.toNat≤126)
def aaF(c:UInt8):Bool:=decide (c.toNat=32)||decide (c.toNat=9)
theorem ajp(c:UInt8):OY (c.toNat:Int)=some (if aaF c then 1 else if c.toNat=10 then 2 else if c.toNat=35 then 3 else if GY c then 4 else 0):=by
 have key:∀k:Fin 256,OY (k.val:Int)=some (if (decide (k.val=32)||decide (k.val=9))=true then 1 else if k.val=10 then 2 else if k.val=35 then 3 else if (decide (33≤k.val)&&decide (k.val≤126))=true then 4 else 0):=by decide+kernel
 exact key ⟨c.toNat,c.toNat_lt⟩
end Go.Proofs.YtcalibhfgdncaaaGreatDoor
namespace Go.Proofs.YtcalibhfgdncaaaGreatDoor
open Go.Dc
def Es(c:UInt8):Bool:=GY c&&decide (c.toNat≠35)
/-! ### Lines -/
/-! ### The reference's -/
/-! ### Comparing -/
end Go.Proofs.YtcalibhfgdncaaaGreatDoor
namespace Go.Proofs.YtcalibhfgdncaaaGreatDoor
open Go.Dc
set_option maxRecDepth 10000
def uM(s:Str):Bool:=decide (s.l≠[])&&s.l.all Es
def kJ:Bool→List Str→List UInt8
 |_,[]=>[]
 |f,s::r=>(if f then [] else [32])++s.l++kJ false r
def joinL:List (List Str)→List UInt8→Option (List UInt8)
 |[],acc=>some acc
 |w::r,acc=>if (decide ((w.length:Int)=0)||decide (64<(w.length:Int))) then none else if w.all uM then joinL r (acc++kJ true w++[10]) else none
def aff(o:Option (List UInt8)):Str:=match o with|none=>⟨[]⟩|some t=>⟨t⟩
def CX(w:List Str):Nat:=(w.map (fun s=>s.l.length+1)).sum
def FX(l:List (List Str)):Nat:=(l.map (fun w=>CX w+1)).sum
theorem XJ(s:Str)(w:List Str):CX (s::w)=s.l.length+1+CX w:=by simp[CX]
theorem XI(w:List Str)(l:List (List Str)):FX (w::l)=CX w+1+FX l:=by simp[FX]
theorem arN(w:List Str):w.length≤CX w:=by
 induction w with
 |nil=>simp
 |cons s w ih=>rw[XJ];simp only[List.length_cons];omega
theorem arM(l:List (List Str)):l.length≤FX l:=by
 induction l with
 |nil=>simp
 |cons s w ih=>rw[XI];simp only[List.length_cons];omega
theorem acR(f:Bool)(w:List Str):(kJ f w).length≤CX w:=by
 induction w generalizing f with
 |nil=>simp[kJ]
 |cons s w ih=>
  rw[XJ]
  have:=ih false
  simp only[kJ,List.length_append]
  cases f<;>simp<;>omega
theorem ajq(c:UInt8):∃k:Int,OY (c.toNat:Int)=some k∧(decide (k≠4)= !Es c):=by
 refine⟨_,ajp c,?_⟩
 unfold Es
 by_cases h1:aaF c
 ·have:GY c=false:=by unfold aaF at h1;unfold GY;simp at h1 ⊢;omega
  simp[h1,this]
 ·by_cases h2:c.toNat=10
  ·have:GY c=false:=by unfold GY;simp;omega
   simp[h1,h2,this]
  ·by_cases h3:c.toNat=35
   ·simp[h1,h3]
   ·by_cases h4:GY c
    ·simp[h1,h2,h3,h4]
    ·simp[h1,h2,h3,h4]
theorem aox(s:Str)(hl:s.l.length≤1000000000000):Uv s=some (uM s):=by
 obtain⟨l⟩:=s
 simp only at hl
 unfold Uv
 rw[cO (by simp only[decide_eq_true_eq];omega)]
 have:=nu (B:=Uu ⟨l⟩) (fun (_:Unit) i=>i) l (fun _ _=>True) (fun _ r=>some (decide (l≠[])&&r.all Es)) ?_ ?_ FUEL () 0 trivial (by omega) (jh (by omega))
 ·rw[this];rfl
 ·intro c _ i x r _ hdr hi hx hk
  have hxi:=aoq hx
  obtain⟨k,hk1,hk2⟩:=ajq x
  simp only[Uu]
  rw[if_pos (by simp<;>omega),ai6 (s:=⟨l⟩) hxi,Option.bind_some,hk1,Option.bind_some,hk2,hk () trivial]
  cases hp:Es x<;>simp[hp]
 ·intro c _ _
  simp only[Uu]
  rw[if_neg (by simp)]
  unfold acT
  simp
theorem adW{α:Type}{l r:List α}{x:α}{i:Nat}(h:l.drop i=x::r):l.drop (i+1)=r:=by
 rw[←List.drop_drop,h];rfl
theorem aoH(w:List Str)(cont:(List UInt8×Nat)→Option Str)(t:Nat)(acc:List UInt8)(hl:acc.length+CX w≤1000000000000):
  iter (OU w cont t) FUEL (acc,0)=if w.all uM then Ur (acc++kJ true w) cont t () else some ⟨[]⟩:=by
 have hwl:=arN w
 have:=nu (B:=OU w cont t) (fun (q:List UInt8×Bool) i=>(q.1,i)) w (fun q i=>q.2=decide (i=0)∧q.1.length+CX (w.drop i)≤1000000000000)
  (fun q r=>if r.all uM then Ur (q.1++kJ q.2 r) cont t () else some ⟨[]⟩) ?_ ?_ FUEL (acc,true) 0 (by simpa using hl) (by omega) (jh (by omega))
 ·simpa using this
 ·rintro c ⟨q,f⟩ i x r ⟨hf,hq⟩ hdr hi hx hk
  simp only at hf hq ⊢
  have hr:w.drop (i+1)=r:=adW hdr
  rw[hdr,XJ] at hq
  simp only[OU]
  rw[if_pos (by simp<;>omega),hx,Option.bind_some,aox _ (by omega),Option.bind_some]
  cases hw:uM x with
  |false=>simp[hw]
  |true=>
   rw[if_neg (by simp)]
   have e:(x::r).all uM=r.all uM:=by simp[hw]
   rw[e]
   subst hf
   by_cases h0:i=0
   ·subst h0
    rw[if_neg (by simp)]
    unfold OV
    rw[cO (by simp only[decide_eq_true_eq];omega)]
    have:=hk (q++x.l,false) ⟨by simp,by rw[hr];simp only[List.length_append];omega⟩
    simp only at this
    rw[this]
    simp[kJ]
   ·rw[if_pos (by simp<;>omega),cO (by simp only[decide_eq_true_eq];omega)]
    unfold OV
    rw[cO (by simp only[decide_eq_true_eq,List.length_append,List.length_singleton];omega)]
    have:=hk (q++[u8 32]++x.l,false) ⟨by simp,by rw[hr];simp only[List.length_append,List.length_singleton];omega⟩
    simp only at this
    rw[this]
    have e32:u8 32=32:=by decide
    simp[kJ,h0,e32]
 ·rintro c ⟨q,f⟩ ⟨hf,hq⟩
  simp only[OU]
  rw[if_neg (by simp)]
  simp[kJ]
theorem aoI(l:List (List Str))(hl:FX l≤100000000000):I4 l=some (aff (joinL l [])):=by
 unfold I4
 have hll:=arM l
 have:=nu (B:=Uq l) (fun (q:List UInt8) i=>(q,i)) l (fun q i=>q.length+FX (l.drop i)≤100000000000)
  (fun q r=>some (aff (joinL r q))) ?_ ?_ FUEL [] 0 (by simpa using hl) (by omega) (jh (by omega))
 ·simpa using this
 ·intro c q i x r hq hdr hi hx hk
  have hr:l.drop (i+1)=r:=adW hdr
  rw[hdr,XI] at hq
  simp only[Uq]
  rw[if_pos (by simp<;>omega),hx,Option.bind_some]
  unfold joinL
  by_cases h:(decide ((x.length:Int)=0)||decide (64<(x.length:Int)))=true
  ·rw[if_pos h,if_pos h];rfl
  ·rw[if_neg h,if_neg h,aoH x _ _ _ (by omega)]
   cases hw:x.all uM with
   |false=>rw[if_neg (by simp),if_neg (by simp)];rfl
   |true=>
    rw[if_pos rfl,if_pos rfl]
    have hlen:=acR true x
    unfold Ur acS
    rw[cO (by simp only[decide_eq_true_eq,List.length_append];omega)]
    have e10:u8 10=10:=by decide
    rw[e10]
    exact hk _ (by rw[hr];simp only[List.length_append,List.length_singleton];omega)
 ·intro c q hq
  simp only[Uq]
  rw[if_neg (by simp)]
  rfl
theorem PO(a b:List UInt8)(h:a.length+b.length≤100000000000000):dX ⟨a⟩ ⟨b⟩=some ⟨a++b⟩:=by
 unfold dX
 rw[if_pos (by simp only;omega)]
end Go.Proofs.YtcalibhfgdncaaaGreatDoor
namespace Go.Proofs.YtcalibhfgdncaaaGreatDoor
open Go.Dc
set_option maxRecDepth 10000
def afw(w:List Str):Prop:=0<w.length∧w.length≤64∧w.all uM=true
def uU:List (List Str)→List UInt8
 |[]=>[]
 |w::r=>kJ true w++10::uU r
theorem afe:∀(l:List (List Str)) (acc:List UInt8),(∀w∈l,afw w)→joinL l acc=some (acc++uU l)
 |[],acc,_=>by simp[joinL,uU]
 |w::r,acc,h=>by
  obtain⟨h1,h2,h3⟩:=h w List.mem_cons_self
  simp only[joinL]
  rw[if_neg (by rw[Bool.or_eq_true];rintro (h|h)<;>(have:=of_decide_eq_true h;omega)),if_pos h3,afe r _ (fun x hx=>h x (List.mem_cons_of_mem _ hx))]
  simp[uU]
theorem afg:∀(l:List (List Str)),(uU l).length≤FX l
 |[]=>by simp[uU]
 |w::r=>by
  have h1:=acR true w
  have h2:=afg r
  rw[XI]
  simp only[uU,List.length_append,List.length_cons]
  omega
end Go.Proofs.YtcalibhfgdncaaaGreatDoor
namespace Go.Proofs.YtcalibhfgdncaaaGreatDoor
open Go.Dc
end Go.Proofs.YtcalibhfgdncaaaGreatDoor
namespace Go.Proofs.YtcalibhfgdncaaaGreatDoor
open Go.Dc
def E9(m:Nat)(s:List UInt8):List UInt8:=if m=0 then s else E9 (m / 10) (UInt8.ofNat (48+m % 10)::s)
termination_by m
decreasing_by omega
theorem U7(s:List UInt8):E9 0 s=s:=by unfold E9;rfl
theorem YW{m:Nat}(h:0<m)(s:List UInt8):E9 m s=E9 (m / 10) (UInt8.ofNat (48+m % 10)::s):=by
 conv=>lhs;unfold E9
 rw[if_neg (by omega)]
theorem YV:∀(k m:Nat) (s:List UInt8),m<10 ^ k→(E9 m s).length≤s.length+k
 |0,m,s,h=>by
  have:m=0:=by simpa using h
  subst this
  rw[U7];omega
 |k+1,m,s,h=>by
  by_cases h0:m=0
  ·subst h0;rw[U7];omega
  ·rw[YW (by omega)]
   have:=YV k (m / 10) (UInt8.ofNat (48+m % 10)::s) (by rw[Nat.pow_succ] at h;omega)
   simp only[List.length_cons] at this
   omega
/-! ### The reference's Decimal -/
theorem ajz(d:Nat)(h:d<10):BH (⟨[48,49,50,51,52,53,54,55,56,57]⟩:Str) (d:Int) ((d:Int)+1)=some ⟨[UInt8.ofNat (48+d)]⟩:=by
 have key:∀k:Fin 10,BH (⟨[48,49,50,51,52,53,54,55,56,57]⟩:Str) (k.val:Int) ((k.val:Int)+1)=some ⟨[UInt8.ofNat (48+k.val)]⟩:=by decide+kernel
 exact key ⟨d,h⟩
theorem YX(s:List UInt8)(z:Int)(d:Nat)(hd:d<10)(hs:s.length≤100)(hz: -9223372036854775808≤z.tdiv 10∧z.tdiv 10≤9223372036854775807)(c:(Int×Str)→Option Str):
  NK ⟨s⟩ z c (d:Int)=c (z.tdiv 10,⟨UInt8.ofNat (48+d)::s⟩):=by
 unfold NK
 have c1:dX ⟨[UInt8.ofNat (48+d)]⟩ ⟨s⟩=some ⟨UInt8.ofNat (48+d)::s⟩:=by
  unfold dX
  rw[if_pos (by simp only[List.length_singleton];omega)]
  rfl
 rw[cO (eB (by omega) (by omega)),ajz d hd,Option.bind_some,c1,Option.bind_some,cO (by rw[eB hz.1 hz.2];rfl)]
theorem ajx(n0:Int)(neg:Bool):∀(n m:Nat) (s:List UInt8),m<n→m*10 ^ s.length≤9223372036854775808→s.length≤19→
  iter (NJ n0) n (if neg then-(m:Int) else (m:Int),⟨s⟩)=Wx n0 ⟨E9 m s⟩ ():=by
 intro n
 induction n with
 |zero=>intro m s h;omega
 |succ n ih=>
  intro m s hm hp hs
  show NJ n0 (iter (NJ n0) n) (if neg then-(m:Int) else (m:Int),⟨s⟩)=_
  simp only[NJ]
  by_cases h0:m=0
  ·subst h0
   rw[if_neg (by cases neg<;>simp),U7]
  ·rw[if_pos (by cases neg<;>simp<;>omega),YW (by omega)]
   have asK:s.length≤18:=by
    refine Nat.le_of_lt_succ (Nat.lt_of_not_le fun h19=>?_)
    have h1:(10:Nat) ^ 19≤10 ^ s.length:=Nat.pow_le_pow_right (by omega) h19
    have h2:1*10 ^ s.length≤m*10 ^ s.length:=Nat.mul_le_mul_right _ (by omega)
    have h3:(10:Nat) ^ 19=10000000000000000000:=by decide
    omega
   have hm63:m≤9223372036854775808:=by
    have h1:m*1≤m*10 ^ s.length:=Nat.mul_le_mul_left _ (Nat.pos_of_ne_zero (by simp))
    omega
   have hp':m / 10*10 ^ (s.length+1)≤9223372036854775808:=by
    have h1:m / 10*10 ^ (s.length+1)=m / 10*10*10 ^ s.length:=by rw[Nat.pow_succ,Nat.mul_comm (10 ^ s.length) 10,Nat.mul_assoc]
    have h2:m / 10*10*10 ^ s.length≤m*10 ^ s.length:=Nat.mul_le_mul_right _ (by omega)
    omega
   have hd:m % 10<10:=by omega
   have goal:=ih (m / 10) (UInt8.ofNat (48+m % 10)::s) (by omega) (by simpa using hp') (by simp only[List.length_cons];omega)
   cases neg with
   |true=>
    simp only[if_true] at goal ⊢
    have e1:(-(m:Int)).tmod 10= -((m % 10:Nat):Int):=by rw[Int.neg_tmod,Int.tmod_eq_emod_of_nonneg (by omega)];omega
    have e2:(-(m:Int)).tdiv 10= -((m / 10:Nat):Int):=by rw[Int.neg_tdiv,Int.tdiv_eq_ediv_of_nonneg (by omega)];omega
    rw[e1]
    by_cases hr:m % 10=0
    ·rw[if_neg (by rw[hr];simp)]
     have e3:(-((m % 10:Nat):Int))=((m % 10:Nat):Int):=by rw[hr];rfl
     rw[e3,YX s _ (m % 10) hd (by omega) (by rw[e2];omega),e2,goal]
    ·rw[if_pos (by simp;omega),Int.neg_neg,cO (eB (by omega) (by omega)),YX s _ (m % 10) hd (by omega) (by rw[e2];omega),e2,goal]
   |false=>
    simp only[Bool.false_eq_true,if_false] at goal ⊢
    have e1:((m:Int)).tmod 10=((m % 10:Nat):Int):=by rw[Int.tmod_eq_emod_of_nonneg (by omega)];omega
    have e2:((m:Int)).tdiv 10=((m / 10:Nat):Int):=by rw[Int.tdiv_eq_ediv_of_nonneg (by omega)];omega
    rw[e1,if_neg (by simp;omega),YX s _ (m % 10) hd (by omega) (by rw[e2];omega),e2,goal]
/-! ### Number -/
end Go.Proofs.YtcalibhfgdncaaaGreatDoor
namespace Go.Proofs.YtcalibhfgdncaaaGreatDoor
open Go.Dc
set_option maxRecDepth 10000
/-! ### The reference -/
end Go.Proofs.YtcalibhfgdncaaaGreatDoor
