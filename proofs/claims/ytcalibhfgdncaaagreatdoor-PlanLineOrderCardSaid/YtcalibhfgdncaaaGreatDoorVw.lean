/- Several parts of the engine, one behind the other. -/
import Derived.Test.YtcalibhfgdncaaaGreatDoorWd
import Derived.Test.YtcalibhfgdncaaaGreatDoorYd
import Derived.Test.YtcalibhfgdncaaaGreatDoorQ1
import Derived.Test.YtcalibhfgdncaaaGreatDoorWj
import Derived.Test.YtcalibhfgdncaaaGreatDoorYe
set_option linter.all false
namespace Go.Proofs.YtcalibhfgdncaaaGreatDoor
open Go.Dc
theorem Dr{s:Str}{i:Nat}{x:UInt8}(h:s.l[i]?=some x):kD s (i:Int)=some (x.toNat:Int):=by simp[kD,h]
theorem YX{α:Type}{xs:List α}{i:Nat}{x:α}(h:idx xs (i:Int)=some x):xs[i]?=some x:=by rwa [kF] at h
/-! ### The first place of a byte -/
def before(c:UInt8)(l:List UInt8):List UInt8:=l.takeWhile (fun b=>b != c)
def behind(c:UInt8)(l:List UInt8):List UInt8:=(l.dropWhile (fun b=>b != c)).drop 1
theorem Oc(c:UInt8):∀l:List UInt8,(c∉l→Lib.indexByte l c= -1)∧(c∈l→Lib.indexByte l c=(before c l).length∧l=before c l++c::behind c l)
 |[]=>⟨fun _=>rfl,fun h=>by simp at h⟩
 |b::l=>by
  have ih:=Oc c l
  unfold Lib.indexByte
  by_cases hb:b=c
  ·subst hb
   refine⟨fun h=>by simp at h,fun _=>?_⟩
   simp[before,behind]
  ·have hbe:(b==c)=false:=by simpa using hb
   rw[hbe]
   have e1:before c (b::l)=b::before c l:=by simp[before,hb]
   have e2:behind c (b::l)=behind c l:=by simp[behind,hb]
   refine⟨fun h=>?_,fun h=>?_⟩
   ·have:c∉l:=fun hm=>h (List.mem_cons_of_mem _ hm)
    rw[ih.1 this];rfl
   ·have hm:c∈l:=by
     rcases List.mem_cons.1 h with h|h
     ·exact absurd h.symm hb
     ·exact h
    obtain⟨h1,h2⟩:=ih.2 hm
    rw[e1,e2,h1]
    refine⟨?_,by rw[List.cons_append,←h2]⟩
    have hne:((before c l).length:Int)≠ -1:=by omega
    simp[hne]
theorem abP{c:UInt8}:∀{l:List UInt8},c∉l→before c l=l
 |[],_=>rfl
 |b::l,h=>by
  have hb:b≠c:=fun e=>h (e▸List.mem_cons_self)
  have e1:before c (b::l)=b::before c l:=by simp[before,hb]
  rw[e1,abP (fun hm=>h (List.mem_cons_of_mem _ hm))]
theorem XV(c:UInt8):∀l:List UInt8,c∉before c l
 |[]=>by simp[before]
 |b::l=>by
  by_cases hb:b=c
  ·subst hb;simp[before]
  ·have e1:before c (b::l)=b::before c l:=by simp[before,hb]
   rw[e1]
   intro h
   rcases List.mem_cons.1 h with h|h
   ·exact hb h.symm
   ·exact XV c l h
theorem aa3(a b:List UInt8):ji ⟨a++b⟩ 0 (a.length:Int)=some ⟨a⟩:=by
 unfold ji
 rw[if_pos ⟨by omega,by omega,by simp;omega⟩]
 simp
theorem aa4(a b:List UInt8):ji ⟨a++b⟩ (a.length:Int) ((a++b).length:Int)=some ⟨b⟩:=by
 unfold ji
 rw[if_pos ⟨by omega,by simp;omega,by simp⟩]
 simp only[Int.toNat_natCast,List.take_length]
 simp
theorem am2(t:Str)(c:UInt8)(hl:t.l.length≤1000000000000):∃z:Str×Bool,WQ t ⟨[c]⟩=some (⟨before c t.l⟩,z):=by
 obtain⟨l⟩:=t
 unfold WQ aa1
 have e:afK ⟨l⟩ ⟨[c]⟩=some (Lib.indexByte l c):=rfl
 rw[e,Option.bind_some]
 have sp:=Oc c l
 by_cases h:c∈l
 ·obtain⟨h1,h2⟩:=sp.2 h
  rw[h1,if_pos (by simp)]
  have hlen:l.length=(before c l).length+1+(behind c l).length:=by
   have:=congrArg List.length h2
   simp at this
   omega
  have s1:ji ⟨l⟩ 0 ((before c l).length:Int)=some ⟨before c l⟩:=by
   have:=aa3 (before c l) (c::behind c l)
   rwa [←h2] at this
  have s2:ji ⟨l⟩ (((before c l).length:Int)+(([c]:List UInt8).length:Int)) (l.length:Int)=some ⟨behind c l⟩:=by
   have:=aa4 (before c l++[c]) (behind c l)
   rw[List.append_assoc,List.singleton_append,←h2] at this
   simpa using this
  simp only at hl ⊢
  rw[s1,Option.bind_some,bH (bO (by omega) (by simp;omega)),s2]
  exact⟨_,rfl⟩
 ·rw[sp.1 h,if_neg (by simp),abP h]
  exact⟨_,rfl⟩
/-! ### The words of a line -/
def I7(c:UInt8):Bool:=decide (33≤c.toNat)&&decide (c.toNat≤126)
def LA(c:UInt8):Bool:=decide (c.toNat=32)||decide (c.toNat=9)
def tk(ln:Int):List UInt8→Nat→Bool→List Word→Option (List Word)
 |[],_,_,acc=>some acc
 |c::cs,i,prev,acc=>
  if c.toNat=35 then some acc else
  if LA c then tk ln cs (i+1) false acc else
  if I7 c then
   match prev with
   |true=>tk ln cs (i+1) true (acc.dropLast++[⟨⟨(acc.getLastD default).Text.l++[c]⟩,(acc.getLastD default).Line,(acc.getLastD default).Col⟩])
   |false=>tk ln cs (i+1) true (acc++[⟨⟨[c]⟩,ln,(i:Int)+1⟩])
  else none
def toks(ln:Int)(l:List UInt8):Option (List Word):=tk ln l 0 false []
theorem aa6(ln:Int):∀(l:List UInt8) (i:Nat) (prev:Bool) (acc:List Word),tk ln (before 35 l) i prev acc=tk ln l i prev acc
 |[],_,_,_=>rfl
 |c::cs,i,prev,acc=>by
  by_cases h:c=35
  ·subst h
   simp[before,tk]
  ·have e:before 35 (c::cs)=c::before 35 cs:=by simp[before,h]
   rw[e]
   have hn:¬c.toNat=35:=fun hh=>h (UInt8.toNat_inj.1 hh)
   simp only[tk,if_neg hn]
   rw[aa6 ln cs,aa6 ln cs,aa6 ln cs]
theorem amW(c:UInt8):Xh (c.toNat:Int)=some (if LA c then 1 else if c.toNat=10 then 2 else if c.toNat=35 then 3 else if I7 c then 4 else 0):=by
 have key:∀k:Fin 256,Xh (k.val:Int)=some (if (decide (k.val=32)||decide (k.val=9))=true then 1 else if k.val=10 then 2 else if k.val=35 then 3 else if (decide (33≤k.val)&&decide (k.val≤126))=true then 4 else 0):=by decide+kernel
 exact key ⟨c.toNat,c.toNat_lt⟩
def FW(ln:Int)(xs:List UInt8)(line:List Word)(start:Int)(i:Nat):List Word:=
 if start<0 then line else line++[⟨⟨(xs.take i).drop start.toNat⟩,ln,start+1⟩]
theorem agy(line:List Word)(xs:List UInt8)(start:Int)(i:Nat)(ln:Int)(hi:i≤xs.length)(hs:start<0∨start<i)(hl:line.length≤1000000)(hx:xs.length≤1000000):
  QY line ⟨xs⟩ start (i:Int) ln=some (FW ln xs line start i):=by
 unfold QY FW
 by_cases h:start<0
 ·rw[if_pos (by simpa using h),if_pos h]
 ·rw[if_neg (by simpa using h),if_neg h]
  have hs':start<i:=by
   rcases hs with hs|hs
   ·exact absurd hs h
   ·exact hs
  have e:ji ⟨xs⟩ start (i:Int)=some ⟨(xs.take i).drop start.toNat⟩:=by
   unfold ji
   rw[if_pos ⟨by omega,by omega,by simp;omega⟩]
   simp
  rw[e,Option.bind_some,bH (bO (by omega) (by omega)),bH (by simp;omega)]
def afC(r:Option (List Word)):List Word×Bool:=match r with|some w=>(w,true)|none=>([],false)
theorem awq(t:Str)(ln:Int)(hl:t.l.length≤1000000):Xk t ln=some (afC (toks ln t.l)):=by
 obtain⟨l⟩:=t
 simp only at hl
 unfold Xk
 obtain⟨z,hz⟩:=am2 ⟨l⟩ 35 (by simp;omega)
 have NV:35∉before 35 l:=XV 35 l
 have hlb:(before 35 l).length≤l.length:=(List.takeWhile_prefix (p:=fun b=>b != (35:UInt8))).length_le
 rw[hz,Option.bind_some]
 unfold toks
 rw[←aa6 ln l]
 generalize before 35 l=xs at NV hlb
 rw[bH (by simp;omega)]
 have:=jF (B:=Xj (⟨xs⟩,z) ln) (fun (q:List Word×Int) i=>(q.1,q.2,i)) xs (fun q i=>(q.2= -1∨(0≤q.2∧q.2<i))∧q.1.length≤i)
  (fun q r=>some (afC (tk ln r (xs.length-r.length) (decide (0≤q.2)) (FW ln xs q.1 q.2 (xs.length-r.length))))) ?_ ?_ FUEL ([],-1) 0 ⟨.inl rfl,by simp⟩ (by omega) (fD (by omega))
 ·simpa [FW] using this
 ·rintro c ⟨line,start⟩ i x r ⟨hs,hll⟩ hdr hi hx hk
  simp only at hs hll
  have hxi:=YX hx
  have hlen:xs.length-(x::r).length=i:=by
   have:=congrArg List.length hdr
   simp at this ⊢
   omega
  have hlen':xs.length-r.length=i+1:=by
   have:=congrArg List.length hdr
   simp at this
   omega
  have Ck:¬x.toNat=35:=fun hh=>NV (by
   have:x=35:=UInt8.toNat_inj.1 hh
   rw[←this]
   exact List.mem_of_getElem? hxi)
  have htake:xs.take (i+1)=xs.take i++[x]:=by rw[List.take_add_one,hxi];rfl
  rw[hlen]
  simp only[Xj]
  rw[if_pos (by simp;omega),Dr hxi,Option.bind_some,amW,Option.bind_some]
  unfold tk
  simp only[if_neg Ck]
  by_cases hb:LA x=true
  ·simp only[hb,if_true]
   rw[if_neg (by simp),if_pos (by simp),agy line xs start i ln (by omega) (by omega) (by omega) (by omega),Option.bind_some]
   simp only[Kk]
   rw[hk (FW ln xs line start i,-1) ⟨.inl rfl,by unfold FW;split<;>simp<;>omega⟩,hlen']
   simp[FW]
  ·simp only[hb,Bool.false_eq_true,if_false]
   by_cases hp:I7 x=true
   ·have h10:¬x.toNat=10:=by
     unfold I7 at hp
     simp only[Bool.and_eq_true,decide_eq_true_eq] at hp
     omega
    simp only[hp,if_true,h10,Ck,if_false]
    rw[if_pos (by simp)]
    by_cases hst:start<0
    ·rw[if_pos (by simpa using hst)]
     simp only[Kk]
     rw[hk (line,(i:Int)) ⟨.inr ⟨by omega,by simp;omega⟩,by simp;omega⟩,hlen']
     have d1:decide (0≤(i:Int))=true:=by simp
     have d2:decide (0≤start)=false:=by simp;omega
     rw[d1,d2]
     simp only
     congr 3
     unfold FW
     rw[if_neg (by omega),if_pos hst,htake]
     simp only[Int.toNat_natCast]
     have hti:(xs.take i).length=i:=by simp;omega
     rw[List.drop_append_of_le_length (by omega),List.drop_of_length_le (by omega)]
     rfl
    ·rw[if_neg (by simpa using hst)]
     simp only[Kk]
     have hs2:0≤start∧start<i:=by omega
     rw[hk (line,start) ⟨.inr ⟨by omega,by simp;omega⟩,by simp;omega⟩,hlen']
     have d1:decide (0≤start)=true:=by simp;omega
     rw[d1]
     simp only
     congr 3
     unfold FW
     rw[if_neg hst,if_neg hst,htake]
     have hti:(xs.take i).length=i:=by simp;omega
     rw[List.drop_append_of_le_length (by omega)]
     simp
   ·simp only[hp,Bool.false_eq_true,if_false,Ck]
    split
    ·rw[if_neg (by simp),if_neg (by simp)];rfl
    ·rw[if_neg (by simp),if_neg (by simp)];rfl
 ·rintro c ⟨line,start⟩ ⟨hs,hll⟩
  simp only at hs hll
  simp only[Xj]
  rw[if_neg (by simp)]
  simp only[afT,List.length_nil,Nat.sub_zero,tk]
  rw[agy line xs start xs.length ln (by omega) (by omega) (by omega) (by omega),Option.bind_some]
  rfl
def xW(c:UInt8):Bool:=I7 c&&decide (c.toNat≠35)
def GK(xs:List UInt8):Nat→Bool
 |0=>false
 |i+1=>xW (xs.getD i 0)
def E5(r:Option (List Word)):List Word×Int:=match r with|none=>([],2)|some w=>if 64<w.length then ([],7) else (w,0)
theorem aiK(c:UInt8):MO (c.toNat:Int)=some (xW c):=by
 have key:∀k:Fin 256,MO (k.val:Int)=some ((decide (33≤k.val)&&decide (k.val≤126))&&decide (k.val≠35)):=by decide+kernel
 exact key ⟨c.toNat,c.toNat_lt⟩
theorem av7(q:List Word)(v:Word)(h:q≠[]):q.set (q.length-1) v=q.dropLast++[v]:=by
 have e:=List.dropLast_concat_getLast h
 generalize q.getLast h=z at e
 have hl:q.length=q.dropLast.length+1:=by
  rw[List.length_dropLast]
  have:0<q.length:=List.length_pos_iff.2 h
  omega
 generalize q.dropLast=d at e hl
 subst e
 simp
theorem atu(s:Str)(ln:Int)(hl:s.l.length≤1000000):Vv s ln=some (E5 (toks ln s.l)):=by
 obtain⟨xs⟩:=s
 simp only at hl
 unfold Vv toks
 have:=jF (B:=Vu ⟨xs⟩ ln) (fun (q:List Word) i=>(q,i)) xs (fun q i=>q.length≤i∧(GK xs i=true→q≠[])∧∀w∈q,w.Text.l.length≤i)
  (fun q r=>some (E5 (tk ln r (xs.length-r.length) (GK xs (xs.length-r.length)) q))) ?_ ?_ FUEL [] 0 ⟨by simp,by simp[GK],by simp⟩ (by omega) (fD (by omega))
 ·simpa [GK] using this
 ·rintro c q i x r ⟨hq1,hq2,hq3⟩ hdr hi hx hk
  have hxi:=YX hx
  have hlen:xs.length-(x::r).length=i:=by
   have:=congrArg List.length hdr
   simp at this ⊢
   omega
  have hlen':xs.length-r.length=i+1:=by
   have:=congrArg List.length hdr
   simp at this
   omega
  have YH:GK xs (i+1)=xW x:=by simp[GK,List.getD_eq_getElem?_getD,hxi]
  rw[hlen]
  simp only[Vu]
  have hlt:decide ((i:Int)<(xs.length:Int))=true:=by simp;omega
  rw[hlt,Dr hxi,jP rfl,Option.bind_some]
  unfold tk
  by_cases NV:x.toNat=35
  ·rw[if_pos NV,if_neg (by simp;omega)]
   unfold ZW E5
   simp only
   by_cases h64:64<q.length
   ·rw[if_pos (by simp;omega),if_pos h64]
   ·rw[if_neg (by simp;omega),if_neg h64]
  ·simp only[if_neg NV]
   rw[if_pos (by simp;omega),Option.bind_some]
   by_cases hb:LA x=true
   ·simp only[hb,if_true]
    have hpx:xW x=false:=by
     unfold LA at hb
     simp only[Bool.or_eq_true,decide_eq_true_eq] at hb
     unfold xW I7
     simp only[Bool.and_eq_false_iff,decide_eq_false_iff_not]
     omega
    have hcond:∃c8,(dH (!(decide ((x.toNat:Int)=32))) 0 (some (x.toNat:Int))=some c8)∧((decide ((x.toNat:Int)=32)||decide (c8=9))=true):=by
     unfold LA at hb
     simp only[Bool.or_eq_true,decide_eq_true_eq] at hb
     by_cases h32:x.toNat=32
     ·exact⟨0,by rw[oU (by simp;omega)],by simp;omega⟩
     ·exact⟨_,by rw[jP (by simp;omega)],by simp;omega⟩
    obtain⟨c8,h8,h9⟩:=hcond
    rw[h8,Option.bind_some,if_pos h9]
    simp only[Jz]
    rw[bH (bO (by omega) (by omega)),hk q ⟨by omega,by rw[YH,hpx];simp,fun w hw=>by have:=hq3 w hw;omega⟩,hlen',YH,hpx]
   ·simp only[hb,Bool.false_eq_true,if_false]
    have hnb:x.toNat≠32∧x.toNat≠9:=by
     unfold LA at hb
     simp only[Bool.or_eq_true,decide_eq_true_eq] at hb
     omega
    rw[jP (by simp;omega),Option.bind_some,if_neg (by simp;omega),Option.bind_some,aiK,Option.bind_some]
    by_cases hp:I7 x=true
    ·have hpx:xW x=true:=by simp[xW,hp,NV]
     simp only[hp,if_true]
     rw[hpx,if_neg (by simp)]
     rw[bH (by by_cases h0:0<(i:Int)<;>simp[h0,aX]<;>omega)]
     have hsub:ji ⟨xs⟩ (i:Int) ((i:Int)+1)=some ⟨[x]⟩:=by
      unfold ji
      rw[if_pos ⟨by omega,by omega,by simp;omega⟩]
      have e1:((i:Int)+1).toNat=i+1:=by omega
      rw[e1,Int.toNat_natCast]
      have htake:xs.take (i+1)=xs.take i++[x]:=by rw[List.take_add_one,hxi];rfl
      have hti:(xs.take i).length=i:=by simp;omega
      rw[htake,List.drop_append_of_le_length (by omega),List.drop_of_length_le (by omega)]
      rfl
     have hpv:∃c18 y20,dH (decide (0<(i:Int))) 0 (kD ⟨xs⟩ ((i:Int)-1))=some c18∧dH (decide (0<(i:Int))) default (MO c18)=some y20∧(decide (0<(i:Int))&&y20)=GK xs i:=by
      cases i with
      |zero=>exact⟨0,false,rfl,rfl,rfl⟩
      |succ k=>
       have hk1:xs[k]?=some (xs[k]'(by omega)):=List.getElem?_eq_getElem (by omega)
       have e:(((k+1:Nat):Int)-1)=(k:Int):=by omega
       refine⟨_,xW (xs[k]'(by omega)),by rw[jP (by simp),e,Dr hk1],by rw[jP (by simp),aiK],?_⟩
       have:decide (0<((k+1:Nat):Int))=true:=by simp
       rw[this]
       simp[GK,List.getD_eq_getElem?_getD,hk1]
     obtain⟨c18,y20,e18,e20,epv⟩:=hpv
     rw[e18,Option.bind_some,e20,Option.bind_some,epv]
     cases hpr:GK xs i with
     |true=>
      have hne:=hq2 hpr
      have hlast:idx q ((q.length:Int)-1)=some (q.getLastD default):=by
       have h0:0<q.length:=List.length_pos_iff.2 hne
       have e:((q.length:Int)-1)=((q.length-1:Nat):Int):=by omega
       rw[e,kF,List.getLastD_eq_getLast?,List.getLast?_eq_getElem?,List.getElem?_eq_getElem (by omega)]
       rfl
      have hmem:q.getLastD default∈q:=by
       rw[List.getLastD_eq_getLast?,List.getLast?_eq_some_getLast hne]
       exact List.getLast_mem hne
      have hln:=hq3 _ hmem
      simp only[if_true]
      rw[bH (bO (by omega) (by omega)),hlast,Option.bind_some,bH (bO (by omega) (by omega)),hsub,Option.bind_some]
      have acX:dM (q.getLastD default).Text ⟨[x]⟩=some ⟨(q.getLastD default).Text.l++[x]⟩:=by
       unfold dM
       rw[if_pos (by have:([x]:List UInt8).length=1:=rfl;simp only[this];omega)]
      rw[acX,Option.bind_some,Option.bind_some]
      simp only[Jz]
      have eN:((q.length:Int)-1).toNat=q.length-1:=by omega
      rw[eN,av7 _ _ hne,bH (bO (by omega) (by omega))]
      rw[hk _ ⟨by simp;omega,fun _=>by simp,fun w hw=>by
       rcases List.mem_append.1 hw with hw|hw
       ·have:=hq3 w ((List.dropLast_subset _) hw);omega
       ·rw[List.mem_singleton] at hw;subst hw;simp only[List.length_append,List.length_singleton];omega⟩,hlen',YH,hpx]
     |false=>
      simp only[Bool.false_eq_true,if_false]
      rw[bH (bO (by omega) (by omega)),hsub,Option.bind_some,bH (bO (by omega) (by omega)),bH (by simp;omega)]
      simp only[Jz]
      rw[bH (bO (by omega) (by omega))]
      rw[hk _ ⟨by simp;omega,fun _=>by simp,fun w hw=>by
       rcases List.mem_append.1 hw with hw|hw
       ·have:=hq3 w hw;omega
       ·rw[List.mem_singleton] at hw;subst hw;simp⟩,hlen',YH,hpx]
    ·have hpx:xW x=false:=by simp[xW,hp]
     simp only[hp,Bool.false_eq_true,if_false]
     rw[hpx,if_pos (by simp)]
     rfl
 ·rintro c q ⟨hq1,hq2,hq3⟩
  simp only[Vu]
  rw[oU (by simp),Option.bind_some,if_neg (by simp)]
  simp only[List.length_nil,Nat.sub_zero,tk]
  unfold ZW E5
  simp only
  by_cases h64:64<q.length
  ·rw[if_pos (by simp;omega),if_pos h64]
  ·rw[if_neg (by simp;omega),if_neg h64]
/-! ### Lines -/
def oO:List UInt8→List (List UInt8)
 |[]=>[[]]
 |c::cs=>if c=10 then []::oO cs else match oO cs with|[]=>[[c]]|p::ps=>(c::p)::ps
theorem aej:∀{l:List UInt8},10∉l→oO l=[l]
 |[],_=>rfl
 |c::cs,h=>by
  have hc:¬c=10:=fun e=>h (e▸List.mem_cons_self)
  unfold oO
  rw[if_neg hc,aej (fun hm=>h (List.mem_cons_of_mem _ hm))]
theorem ath{c:UInt8}{cs:List UInt8}(h:¬c=10):oO (c::cs)=match oO cs with|[]=>[[c]]|p::ps=>(c::p)::ps:=by
 conv=>lhs;unfold oO
 rw[if_neg h]
theorem aek:∀(a b:List UInt8),10∉a→oO (a++10::b)=a::oO b
 |[],b,_=>by simp[oO]
 |c::cs,b,h=>by
  have hc:¬c=10:=fun e=>h (e▸List.mem_cons_self)
  rw[List.cons_append,ath hc,aek cs b (fun hm=>h (List.mem_cons_of_mem _ hm))]
def yR(ln:Int):List (List UInt8)→List (List Word)→(List (List Word))×Int×Int
 |[],acc=>(acc,0,0)
 |p::ps,acc=>match toks ln p with
  |none=>([],ln,2)
  |some w=>if 64<w.length then ([],ln,7) else yR (ln+1) ps (if 0<w.length then acc++[w] else acc)
def tN(l:List UInt8):(List (List Word))×Int×Int:=if 65536<l.length then ([],0,7) else yR 1 (oO l) []
theorem aia(t:Str)(number:Int)(lines:List (List Word))(hl:t.l.length≤1000000)(hn:0≤number∧number≤1000000)(hll:lines.length≤1000000):
  OL t number lines=some (match toks (number+1) t.l with
   |none=> .inr (number+1,2)
   |some w=>if 64<w.length then .inr (number+1,7) else .inl (number+1,if 0<w.length then lines++[w] else lines)):=by
 unfold OL
 rw[bH (bO (by omega) (by omega)),awq t _ hl,Option.bind_some]
 cases toks (number+1) t.l with
 |none=>rfl
 |some w=>
  have e:afC (some w)=(w,true):=rfl
  rw[e]
  dsimp only
  rw[if_neg (by simp)]
  by_cases h64:64<w.length
  ·rw[if_pos (by simp;omega),if_pos h64]
  ·rw[if_neg (by simp;omega),if_neg h64]
   by_cases h0:0<w.length
   ·rw[if_pos (by simp;omega),if_pos h0,bH (by simp;omega)]
   ·rw[if_neg (by simpa using h0),if_neg h0]
theorem asG(f:Nat)(l:List UInt8)(number:Int)(lines:List (List Word))(h:10∉l)(hl:l.length≤65536)(hn:0≤number)(hn2:number≤65536)(hll:lines.length≤1000000):
  D5 (f+1) ⟨l⟩ number lines=some (yR (number+1) [l] lines):=by
 have hb0:l.length≤1000000:=by omega
 have sp:=Oc 10 l
 unfold D5
 simp only
 rw[sp.1 h,if_pos (by simp),aia ⟨l⟩ number lines hb0 (by omega) hll,Option.bind_some]
 unfold yR
 simp only
 cases toks (number+1) l with
 |none=>rfl
 |some w=>
  simp only
  by_cases h64:64<w.length
  ·rw[if_pos h64,if_pos h64];rfl
  ·rw[if_neg h64,if_neg h64];rfl
theorem asD{k:Int→List (List Word)→Option ((List (List Word))×Int×Int)}{a:Int}{b:List (List Word)}:ad9 k (.inl (a,b))=k a b:=rfl
theorem asH(f:Nat)(l:List UInt8)(number:Int)(lines:List (List Word))(h:10∈l)(hl:l.length≤65536)(hn:0≤number)(hn2:number≤65536)(hll:lines.length≤1000000):
  D5 (f+1) ⟨l⟩ number lines=match toks (number+1) (before 10 l) with
   |none=>some ([],number+1,2)
   |some w=>if 64<w.length then some ([],number+1,7) else D5 f ⟨behind 10 l⟩ (number+1) (if 0<w.length then lines++[w] else lines):=by
 obtain⟨h1,h2⟩:=(Oc 10 l).2 h
 have hlen:l.length=(before 10 l).length+1+(behind 10 l).length:=by
  have:=congrArg List.length h2
  simp at this
  omega
 have hb1:(before 10 l).length≤1000000:=by omega
 have e0:((before 10 l).length:Int)+0=((before 10 l).length:Int):=by omega
 have s1:ji ⟨l⟩ 0 ((before 10 l).length:Int)=some ⟨before 10 l⟩:=by
  have:=aa3 (before 10 l) (10::behind 10 l)
  rwa [←h2] at this
 have s2:ji ⟨l⟩ (((before 10 l).length:Int)+(([10]:List UInt8).length:Int)) (l.length:Int)=some ⟨behind 10 l⟩:=by
  have:=aa4 (before 10 l++[10]) (behind 10 l)
  rw[List.append_assoc,List.singleton_append,←h2] at this
  simpa using this
 have hi:aX (((before 10 l).length:Int)+(([10]:List UInt8).length:Int))=true:=bO (by simp only[List.length_singleton];omega) (by simp only[List.length_singleton];omega)
 conv=>lhs;unfold D5
 simp only
 generalize ([10]:List UInt8).length=ten at s2 hi ⊢
 rw[h1,if_neg (by simp),e0,bH (bO (by omega) (by omega)),s1,Option.bind_some,aia ⟨before 10 l⟩ number lines hb1 (by omega) hll,Option.bind_some]
 cases toks (number+1) (before 10 l) with
 |none=>rfl
 |some w=>
  simp only
  by_cases h64:64<w.length
  ·rw[if_pos h64,if_pos h64];rfl
  ·rw[if_neg h64,if_neg h64]
   rw[asD]
   rw[bH hi,s2,Option.bind_some]
theorem asF:∀(f:Nat) (s:Str) (number:Int) (lines:List (List Word)),s.l.length<f→s.l.length≤65536→0≤number→number+s.l.length≤65536→(lines.length:Int)≤number→
  D5 f s number lines=some (yR (number+1) (oO s.l) lines):=by
 intro f
 induction f with
 |zero=>intro s number lines h;omega
 |succ f ih=>
  rintro⟨l⟩ number lines hf hl hn hn2 hll
  simp only at hf hl hn2 ⊢
  by_cases h:10∈l
  ·obtain⟨h1,h2⟩:=(Oc 10 l).2 h
   have hlen:l.length=(before 10 l).length+1+(behind 10 l).length:=by
    have:=congrArg List.length h2
    simp at this
    omega
   have e3:oO l=before 10 l::oO (behind 10 l):=by
    have:=aek (before 10 l) (behind 10 l) (XV 10 l)
    rwa [←h2] at this
   have hb2:(behind 10 l).length<f:=by omega
   have hb3:(behind 10 l).length≤65536:=by omega
   have hb4:number+1+((behind 10 l).length:Int)≤65536:=by omega
   have h5:=fun lines' h6=>ih ⟨behind 10 l⟩ (number+1) lines' hb2 hb3 (by omega) hb4 h6
   rw[asH f l number lines h hl hn (by omega) (by omega),e3]
   conv=>rhs;unfold yR
   cases toks (number+1) (before 10 l) with
   |none=>rfl
   |some w=>
    simp only
    by_cases h64:64<w.length
    ·rw[if_pos h64,if_pos h64]
    ·rw[if_neg h64,if_neg h64]
     exact h5 _ (by split<;>first|omega|(simp;omega))
  ·rw[aej h]
   exact asG f l number lines h hl hn (by omega) (by omega)
theorem asI(s:Str):Xd s=some (tN s.l):=by
 unfold Xd tN
 by_cases h:65536<s.l.length
 ·rw[if_pos (by simp;omega),if_pos h]
 ·rw[if_neg (by simp;omega),if_neg h]
  exact asF FUEL s 0 [] (fD (by omega)) (by omega) (by omega) (by omega) (by simp)
/-! ### The reference's -/
theorem aj9(l:List UInt8)(hl:l.length≤65536)(i:Int)(line:Nat)(out:List (List Word))(c:((List (List Word))×Nat×Int)→Option ((List (List Word))×Int×Int)):
  ∀(n j:Nat),j≤l.length→l.length-j<n→iter (Vm ⟨l⟩ i line out c) n (j:Int)=ZQ ⟨l⟩ i ((j+(before 10 (l.drop j)).length:Nat):Int) line out c ()
 |0,_,_,h=>by omega
 |n+1,j,hj,hn=>by
  show Vm ⟨l⟩ i line out c (iter _ n) (j:Int)=_
  simp only[Vm]
  by_cases hlt:j<l.length
  ·have hd:l.drop j=l[j]::l.drop (j+1):=List.drop_eq_getElem_cons hlt
   have hg:l[j]?=some l[j]:=List.getElem?_eq_getElem hlt
   rw[jP (by simp;omega),Dr hg,Option.bind_some,hd]
   generalize l[j]=x at hd
   by_cases hx:x=10
   ·subst hx
    rw[if_neg (by simp)]
    simp[before]
   ·have hxn:¬x.toNat=10:=fun hh=>hx (UInt8.toNat_inj.1 hh)
    rw[if_pos (by simp;omega),bH (bO (by omega) (by omega))]
    have e:((j:Int)+1)=((j+1:Nat):Int):=by omega
    rw[e,aj9 l hl i line out c n (j+1) (by omega) (by omega)]
    have eb:before 10 (x::l.drop (j+1))=x::before 10 (l.drop (j+1)):=by simp[before,hx]
    rw[eb]
    simp only[List.length_cons]
    have:j+1+(before 10 (l.drop (j+1))).length=j+((before 10 (l.drop (j+1))).length+1):=by omega
    rw[this]
  ·have hd:l.drop j=[]:=List.drop_of_length_le (by omega)
   rw[oU (by simp;omega),Option.bind_some,if_neg (by simp;omega),hd]
   simp[before]
def aax(l:List UInt8)(line:Nat)(i:Nat)(out:List (List Word)):(List (List Word))×Int×Int:=
 if i≤l.length then yR (line:Int) (oO (l.drop i)) out else (out,0,0)
theorem akb (l : List UInt8) (hl : l.length ≤ 65536) : ∀ (n : Nat) (out : List (List Word)) (line i : Nat), i ≤ l.length + 1 → l.length + 1 - i < n → line ≤ i + 1 → out.length ≤ i →
  iter (PW ⟨l⟩) n (out, line, (i : Int)) = some (aax l line i out)
 | 0, _, _, _, _, h, _, _ => by omega
 | n + 1, out, line, i, hi, hn, axx, hout => by
  show PW ⟨l⟩ (iter _ n) (out, line, (i : Int)) = _
  simp only [PW]
  unfold aax
  by_cases hlt : i < l.length
  ·rw [if_pos (by simp; omega), if_pos (by omega), aj9 l hl _ _ _ _ FUEL i (by omega) (fD (by omega))]
   have hmem := Oc 10 (l.drop i)
   -- the piece
   have hpre : ∃ r, l.drop i = before 10 (l.drop i) ++ r := ⟨_, (List.takeWhile_append_dropWhile (p := fun b => b != (10 : UInt8)) (l := l.drop i)).symm⟩
   obtain ⟨r0, hr0⟩ := hpre
   have apF : (before 10 (l.drop i)).length ≤ l.length - i := by
    have := congrArg List.length hr0
    simp at this
    omega
   have hsub : ji ⟨l⟩ (i : Int) ((i + (before 10 (l.drop i)).length : Nat) : Int) = some ⟨before 10 (l.drop i)⟩ := by
    unfold ji
    rw [if_pos ⟨by omega, by omega, by simp; omega⟩]
    simp only [Int.toNat_natCast, Option.some.injEq, Str.mk.injEq]
    rw [List.drop_take]
    have : i + (before 10 (l.drop i)).length - i = (before 10 (l.drop i)).length := by omega
    rw [this]
    have h9 := List.take_left (l₁ := before 10 (l.drop i)) (l₂ := r0)
    rw [← hr0] at h9
    exact h9
   have hsp : (oO (l.drop i) = before 10 (l.drop i) :: (if i + (before 10 (l.drop i)).length < l.length then oO (l.drop (i + (before 10 (l.drop i)).length + 1)) else [])) := by
    by_cases h10 : 10 ∈ l.drop i
    ·obtain ⟨_, h2⟩ := hmem.2 h10
     have hlen : l.length - i = (before 10 (l.drop i)).length + 1 + (behind 10 (l.drop i)).length := by
      have := congrArg List.length h2
      simp at this
      omega
     rw [if_pos (by omega)]
     have e1 := aek (before 10 (l.drop i)) (behind 10 (l.drop i)) (XV 10 _)
     rw [← h2] at e1
     rw [e1]
     congr 2
     have e2 : l.drop (i + (before 10 (l.drop i)).length + 1) = (l.drop i).drop ((before 10 (l.drop i)).length + 1) := by rw [List.drop_drop]; congr 1
     rw [e2]
     have h9 := List.drop_left (l₁ := before 10 (l.drop i) ++ [10]) (l₂ := behind 10 (l.drop i))
     rw [List.append_assoc, List.singleton_append, ← h2, List.length_append, List.length_singleton] at h9
     exact h9.symm
    ·rw [aej h10, abP h10]
     rw [if_neg (by simp; omega)]
   unfold ZQ
   rw [hsub, Option.bind_some, atu _ _ (by simp; omega), Option.bind_some, hsp]
   unfold yR
   simp only
   cases toks (line : Int) (before 10 (l.drop i)) with
   | none => rfl
   | some w =>
    by_cases h64 : 64 < w.length
    ·have e : E5 (some w) = ([], 7) := by unfold E5; simp only; rw [if_pos h64]
     generalize E5 (some w) = z at e
     subst e
     rw [if_pos (by simp)]
     simp only
     rw [if_pos h64]
    ·have e : E5 (some w) = (w, 0) := by unfold E5; simp only; rw [if_neg h64]
     generalize E5 (some w) = z at e
     subst e
     rw [if_neg (by simp)]
     simp only
     rw [if_neg h64]
     generalize (before 10 (l.drop i)).length = k at apF
     have fin : ∀ out' : List (List Word), out'.length ≤ i + 1 → PX ((i + k : Nat) : Int) line (iter (PW ⟨l⟩) n) out' = some (yR ((line : Int) + 1) (if i + k < l.length then oO (l.drop (i + k + 1)) else []) out') := by
      intro out' ho
      unfold PX aeP
      have e : (((i + k : Nat) : Int) + 1) = ((i + k + 1 : Nat) : Int) := by omega
      have e' : ((line : Int) + 1) = ((line + 1 : Nat) : Int) := by omega
      rw [bH (bO (by omega) (by omega)), bH (bO (by omega) (by omega)), e, akb l hl n out' (line + 1) (i + k + 1) (by omega) (by omega) (by omega) (by omega), e']
      unfold aax
      by_cases hk : i + k < l.length
      ·rw [if_pos (by omega), if_pos hk]
      ·rw [if_neg (by omega), if_neg hk]; rfl
     by_cases h0 : 0 < w.length
     ·rw [if_pos (by simp; omega), if_pos h0, bH (by simp; omega), fin _ (by simp; omega)]
     ·rw [if_neg (by simpa using h0), if_neg h0, fin _ (by omega)]
  ·rw [if_neg (by simp; omega)]
   by_cases he : i ≤ l.length
   ·rw [if_pos he]
    have : l.drop i = [] := List.drop_of_length_le (by omega)
    rw [this]
    rfl
   ·rw [if_neg he]; rfl
theorem au5(s:Str):PY s=some (tN s.l):=by
 unfold PY tN
 obtain⟨l⟩:=s
 simp only
 by_cases h:65536<l.length
 ·rw[if_pos (by simp;omega),if_pos h]
 ·rw[if_neg (by simp;omega),if_neg h]
  have:=akb l (by omega) FUEL [] 1 0 (by omega) (fD (by omega)) (by omega) (by simp)
  simp only[aax,Nat.zero_le,if_true,List.drop_zero] at this
  exact this
/-! ### Comparing -/
theorem ati(l:List UInt8):(oO l).length≤l.length+1:=by
 induction l with
 |nil=>simp[oO]
 |cons c cs ih=>
  unfold oO
  split
  ·simp;omega
  ·cases h:oO cs with
   |nil=>simp
   |cons p ps=>rw[h] at ih;simp at ih ⊢;omega
theorem aij:∀(ps:List (List UInt8)) (ln:Int) (acc:List (List Word)),(∀w∈acc,w.length≤64)→(yR ln ps acc).1.length≤acc.length+ps.length∧∀w∈(yR ln ps acc).1,w.length≤64
 |[],ln,acc,h=>⟨by simp[yR],h⟩
 |p::ps,ln,acc,h=>by
  unfold yR
  cases toks ln p with
  |none=>simp
  |some w=>
   simp only
   by_cases h64:64<w.length
   ·rw[if_pos h64];simp
   ·rw[if_neg h64]
    have:=aij ps (ln+1) (if 0<w.length then acc++[w] else acc) (by
     intro v hv
     split at hv
     ·rcases List.mem_append.1 hv with hv|hv
      ·exact h v hv
      ·rw[List.mem_singleton] at hv;subst hv;omega
     ·exact h v hv)
    refine⟨?_,this.2⟩
    have h1:=this.1
    have h2:(if 0<w.length then acc++[w] else acc).length≤acc.length+1:=by split<;>simp
    simp only[List.length_cons]
    omega
theorem aic(l:List UInt8):(tN l).1.length≤1000000∧∀w∈(tN l).1,w.length≤64:=by
 unfold tN
 by_cases h:65536<l.length
 ·rw[if_pos h];simp
 ·rw[if_neg h]
  have:=aij (oO l) 1 [] (by simp)
  have h2:=ati l
  refine⟨?_,this.2⟩
  have:=this.1
  simp at this
  omega
set_option maxRecDepth 10000
def FJ(s:Str):Bool:=decide (s.l≠[])&&s.l.all xW
def mo:Bool→List Str→List UInt8
 |_,[]=>[]
 |f,s::r=>(if f then [] else [32])++s.l++mo false r
def J5(w:List Str):Nat:=(w.map (fun s=>s.l.length+1)).sum
def QN(l:List (List Str)):Nat:=(l.map (fun w=>J5 w+1)).sum
theorem alh(s:Str)(w:List Str):J5 (s::w)=s.l.length+1+J5 w:=by simp[J5]
theorem alg(w:List Str)(l:List (List Str)):QN (w::l)=J5 w+1+QN l:=by simp[QN]
theorem als(f:Bool)(w:List Str):(mo f w).length≤J5 w:=by
 induction w generalizing f with
 |nil=>simp[mo]
 |cons s w ih=>
  rw[alh]
  have:=ih false
  simp only[mo,List.length_append]
  cases f<;>simp<;>omega
theorem abU(a b:List UInt8)(h:a.length+b.length≤100000000000000):dM ⟨a⟩ ⟨b⟩=some ⟨a++b⟩:=by
 unfold dM
 rw[if_pos (by simp only;omega)]
def tK:List (List Str)→List UInt8
 |[]=>[]
 |w::r=>mo true w++10::tK r
theorem ahP:∀(l:List (List Str)),(tK l).length≤QN l
 |[]=>by simp[tK]
 |w::r=>by
  have h1:=als true w
  have h2:=ahP r
  rw[alg]
  simp only[tK,List.length_append,List.length_cons]
  omega
def EJ(x:UInt8):Bool:=decide (48≤x.toNat)&&decide (x.toNat≤57)
theorem arO(x:UInt8):Nw (x.toNat:Int)=some (EJ x):=by
 have key:∀k:Fin 256,Nw (k.val:Int)=some (decide (48≤k.val)&&decide (k.val≤57)):=by decide+kernel
 exact key ⟨x.toNat,x.toNat_lt⟩
theorem anb(x:UInt8):MN (x.toNat:Int)=some (EJ x):=by
 have key:∀k:Fin 256,MN (k.val:Int)=some (decide (48≤k.val)&&decide (k.val≤57)):=by decide+kernel
 exact key ⟨x.toNat,x.toNat_lt⟩
def Ga(m:Nat)(s:List UInt8):List UInt8:=if m=0 then s else Ga (m / 10) (UInt8.ofNat (48+m % 10)::s)
termination_by m
decreasing_by omega
theorem Yb(s:List UInt8):Ga 0 s=s:=by unfold Ga;rfl
theorem ab0{m:Nat}(h:0<m)(s:List UInt8):Ga m s=Ga (m / 10) (UInt8.ofNat (48+m % 10)::s):=by
 conv=>lhs;unfold Ga
 rw[if_neg (by omega)]
theorem abZ:∀(k m:Nat) (s:List UInt8),m<10 ^ k→(Ga m s).length≤s.length+k
 |0,m,s,h=>by
  have:m=0:=by simpa using h
  subst this
  rw[Yb];omega
 |k+1,m,s,h=>by
  by_cases h0:m=0
  ·subst h0;rw[Yb];omega
  ·rw[ab0 (by omega)]
   have:=abZ k (m / 10) (UInt8.ofNat (48+m % 10)::s) (by rw[Nat.pow_succ] at h;omega)
   simp only[List.length_cons] at this
   omega
/-! ### The reference's Decimal -/
theorem ane(d:Nat)(h:d<10):ji (⟨[48,49,50,51,52,53,54,55,56,57]⟩:Str) (d:Int) ((d:Int)+1)=some ⟨[UInt8.ofNat (48+d)]⟩:=by
 have key:∀k:Fin 10,ji (⟨[48,49,50,51,52,53,54,55,56,57]⟩:Str) (k.val:Int) ((k.val:Int)+1)=some ⟨[UInt8.ofNat (48+k.val)]⟩:=by decide+kernel
 exact key ⟨d,h⟩
theorem ab1(s:List UInt8)(z:Int)(d:Nat)(hd:d<10)(hs:s.length≤100)(hz: -9223372036854775808≤z.tdiv 10∧z.tdiv 10≤9223372036854775807)(c:(Int×Str)→Option Str):
  PS ⟨s⟩ z c (d:Int)=c (z.tdiv 10,⟨UInt8.ofNat (48+d)::s⟩):=by
 unfold PS
 have c1:dM ⟨[UInt8.ofNat (48+d)]⟩ ⟨s⟩=some ⟨UInt8.ofNat (48+d)::s⟩:=by
  unfold dM
  rw[if_pos (by simp only[List.length_singleton];omega)]
  rfl
 rw[bH (bO (by omega) (by omega)),ane d hd,Option.bind_some,c1,Option.bind_some,bH (by rw[bO hz.1 hz.2];rfl)]
theorem ana(n0:Int)(neg:Bool):∀(n m:Nat) (s:List UInt8),m<n→m*10 ^ s.length≤9223372036854775808→s.length≤19→
  iter (PO n0) n (if neg then-(m:Int) else (m:Int),⟨s⟩)=ZO n0 ⟨Ga m s⟩ ():=by
 intro n
 induction n with
 |zero=>intro m s h;omega
 |succ n ih=>
  intro m s hm hp hs
  show PO n0 (iter (PO n0) n) (if neg then-(m:Int) else (m:Int),⟨s⟩)=_
  simp only[PO]
  by_cases h0:m=0
  ·subst h0
   rw[if_neg (by cases neg<;>simp),Yb]
  ·rw[if_pos (by cases neg<;>simp<;>omega),ab0 (by omega)]
   have axA:s.length≤18:=by
    refine Nat.le_of_lt_succ (Nat.lt_of_not_le fun h19=>?_)
    have h1:(10:Nat) ^ 19≤10 ^ s.length:=Nat.pow_le_pow_right (by omega) h19
    have h2:1*10 ^ s.length≤m*10 ^ s.length:=Nat.mul_le_mul_right _ (by omega)
    have h3:(10:Nat) ^ 19=10000000000000000000:=by decide
    omega
   have hm63:m≤9223372036854775808:=by
    have h1:m*1≤m*10 ^ s.length:=Nat.mul_le_mul_left _ (Nat.pos_of_ne_zero (by simp))
    omega
   have hp':m / 10*10 ^ (s.length+1)≤9223372036854775808:=by
    have h1:m / 10*10 ^ (s.length+1)=m / 10*10*10 ^ s.length:=by rw[Nat.pow_succ,Nat.mul_comm (10 ^ s.length) 10,Nat.mul_assoc]
    have h2:m / 10*10*10 ^ s.length≤m*10 ^ s.length:=Nat.mul_le_mul_right _ (by omega)
    omega
   have hd:m % 10<10:=by omega
   have goal:=ih (m / 10) (UInt8.ofNat (48+m % 10)::s) (by omega) (by simpa using hp') (by simp only[List.length_cons];omega)
   cases neg with
   |true=>
    simp only[if_true] at goal ⊢
    have e1:(-(m:Int)).tmod 10= -((m % 10:Nat):Int):=by rw[Int.neg_tmod,Int.tmod_eq_emod_of_nonneg (by omega)];omega
    have e2:(-(m:Int)).tdiv 10= -((m / 10:Nat):Int):=by rw[Int.neg_tdiv,Int.tdiv_eq_ediv_of_nonneg (by omega)];omega
    rw[e1]
    by_cases hr:m % 10=0
    ·rw[if_neg (by rw[hr];simp)]
     have e3:(-((m % 10:Nat):Int))=((m % 10:Nat):Int):=by rw[hr];rfl
     rw[e3,ab1 s _ (m % 10) hd (by omega) (by rw[e2];omega),e2,goal]
    ·rw[if_pos (by simp;omega),Int.neg_neg,bH (bO (by omega) (by omega)),ab1 s _ (m % 10) hd (by omega) (by rw[e2];omega),e2,goal]
   |false=>
    simp only[Bool.false_eq_true,if_false] at goal ⊢
    have e1:((m:Int)).tmod 10=((m % 10:Nat):Int):=by rw[Int.tmod_eq_emod_of_nonneg (by omega)];omega
    have e2:((m:Int)).tdiv 10=((m / 10:Nat):Int):=by rw[Int.tdiv_eq_ediv_of_nonneg (by omega)];omega
    rw[e1,if_neg (by simp;omega),ab1 s _ (m % 10) hd (by omega) (by rw[e2];omega),e2,goal]
/-! ### Number -/
theorem am3(D:List UInt8):Hf ⟨45::D⟩ ⟨[45]⟩=some (⟨D⟩,true):=by
 unfold Hf WR WS
 have h1:ji ⟨45::D⟩ 0 ((([45]:List UInt8).length:Nat):Int)=some ⟨[45]⟩:=aa3 [45] D
 have h2:ji ⟨45::D⟩ ((([45]:List UInt8).length:Nat):Int) (((45::D).length:Nat):Int)=some ⟨D⟩:=aa4 [45] D
 have e:decide (((([45]:List UInt8).length:Nat):Int)≤(((45::D).length:Nat):Int))=true:=by simp;omega
 simp only
 rw[h1,h2,e,jP rfl,Option.bind_some,Option.bind_some]
 simp
theorem am5(c:UInt8)(D:List UInt8)(hc:c.toNat≠45):Hf ⟨c::D⟩ ⟨[45]⟩=some (⟨c::D⟩,false):=by
 unfold Hf WR WS
 have h1:ji ⟨c::D⟩ 0 ((([45]:List UInt8).length:Nat):Int)=some ⟨[c]⟩:=aa3 [c] D
 have e:decide (((([45]:List UInt8).length:Nat):Int)≤(((c::D).length:Nat):Int))=true:=by simp;omega
 have hne:¬c=45:=fun h=>hc (by rw[h];rfl)
 simp only
 rw[h1,e,jP rfl,Option.bind_some,Option.bind_some]
 simp[hne]
theorem agW(c:UInt8)(h:EJ c=true):IntKind.i64.wrap (IntKind.u8.wrap ((c.toNat:Int)-48))=((c.toNat-48:Nat):Int):=by
 have key:∀k:Fin 10,IntKind.i64.wrap (IntKind.u8.wrap (((48+k.val:Nat):Int)-48))=(k.val:Int):=by decide+kernel
 unfold EJ at h
 simp only[Bool.and_eq_true,decide_eq_true_eq] at h
 have:=key ⟨c.toNat-48,by omega⟩
 simp only at this
 rwa [show 48+(c.toNat-48)=c.toNat by omega] at this
def xg:List UInt8→Nat→Option Nat
 |[],n=>some n
 |c::cs,n=>if EJ c then xg cs (10*n+(c.toNat-48)) else none
def Cw(neg:Bool)(r:Option Nat):Int×Bool:=
 match r with
 |none=>(0,false)
 |some v=>if 1099511627776<v then (0,false) else (if neg then-(v:Int) else (v:Int),true)
def EY(neg:Bool):List UInt8→Int×Bool
 |[]=>(0,false)
 |c::r=>if c.toNat=48∧(neg=true∨r≠[]) then (0,false) else Cw neg (xg (c::r) 0)
def gJ:List UInt8→Int×Bool
 |[]=>(0,false)
 |c::r=>if c.toNat=45 then EY true r else EY false (c::r)
theorem afQ:∀(l:List UInt8) (n v:Nat),xg l n=some v→n*10 ^ l.length≤v
 |[],n,v,h=>by
  simp only[xg,Option.some.injEq] at h
  subst h
  simp
 |c::cs,n,v,h=>by
  simp only[xg] at h
  split at h
  ·have:=afQ cs _ v h
   have e:n*10 ^ (c::cs).length≤(10*n+(c.toNat-48))*10 ^ cs.length:=by
    rw[List.length_cons,Nat.pow_succ]
    have:n*(10 ^ cs.length*10)=10*n*10 ^ cs.length:=by
     rw[Nat.mul_comm (10 ^ cs.length) 10,←Nat.mul_assoc,Nat.mul_comm n 10]
    rw[this]
    exact Nat.mul_le_mul_right _ (by omega)
   omega
  ·cases h
theorem atp(D:List UInt8)(neg:Bool)(hl:D.length≤1000000000000):iter (QX (⟨D⟩,neg)) FUEL (0,0)=some (Cw neg (xg D 0)):=by
 have:=jF (B:=QX (⟨D⟩,neg)) (fun (q:Nat) i=>((q:Int),i)) D (fun q _=>q≤1099511627776) (fun q r=>some (Cw neg (xg r q))) ?_ ?_ FUEL 0 0 (by omega) (by omega) (fD (by omega))
 ·simpa using this
 ·intro c q i x r hq hdr hi hx hk
  have hxi:=YX hx
  simp only[QX]
  rw[if_pos (by simp<;>omega),Dr (s:=⟨D⟩) hxi,Option.bind_some,arO,Option.bind_some]
  unfold xg
  cases hxd:EJ x with
  |false=>simp[Cw]
  |true=>
   have hw:=agW x hxd
   have hxb:x.toNat-48≤9:=by
    unfold EJ at hxd
    simp only[Bool.and_eq_true,decide_eq_true_eq] at hxd
    omega
   rw[if_neg (by simp),bH (bO (by omega) (by omega)),Option.bind_some,hw,bH (bO (by omega) (by omega)),if_pos rfl]
   by_cases h:1099511627776<10*q+(x.toNat-48)
   ·rw[if_pos (by simp<;>omega)]
    cases hv:xg r (10*q+(x.toNat-48)) with
    |none=>rfl
    |some v=>
     have h1:=afQ _ _ _ hv
     have h2:1≤10 ^ r.length:=Nat.one_le_pow _ _ (by omega)
     have h3:(10*q+(x.toNat-48))*1≤(10*q+(x.toNat-48))*10 ^ r.length:=Nat.mul_le_mul_left _ h2
     unfold Cw
     simp only
     rw[if_pos (by omega)]
   ·rw[if_neg (by simp<;>omega)]
    have e:10*(q:Int)+((x.toNat-48:Nat):Int)=((10*q+(x.toNat-48):Nat):Int):=by omega
    rw[e,hk _ (by omega)]
 ·intro c q hq
  simp only[QX]
  rw[if_neg (by simp)]
  unfold afS Xf xg Cw
  have hq':¬1099511627776<q:=by omega
  cases neg with
  |true=>
   simp only
   rw[if_pos trivial,bH (bO (by omega) (by omega)),if_neg hq',if_pos trivial]
  |false=>
   simp only
   rw[if_neg (by simp),if_neg hq',if_neg (by simp)]
theorem aem(D:List UInt8)(neg:Bool)(s:Str)(hc:Hf s ⟨[45]⟩=some (⟨D⟩,neg))(hl:D.length≤1000000000000):Hy s=some (EY neg D):=by
 unfold Hy
 rw[hc,Option.bind_some]
 simp only
 cases D with
 |nil=>simp[dH,EY]
 |cons c r=>
  have hb0:kD ⟨c::r⟩ 0=some (c.toNat:Int):=Dr (i:=0) (s:=⟨c::r⟩) rfl
  have d0:decide ((⟨c::r⟩:Str)=⟨[]⟩)=false:=by simp
  rw[d0,Bool.not_false,jP rfl,hb0,Option.bind_some,Bool.false_or]
  by_cases hz:c.toNat=48∧(neg=true∨r≠[])
  ·rw[if_pos]
   ·simp[EY,hz]
   ·obtain⟨h1,h2⟩:=hz
    have:decide ((c.toNat:Int)=48)=true:=by simp;omega
    rw[this,Bool.true_and]
    rcases h2 with h2|h2
    ·simp[h2]
    ·have:0<r.length:=List.length_pos_iff.2 h2
     simp only[List.length_cons,Bool.or_eq_true,decide_eq_true_eq]
     right;omega
  ·rw[if_neg]
   ·rw[bH (by simp only[decide_eq_true_eq,List.length_cons] at hl ⊢;omega),atp _ _ hl]
    simp only[EY]
    rw[if_neg hz]
   ·intro h
    simp only[Bool.and_eq_true,Bool.or_eq_true,decide_eq_true_eq,List.length_cons] at h
    refine hz ⟨by omega,?_⟩
    rcases h.2 with h2|h2
    ·exact .inl h2
    ·right;intro hr;subst hr;simp at h2
theorem am4:Hf ⟨[]⟩ ⟨[45]⟩=some (⟨[]⟩,false):=by decide+kernel
theorem OX(s:Str)(hl:s.l.length≤1000000000000):Hy s=some (gJ s.l):=by
 obtain⟨l⟩:=s
 cases l with
 |nil=>exact aem [] false _ am4 (by simp)
 |cons c r=>
  simp only[List.length_cons] at hl
  by_cases hc:c.toNat=45
  ·have:c=45:=by
    apply UInt8.toNat_inj.1;rw[hc];rfl
   subst this
   rw[aem r true _ (am3 r) (by omega)]
   rfl
  ·rw[aem (c::r) false _ (am5 c r hc) (by simp<;>omega)]
   simp only[gJ]
   rw[if_neg hc]
/-! ### The reference -/
theorem avl(D:List UInt8)(neg:Bool)(hl:D.length≤13):iter (PZ ⟨D⟩ (if neg then-1 else 1)) FUEL (0,0)=some (Cw neg (xg D 0)):=by
 have:=jF (B:=PZ ⟨D⟩ (if neg then-1 else 1)) (fun (q:Nat) i=>((q:Int),i)) D (fun q i=>i≤13∧q<10 ^ i) (fun q r=>some (Cw neg (xg r q))) ?_ ?_ FUEL 0 0 (by simp) (by omega) (fD (by omega))
 ·simpa using this
 ·rintro c q i x r ⟨ac0,hq⟩ hdr hi hx hk
  have hxi:=YX hx
  simp only[PZ]
  rw[if_pos (by simp<;>omega),Dr (s:=⟨D⟩) hxi,Option.bind_some,anb,Option.bind_some]
  unfold xg
  cases hxd:EJ x with
  |false=>simp[Cw]
  |true=>
   have hw:=agW x hxd
   have hxb:x.toNat-48≤9:=by
    unfold EJ at hxd
    simp only[Bool.and_eq_true,decide_eq_true_eq] at hxd
    omega
   have hp:(10:Nat) ^ i≤10 ^ 13:=Nat.pow_le_pow_right (by omega) ac0
   have ahB:(10:Nat) ^ 13=10000000000000:=by decide
   rw[if_neg (by simp),bH (bO (by omega) (by omega)),Option.bind_some,hw,bH (bO (by omega) (by omega)),bH (bO (by omega) (by omega)),if_pos rfl]
   have e:10*(q:Int)+((x.toNat-48:Nat):Int)=((10*q+(x.toNat-48):Nat):Int):=by omega
   rw[e,hk _ ⟨by omega,by rw[Nat.pow_succ];omega⟩]
 ·rintro c q ⟨ac0,hq⟩
  have hp:(10:Nat) ^ D.length≤10 ^ 13:=Nat.pow_le_pow_right (by omega) ac0
  have ahB:(10:Nat) ^ 13=10000000000000:=by decide
  simp only[PZ]
  rw[if_neg (by simp)]
  unfold aeR xg Cw
  simp only
  by_cases hb:1099511627776<q
  ·rw[if_pos (by simp<;>omega),if_pos hb]
  ·rw[if_neg (by simp<;>omega),if_neg hb]
   cases neg with
   |true=>rw[bH (bO (by simp<;>omega) (by simp<;>omega))];simp
   |false=>rw[bH (bO (by simp<;>omega) (by simp<;>omega))];simp
theorem awZ(c:UInt8)(r:List UInt8)(hc:c.toNat≠48)(hl:13≤r.length)(neg:Bool):Cw neg (xg (c::r) 0)=(0,false):=by
 cases hv:xg (c::r) 0 with
 |none=>rfl
 |some v=>
  simp only[xg] at hv
  split at hv
  ·rename_i hd
   unfold EJ at hd
   simp only[Bool.and_eq_true,decide_eq_true_eq] at hd
   have h1:=afQ _ _ _ hv
   have h2:(10:Nat) ^ 13≤10 ^ r.length:=Nat.pow_le_pow_right (by omega) hl
   have ahB:(10:Nat) ^ 13=10000000000000:=by decide
   have h3:1*10 ^ r.length≤(10*0+(c.toNat-48))*10 ^ r.length:=Nat.mul_le_mul_right _ (by omega)
   unfold Cw
   simp only
   rw[if_pos (by omega)]
  ·cases hv
theorem afl(D:List UInt8)(neg:Bool):P5 (⟨D⟩,if neg then-1 else 1)=some (EY neg D):=by
 unfold P5
 simp only
 cases D with
 |nil=>rfl
 |cons c r=>
  have hb0:kD ⟨c::r⟩ 0=some (c.toNat:Int):=Dr (i:=0) (s:=⟨c::r⟩) rfl
  have hsg:decide ((if neg then (-1:Int) else 1)<0)=neg:=by cases neg<;>rfl
  by_cases hl:r.length+1≤13
  ·have e:(decide (((c::r).length:Int)<1)||decide (13<((c::r).length:Int)))=false:=by simp;omega
   rw[e,Bool.not_false,jP rfl,hb0,Option.bind_some,Bool.false_or,hsg]
   by_cases hz:c.toNat=48∧(neg=true∨r≠[])
   ·rw[if_pos]
    ·simp only[EY];rw[if_pos hz]
    ·obtain⟨h1,h2⟩:=hz
     have:decide ((c.toNat:Int)=48)=true:=by simp;omega
     rw[this,Bool.true_and]
     rcases h2 with h2|h2
     ·simp[h2]
     ·have:0<r.length:=List.length_pos_iff.2 h2
      simp only[List.length_cons,Bool.or_eq_true,decide_eq_true_eq]
      left;omega
   ·rw[if_neg]
    ·rw[avl _ _ (by simp only[List.length_cons];omega)]
     simp only[EY]
     rw[if_neg hz]
    ·intro h
     simp only[Bool.and_eq_true,Bool.or_eq_true,decide_eq_true_eq,List.length_cons] at h
     refine hz ⟨by omega,?_⟩
     rcases h.2 with h2|h2
     ·right;intro hr;subst hr;simp at h2
     ·exact .inl h2
  ·have e:(decide (((c::r).length:Int)<1)||decide (13<((c::r).length:Int)))=true:=by simp;omega
   rw[e,Bool.not_true,oU rfl,Option.bind_some,Bool.true_or,if_pos rfl]
   simp only[EY]
   split
   ·rfl
   ·rename_i hz
    rw[awZ c r _ (by omega)]
    intro h48
    exact hz ⟨h48,.inr (fun h=>by subst h;simp at hl)⟩
theorem Br(s:Str):tT s=some (gJ s.l):=by
 obtain⟨l⟩:=s
 unfold tT
 simp only
 cases l with
 |nil=>
  rw[oU (by rfl),Option.bind_some,if_neg (by simp)]
  exact afl [] false
 |cons c r=>
  have hb0:kD ⟨c::r⟩ 0=some (c.toNat:Int):=Dr (i:=0) (s:=⟨c::r⟩) rfl
  have e:decide (0<(((c::r).length:Nat):Int))=true:=by simp
  rw[e,jP rfl,hb0,Option.bind_some,Bool.true_and]
  by_cases hc:c.toNat=45
  ·have hs:ji ⟨c::r⟩ 1 (((c::r).length:Nat):Int)=some ⟨r⟩:=aa4 [c] r
   rw[if_pos (by simp<;>omega),hs,Option.bind_some]
   simp only[gJ]
   rw[if_pos hc]
   exact afl r true
  ·rw[if_neg (by simp<;>omega)]
   simp only[gJ]
   rw[if_neg hc]
   exact afl (c::r) false
/-! ### Ranges -/
def ZH(a b:Int×Bool):Int×Int×Bool:=if a.2=true∧b.2=true∧a.1≤b.1 then (a.1,b.1,true) else (0,0,false)
def Ab(l:List UInt8):Int×Int×Bool:=
 if 0≤Lib.index l [46,46] then ZH (gJ (l.take (Lib.index l [46,46]).toNat)) (gJ (l.drop ((Lib.index l [46,46]).toNat+2))) else (0,0,false)
theorem aeK(a b:Int×Bool):(if (((!a.2)||(!b.2))||decide (b.1<a.1)) then (some (0,0,false):Option (Int×Int×Bool)) else some (a.1,b.1,true))=some (ZH a b):=by
 unfold ZH
 by_cases h:a.2=true∧b.2=true∧a.1≤b.1
 ·rw[if_pos h,if_neg]
  obtain⟨h1,h2,h3⟩:=h
  simp[h1,h2];omega
 ·rw[if_neg h,if_pos]
  simp only[Bool.or_eq_true,Bool.not_eq_true',decide_eq_true_eq]
  by_cases h1:a.2=true
  ·by_cases h2:b.2=true
   ·right
    have:¬a.1≤b.1:=fun h3=>h ⟨h1,h2,h3⟩
    omega
   ·left;right;simpa using h2
  ·left;left;simpa using h1
theorem auz(s:Str)(hl:s.l.length≤1000000000):Xg s=some (Ab s.l):=by
 obtain⟨l⟩:=s
 simp only at hl
 unfold Xg aa0
 simp only
 rw[if_pos (by omega),Option.bind_some]
 simp only
 by_cases hi:0≤Lib.index l [46,46]
 ·have hcut:Lib.cut l [46,46]=(l.take (Lib.index l [46,46]).toNat,l.drop ((Lib.index l [46,46]).toNat+2),true):=by
   unfold Lib.cut;rw[if_pos hi];rfl
  rw[hcut]
  simp only
  rw[OX _ (by simp only[List.length_take];omega),Option.bind_some,OX _ (by simp only[List.length_drop];omega),Option.bind_some,aeK]
  unfold Ab
  rw[if_pos hi]
 ·have hcut:Lib.cut l [46,46]=(l,[],false):=by
   unfold Lib.cut;rw[if_neg hi]
  rw[hcut]
  simp only
  rw[OX _ (by simp only;omega),Option.bind_some,OX _ (by simp),Option.bind_some,aeK]
  unfold Ab ZH
  rw[if_neg hi]
  simp[gJ]
theorem aiB(l:List UInt8)(i:Nat):Lib.occAt l [46,46] i=true↔l[i]?=some 46∧l[i+1]?=some 46:=by
 constructor
 ·intro h
  exact⟨Lib.occAt_head rfl h,Lib.occAt_second rfl h⟩
 ·rintro⟨h1,h2⟩
  have hlt:i<l.length:=(List.getElem?_eq_some_iff.1 h1).1
  have hlt2:i+1<l.length:=(List.getElem?_eq_some_iff.1 h2).1
  unfold Lib.occAt
  rw[List.drop_eq_getElem_cons hlt,List.drop_eq_getElem_cons hlt2]
  rw[List.getElem?_eq_getElem hlt] at h1
  rw[List.getElem?_eq_getElem hlt2] at h2
  rw[Option.some.inj h1,Option.some.inj h2]
  simp
theorem akm(l:List UInt8)(hl:l.length≤1000000000):∀(n i:Nat),i≤l.length→l.length-i<n→(∀j,j<i→Lib.occAt l [46,46] j=false)→
  iter (ML ⟨l⟩) n i=some (Ab l)
 |0,i,_,h,_=>by omega
 |n+1,i,hil,hn,ac3=>by
  show ML ⟨l⟩ (iter (ML ⟨l⟩) n) i=_
  unfold ML
  by_cases hend:i+1<l.length
  ·have hx:l[i]?=some l[i]:=List.getElem?_eq_getElem (by omega)
   have hy:l[i+1]?=some l[i+1]:=List.getElem?_eq_getElem hend
   have hby:kD ⟨l⟩ ((i:Int)+1)=some (l[i+1].toNat:Int):=by
    have:=Dr (s:=⟨l⟩) (i:=i+1) hy
    rwa [show (((i+1:Nat)):Int)=(i:Int)+1 by omega] at this
   rw[bH (bO (by omega) (by omega)),if_pos (by simp<;>omega),Dr (s:=⟨l⟩) hx,Option.bind_some,bH (by rw[bO (by omega) (by omega)];simp)]
   by_cases hh:Lib.occAt l [46,46] i=true
   ·obtain⟨h1,h2⟩:=(aiB l i).1 hh
    rw[hx] at h1;rw[hy] at h2
    have e1:l[i]=46:=Option.some.inj h1
    have e2:l[i+1]=46:=Option.some.inj h2
    have hidx:Lib.index l [46,46]=(i:Int):=Lib.index_first (by omega) hh ac3
    rw[e1,jP (by rfl),hby,e2,Option.bind_some,if_pos (by rfl)]
    have s1:ji ⟨l⟩ 0 (i:Int)=some ⟨l.take i⟩:=by
     unfold ji
     rw[if_pos (by refine⟨by omega,by omega,?_⟩;show (i:Int)≤(l.length:Int);omega)]
     simp
    have s2:ji ⟨l⟩ ((i:Int)+2) (l.length:Int)=some ⟨l.drop (i+2)⟩:=by
     unfold ji
     rw[if_pos (by refine⟨by omega,by omega,?_⟩;show (l.length:Int)≤(l.length:Int);omega)]
     have:((i:Int)+2).toNat=i+2:=by omega
     simp[this]
    rw[s1,Option.bind_some,Br,Option.bind_some,bH (bO (by omega) (by omega)),s2,Option.bind_some,Br,Option.bind_some,aeK]
    unfold Ab
    rw[hidx,if_pos (by omega)]
    simp
   ·have hno:¬(l[i].toNat=46∧l[i+1].toNat=46):=by
     rintro⟨a,b⟩
     apply hh
     rw[aiB,hx,hy]
     constructor
     ·congr 1;apply UInt8.toNat_inj.1;rw[a];rfl
     ·congr 1;apply UInt8.toNat_inj.1;rw[b];rfl
    have go:aO (aX ((i:Int)+1)) (iter (ML ⟨l⟩) n (i+1))=some (Ab l):=by
     rw[bH (bO (by omega) (by omega))]
     refine akm l hl n (i+1) (by omega) (by omega) (fun j hj=>?_)
     rcases Nat.lt_succ_iff_lt_or_eq.1 hj with h|h
     ·exact ac3 j h
     ·subst h;simpa using hh
    by_cases h1:l[i].toNat=46
    ·rw[jP (by simp<;>omega),hby,Option.bind_some,if_neg (by simp<;>omega)]
     exact go
    ·rw[oU (by simp<;>omega),Option.bind_some,if_neg (by simp<;>omega)]
     exact go
  ·rw[bH (bO (by omega) (by omega)),if_neg (by simp<;>omega)]
   have:Lib.index l [46,46]= -1:=Lib.index_none (fun j _=>by
    by_cases hj:j<i
    ·exact ac3 j hj
    ·cases h:Lib.occAt l [46,46] j with
     |false=>rfl
     |true=>
      have:=Lib.occAt_room h
      simp at this
      omega)
   unfold aeT Ab
   rw[this,if_neg (by omega)]
theorem afq(s:Str)(hl:s.l.length≤1000000000):P7 s=some (Ab s.l):=by
 obtain⟨l⟩:=s
 simp only at hl
 exact akm l hl FUEL 0 (by omega) (fD (by omega)) (fun j h=>by omega)
end Go.Proofs.YtcalibhfgdncaaaGreatDoor
