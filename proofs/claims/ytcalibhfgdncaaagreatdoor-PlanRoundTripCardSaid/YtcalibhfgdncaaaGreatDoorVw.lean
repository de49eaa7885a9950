/- Several parts of the engine, one behind the other. -/
import Derived.Test.YtcalibhfgdncaaaGreatDoorWd
import Derived.Test.YtcalibhfgdncaaaGreatDoorWe
import Derived.Test.YtcalibhfgdncaaaGreatDoorQ1
import Derived.Test.YtcalibhfgdncaaaGreatDoorWk
import Derived.Test.YtcalibhfgdncaaaGreatDoorWa
import Derived.Test.YtcalibhfgdncaaaGreatDoorWb
import Derived.Test.YtcalibhfgdncaaaGreatDoorWj
import Derived.Test.YtcalibhfgdncaaaGreatDoorYe
set_option linter.all false
namespace Go.Proofs.YtcalibhfgdncaaaGreatDoor
open Go.Dc
theorem KY{s:Str}{i:Nat}{x:UInt8}(h:s.l[i]?=some x):lX s (i:Int)=some (x.toNat:Int):=by simp[lX,h]
theorem U5{α:Type}{xs:List α}{i:Nat}{x:α}(h:idx xs (i:Int)=some x):xs[i]?=some x:=by rwa [vZ] at h
/-! ### The first place of a byte -/
def before(c:UInt8)(l:List UInt8):List UInt8:=l.takeWhile (fun b=>b != c)
def behind(c:UInt8)(l:List UInt8):List UInt8:=(l.dropWhile (fun b=>b != c)).drop 1
theorem Qb(c:UInt8):∀l:List UInt8,(c∉l→Lib.indexByte l c= -1)∧(c∈l→Lib.indexByte l c=(before c l).length∧l=before c l++c::behind c l)
 |[]=>⟨fun _=>rfl,fun h=>by simp at h⟩
 |b::l=>by
  have ih:=Qb c l
  unfold Lib.indexByte
  by_cases hb:b=c
  ·subst hb
   refine⟨fun h=>by simp at h,fun _=>?_⟩
   simp[before,behind]
  ·have hbe:(b==c)=false:=by simpa using hb
   rw[hbe]
   have e1:before c (b::l)=b::before c l:=by simp[before,hb]
   have e2:behind c (b::l)=behind c l:=by simp[behind,hb]
   refine⟨fun h=>?_,fun h=>?_⟩
   ·have:c∉l:=fun hm=>h (List.mem_cons_of_mem _ hm)
    rw[ih.1 this];rfl
   ·have hm:c∈l:=by
     rcases List.mem_cons.1 h with h|h
     ·exact absurd h.symm hb
     ·exact h
    obtain⟨h1,h2⟩:=ih.2 hm
    rw[e1,e2,h1]
    refine⟨?_,by rw[List.cons_append,←h2]⟩
    have hne:((before c l).length:Int)≠ -1:=by omega
    simp[hne]
theorem aci{c:UInt8}:∀{l:List UInt8},c∉l→before c l=l
 |[],_=>rfl
 |b::l,h=>by
  have hb:b≠c:=fun e=>h (e▸List.mem_cons_self)
  have e1:before c (b::l)=b::before c l:=by simp[before,hb]
  rw[e1,aci (fun hm=>h (List.mem_cons_of_mem _ hm))]
theorem Ye(c:UInt8):∀l:List UInt8,c∉before c l
 |[]=>by simp[before]
 |b::l=>by
  by_cases hb:b=c
  ·subst hb;simp[before]
  ·have e1:before c (b::l)=b::before c l:=by simp[before,hb]
   rw[e1]
   intro h
   rcases List.mem_cons.1 h with h|h
   ·exact hb h.symm
   ·exact Ye c l h
theorem WU(a b:List UInt8):mo ⟨a++b⟩ 0 (a.length:Int)=some ⟨a⟩:=by
 unfold mo
 rw[if_pos ⟨by omega,by omega,by simp;omega⟩]
 simp
theorem abB(a b:List UInt8):mo ⟨a++b⟩ (a.length:Int) ((a++b).length:Int)=some ⟨b⟩:=by
 unfold mo
 rw[if_pos ⟨by omega,by simp;omega,by simp⟩]
 simp only[Int.toNat_natCast,List.take_length]
 simp
theorem aiq(t:Str)(c:UInt8)(hl:t.l.length≤1000000000000):∃z:Str×Bool,Tj t ⟨[c]⟩=some (⟨before c t.l⟩,z):=by
 obtain⟨l⟩:=t
 unfold Tj WS
 have e:abz ⟨l⟩ ⟨[c]⟩=some (Lib.indexByte l c):=rfl
 rw[e,Option.bind_some]
 have sp:=Qb c l
 by_cases h:c∈l
 ·obtain⟨h1,h2⟩:=sp.2 h
  rw[h1,if_pos (by simp)]
  have hlen:l.length=(before c l).length+1+(behind c l).length:=by
   have:=congrArg List.length h2
   simp at this
   omega
  have s1:mo ⟨l⟩ 0 ((before c l).length:Int)=some ⟨before c l⟩:=by
   have:=WU (before c l) (c::behind c l)
   rwa [←h2] at this
  have s2:mo ⟨l⟩ (((before c l).length:Int)+(([c]:List UInt8).length:Int)) (l.length:Int)=some ⟨behind c l⟩:=by
   have:=abB (before c l++[c]) (behind c l)
   rw[List.append_assoc,List.singleton_append,←h2] at this
   simpa using this
  simp only at hl ⊢
  rw[s1,Option.bind_some,fD (jB (by omega) (by simp;omega)),s2]
  exact⟨_,rfl⟩
 ·rw[sp.1 h,if_neg (by simp),aci h]
  exact⟨_,rfl⟩
/-! ### The words of a line -/
def zu(c:UInt8):Bool:=decide (33≤c.toNat)&&decide (c.toNat≤126)
def Ju(c:UInt8):Bool:=decide (c.toNat=32)||decide (c.toNat=9)
def tk(ln:Int):List UInt8→Nat→Bool→List Word→Option (List Word)
 |[],_,_,acc=>some acc
 |c::cs,i,prev,acc=>
  if c.toNat=35 then some acc else
  if Ju c then tk ln cs (i+1) false acc else
  if zu c then
   match prev with
   |true=>tk ln cs (i+1) true (acc.dropLast++[⟨⟨(acc.getLastD default).Text.l++[c]⟩,(acc.getLastD default).Line,(acc.getLastD default).Col⟩])
   |false=>tk ln cs (i+1) true (acc++[⟨⟨[c]⟩,ln,(i:Int)+1⟩])
  else none
def toks(ln:Int)(l:List UInt8):Option (List Word):=tk ln l 0 false []
theorem WX(ln:Int):∀(l:List UInt8) (i:Nat) (prev:Bool) (acc:List Word),tk ln (before 35 l) i prev acc=tk ln l i prev acc
 |[],_,_,_=>rfl
 |c::cs,i,prev,acc=>by
  by_cases h:c=35
  ·subst h
   simp[before,tk]
  ·have e:before 35 (c::cs)=c::before 35 cs:=by simp[before,h]
   rw[e]
   have hn:¬c.toNat=35:=fun hh=>h (UInt8.toNat_inj.1 hh)
   simp only[tk,if_neg hn]
   rw[WX ln cs,WX ln cs,WX ln cs]
theorem acz(c:UInt8):KD (c.toNat:Int)=some (if Ju c then 1 else if c.toNat=10 then 2 else if c.toNat=35 then 3 else if zu c then 4 else 0):=by
 have key:∀k:Fin 256,KD (k.val:Int)=some (if (decide (k.val=32)||decide (k.val=9))=true then 1 else if k.val=10 then 2 else if k.val=35 then 3 else if (decide (33≤k.val)&&decide (k.val≤126))=true then 4 else 0):=by decide+kernel
 exact key ⟨c.toNat,c.toNat_lt⟩
def Em(ln:Int)(xs:List UInt8)(line:List Word)(start:Int)(i:Nat):List Word:=
 if start<0 then line else line++[⟨⟨(xs.take i).drop start.toNat⟩,ln,start+1⟩]
theorem ab7(line:List Word)(xs:List UInt8)(start:Int)(i:Nat)(ln:Int)(hi:i≤xs.length)(hs:start<0∨start<i)(hl:line.length≤1000000)(hx:xs.length≤1000000):
  N7 line ⟨xs⟩ start (i:Int) ln=some (Em ln xs line start i):=by
 unfold N7 Em
 by_cases h:start<0
 ·rw[if_pos (by simpa using h),if_pos h]
 ·rw[if_neg (by simpa using h),if_neg h]
  have hs':start<i:=by
   rcases hs with hs|hs
   ·exact absurd hs h
   ·exact hs
  have e:mo ⟨xs⟩ start (i:Int)=some ⟨(xs.take i).drop start.toNat⟩:=by
   unfold mo
   rw[if_pos ⟨by omega,by omega,by simp;omega⟩]
   simp
  rw[e,Option.bind_some,fD (jB (by omega) (by omega)),fD (by simp;omega)]
def abq(r:Option (List Word)):List Word×Bool:=match r with|some w=>(w,true)|none=>([],false)
theorem apt(t:Str)(ln:Int)(hl:t.l.length≤1000000):TT t ln=some (abq (toks ln t.l)):=by
 obtain⟨l⟩:=t
 simp only at hl
 unfold TT
 obtain⟨z,hz⟩:=aiq ⟨l⟩ 35 (by simp;omega)
 have h35:35∉before 35 l:=Ye 35 l
 have hlb:(before 35 l).length≤l.length:=(List.takeWhile_prefix (p:=fun b=>b != (35:UInt8))).length_le
 rw[hz,Option.bind_some]
 unfold toks
 rw[←WX ln l]
 generalize before 35 l=xs at h35 hlb
 rw[fD (by simp;omega)]
 have:=nR (B:=TS (⟨xs⟩,z) ln) (fun (q:List Word×Int) i=>(q.1,q.2,i)) xs (fun q i=>(q.2= -1∨(0≤q.2∧q.2<i))∧q.1.length≤i)
  (fun q r=>some (abq (tk ln r (xs.length-r.length) (decide (0≤q.2)) (Em ln xs q.1 q.2 (xs.length-r.length))))) ?_ ?_ FUEL ([],-1) 0 ⟨.inl rfl,by simp⟩ (by omega) (iW (by omega))
 ·simpa [Em] using this
 ·rintro c ⟨line,start⟩ i x r ⟨hs,hll⟩ hdr hi hx hk
  simp only at hs hll
  have hxi:=U5 hx
  have hlen:xs.length-(x::r).length=i:=by
   have:=congrArg List.length hdr
   simp at this ⊢
   omega
  have hlen':xs.length-r.length=i+1:=by
   have:=congrArg List.length hdr
   simp at this
   omega
  have zo:¬x.toNat=35:=fun hh=>h35 (by
   have:x=35:=UInt8.toNat_inj.1 hh
   rw[←this]
   exact List.mem_of_getElem? hxi)
  have htake:xs.take (i+1)=xs.take i++[x]:=by rw[List.take_add_one,hxi];rfl
  rw[hlen]
  simp only[TS]
  rw[if_pos (by simp;omega),KY hxi,Option.bind_some,acz,Option.bind_some]
  unfold tk
  simp only[if_neg zo]
  by_cases hb:Ju x=true
  ·simp only[hb,if_true]
   rw[if_neg (by simp),if_pos (by simp),ab7 line xs start i ln (by omega) (by omega) (by omega) (by omega),Option.bind_some]
   simp only[IL]
   rw[hk (Em ln xs line start i,-1) ⟨.inl rfl,by unfold Em;split<;>simp<;>omega⟩,hlen']
   simp[Em]
  ·simp only[hb,Bool.false_eq_true,if_false]
   by_cases hp:zu x=true
   ·have h10:¬x.toNat=10:=by
     unfold zu at hp
     simp only[Bool.and_eq_true,decide_eq_true_eq] at hp
     omega
    simp only[hp,if_true,h10,zo,if_false]
    rw[if_pos (by simp)]
    by_cases hst:start<0
    ·rw[if_pos (by simpa using hst)]
     simp only[IL]
     rw[hk (line,(i:Int)) ⟨.inr ⟨by omega,by simp;omega⟩,by simp;omega⟩,hlen']
     have d1:decide (0≤(i:Int))=true:=by simp
     have d2:decide (0≤start)=false:=by simp;omega
     rw[d1,d2]
     simp only
     congr 3
     unfold Em
     rw[if_neg (by omega),if_pos hst,htake]
     simp only[Int.toNat_natCast]
     have hti:(xs.take i).length=i:=by simp;omega
     rw[List.drop_append_of_le_length (by omega),List.drop_of_length_le (by omega)]
     rfl
    ·rw[if_neg (by simpa using hst)]
     simp only[IL]
     have hs2:0≤start∧start<i:=by omega
     rw[hk (line,start) ⟨.inr ⟨by omega,by simp;omega⟩,by simp;omega⟩,hlen']
     have d1:decide (0≤start)=true:=by simp;omega
     rw[d1]
     simp only
     congr 3
     unfold Em
     rw[if_neg hst,if_neg hst,htake]
     have hti:(xs.take i).length=i:=by simp;omega
     rw[List.drop_append_of_le_length (by omega)]
     simp
   ·simp only[hp,Bool.false_eq_true,if_false,zo]
    split
    ·rw[if_neg (by simp),if_neg (by simp)];rfl
    ·rw[if_neg (by simp),if_neg (by simp)];rfl
 ·rintro c ⟨line,start⟩ ⟨hs,hll⟩
  simp only at hs hll
  simp only[TS]
  rw[if_neg (by simp)]
  simp only[abJ,List.length_nil,Nat.sub_zero,tk]
  rw[ab7 line xs start xs.length ln (by omega) (by omega) (by omega) (by omega),Option.bind_some]
  rfl
end Go.Proofs.YtcalibhfgdncaaaGreatDoor
namespace Go.Proofs.YtcalibhfgdncaaaGreatDoor
open Go.Dc
def yM(c:UInt8):Bool:=zu c&&decide (c.toNat≠35)
/-! ### Lines -/
def qd:List UInt8→List (List UInt8)
 |[]=>[[]]
 |c::cs=>if c=10 then []::qd cs else match qd cs with|[]=>[[c]]|p::ps=>(c::p)::ps
theorem aeP:∀{l:List UInt8},10∉l→qd l=[l]
 |[],_=>rfl
 |c::cs,h=>by
  have hc:¬c=10:=fun e=>h (e▸List.mem_cons_self)
  unfold qd
  rw[if_neg hc,aeP (fun hm=>h (List.mem_cons_of_mem _ hm))]
theorem amT{c:UInt8}{cs:List UInt8}(h:¬c=10):qd (c::cs)=match qd cs with|[]=>[[c]]|p::ps=>(c::p)::ps:=by
 conv=>lhs;unfold qd
 rw[if_neg h]
theorem aar:∀(a b:List UInt8),10∉a→qd (a++10::b)=a::qd b
 |[],b,_=>by simp[qd]
 |c::cs,b,h=>by
  have hc:¬c=10:=fun e=>h (e▸List.mem_cons_self)
  rw[List.cons_append,amT hc,aar cs b (fun hm=>h (List.mem_cons_of_mem _ hm))]
def yJ(ln:Int):List (List UInt8)→List (List Word)→(List (List Word))×Int×Int
 |[],acc=>(acc,0,0)
 |p::ps,acc=>match toks ln p with
  |none=>([],ln,2)
  |some w=>if 64<w.length then ([],ln,7) else yJ (ln+1) ps (if 0<w.length then acc++[w] else acc)
def wu(l:List UInt8):(List (List Word))×Int×Int:=if 65536<l.length then ([],0,7) else yJ 1 (qd l) []
theorem aey(t:Str)(number:Int)(lines:List (List Word))(hl:t.l.length≤1000000)(hn:0≤number∧number≤1000000)(hll:lines.length≤1000000):
  Mg t number lines=some (match toks (number+1) t.l with
   |none=> .inr (number+1,2)
   |some w=>if 64<w.length then .inr (number+1,7) else .inl (number+1,if 0<w.length then lines++[w] else lines)):=by
 unfold Mg
 rw[fD (jB (by omega) (by omega)),apt t _ hl,Option.bind_some]
 cases toks (number+1) t.l with
 |none=>rfl
 |some w=>
  have e:abq (some w)=(w,true):=rfl
  rw[e]
  dsimp only
  rw[if_neg (by simp)]
  by_cases h64:64<w.length
  ·rw[if_pos (by simp;omega),if_pos h64]
  ·rw[if_neg (by simp;omega),if_neg h64]
   by_cases h0:0<w.length
   ·rw[if_pos (by simp;omega),if_pos h0,fD (by simp;omega)]
   ·rw[if_neg (by simpa using h0),if_neg h0]
theorem amk(f:Nat)(l:List UInt8)(number:Int)(lines:List (List Word))(h:10∉l)(hl:l.length≤65536)(hn:0≤number)(hn2:number≤65536)(hll:lines.length≤1000000):
  Ci (f+1) ⟨l⟩ number lines=some (yJ (number+1) [l] lines):=by
 have hb0:l.length≤1000000:=by omega
 have sp:=Qb 10 l
 unfold Ci
 simp only
 rw[sp.1 h,if_pos (by simp),aey ⟨l⟩ number lines hb0 (by omega) hll,Option.bind_some]
 unfold yJ
 simp only
 cases toks (number+1) l with
 |none=>rfl
 |some w=>
  simp only
  by_cases h64:64<w.length
  ·rw[if_pos h64,if_pos h64];rfl
  ·rw[if_neg h64,if_neg h64];rfl
theorem amh{k:Int→List (List Word)→Option ((List (List Word))×Int×Int)}{a:Int}{b:List (List Word)}:aak k (.inl (a,b))=k a b:=rfl
theorem aml(f:Nat)(l:List UInt8)(number:Int)(lines:List (List Word))(h:10∈l)(hl:l.length≤65536)(hn:0≤number)(hn2:number≤65536)(hll:lines.length≤1000000):
  Ci (f+1) ⟨l⟩ number lines=match toks (number+1) (before 10 l) with
   |none=>some ([],number+1,2)
   |some w=>if 64<w.length then some ([],number+1,7) else Ci f ⟨behind 10 l⟩ (number+1) (if 0<w.length then lines++[w] else lines):=by
 obtain⟨h1,h2⟩:=(Qb 10 l).2 h
 have hlen:l.length=(before 10 l).length+1+(behind 10 l).length:=by
  have:=congrArg List.length h2
  simp at this
  omega
 have hb1:(before 10 l).length≤1000000:=by omega
 have e0:((before 10 l).length:Int)+0=((before 10 l).length:Int):=by omega
 have s1:mo ⟨l⟩ 0 ((before 10 l).length:Int)=some ⟨before 10 l⟩:=by
  have:=WU (before 10 l) (10::behind 10 l)
  rwa [←h2] at this
 have s2:mo ⟨l⟩ (((before 10 l).length:Int)+(([10]:List UInt8).length:Int)) (l.length:Int)=some ⟨behind 10 l⟩:=by
  have:=abB (before 10 l++[10]) (behind 10 l)
  rw[List.append_assoc,List.singleton_append,←h2] at this
  simpa using this
 have hi:bW (((before 10 l).length:Int)+(([10]:List UInt8).length:Int))=true:=jB (by simp only[List.length_singleton];omega) (by simp only[List.length_singleton];omega)
 conv=>lhs;unfold Ci
 simp only
 generalize ([10]:List UInt8).length=ten at s2 hi ⊢
 rw[h1,if_neg (by simp),e0,fD (jB (by omega) (by omega)),s1,Option.bind_some,aey ⟨before 10 l⟩ number lines hb1 (by omega) hll,Option.bind_some]
 cases toks (number+1) (before 10 l) with
 |none=>rfl
 |some w=>
  simp only
  by_cases h64:64<w.length
  ·rw[if_pos h64,if_pos h64];rfl
  ·rw[if_neg h64,if_neg h64]
   rw[amh]
   rw[fD hi,s2,Option.bind_some]
theorem amj:∀(f:Nat) (s:Str) (number:Int) (lines:List (List Word)),s.l.length<f→s.l.length≤65536→0≤number→number+s.l.length≤65536→(lines.length:Int)≤number→
  Ci f s number lines=some (yJ (number+1) (qd s.l) lines):=by
 intro f
 induction f with
 |zero=>intro s number lines h;omega
 |succ f ih=>
  rintro⟨l⟩ number lines hf hl hn hn2 hll
  simp only at hf hl hn2 ⊢
  by_cases h:10∈l
  ·obtain⟨h1,h2⟩:=(Qb 10 l).2 h
   have hlen:l.length=(before 10 l).length+1+(behind 10 l).length:=by
    have:=congrArg List.length h2
    simp at this
    omega
   have e3:qd l=before 10 l::qd (behind 10 l):=by
    have:=aar (before 10 l) (behind 10 l) (Ye 10 l)
    rwa [←h2] at this
   have hb2:(behind 10 l).length<f:=by omega
   have hb3:(behind 10 l).length≤65536:=by omega
   have hb4:number+1+((behind 10 l).length:Int)≤65536:=by omega
   have h5:=fun lines' h6=>ih ⟨behind 10 l⟩ (number+1) lines' hb2 hb3 (by omega) hb4 h6
   rw[aml f l number lines h hl hn (by omega) (by omega),e3]
   conv=>rhs;unfold yJ
   cases toks (number+1) (before 10 l) with
   |none=>rfl
   |some w=>
    simp only
    by_cases h64:64<w.length
    ·rw[if_pos h64,if_pos h64]
    ·rw[if_neg h64,if_neg h64]
     exact h5 _ (by split<;>first|omega|(simp;omega))
  ·rw[aeP h]
   exact amk f l number lines h hl hn (by omega) (by omega)
theorem amo(s:Str):TL s=some (wu s.l):=by
 unfold TL wu
 by_cases h:65536<s.l.length
 ·rw[if_pos (by simp;omega),if_pos h]
 ·rw[if_neg (by simp;omega),if_neg h]
  exact amj FUEL s 0 [] (iW (by omega)) (by omega) (by omega) (by omega) (by simp)
/-! ### The reference's -/
/-! ### Comparing -/
theorem amU(l:List UInt8):(qd l).length≤l.length+1:=by
 induction l with
 |nil=>simp[qd]
 |cons c cs ih=>
  unfold qd
  split
  ·simp;omega
  ·cases h:qd cs with
   |nil=>simp
   |cons p ps=>rw[h] at ih;simp at ih ⊢;omega
theorem aeD:∀(ps:List (List UInt8)) (ln:Int) (acc:List (List Word)),(∀w∈acc,w.length≤64)→(yJ ln ps acc).1.length≤acc.length+ps.length∧∀w∈(yJ ln ps acc).1,w.length≤64
 |[],ln,acc,h=>⟨by simp[yJ],h⟩
 |p::ps,ln,acc,h=>by
  unfold yJ
  cases toks ln p with
  |none=>simp
  |some w=>
   simp only
   by_cases h64:64<w.length
   ·rw[if_pos h64];simp
   ·rw[if_neg h64]
    have:=aeD ps (ln+1) (if 0<w.length then acc++[w] else acc) (by
     intro v hv
     split at hv
     ·rcases List.mem_append.1 hv with hv|hv
      ·exact h v hv
      ·rw[List.mem_singleton] at hv;subst hv;omega
     ·exact h v hv)
    refine⟨?_,this.2⟩
    have h1:=this.1
    have h2:(if 0<w.length then acc++[w] else acc).length≤acc.length+1:=by split<;>simp
    simp only[List.length_cons]
    omega
theorem amm(l:List UInt8):(wu l).1.length≤1000000∧∀w∈(wu l).1,w.length≤64:=by
 unfold wu
 by_cases h:65536<l.length
 ·rw[if_pos h];simp
 ·rw[if_neg h]
  have:=aeD (qd l) 1 [] (by simp)
  have h2:=amU l
  refine⟨?_,this.2⟩
  have:=this.1
  simp at this
  omega
end Go.Proofs.YtcalibhfgdncaaaGreatDoor
namespace Go.Proofs.YtcalibhfgdncaaaGreatDoor
open Go.Dc
set_option maxRecDepth 10000
def oZ(s:Str):Bool:=decide (s.l≠[])&&s.l.all yM
def oJ:Bool→List Str→List UInt8
 |_,[]=>[]
 |f,s::r=>(if f then [] else [32])++s.l++oJ false r
def joinL:List (List Str)→List UInt8→Option (List UInt8)
 |[],acc=>some acc
 |w::r,acc=>if (decide ((w.length:Int)=0)||decide (64<(w.length:Int))) then none else if w.all oZ then joinL r (acc++oJ true w++[10]) else none
def aeb(o:Option (List UInt8)):Str:=match o with|none=>⟨[]⟩|some t=>⟨t⟩
def CO(w:List Str):Nat:=(w.map (fun s=>s.l.length+1)).sum
def CK(l:List (List Str)):Nat:=(l.map (fun w=>CO w+1)).sum
theorem WW(s:Str)(w:List Str):CO (s::w)=s.l.length+1+CO w:=by simp[CO]
theorem Tt(w:List Str)(l:List (List Str)):CK (w::l)=CO w+1+CK l:=by simp[CK]
theorem ap0(w:List Str):w.length≤CO w:=by
 induction w with
 |nil=>simp
 |cons s w ih=>rw[WW];simp only[List.length_cons];omega
theorem apZ(l:List (List Str)):l.length≤CK l:=by
 induction l with
 |nil=>simp
 |cons s w ih=>rw[Tt];simp only[List.length_cons];omega
theorem ag2(f:Bool)(w:List Str):(oJ f w).length≤CO w:=by
 induction w generalizing f with
 |nil=>simp[oJ]
 |cons s w ih=>
  rw[WW]
  have:=ih false
  simp only[oJ,List.length_append]
  cases f<;>simp<;>omega
theorem aij(c:UInt8):∃k:Int,KD (c.toNat:Int)=some k∧(decide (k≠4)= !yM c):=by
 refine⟨_,acz c,?_⟩
 unfold yM
 by_cases h1:Ju c
 ·have:zu c=false:=by unfold Ju at h1;unfold zu;simp at h1 ⊢;omega
  simp[h1,this]
 ·by_cases h2:c.toNat=10
  ·have:zu c=false:=by unfold zu;simp;omega
   simp[h1,h2,this]
  ·by_cases h3:c.toNat=35
   ·simp[h1,h3]
   ·by_cases h4:zu c
    ·simp[h1,h2,h3,h4]
    ·simp[h1,h2,h3,h4]
theorem alC(s:Str)(hl:s.l.length≤1000000000000):TR s=some (oZ s):=by
 obtain⟨l⟩:=s
 simp only at hl
 unfold TR
 rw[fD (by simp only[decide_eq_true_eq];omega)]
 have:=nR (B:=TQ ⟨l⟩) (fun (_:Unit) i=>i) l (fun _ _=>True) (fun _ r=>some (decide (l≠[])&&r.all yM)) ?_ ?_ FUEL () 0 trivial (by omega) (iW (by omega))
 ·rw[this];rfl
 ·intro c _ i x r _ hdr hi hx hk
  have hxi:=U5 hx
  obtain⟨k,hk1,hk2⟩:=aij x
  simp only[TQ]
  rw[if_pos (by simp<;>omega),KY (s:=⟨l⟩) hxi,Option.bind_some,hk1,Option.bind_some,hk2,hk () trivial]
  cases hp:yM x<;>simp[hp]
 ·intro c _ _
  simp only[TQ]
  rw[if_neg (by simp)]
  unfold abI
  simp
theorem acS{α:Type}{l r:List α}{x:α}{i:Nat}(h:l.drop i=x::r):l.drop (i+1)=r:=by
 rw[←List.drop_drop,h];rfl
theorem alJ(w:List Str)(cont:(List UInt8×Nat)→Option Str)(t:Nat)(acc:List UInt8)(hl:acc.length+CO w≤1000000000000):
  iter (NV w cont t) FUEL (acc,0)=if w.all oZ then TK (acc++oJ true w) cont t () else some ⟨[]⟩:=by
 have hwl:=ap0 w
 have:=nR (B:=NV w cont t) (fun (q:List UInt8×Bool) i=>(q.1,i)) w (fun q i=>q.2=decide (i=0)∧q.1.length+CO (w.drop i)≤1000000000000)
  (fun q r=>if r.all oZ then TK (q.1++oJ q.2 r) cont t () else some ⟨[]⟩) ?_ ?_ FUEL (acc,true) 0 (by simpa using hl) (by omega) (iW (by omega))
 ·simpa using this
 ·rintro c ⟨q,f⟩ i x r ⟨hf,hq⟩ hdr hi hx hk
  simp only at hf hq ⊢
  have hr:w.drop (i+1)=r:=acS hdr
  rw[hdr,WW] at hq
  simp only[NV]
  rw[if_pos (by simp<;>omega),hx,Option.bind_some,alC _ (by omega),Option.bind_some]
  cases hw:oZ x with
  |false=>simp[hw]
  |true=>
   rw[if_neg (by simp)]
   have e:(x::r).all oZ=r.all oZ:=by simp[hw]
   rw[e]
   subst hf
   by_cases h0:i=0
   ·subst h0
    rw[if_neg (by simp)]
    unfold NW
    rw[fD (by simp only[decide_eq_true_eq];omega)]
    have:=hk (q++x.l,false) ⟨by simp,by rw[hr];simp only[List.length_append];omega⟩
    simp only at this
    rw[this]
    simp[oJ]
   ·rw[if_pos (by simp<;>omega),fD (by simp only[decide_eq_true_eq];omega)]
    unfold NW
    rw[fD (by simp only[decide_eq_true_eq,List.length_append,List.length_singleton];omega)]
    have:=hk (q++[u8 32]++x.l,false) ⟨by simp,by rw[hr];simp only[List.length_append,List.length_singleton];omega⟩
    simp only at this
    rw[this]
    have e32:u8 32=32:=by decide
    simp[oJ,h0,e32]
 ·rintro c ⟨q,f⟩ ⟨hf,hq⟩
  simp only[NV]
  rw[if_neg (by simp)]
  simp[oJ]
theorem alK(l:List (List Str))(hl:CK l≤100000000000):IK l=some (aeb (joinL l [])):=by
 unfold IK
 have hll:=apZ l
 have:=nR (B:=TJ l) (fun (q:List UInt8) i=>(q,i)) l (fun q i=>q.length+CK (l.drop i)≤100000000000)
  (fun q r=>some (aeb (joinL r q))) ?_ ?_ FUEL [] 0 (by simpa using hl) (by omega) (iW (by omega))
 ·simpa using this
 ·intro c q i x r hq hdr hi hx hk
  have hr:l.drop (i+1)=r:=acS hdr
  rw[hdr,Tt] at hq
  simp only[TJ]
  rw[if_pos (by simp<;>omega),hx,Option.bind_some]
  unfold joinL
  by_cases h:(decide ((x.length:Int)=0)||decide (64<(x.length:Int)))=true
  ·rw[if_pos h,if_pos h];rfl
  ·rw[if_neg h,if_neg h,alJ x _ _ _ (by omega)]
   cases hw:x.all oZ with
   |false=>rw[if_neg (by simp),if_neg (by simp)];rfl
   |true=>
    rw[if_pos rfl,if_pos rfl]
    have hlen:=ag2 true x
    unfold TK abH
    rw[fD (by simp only[decide_eq_true_eq,List.length_append];omega)]
    have e10:u8 10=10:=by decide
    rw[e10]
    exact hk _ (by rw[hr];simp only[List.length_append,List.length_singleton];omega)
 ·intro c q hq
  simp only[TJ]
  rw[if_neg (by simp)]
  rfl
theorem acr(a b:List UInt8)(h:a.length+b.length≤100000000000000):vM ⟨a⟩ ⟨b⟩=some ⟨a++b⟩:=by
 unfold vM
 rw[if_pos (by simp only;omega)]
end Go.Proofs.YtcalibhfgdncaaaGreatDoor
namespace Go.Proofs.YtcalibhfgdncaaaGreatDoor
open Go.Dc
set_option maxRecDepth 10000
theorem aeW(c:UInt8)(h:yM c=true):¬c.toNat=35∧Ju c=false∧zu c=true:=by
 unfold yM at h
 simp only[Bool.and_eq_true,decide_eq_true_eq] at h
 refine⟨h.2,?_,h.1⟩
 have h1:=h.1
 unfold zu at h1
 simp only[Bool.and_eq_true,decide_eq_true_eq] at h1
 unfold Ju
 simp only[Bool.or_eq_false_iff,decide_eq_false_iff_not]
 omega
theorem anr{c:UInt8}(h:yM c=true):c≠10:=by
 rintro rfl
 revert h;decide
theorem agV(ln:Int):∀(q rest:List UInt8) (i:Nat) (acc:List Word) (t:List UInt8) (L C:Int),q.all yM=true→
  tk ln (q++rest) i true (acc++[⟨⟨t⟩,L,C⟩])=tk ln rest (i+q.length) true (acc++[⟨⟨t++q⟩,L,C⟩])
 |[],rest,i,acc,t,L,C,_=>by simp
 |c::q,rest,i,acc,t,L,C,h=>by
  simp only[List.all_cons,Bool.and_eq_true] at h
  obtain⟨h1,h2,h3⟩:=aeW c h.1
  simp only[List.cons_append,tk]
  rw[if_neg h1,h2,if_neg (by simp),h3,if_pos rfl]
  simp only[List.dropLast_concat,List.getLastD_concat]
  rw[agV ln q rest (i+1) acc (t++[c]) L C h.2]
  simp only[List.length_cons,List.append_assoc,List.cons_append,List.nil_append]
  rw[show i+1+q.length=i+(q.length+1) by omega]
theorem agT(ln:Int)(s:Str)(rest:List UInt8)(i:Nat)(acc:List Word)(h:oZ s=true):
  tk ln (s.l++rest) i false acc=tk ln rest (i+s.l.length) true (acc++[⟨s,ln,(i:Int)+1⟩]):=by
 obtain⟨l⟩:=s
 unfold oZ at h
 simp only[Bool.and_eq_true,decide_eq_true_eq] at h
 cases l with
 |nil=>exact absurd rfl h.1
 |cons c q=>
  have hq:=h.2
  simp only[List.all_cons,Bool.and_eq_true] at hq
  obtain⟨h1,h2,h3⟩:=aeW c hq.1
  simp only[List.cons_append,tk]
  rw[if_neg h1,h2,if_neg (by simp),h3,if_pos rfl,agV ln q rest (i+1) acc [c] ln _ hq.2]
  simp only[List.length_cons,List.cons_append,List.nil_append]
  rw[show i+1+q.length=i+(q.length+1) by omega]
def wordsAt(ln:Int):List Str→Nat→List Word
 |[],_=>[]
 |s::r,i=>⟨s,ln,(i:Int)+1⟩::wordsAt ln r (i+s.l.length+1)
theorem agU(ln:Int):∀(w:List Str),w.all oZ=true→(∀(i:Nat) (prev:Bool) (acc:List Word),tk ln (oJ false w) i prev acc=some (acc++wordsAt ln w (i+1)))
 |[],_,i,prev,acc=>by simp[oJ,tk,wordsAt]
 |s::r,h,i,prev,acc=>by
  simp only[List.all_cons,Bool.and_eq_true] at h
  have e:oJ false (s::r)=32::(s.l++oJ false r):=by simp[oJ]
  rw[e]
  have e2:tk ln (32::(s.l++oJ false r)) i prev acc=tk ln (s.l++oJ false r) (i+1) false acc:=rfl
  rw[e2,agT ln s _ _ _ h.1,agU ln r h.2]
  simp[wordsAt]
theorem ap1(ln:Int)(w:List Str)(h:w.all oZ=true):toks ln (oJ true w)=some (wordsAt ln w 0):=by
 cases w with
 |nil=>rfl
 |cons s r=>
  simp only[List.all_cons,Bool.and_eq_true] at h
  have e:oJ true (s::r)=s.l++oJ false r:=by simp[oJ]
  unfold toks
  rw[e,agT ln s _ _ _ h.1,agU ln r h.2]
  simp[wordsAt]
theorem ag4(ln:Int):∀(w:List Str) (i:Nat),(wordsAt ln w i).length=w.length
 |[],_=>rfl
 |s::r,i=>by simp[wordsAt,ag4 ln r]
theorem ag5(ln:Int):∀(w:List Str) (i:Nat),(wordsAt ln w i).map (·.Text)=w
 |[],_=>rfl
 |s::r,i=>by simp[wordsAt,ag5 ln r]
theorem aqb{s:Str}(h:oZ s=true):10∉s.l:=fun h10=>by
 unfold oZ at h
 simp only[Bool.and_eq_true] at h
 exact anr (List.all_eq_true.1 h.2 10 h10) rfl
theorem ag3:∀(f:Bool) (w:List Str),w.all oZ=true→10∉oJ f w
 |_,[],_=>by simp[oJ]
 |f,s::r,h=>by
  simp only[List.all_cons,Bool.and_eq_true] at h
  have h1:=aqb h.1
  have h2:=ag3 false r h.2
  simp only[oJ,List.mem_append]
  rintro ((hx|hx)|hx)
  ·cases f<;>simp at hx
  ·exact h1 hx
  ·exact h2 hx
def QN(w:List Str):Prop:=0<w.length∧w.length≤64∧w.all oZ=true
def wh:List (List Str)→List UInt8
 |[]=>[]
 |w::r=>oJ true w++10::wh r
def GU:Int→List (List Str)→List (List Word)
 |_,[]=>[]
 |ln,w::r=>wordsAt ln w 0::GU (ln+1) r
theorem aea:∀(l:List (List Str)) (acc:List UInt8),(∀w∈l,QN w)→joinL l acc=some (acc++wh l)
 |[],acc,_=>by simp[joinL,wh]
 |w::r,acc,h=>by
  obtain⟨h1,h2,h3⟩:=h w List.mem_cons_self
  simp only[joinL]
  rw[if_neg (by rw[Bool.or_eq_true];rintro (h|h)<;>(have:=of_decide_eq_true h;omega)),if_pos h3,aea r _ (fun x hx=>h x (List.mem_cons_of_mem _ hx))]
  simp[wh]
theorem aeO:∀(l:List (List Str)),(∀w∈l,QN w)→qd (wh l)=l.map (oJ true)++[[]]
 |[],_=>rfl
 |w::r,h=>by
  obtain⟨_,_,h3⟩:=h w List.mem_cons_self
  simp only[wh]
  rw[aar _ _ (ag3 true w h3),aeO r (fun x hx=>h x (List.mem_cons_of_mem _ hx))]
  rfl
theorem aeE:∀(l:List (List Str)) (ln:Int) (acc:List (List Word)),(∀w∈l,QN w)→yJ ln (l.map (oJ true)++[[]]) acc=(acc++GU ln l,0,0)
 |[],ln,acc,_=>by
  simp only[List.map_nil,List.nil_append,GU,List.append_nil]
  rfl
 |w::r,ln,acc,h=>by
  obtain⟨h1,h2,h3⟩:=h w List.mem_cons_self
  simp only[List.map_cons,List.cons_append,yJ]
  rw[ap1 ln w h3]
  simp only
  rw[ag4,if_neg (by omega),if_pos h1,aeE r _ _ (fun x hx=>h x (List.mem_cons_of_mem _ hx))]
  simp[GU]
theorem amn(l:List (List Str))(h:∀w∈l,QN w)(hl:(wh l).length≤65536):wu (wh l)=(GU 1 l,0,0):=by
 unfold wu
 rw[if_neg (by omega),aeO l h,aeE l 1 [] h]
 rfl
theorem aec:∀(l:List (List Str)),(wh l).length≤CK l
 |[]=>by simp[wh]
 |w::r=>by
  have h1:=ag2 true w
  have h2:=aec r
  rw[Tt]
  simp only[wh,List.length_append,List.length_cons]
  omega
end Go.Proofs.YtcalibhfgdncaaaGreatDoor
namespace Go.Proofs.YtcalibhfgdncaaaGreatDoor
open Go.Dc
def BL(x:UInt8):Bool:=decide (48≤x.toNat)&&decide (x.toNat≤57)
theorem ad7(x:UInt8):KE (x.toNat:Int)=some (BL x):=by
 have key:∀k:Fin 256,KE (k.val:Int)=some (decide (48≤k.val)&&decide (k.val≤57)):=by decide+kernel
 exact key ⟨x.toNat,x.toNat_lt⟩
end Go.Proofs.YtcalibhfgdncaaaGreatDoor
namespace Go.Proofs.YtcalibhfgdncaaaGreatDoor
open Go.Dc
def Ar(m:Nat)(s:List UInt8):List UInt8:=if m=0 then s else Ar (m / 10) (UInt8.ofNat (48+m % 10)::s)
termination_by m
decreasing_by omega
theorem Jb(s:List UInt8):Ar 0 s=s:=by unfold Ar;rfl
theorem Lc{m:Nat}(h:0<m)(s:List UInt8):Ar m s=Ar (m / 10) (UInt8.ofNat (48+m % 10)::s):=by
 conv=>lhs;unfold Ar
 rw[if_neg (by omega)]
theorem Un(m:Nat):(UInt8.ofNat (48+m % 10)).toNat=48+m % 10:=by
 rw[UInt8.toNat_ofNat']
 omega
theorem Um:∀(k m:Nat) (s:List UInt8),m<10 ^ k→(Ar m s).length≤s.length+k
 |0,m,s,h=>by
  have:m=0:=by simpa using h
  subst this
  rw[Jb];omega
 |k+1,m,s,h=>by
  by_cases h0:m=0
  ·subst h0;rw[Jb];omega
  ·rw[Lc (by omega)]
   have:=Um k (m / 10) (UInt8.ofNat (48+m % 10)::s) (by rw[Nat.pow_succ] at h;omega)
   simp only[List.length_cons] at this
   omega
theorem acL:∀(k m:Nat) (s:List UInt8),m<k→(∀c∈s,BL c=true)→∀c∈Ar m s,BL c=true
 |0,_,_,h,_=>by omega
 |k+1,m,s,h,hs=>by
  by_cases h0:m=0
  ·subst h0;rw[Jb];exact hs
  ·rw[Lc (by omega)]
   refine acL k (m / 10) _ (by omega) (fun c hc=>?_)
   rcases List.mem_cons.1 hc with rfl|hc
   ·unfold BL
    rw[Un]
    simp
    omega
   ·exact hs c hc
theorem acM:∀(k m:Nat) (s:List UInt8),m<k→0<m→∃c r,Ar m s=c::r∧c.toNat≠48∧c.toNat≠45
 |0,_,_,h,_=>by omega
 |k+1,m,s,h,h0=>by
  rw[Lc h0]
  by_cases h1:m / 10=0
  ·rw[h1,Jb]
   exact⟨_,_,rfl,by rw[Un];omega,by rw[Un];omega⟩
  ·exact acM k (m / 10) _ (by omega) (by omega)
def runN:List UInt8→Nat→Option Nat
 |[],n=>some n
 |c::cs,n=>if 1099511627776<10*n+(c.toNat-48) then none else runN cs (10*n+(c.toNat-48))
theorem agb:∀(k m:Nat) (s:List UInt8),m<k→runN (Ar m s) 0=if 1099511627776<m then none else runN s m
 |0,_,_,h=>by omega
 |k+1,m,s,h=>by
  by_cases h0:m=0
  ·subst h0;rw[Jb];rfl
  ·rw[Lc (by omega),agb k (m / 10) _ (by omega)]
   by_cases h1:1099511627776<m / 10
   ·rw[if_pos h1,if_pos (by omega)]
   ·rw[if_neg h1]
    unfold runN
    rw[Un]
    have e:10*(m / 10)+(48+m % 10-48)=m:=by omega
    rw[e]
    by_cases h2:1099511627776<m
    ·rw[if_pos h2,if_pos h2]
    ·rw[if_neg h2,if_neg h2]
     cases s<;>rfl
/-! ### The reference's Decimal -/
theorem aix(d:Nat)(h:d<10):mo (⟨[48,49,50,51,52,53,54,55,56,57]⟩:Str) (d:Int) ((d:Int)+1)=some ⟨[UInt8.ofNat (48+d)]⟩:=by
 have key:∀k:Fin 10,mo (⟨[48,49,50,51,52,53,54,55,56,57]⟩:Str) (k.val:Int) ((k.val:Int)+1)=some ⟨[UInt8.ofNat (48+k.val)]⟩:=by decide+kernel
 exact key ⟨d,h⟩
theorem Yn(s:List UInt8)(z:Int)(d:Nat)(hd:d<10)(hs:s.length≤100)(hz: -9223372036854775808≤z.tdiv 10∧z.tdiv 10≤9223372036854775807)(c:(Int×Str)→Option Str):
  VR ⟨s⟩ z c (d:Int)=c (z.tdiv 10,⟨UInt8.ofNat (48+d)::s⟩):=by
 unfold VR
 have c1:vM ⟨[UInt8.ofNat (48+d)]⟩ ⟨s⟩=some ⟨UInt8.ofNat (48+d)::s⟩:=by
  unfold vM
  rw[if_pos (by simp only[List.length_singleton];omega)]
  rfl
 rw[fD (jB (by omega) (by omega)),aix d hd,Option.bind_some,c1,Option.bind_some,fD (by rw[jB hz.1 hz.2];rfl)]
theorem acN(n0:Int)(neg:Bool):∀(n m:Nat) (s:List UInt8),m<n→m*10 ^ s.length≤9223372036854775808→s.length≤19→
  iter (R6 n0) n (if neg then-(m:Int) else (m:Int),⟨s⟩)=VQ n0 ⟨Ar m s⟩ ():=by
 intro n
 induction n with
 |zero=>intro m s h;omega
 |succ n ih=>
  intro m s hm hp hs
  show R6 n0 (iter (R6 n0) n) (if neg then-(m:Int) else (m:Int),⟨s⟩)=_
  simp only[R6]
  by_cases h0:m=0
  ·subst h0
   rw[if_neg (by cases neg<;>simp),Jb]
  ·rw[if_pos (by cases neg<;>simp<;>omega),Lc (by omega)]
   have aqP:s.length≤18:=by
    refine Nat.le_of_lt_succ (Nat.lt_of_not_le fun h19=>?_)
    have h1:(10:Nat) ^ 19≤10 ^ s.length:=Nat.pow_le_pow_right (by omega) h19
    have h2:1*10 ^ s.length≤m*10 ^ s.length:=Nat.mul_le_mul_right _ (by omega)
    have h3:(10:Nat) ^ 19=10000000000000000000:=by decide
    omega
   have hm63:m≤9223372036854775808:=by
    have h1:m*1≤m*10 ^ s.length:=Nat.mul_le_mul_left _ (Nat.pos_of_ne_zero (by simp))
    omega
   have hp':m / 10*10 ^ (s.length+1)≤9223372036854775808:=by
    have h1:m / 10*10 ^ (s.length+1)=m / 10*10*10 ^ s.length:=by rw[Nat.pow_succ,Nat.mul_comm (10 ^ s.length) 10,Nat.mul_assoc]
    have h2:m / 10*10*10 ^ s.length≤m*10 ^ s.length:=Nat.mul_le_mul_right _ (by omega)
    omega
   have hd:m % 10<10:=by omega
   have goal:=ih (m / 10) (UInt8.ofNat (48+m % 10)::s) (by omega) (by simpa using hp') (by simp only[List.length_cons];omega)
   cases neg with
   |true=>
    simp only[if_true] at goal ⊢
    have e1:(-(m:Int)).tmod 10= -((m % 10:Nat):Int):=by rw[Int.neg_tmod,Int.tmod_eq_emod_of_nonneg (by omega)];omega
    have e2:(-(m:Int)).tdiv 10= -((m / 10:Nat):Int):=by rw[Int.neg_tdiv,Int.tdiv_eq_ediv_of_nonneg (by omega)];omega
    rw[e1]
    by_cases hr:m % 10=0
    ·rw[if_neg (by rw[hr];simp)]
     have e3:(-((m % 10:Nat):Int))=((m % 10:Nat):Int):=by rw[hr];rfl
     rw[e3,Yn s _ (m % 10) hd (by omega) (by rw[e2];omega),e2,goal]
    ·rw[if_pos (by simp;omega),Int.neg_neg,fD (jB (by omega) (by omega)),Yn s _ (m % 10) hd (by omega) (by rw[e2];omega),e2,goal]
   |false=>
    simp only[Bool.false_eq_true,if_false] at goal ⊢
    have e1:((m:Int)).tmod 10=((m % 10:Nat):Int):=by rw[Int.tmod_eq_emod_of_nonneg (by omega)];omega
    have e2:((m:Int)).tdiv 10=((m / 10:Nat):Int):=by rw[Int.tdiv_eq_ediv_of_nonneg (by omega)];omega
    rw[e1,if_neg (by simp;omega),Yn s _ (m % 10) hd (by omega) (by rw[e2];omega),e2,goal]
/-! ### Number -/
theorem acF(D:List UInt8):D6 ⟨45::D⟩ ⟨[45]⟩=some (⟨D⟩,true):=by
 unfold D6 Tk Tm
 have h1:mo ⟨45::D⟩ 0 ((([45]:List UInt8).length:Nat):Int)=some ⟨[45]⟩:=WU [45] D
 have h2:mo ⟨45::D⟩ ((([45]:List UInt8).length:Nat):Int) (((45::D).length:Nat):Int)=some ⟨D⟩:=abB [45] D
 have e:decide (((([45]:List UInt8).length:Nat):Int)≤(((45::D).length:Nat):Int))=true:=by simp;omega
 simp only
 rw[h1,h2,e,qJ rfl,Option.bind_some,Option.bind_some]
 simp
theorem acG(c:UInt8)(D:List UInt8)(hc:c.toNat≠45):D6 ⟨c::D⟩ ⟨[45]⟩=some (⟨c::D⟩,false):=by
 unfold D6 Tk Tm
 have h1:mo ⟨c::D⟩ 0 ((([45]:List UInt8).length:Nat):Int)=some ⟨[c]⟩:=WU [c] D
 have e:decide (((([45]:List UInt8).length:Nat):Int)≤(((c::D).length:Nat):Int))=true:=by simp;omega
 have hne:¬c=45:=fun h=>hc (by rw[h];rfl)
 simp only
 rw[h1,e,qJ rfl,Option.bind_some,Option.bind_some]
 simp[hne]
theorem acP(c:UInt8)(h:BL c=true):IntKind.i64.wrap (IntKind.u8.wrap ((c.toNat:Int)-48))=((c.toNat-48:Nat):Int):=by
 have key:∀k:Fin 10,IntKind.i64.wrap (IntKind.u8.wrap (((48+k.val:Nat):Int)-48))=(k.val:Int):=by decide+kernel
 unfold BL at h
 simp only[Bool.and_eq_true,decide_eq_true_eq] at h
 have:=key ⟨c.toNat-48,by omega⟩
 simp only at this
 rwa [show 48+(c.toNat-48)=c.toNat by omega] at this
def QZ(neg:Bool)(r:Option Nat):Int×Bool:=match r with|none=>(0,false)|some v=>(if neg then-(v:Int) else (v:Int),true)
theorem am0(D:List UInt8)(neg:Bool)(hd:∀c∈D,BL c=true)(hl:D.length≤1000):iter (Eb (⟨D⟩,neg)) FUEL (0,0)=some (QZ neg (runN D 0)):=by
 have:=nR (B:=Eb (⟨D⟩,neg)) (fun (q:Nat) i=>((q:Int),i)) D (fun q _=>q≤1099511627776) (fun q r=>some (QZ neg (runN r q))) ?_ ?_ FUEL 0 0 (by omega) (by omega) (iW (by omega))
 ·simpa using this
 ·intro c q i x r hq hdr hi hx hk
  have hxi:=U5 hx
  have hxd:=hd x (List.mem_of_getElem? hxi)
  have hw:=acP x hxd
  have hxb:x.toNat-48≤9:=by
   unfold BL at hxd
   simp only[Bool.and_eq_true,decide_eq_true_eq] at hxd
   omega
  simp only[Eb]
  rw[if_pos (by simp;omega),KY (s:=⟨D⟩) hxi,Option.bind_some,ad7,Option.bind_some,hxd,if_neg (by simp),fD (jB (by omega) (by omega)),Option.bind_some,hw,fD (jB (by omega) (by omega))]
  unfold runN
  by_cases h:1099511627776<10*q+(x.toNat-48)
  ·rw[if_pos (by simp;omega),if_pos h];rfl
  ·rw[if_neg (by simp;omega),if_neg h]
   have e:10*(q:Int)+((x.toNat-48:Nat):Int)=((10*q+(x.toNat-48):Nat):Int):=by omega
   rw[e,hk _ (by omega)]
 ·intro c q hq
  simp only[Eb]
  rw[if_neg (by simp)]
  unfold Xw NZ runN QZ
  cases neg with
  |true=>rw[if_pos rfl,fD (jB (by omega) (by omega))];rfl
  |false=>rfl
theorem aiw(v:Int)(h1: -9223372036854775808≤v)(h2:v≤9223372036854775807):
  ∃y,Kj v=some y∧Ad y=some (if 1099511627776<v∨v< -1099511627776 then (0,false) else (v,true)):=by
 by_cases hs:0≤v∧v<10
 ·have key:∀k:Fin 10,(Kj (k.val:Int)).bind Ad=some ((k.val:Int),true):=by decide+kernel
  have:=key ⟨v.toNat,by omega⟩
  simp only at this
  rw[Int.toNat_of_nonneg hs.1] at this
  obtain⟨y,hy,hy2⟩:=bind_some this
  refine⟨y,hy,?_⟩
  rw[hy2,if_neg (by omega)]
 ·have h0:0<v.natAbs:=by omega
  have hp:v.natAbs*10 ^ ([]:List UInt8).length≤9223372036854775808:=by simp;omega
  have hlen:=Um 20 v.natAbs [] (by have:(10:Nat) ^ 20=100000000000000000000:=(by decide);omega)
  simp only[List.length_nil,Nat.zero_add] at hlen
  have hdig:=acL (v.natAbs+1) v.natAbs [] (by omega) (by simp)
  obtain⟨c,r,hc,UM,Y8⟩:=acM (v.natAbs+1) v.natAbs [] (by omega) h0
  have hrun:=agb (v.natAbs+1) v.natAbs [] (by omega)
  have hloop:=acN v (decide (v<0)) FUEL v.natAbs [] (by have:FUEL=18446744073709551616:=rfl;omega) hp (by simp)
  have ev:(if decide (v<0)=true then-(v.natAbs:Int) else (v.natAbs:Int))=v:=by
   by_cases hv:v<0
   ·rw[if_pos (by simpa using hv)];omega
   ·rw[if_neg (by simpa using hv)];omega
  rw[ev] at hloop
  rw[hc] at hloop hlen hdig hrun
  have akL:∀neg,Ad (if neg then ⟨45::c::r⟩ else ⟨c::r⟩)=some (QZ neg (runN (c::r) 0)):=by
   intro neg
   have e1:D6 (if neg then ⟨45::c::r⟩ else ⟨c::r⟩) ⟨[45]⟩=some (⟨c::r⟩,neg):=by
    cases neg with
    |true=>exact acF _
    |false=>exact acG _ _ Y8
   have hb0:lX ⟨c::r⟩ 0=some (c.toNat:Int):=KY (i:=0) (s:=⟨c::r⟩) rfl
   have d0:decide ((⟨c::r⟩:Str)=⟨[]⟩)=false:=by simp
   have d1:decide ((c.toNat:Int)=48)=false:=by simp;omega
   unfold Ad
   rw[e1,Option.bind_some]
   simp only
   rw[d0,Bool.not_false,qJ rfl,hb0,Option.bind_some,d1,if_neg (by simp),fD (by simp only[decide_eq_true_eq];omega),am0 _ _ hdig (by omega)]
  have hdec:Kj v=some (if decide (v<0) then ⟨45::c::r⟩ else ⟨c::r⟩):=by
   unfold Kj
   rw[if_neg (by simp;omega),hloop]
   unfold VQ VT
   by_cases hv:v<0
   ·have c1:vM ⟨[45]⟩ ⟨c::r⟩=some ⟨45::c::r⟩:=by
     unfold vM
     rw[if_pos (by simp only[List.length_singleton];omega)]
     rfl
    rw[if_pos (by simpa using hv),if_pos (by simpa using hv),c1,Option.bind_some]
   ·rw[if_neg (by simpa using hv),if_neg (by simpa using hv)]
  refine⟨_,hdec,?_⟩
  rw[akL,hrun]
  by_cases hb:1099511627776<v.natAbs
  ·rw[if_pos hb,if_pos (by omega)];rfl
  ·rw[if_neg hb,if_neg (by omega)]
   unfold runN QZ
   simp only
   rw[ev]
end Go.Proofs.YtcalibhfgdncaaaGreatDoor
namespace Go.Proofs.YtcalibhfgdncaaaGreatDoor
open Go.Dc
set_option maxRecDepth 10000
def D9:List UInt8→Nat→Option Nat
 |[],n=>some n
 |c::cs,n=>if BL c then D9 cs (10*n+(c.toNat-48)) else none
def MB(neg:Bool)(r:Option Nat):Int×Bool:=
 match r with
 |none=>(0,false)
 |some v=>if 1099511627776<v then (0,false) else (if neg then-(v:Int) else (v:Int),true)
def Mx(neg:Bool):List UInt8→Int×Bool
 |[]=>(0,false)
 |c::r=>if c.toNat=48∧(neg=true∨r≠[]) then (0,false) else MB neg (D9 (c::r) 0)
def Fg:List UInt8→Int×Bool
 |[]=>(0,false)
 |c::r=>if c.toNat=45 then Mx true r else Mx false (c::r)
theorem agZ:∀(l:List UInt8) (n v:Nat),D9 l n=some v→n*10 ^ l.length≤v
 |[],n,v,h=>by
  simp only[D9,Option.some.injEq] at h
  subst h
  simp
 |c::cs,n,v,h=>by
  simp only[D9] at h
  split at h
  ·have:=agZ cs _ v h
   have e:n*10 ^ (c::cs).length≤(10*n+(c.toNat-48))*10 ^ cs.length:=by
    rw[List.length_cons,Nat.pow_succ]
    have:n*(10 ^ cs.length*10)=10*n*10 ^ cs.length:=by
     rw[Nat.mul_comm (10 ^ cs.length) 10,←Nat.mul_assoc,Nat.mul_comm n 10]
    rw[this]
    exact Nat.mul_le_mul_right _ (by omega)
   omega
  ·cases h
theorem am1(D:List UInt8)(neg:Bool)(hl:D.length≤1000000000000):iter (Eb (⟨D⟩,neg)) FUEL (0,0)=some (MB neg (D9 D 0)):=by
 have:=nR (B:=Eb (⟨D⟩,neg)) (fun (q:Nat) i=>((q:Int),i)) D (fun q _=>q≤1099511627776) (fun q r=>some (MB neg (D9 r q))) ?_ ?_ FUEL 0 0 (by omega) (by omega) (iW (by omega))
 ·simpa using this
 ·intro c q i x r hq hdr hi hx hk
  have hxi:=U5 hx
  simp only[Eb]
  rw[if_pos (by simp<;>omega),KY (s:=⟨D⟩) hxi,Option.bind_some,ad7,Option.bind_some]
  unfold D9
  cases hxd:BL x with
  |false=>simp[MB]
  |true=>
   have hw:=acP x hxd
   have hxb:x.toNat-48≤9:=by
    unfold BL at hxd
    simp only[Bool.and_eq_true,decide_eq_true_eq] at hxd
    omega
   rw[if_neg (by simp),fD (jB (by omega) (by omega)),Option.bind_some,hw,fD (jB (by omega) (by omega)),if_pos rfl]
   by_cases h:1099511627776<10*q+(x.toNat-48)
   ·rw[if_pos (by simp<;>omega)]
    cases hv:D9 r (10*q+(x.toNat-48)) with
    |none=>rfl
    |some v=>
     have h1:=agZ _ _ _ hv
     have h2:1≤10 ^ r.length:=Nat.one_le_pow _ _ (by omega)
     have h3:(10*q+(x.toNat-48))*1≤(10*q+(x.toNat-48))*10 ^ r.length:=Nat.mul_le_mul_left _ h2
     unfold MB
     simp only
     rw[if_pos (by omega)]
   ·rw[if_neg (by simp<;>omega)]
    have e:10*(q:Int)+((x.toNat-48:Nat):Int)=((10*q+(x.toNat-48):Nat):Int):=by omega
    rw[e,hk _ (by omega)]
 ·intro c q hq
  simp only[Eb]
  rw[if_neg (by simp)]
  unfold Xw NZ D9 MB
  have hq':¬1099511627776<q:=by omega
  cases neg with
  |true=>
   simp only
   rw[if_pos trivial,fD (jB (by omega) (by omega)),if_neg hq',if_pos trivial]
  |false=>
   simp only
   rw[if_neg (by simp),if_neg hq',if_neg (by simp)]
theorem aat(D:List UInt8)(neg:Bool)(s:Str)(hc:D6 s ⟨[45]⟩=some (⟨D⟩,neg))(hl:D.length≤1000000000000):Ad s=some (Mx neg D):=by
 unfold Ad
 rw[hc,Option.bind_some]
 simp only
 cases D with
 |nil=>simp[fV,Mx]
 |cons c r=>
  have hb0:lX ⟨c::r⟩ 0=some (c.toNat:Int):=KY (i:=0) (s:=⟨c::r⟩) rfl
  have d0:decide ((⟨c::r⟩:Str)=⟨[]⟩)=false:=by simp
  rw[d0,Bool.not_false,qJ rfl,hb0,Option.bind_some,Bool.false_or]
  by_cases hz:c.toNat=48∧(neg=true∨r≠[])
  ·rw[if_pos]
   ·simp[Mx,hz]
   ·obtain⟨h1,h2⟩:=hz
    have:decide ((c.toNat:Int)=48)=true:=by simp;omega
    rw[this,Bool.true_and]
    rcases h2 with h2|h2
    ·simp[h2]
    ·have:0<r.length:=List.length_pos_iff.2 h2
     simp only[List.length_cons,Bool.or_eq_true,decide_eq_true_eq]
     right;omega
  ·rw[if_neg]
   ·rw[fD (by simp only[decide_eq_true_eq,List.length_cons] at hl ⊢;omega),am1 _ _ hl]
    simp only[Mx]
    rw[if_neg hz]
   ·intro h
    simp only[Bool.and_eq_true,Bool.or_eq_true,decide_eq_true_eq,List.length_cons] at h
    refine hz ⟨by omega,?_⟩
    rcases h.2 with h2|h2
    ·exact .inl h2
    ·right;intro hr;subst hr;simp at h2
theorem air:D6 ⟨[]⟩ ⟨[45]⟩=some (⟨[]⟩,false):=by decide+kernel
theorem JL(s:Str)(hl:s.l.length≤1000000000000):Ad s=some (Fg s.l):=by
 obtain⟨l⟩:=s
 cases l with
 |nil=>exact aat [] false _ air (by simp)
 |cons c r=>
  simp only[List.length_cons] at hl
  by_cases hc:c.toNat=45
  ·have:c=45:=by
    apply UInt8.toNat_inj.1;rw[hc];rfl
   subst this
   rw[aat r true _ (acF r) (by omega)]
   rfl
  ·rw[aat (c::r) false _ (acG c r hc) (by simp<;>omega)]
   simp only[Fg]
   rw[if_neg hc]
/-! ### The reference -/
end Go.Proofs.YtcalibhfgdncaaaGreatDoor
namespace Go.Proofs.YtcalibhfgdncaaaGreatDoor
open Go.Dc
set_option maxRecDepth 10000
/-! ### Ranges -/
def RP(a b:Int×Bool):Int×Int×Bool:=if a.2=true∧b.2=true∧a.1≤b.1 then (a.1,b.1,true) else (0,0,false)
def Nl(l:List UInt8):Int×Int×Bool:=
 if 0≤Lib.index l [46,46] then RP (Fg (l.take (Lib.index l [46,46]).toNat)) (Fg (l.drop ((Lib.index l [46,46]).toNat+2))) else (0,0,false)
theorem afg(a b:Int×Bool):(if (((!a.2)||(!b.2))||decide (b.1<a.1)) then (some (0,0,false):Option (Int×Int×Bool)) else some (a.1,b.1,true))=some (RP a b):=by
 unfold RP
 by_cases h:a.2=true∧b.2=true∧a.1≤b.1
 ·rw[if_pos h,if_neg]
  obtain⟨h1,h2,h3⟩:=h
  simp[h1,h2];omega
 ·rw[if_neg h,if_pos]
  simp only[Bool.or_eq_true,Bool.not_eq_true',decide_eq_true_eq]
  by_cases h1:a.2=true
  ·by_cases h2:b.2=true
   ·right
    have:¬a.1≤b.1:=fun h3=>h ⟨h1,h2,h3⟩
    omega
   ·left;right;simpa using h2
  ·left;left;simpa using h1
theorem an6(s:Str)(hl:s.l.length≤1000000000):TN s=some (Nl s.l):=by
 obtain⟨l⟩:=s
 simp only at hl
 unfold TN WR
 simp only
 rw[if_pos (by omega),Option.bind_some]
 simp only
 by_cases hi:0≤Lib.index l [46,46]
 ·have hcut:Lib.cut l [46,46]=(l.take (Lib.index l [46,46]).toNat,l.drop ((Lib.index l [46,46]).toNat+2),true):=by
   unfold Lib.cut;rw[if_pos hi];rfl
  rw[hcut]
  simp only
  rw[JL _ (by simp only[List.length_take];omega),Option.bind_some,JL _ (by simp only[List.length_drop];omega),Option.bind_some,afg]
  unfold Nl
  rw[if_pos hi]
 ·have hcut:Lib.cut l [46,46]=(l,[],false):=by
   unfold Lib.cut;rw[if_neg hi]
  rw[hcut]
  simp only
  rw[JL _ (by simp only;omega),Option.bind_some,JL _ (by simp),Option.bind_some,afg]
  unfold Nl RP
  rw[if_neg hi]
  simp[Fg]
theorem aeS(l:List UInt8)(i:Nat):Lib.occAt l [46,46] i=true↔l[i]?=some 46∧l[i+1]?=some 46:=by
 constructor
 ·intro h
  exact⟨Lib.occAt_head rfl h,Lib.occAt_second rfl h⟩
 ·rintro⟨h1,h2⟩
  have hlt:i<l.length:=(List.getElem?_eq_some_iff.1 h1).1
  have hlt2:i+1<l.length:=(List.getElem?_eq_some_iff.1 h2).1
  unfold Lib.occAt
  rw[List.drop_eq_getElem_cons hlt,List.drop_eq_getElem_cons hlt2]
  rw[List.getElem?_eq_getElem hlt] at h1
  rw[List.getElem?_eq_getElem hlt2] at h2
  rw[Option.some.inj h1,Option.some.inj h2]
  simp
end Go.Proofs.YtcalibhfgdncaaaGreatDoor
