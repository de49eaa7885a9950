/- Several parts of the engine, one behind the other. -/
import Derived.Test.YtcalibhfgdncaaaGreatDoorDm
import Derived.RangeFuncIn
import Derived.RangeFuncRecord
import Derived.RangeFuncLeaves
import Derived.TacticsIn
import Derived.OrdersIn
import Derived.Lib.AppendStr
import Derived.Lib.UnsafeStr
import Derived.Lib.Builder
import Derived.Lib.OthersKept
import Derived.Laws.IdiomStrings
import Derived.Lib.LaidTab
import Derived.LaidSub
set_option linter.all false
namespace Go.Dc
open Go.RowKit aC
structure Hdr where
 a:Option Addr
 len:Nat
 cap:Nat
instance:aC Hdr where
 R:=Unit
 n:=1
 bytes:=24
 enc:=fun _ x=>[.slice x.a x.len x.cap]
 ok:=fun _ _ _ _=>True
 npos:=by decide
 bpos:=by decide
 len:=fun _ _=>rfl
 one:=fun r x v hv=>by simp at hv;subst hv;rfl
 mono:=fun _ _ _ _ _ _ h=>h
 dep:=fun _ _ _ _ _ _ h=>h
section
variable {P:Program}{n:Nat}{κ:Ctx}{ρ:Env}{H:List Chunk}{g:Bool}{C:Env→List Chunk→Prop}{β:Type}[aC β]
end
end Go.Dc
namespace Go.Dc
open Go.RowKit aC
section
variable {P:Program}{n:Nat}{κ:Ctx}{ρ:Env}{H:List Chunk}{g:Bool}
theorem Kn.arL{α:Type}[aC α]{r:SR (R α)}{xs ys:List α}{lo hi:Int}(h:Kn κ H (α:=List α) r xs)(hq:sub xs lo hi=some ys):Kn κ H (α:=List α) (r.sub lo.toNat (aC.n α)) ys:=
 h.map fun _ _ hs=>sF.sub hs hq
theorem Ok.same{v v':Value}{a:Act}{t:Nat}(h:Ok n ρ a)(hl:look ρ t=some (.v v))(he:v=v'):Ok n ((t,.v v')::ρ) a:=by
 subst he
 refine⟨h.size,h.uz,fun u e he=>?_⟩
 simp only[look] at he
 by_cases hb:t=u
 ·subst hb
  simp at he
  subst he
  exact h.get _ _ hl
 ·have hb':Nat.beq t u=false:=EZ hb
  rw[hb'] at he
  exact h.get u e he
theorem abm{ops:Array Oper}{Q:Exit→Act→World→Prop}{rest:List Oper}{v v':Value}(t:Nat)(hl:look ρ t=some (.v v))(he:v=v')(k:OW P n κ ops Q rest ((t,.v v')::ρ) H):OW P n κ ops Q rest ρ H:=
 fun w a hm ho=>k w a hm (ho.same hl he)
theorem UY{ops:Array Oper}{K:Act→World→Prop}{Hs:List Chunk}{fuel:Nat}{listed:Array Bool}{v v':Value}(t:Nat)(hl:look ρ t=some (.v v))(he:v=v')(k:AW P n κ ops K Hs fuel listed ((t,.v v')::ρ) H):AW P n κ ops K Hs fuel listed ρ H:=
 fun w a hm hs ho=>k w a hm hs (ho.same hl he)
end
end Go.Dc
namespace Go.Dc
open Go.RowKit aC
theorem Str.YI{s t:Str}:s.ba=t.ba↔s=t:=⟨Str.YJ,fun h=>by rw[h]⟩
def DY{α:Type}(xs:List α)(lo:Nat)(ys:List α):List α:=xs.take lo++ys++xs.drop (lo+ys.length)
def DZ{α:Type}(xs:List α)(lo dl:Nat)(ys:List α):Option (List α):=if lo+dl≤xs.length then some (DY xs lo (ys.take dl)) else none
theorem ajv{α:Type}(xs:List α)(lo:Nat):DY xs lo []=xs:=by simp[DY]
theorem adU{α:Type}{xs ys:List α}{lo:Nat}(h:lo+ys.length≤xs.length):(DY xs lo ys).length=xs.length:=by
 simp only[DY,List.length_append,List.length_take,List.length_drop];omega
theorem Jj{α:Type}{xs ys zs:List α}{lo dl:Nat}(h:DZ xs lo dl ys=some zs):zs.length=xs.length:=by
 unfold DZ at h
 split at h
 ·cases h;exact adU (by simp only[List.length_take];omega)
 ·cases h
theorem aju{α:Type}{xs ys:List α}{lo:Nat}(h:lo+ys.length≤xs.length)(q:Nat):(DY xs lo ys)[q]?=if q<lo then xs[q]? else if q<lo+ys.length then ys[q-lo]? else xs[q]?:=by
 have h1:(xs.take lo).length=lo:=by rw[List.length_take];omega
 unfold DY
 rw[List.append_assoc]
 by_cases a:q<lo
 ·rw[if_pos a,List.getElem?_append_left (by omega),List.getElem?_take,if_pos a]
 ·rw[if_neg a,List.getElem?_append_right (by omega),h1]
  by_cases b:q<lo+ys.length
  ·rw[if_pos b,List.getElem?_append_left (by omega)]
  ·rw[if_neg b,List.getElem?_append_right (by omega),List.getElem?_drop,show lo+ys.length+(q-lo-ys.length)=q by omega]
section
variable {P:Program}
theorem aq2{w:World}(t ty e:TypeId)(i:TypeInfo)(ht:P.underlying t=some (.slice e))(hi:P.info? e=some i)
  (gb o dl cd:Nat)(cur:Array Value)(hg:w.heap[gb]?=some (.cells cur e (0,0)))(src:Option Addr)(mm c:Nat)(news:List Value)(hl:news.length=Nat.min mm dl*i.size)
  (hnews:∀j v,news[j]?=some v→src=some ⟨sb src,so src,none⟩∧w.cell? ⟨sb src,so src+j,none⟩=some v)(h1:∀u∈news,u.oneCell'=true)(hfit:o+news.length≤cur.size):
  (Builtin.copy_ #[t,t] ty #[.slice (some ⟨gb,o,none⟩) dl cd,.slice src mm c]).run P w=
   .ok (.int .i64 (Nat.min mm dl:Nat)) (w.setRow gb (cur.toList.take o++news++cur.toList.drop (o+news.length)).toArray):=by
 have hf:=KM (P:=P) (w:=w) (size:=i.size) (m:=Nat.min mm dl) (src:=src) (len:=mm) (cap:=c) hl hnews
 have hst:=run_storeCells_at P gb o e news 0 cur w hg (by simpa using hfit) h1
 simp only[Nat.add_zero] at hst
 simp[Builtin.copy_,run_underlying ht,sizeOf,typeInfo,hi,Builtin.lenOf,hf,hst,goInt]
theorem aq3{w:World}(t ty e:TypeId)(i:TypeInfo)(ht:P.underlying t=some (.slice e))(hi:P.info? e=some i)(ba:Option Addr)(dl cd:Nat)(src:Option Addr)(mm c:Nat)(h0:Nat.min mm dl=0):
  (Builtin.copy_ #[t,t] ty #[.slice ba dl cd,.slice src mm c]).run P w= .ok (.int .i64 (0:Nat)) w:=by
 have hf:=KM (P:=P) (w:=w) (size:=i.size) (m:=0) (src:=src) (len:=mm) (cap:=c) (cs:=[]) (by simp) (fun j v hv=>by simp at hv)
 cases ba with
 |none=>simp[Builtin.copy_,run_underlying ht,sizeOf,typeInfo,hi,Builtin.lenOf,h0,hf,goInt]
 |some a=>simp[Builtin.copy_,run_underlying ht,sizeOf,typeInfo,hi,Builtin.lenOf,h0,hf,goInt,storeCells]
end
section
variable {P:Program}{n:Nat}{κ:Ctx}{ρ:Env}{H:List Chunk}{g:Bool}{C:Env→List Chunk→Prop}
theorem Kn.adM{α:Type}[aC α]{r:SR (R α)}{xs:List α}{w:World}(hk:Kn κ H (α:=List α) r xs)(hm:Mem κ H w):xs.length≤r.cap:=by
 obtain⟨S,hs⟩:=hm
 obtain⟨L,_,h2⟩:=hk S w hs
 exact h2.1
theorem ad7{α:Type}[aC α]{x:Operand}{lo hi:Option Operand}{t m:Nat}{r:SR (R α)}{xs ys:List α}{ol oh:Option (IntKind×Int)}
  (hcap:xs.length≤r.cap)(hq:g=true→sub xs (oval ol 0) (oval oh xs.length)=some ys)
  (hx:Gets ρ g x (.slice r.a m r.cap):=by exact gT)
  (hm1:m=xs.length:=by first|rfl|simp only[List.length_set,List.length_append,List.length_replicate])
  (hlo:DR ρ g lo ol:=by first|exact .none|exact .some (.plain rfl)|exact .some (.cond rfl id)|exact .some (.cond rfl gl))
  (hhi:DR ρ g hi oh:=by first|exact .none|exact .some (.plain rfl)|exact .some (.cond rfl id)|exact .some (.cond rfl gl))
  (hsz:elemSize P t=some (aC.n α):=by kernel_rfl):
  Ev P n κ H ρ g (.slice t x lo hi none) (.slice (r.sub (oval ol 0).toNat (aC.n α)).a ys.length (r.sub (oval ol 0).toNat (aC.n α)).cap):=by
 subst hm1
 intro w a dst ty pos aV gd hm ho hg
 show (Instr.sliceAt t (a.eval x) (lo.map a.eval) (hi.map a.eval) none >>= fun v=>pure (Next.value v)).run P w=_
 rw[hx.eval ho hg,hlo.eval ho hg,hhi.eval ho hg]
 exact iM (ahB (hq hg) hcap hsz)
def From{ρ:Type}(r:SR ρ)(lo sz:Nat)(ba:Option Addr):Prop:=∀gb o,r.a=some ⟨gb,o,none⟩→r.cap≠lo→ba=some ⟨gb,o+lo*sz,none⟩
theorem From.all{ρ:Type}{r:SR ρ}{sz:Nat}:From r 0 sz r.a:=fun gb o h _=>by rw[h];simp
theorem From.sub{ρ:Type}{r:SR ρ}{lo sz:Nat}:From r lo sz (r.sub lo sz).a:=fun gb o h hne=>by
 show (if r.cap=lo then r.a else r.a.map (·.add (lo*sz)))=_
 rw[if_neg hne,h]
 simp[Addr.add_lit]
theorem ajB{α:Type}[aC α]{es:Nat→R α}{ys:List α}{k j:Nat}{v:Value}(h:(iX es (ys.take k) 0)[j]?=some v):(iX es ys 0)[j]?=some v:=by
 obtain⟨i,j',x,rfl,hj,hx,hv⟩:=U9 es h
 have hx':ys[i]?=some x:=by
  rw[List.getElem?_take] at hx
  split at hx
  ·exact hx
  ·cases hx
 rw[Gy es ys 0 i j' x hx' hj,Nat.zero_add]
 exact hv
theorem ahW{α:Type}[aC α]{x y:Operand}{t e sz lH d:Nat}{ty:TypeId}{pos:String}{aV:Array Edge}{gd:Option (Nat×Bool)}{r r2:SR (R α)}{xs ys zs:List α}{lo dl cd m2:Nat}{ba:Option Addr}{H':List Chunk}
  (hu:eT H (aj e r xs) (aj e r zs) H')(hk:Kn κ H (α:=List α) r2 ys)(hq:DZ xs lo dl ys=some zs)(hba:From r lo sz ba)
  (hfl:∀(S:bO) (w:World) (q:R α) (u:α),ok S w q u)(hen:∀(p q:R α) (u:α),enc p u=enc q u)
  (k:C ((d,.v (.int .i64 (Nat.min ys.length dl:Nat)))::ρ) H')
  (hx:Gets ρ true x (.slice ba dl cd):=by exact gT)(hy:Gets ρ true y (.slice r2.a m2 r2.cap):=by exact gT)
  (hm2:m2=ys.length:=by first|rfl|simp only[List.length_set,List.length_append,List.length_replicate])
  (hd:Nat.blt d n=true:=by rfl)(hsz:aC.n α=sz:=by rfl)(hby:aC.bytes α=lH:=by rfl)(hi:Aq P t e sz lH=true:=by kernel_rfl):
  jq P n κ ⟨some d,.call {callee:= .builtin .copy,args:= #[x,y],argTypes:= #[t,t]},ty,pos,aV,gd⟩ ρ H C:=by
 subst hm2
 intro K Q hs w act hm ho
 obtain⟨hut,i,z,hi',hisz,Ms,hz,hzs,hpos⟩:=KG hi
 obtain⟨cs,hcs⟩:=Jq act.eval .copy x y #[t,t] (some d) ty pos aV gd
 have hnews:=adO hk hm
 obtain⟨S,hms⟩:=hm
 have hφ:=hu.has.φ hms
 have hin:=(hms.all _ hu.has.mem).2
 unfold DZ at hq
 split at hq
 case isFalse=>cases hq
 rename_i hld
 have hzq:zs=DY xs lo (ys.take dl):=by cases hq;rfl
 have hzl:zs.length=xs.length:=by rw[hzq];exact adU (by simp only[List.length_take];omega)
 by_cases h0:Nat.min ys.length dl=0
 ·have hnil:ys.take dl=[]:=List.length_eq_zero_iff.1 (by rw[List.length_take];exact (Nat.min_comm _ _).trans h0)
  have hzx:zs=xs:=by rw[hzq,hnil,ajv]
  subst hzx
  unfold Oper.wp
  rw[hcs,hx.eval ho rfl,hy.eval ho rfl]
  have hr:=iM (P:=P) (aq3 (P:=P) (w:=w) t ty e i hut hi' ba dl cd r2.a ys.length r2.cap h0)
  rw[show (0:Nat)=Nat.min ys.length dl from h0.symm] at hr
  rw[show builtin .copy #[t,t] ty cs #[.slice ba dl cd,.slice r2.a ys.length r2.cap]=(Builtin.copy_ #[t,t] ty #[.slice ba dl cd,.slice r2.a ys.length r2.cap] >>= fun v=>pure (Next.value v)) from rfl,hr]
  exact hs _ _ k w _ ⟨S,hms.upd hu (Frame.refl _ w) (fun _ h=>h) (fun _ h=> .inl h) hms.lt hφ (fun kk hk=>⟨.inl hk,(hin kk hk).1,(hin kk hk).2.1⟩)⟩ (ho.put (by simpa [Nat.blt_eq] using hd) rfl)
 ·rcases hφ.2 with ⟨ha,QL,hc0⟩|⟨gb,o,cur,ha,hgb,h3,h4,h5⟩
  ·subst QL
   have:dl=0:=by simp at hld;omega
   subst this
   exact absurd (Nat.min_zero _) h0
  ·have hne:r.cap≠lo:=by
    have:0<dl:=by
     have:=Nat.min_le_right ys.length dl
     have h1:Nat.min ys.length dl≤dl:=this
     omega
    omega
   have hb:=hba gb o ha hne
   subst hb
   have hyl:(ys.take dl).length=Nat.min ys.length dl:=by rw[List.length_take];exact Nat.min_comm _ _
   have hnl:(iX r2.es (ys.take dl) 0).length=Nat.min ys.length dl*i.size:=by rw[Bb,hisz,hsz,hyl]
   have amv:lo+(ys.take dl).length≤xs.length:=by simp only[List.length_take];omega
   have hfit:o+lo*sz+(iX r2.es (ys.take dl) 0).length≤cur.size:=by
    rw[Bb,hsz,Nat.add_assoc,←Nat.add_mul]
    rw[hsz] at h4
    exact Nat.le_trans (Nat.add_le_add_left (Nat.mul_le_mul_right _ (by omega)) _) h4
   have hrun:=iM (P:=P) (aq2 (P:=P) (w:=w) t ty e i hut hi' gb (o+lo*sz) dl cd cur hgb r2.a ys.length r2.cap (iX r2.es (ys.take dl) 0) hnl (fun j v hv=>hnews j v (ajB hv)) (Y2 _ _ _) hfit)
   unfold Oper.wp
   rw[hcs,hx.eval ho rfl,hy.eval ho rfl]
   rw[show builtin .copy #[t,t] ty cs #[.slice (some ⟨gb,o+lo*sz,none⟩) dl cd,.slice r2.a ys.length r2.cap]=(Builtin.copy_ #[t,t] ty #[.slice (some ⟨gb,o+lo*sz,none⟩) dl cd,.slice r2.a ys.length r2.cap] >>= fun v=>pure (Next.value v)) from rfl,hrun]
   generalize hN:iX r2.es (ys.take dl) 0=N at*
   have hfr:Frame (aj e r xs).fp w (w.setRow gb (cur.toList.take (o+lo*sz)++N++cur.toList.drop (o+lo*sz+N.length)).toArray):=by
    refine⟨rfl,rfl,rfl,by simp[World.setRow],fun k _ hn=>?_⟩
    have hne:gb≠k:=fun h=>hn ⟨_,ha,h.symm⟩
    simp[World.setRow,Array.getElem?_modify,hne]
   refine hs _ _ k _ _ ⟨S,hms.upd hu hfr (fun _ h=>h) (fun _ h=> .inl h) (fun k hk=>Nat.lt_of_lt_of_le (hms.lt k hk) hfr.size) ⟨by rw[hzl];exact hφ.1,.inr ⟨gb,o,_,ha,setRow_heap w gb cur _ e (0,0) hgb,by rw[hzl];exact h3,?_,?_⟩⟩ ?_⟩ (ho.put (by simpa [Nat.blt_eq] using hd) rfl)
   ·have hc:(cur.toList.take (o+lo*sz)++N++cur.toList.drop (o+lo*sz+N.length)).toArray.size=cur.size:=by
     simp only[List.size_toArray,List.length_append,List.length_take,List.length_drop,Array.length_toList]
     omega
    rw[hc];exact h4
   ·intro q u GQ
    refine⟨fun j v hv=>?_,hfl _ _ _ _⟩
    have hj:j<aC.n α:=by have:=(List.getElem?_eq_some_iff.1 hv).1;rwa [aC.len] at this
    simp only[List.getElem?_toArray]
    have hpre:(cur.toList.take (o+lo*sz)).length=o+lo*sz:=by
     have hcl:cur.toList.length=cur.size:=Array.length_toList
     rw[List.length_take,hcl];omega
    have hNl:N.length=(ys.take dl).length*aC.n α:=by rw[←hN,Bb]
    rw[hzq,aju amv] at GQ
    have mul_lt:∀a b:Nat,a<b→a*aC.n α+j<b*aC.n α:=fun a b hab=>by
     have:a*aC.n α+aC.n α≤b*aC.n α:=by rw[←Nat.succ_mul];exact Nat.mul_le_mul_right _ hab
     omega
    rw[←hsz] at hpre ⊢
    by_cases a1:q<lo
    ·rw[if_pos a1] at GQ
     have:=mul_lt q lo a1
     rw[List.append_assoc,List.getElem?_append_left (by rw[hpre];omega),List.getElem?_take,if_pos (by omega)]
     have:=(h5 q u GQ).1 j v hv
     simpa using this
    ·rw[if_neg a1] at GQ
     have hle:lo*aC.n α≤q*aC.n α:=Nat.mul_le_mul_right _ (by omega)
     by_cases a2:q<lo+(ys.take dl).length
     ·rw[if_pos a2] at GQ
      have e1:o+(q*aC.n α+j)=(o+lo*aC.n α)+((q-lo)*aC.n α+j):=by rw[Nat.sub_mul];omega
      have hlt2:(q-lo)*aC.n α+j<N.length:=by rw[hNl];exact mul_lt _ _ (by omega)
      rw[e1,List.append_assoc,List.getElem?_append_right (by rw[hpre];omega),hpre,Nat.add_sub_cancel_left,List.getElem?_append_left hlt2,←hN,Gy r2.es _ 0 _ j u GQ hj,Nat.zero_add,hen _ (r.es q)]
      exact hv
     ·rw[if_neg a2] at GQ
      have hle2:(lo+(ys.take dl).length)*aC.n α≤q*aC.n α:=Nat.mul_le_mul_right _ (by omega)
      rw[Nat.add_mul,←hNl] at hle2
      rw[List.append_assoc,List.getElem?_append_right (by rw[hpre];omega),hpre,List.getElem?_append_right (by omega),List.getElem?_drop]
      rw[show o+lo*aC.n α+N.length+(o+(q*aC.n α+j)-(o+lo*aC.n α)-N.length)=o+(q*aC.n α+j) by omega]
      have:=(h5 q u GQ).1 j v hv
      simpa using this
   ·rintro kk ⟨p,hp,rfl⟩
    have h:=hin p.block ⟨p,hp,rfl⟩
    refine⟨.inl ⟨p,hp,rfl⟩,?_,h.2.1⟩
    have:=h.1
    simpa [World.setRow] using this
theorem XD{f d:Nat}{x:Operand}{xs:List Operand}{vs cap:List Value}{v:Value}{ts:Array TypeId}{ty:TypeId}{pos:String}{aV:Array Edge}{gd:Option (Nat×Bool)}
  (hc:∀w,Mem κ H w→Calls P f (vs++cap).toArray w (dz w v))(k:C ((d,.v v)::ρ) H)
  (hx:Gets ρ true x (.func (.func f) #[] cap.toArray):=by exact gT)
  (ha:jg ρ true xs vs:=by repeat (first|exact jg.nil|(apply jg.cons;first|exact .plain rfl|exact .cond rfl id|exact .cond rfl gl)))
  (hd:Nat.blt d n=true:=by rfl)(hf:callable P f=true:=by kernel_rfl):
  jq P n κ ⟨some d,.call {callee:= .value x,args:=xs.toArray,argTypes:=ts},ty,pos,aV,gd⟩ ρ H C:=by
 intro K Q hs w a hm ho
 unfold Oper.wp
 rw[aq4 (hx.eval ho rfl) (ha.eval ho rfl) hf]
 refine (hc w hm).mono ?_
 rintro e w' ⟨rfl,hb⟩
 exact hs _ _ k w' _ (hm.VP hb) (ho.put (by simpa [Nat.blt_eq] using hd) rfl)
end
end Go.Dc
namespace Go.Dc
open Go.RowKit aC
structure ais(α:Type) where
 l:List α
 deriving DecidableEq,Inhabited
instance {α:Type}[aC α]:aC (ais α) where
 R:=SR (R α)
 n:=1
 bytes:=8
 enc:=fun r _=>[.map (some (sb r.a))]
 ok:=fun _ _ _ _=>True
 npos:=Nat.one_pos
 bpos:=by omega
 len:=fun _ _=>rfl
 one:=fun _ _ v hv=>by simp at hv;subst hv;rfl
 mono:=fun _ _ _ _ _ _ h=>h
 dep:=fun _ _ _ _ _ _ h=>h
theorem ajL{α:Type}{xs:List α}{p:α→Bool}:(xs.find? p=none∧xs.findIdx? p=none∧xs.any p=false∧∀x∈xs,p x=false)∨
  ∃i x,xs.find? p=some x∧xs.findIdx? p=some i∧xs[i]?=some x∧xs.any p=true∧p x=true∧∀j y,j<i→xs[j]?=some y→p y=false:=by
 induction xs with
 |nil=>exact .inl ⟨rfl,rfl,rfl,by simp⟩
 |cons a l ih=>
  cases ha:p a with
  |true=>exact .inr ⟨0,a,by simp[ha],by simp[List.findIdx?_cons,ha],rfl,by simp[ha],ha,fun j y hj=>by omega⟩
  |false=>
   rcases ih with ⟨h1,h2,h3,h4⟩|⟨i,x,h1,h2,h3,h4,h5,h6⟩
   ·refine .inl ⟨by simp[ha,h1],by simp[List.findIdx?_cons,ha,h2],by simp[ha,h3],fun x hx=>?_⟩
    rcases List.mem_cons.1 hx with rfl|hx
    ·exact ha
    ·exact h4 x hx
   ·refine .inr ⟨i+1,x,by simp[ha,h1],by simp[List.findIdx?_cons,ha,h2],by simpa using h3,by simp[ha,h4],h5,fun j y hj hy=>?_⟩
    cases j with
    |zero=>simp at hy;subst hy;exact ha
    |succ j=>exact h6 j y (by omega) (by simpa using hy)
class Gl (α:Type) (β:outParam Type) [aC α] [aC β] where
 ks:List PK
 afn:α→List Value
 val:α→List β
 rep:R α→SR (R β)
 fits:∀x,fit ks (afn x)=true
 okv:∀S w r x,ok S w r x→sF S w (rep r) (val x)
section
variable {α β:Type}[aC α][aC β][Gl α β]
def apj(r:SR (R α))(xs:List α):Chunk where
 fp:=fun k=>k=sb r.a
 φ:=fun S w=>∃es clock,w.heap[sb r.a]?=some (.map es clock)∧es.toList.length=xs.length∧
  ∀i x,xs[i]?=some x→(∃e,es.toList[i]?=some e∧e.key= .agg (Gl.afn x).toArray∧e.val= .slice (Gl.rep (r.es i)).a (Gl.val x).length (Gl.rep (r.es i)).cap)∧ok S w (r.es i) x
 dep:=fun S w w' h hw=>by
  obtain⟨es,clock,h1,h2,h3⟩:=hw
  exact⟨es,clock,by rw[h _ (.inl rfl)];exact h1,h2,fun i x hx=>⟨(h3 i x hx).1,aC.dep S w w' _ _ (fun k hk=>h k (.inr hk)) (h3 i x hx).2⟩⟩
 mono:=fun S S' w h hw=>by
  obtain⟨es,clock,h1,h2,h3⟩:=hw
  exact⟨es,clock,h1,h2,fun i x hx=>⟨(h3 i x hx).1,aC.mono S S' w _ _ h (h3 i x hx).2⟩⟩
def abf(xs:List α)(p:α→Bool):List β:=match xs.find? p with|some x=>Gl.val x|none=>[]
def abe(z:Nat→R β)(r:SR (R α))(xs:List α)(p:α→Bool):SR (R β):=match xs.findIdx? p with|some i=>Gl.rep (r.es i)|none=>⟨none,0,z⟩
def MR.add(r:SR (R α))(i:Nat)(q:R α):SR (R α):=⟨r.a,r.cap,fun j=>if j=i then q else r.es j⟩
theorem apF{S:bO}{w:World}{z:Nat→R β}:sF S w (⟨none,0,z⟩:SR (R β)) []:=⟨Nat.le_refl _,by simp,fun i x hx=>by simp at hx⟩
variable {P:Program}{n:Nat}{κ:Ctx}{ρ:Env}{H:List Chunk}{g:Bool}{C:Env→List Chunk→Prop}
theorem Sk.found{r:SR (R α)}{xs:List α}(h:Has H (apj r xs))(z:Nat→R β)(p:α→Bool):Sk κ H (α:=List β) (abe z r xs p) (abf xs p):=by
 intro S w hs
 obtain⟨es,clock,_,_,h3⟩:=h.φ hs
 show sF S w _ _
 rcases ajL (xs:=xs) (p:=p) with ⟨h1,h2,_⟩|⟨i,x,h1,h2,hx,_⟩
 ·simp only[abf,abe,h1,h2];exact apF
 ·simp only[abf,abe,h1,h2]
  exact Gl.okv S w _ _ (h3 i x hx).2
end
/-! ### Some cells of a block that is written meanwhile -/
def Hw(b:Nat)(ps:List (Nat×Value)):Chunk where
 fp:=fun k=>k=b
 φ:=fun _ w=>∀p∈ps,w.cell? ⟨b,p.1,none⟩=some p.2
 dep:=fun S w w' h hw p hp=>by rw[World.cell?_of_block (w:=w) (h b (.inl rfl))];exact hw p hp
 mono:=fun _ _ _ _ h=>h
section
variable {P:Program}{n:Nat}{κ:Ctx}{ρ:Env}{H:List Chunk}{g:Bool}
theorem Mem.Hw{T:TypeId}{b:Nat}{l:List Value}{w:World}{H':List Chunk}(ps:List (Nat×Value))(hm:Mem κ H w)(hu:eT H (own b T l) (Dc.Hw b ps) H')
  (h:∀p∈ps,l[p.1]?=some p.2):Mem κ H' w:=by
 obtain⟨S,hs⟩:=hm
 refine⟨S,hs.upd (S':=S) hu (Frame.refl _ _) (fun _ h=>h) (fun _ h=> .inl h) hs.lt (fun p hp=>?_) (fun k hk=>?_)⟩
 ·have hb:w.heap[b]?=some (.cells l.toArray T (0,0)):=hu.has.φ hs
  simp[World.cell?,hb,h p hp]
 ·have hk:k=b:=hk
  subst hk
  exact⟨.inl rfl,((hs.all _ hu.has.mem).2 _ rfl).1,((hs.all _ hu.has.mem).2 _ rfl).2.1⟩
theorem ad5{x:Operand}{t b o:Nat}{v:Value}{ps:List (Nat×Value)}(hh:Has H (Dc.Hw b ps))(hv:(o,v)∈ps)
  (hx:Gets ρ g x (.pointer (some ⟨b,o,none⟩)):=by exact gT)(ht:oQ P t=true:=by kernel_rfl):Ev P n κ H ρ g (.load t x) v:=
 D5 hx ht fun _ _ hm=>let ⟨_,hs⟩:=hm;hh.φ hs _ hv
theorem ajw{Q:Exit→Act→World→Prop}{id:Nat}{ops:Array Oper}(Hs:List Chunk)(himp:∀w,Mem κ H w→Mem κ Hs w)
  (h:AW P n κ ops (fun a w=>Q .normal a w) Hs ops.size (Array.replicate ops.size false) ρ H)(hm:P.follows .mixedOrders=true:=by kernel_rfl):
  CW P n κ (.region id ops true) Q ρ H:=by
 intro w a hmm ho
 have hm':=hmm.drawn (w.drawn+1)
 have:=wp_region_held (id:=id) (P:=P) (Q:=fun e a w=>e= .normal∧Q .normal a w) (S:=fun w=>Mem κ Hs w) hm (h _ a hm' (himp _ hm') ho)
 exact wp_mono this (fun e a w hq=>by obtain⟨rfl,hk⟩:=hq;exact hk)
end
end Go.Dc
namespace Go.Dc
open Go.RowKit
inductive Wd:Fence→Prop
 |plain:Wd Fence.wide
 |round (l:Nat):Wd (Fence.wide.inRound l)
theorem Wd.fn{F:Fence}(h:Wd F)(f:FuncId):F.fn f:=by cases h<;>trivial
theorem Wd.depth{F:Fence}(h:Wd F):F.depth.isSome=true→False:=by cases h<;>(intro h;cases h)
theorem Wd.calls{F:Fence}{n:Nat}{P:Program}{f:FuncId}{args:Array Value}{w:World}{R:Ending→World→Prop}(h:Wd F)(hc:Calls P f args w R):CallsIn F n P f args w R:=by
 cases h with
 |plain=>exact callsIn_wide.2 hc
 |round l=>
  have h1:CallsIn Fence.wide n P f args w R:=callsIn_wide.2 hc
  exact h1
theorem Wd.rows{F:Fence}{n:Nat}{P:Program}{row:String}{args:Array Value}{w:World}{R:Value→World→Prop}(h:Wd F)(hc:Rows P row args w R):RowsIn F n P row args w R:=by
 cases h with
 |plain=>exact fun c cs _=>let ⟨v,w',r,s⟩:=hc c cs;⟨v,w',r,stepsIn_wide.2 s⟩
 |round l=>exact fun c cs _=>let ⟨v,w',r,s⟩:=hc c cs;⟨v,w',r,stepsIn_wide.2 s⟩
def abl:Op→Bool
 | .defer _=>false
 |_=>true
theorem apE{o:Op}(h:abl o=true):∀c,o≠ .defer c:=fun c e=>by subst e;cases h
theorem ar2{F:Fence}{N:Nat}{P:Program}{o:Oper}{a:Act}{w:World}{K:Act→World→Prop}{Q:Exit→Act→World→Prop}(hF:Wd F)(hnd:abl o.op=true)(h:o.wp P a w K Q):o.wpIn F N P a w K Q:=by
 refine⟨fun f _=>hF.fn f,?_⟩
 rw[Oper.semAt_eq _ _ _ (apE hnd)]
 unfold Oper.wp at h
 generalize (execOp a.eval o).run P w=r at h
 cases r with
 |ok x w'=>
  cases x with
  |value v=>exact h
  |skip=>exact h
  |defer d=>exact h
  |enter f args=>exact⟨fun hd=>(hF.depth hd).elim,hF.calls h⟩
  |row row args=>exact⟨fun hd=>(hF.depth hd).elim,hF.rows h⟩
  |round l f t a b=>exact h.elim
  |_=>exact h
 |halt x w'=>cases x<;>exact h
section
variable {F:Fence}{P:Program}{n:Nat}{κ:Ctx}{ops:Array Oper}{Q:Exit→Act→World→Prop}{rest:List Oper}{ρ:Env}{H:List Chunk}
/-! In whatever order, under a fence: every order is walked. -/
def AWi(F:Fence)(P:Program)(n:Nat)(κ:Ctx)(ops:Array Oper)(Q:Exit→Act→World→Prop)(fuel:Nat)(listed:Array Bool)(ρ:Env)(H:List Chunk):Prop:=
 ∀w a,Mem κ H w→Ok n ρ a→wpAnyIn F 0 P .any ops Q fuel listed a w
def adu(F:Fence)(P:Program)(n:Nat)(κ:Ctx)(ops:Array Oper)(Q:Exit→Act→World→Prop)(fuel:Nat)(listed:Array Bool)(ρ:Env)(H:List Chunk)(i:Nat):Prop:=
 ∃o,ops[i]?=some o∧o.guard=none∧abl o.op=true∧jq P n κ o ρ H (AWi F P n κ ops Q fuel (listed.setIfInBounds i true))
theorem adu.wpOp{fuel:Nat}{listed:Array Bool}{i:Nat}(hF:Wd F)(h:adu F P n κ ops Q fuel listed ρ H i){w:World}{a:Act}(hm:Mem κ H w)(ho:Ok n ρ a):
  wpOpIn F 0 P ops Q i (wpAnyIn F 0 P .any ops Q fuel (listed.setIfInBounds i true)) a w:=by
 obtain⟨o,hi,hg,hnd,hs⟩:=h
 unfold wpOpIn
 simp only[hi,Region.wanted,hg,if_true]
 exact ar2 hF hnd (hs _ _ (fun _ _ hc w a m o=>hc w a m o) w a hm ho)
end
/-! ### The loop's record -/
def apg(L D:Nat)(n:Nat)(ρ:Env)(ps:Array Tmp)(assign body:Code)(st:LoopState)(pend:Option Code):Chunk where
 fp:=fun k=>k=L∨k=D
 φ:=fun _ w=>L≠D∧(∃a fn,Ok n ρ a∧w.heap[L]?=some (.loop {state:=st,pending:=pend,fn:=fn,tmps:=a.tmps,params:=ps,assign:=assign,body:=body,defers:=D}))∧w.heap[D]?=some (.deferred (some []))
 dep:=fun S w w' h hw=>by
  obtain⟨h0,⟨a,fn,h1,h2⟩,h3⟩:=hw
  exact⟨h0,⟨a,fn,h1,by rw[h L (.inl (.inl rfl))];exact h2⟩,by rw[h D (.inl (.inr rfl))];exact h3⟩
 mono:=fun _ _ _ _ h=>h
def aa7(D:Nat):Chunk where
 fp:=fun k=>k=D
 φ:=fun _ w=>w.heap[D]?=some (.deferred (some []))
 dep:=fun S w w' h hw=>by rw[h D (.inl rfl)];exact hw
 mono:=fun _ _ _ _ h=>h
section
variable {P:Program}{n:Nat}{κ:Ctx}{ρ:Env}{H:List Chunk}{L D nL:Nat}{ρL:Env}{ps:Array Tmp}{assign body:Code}
/-! ### The statement -/
theorem Mem.aa7{st:LoopState}{pe:Option Code}{w:World}(hm:Mem κ (apg L D nL ρL ps assign body st pe::H) w):Mem κ (Dc.aa7 D::H) w:=by
 obtain⟨S,hs⟩:=hm
 have hall:=hs.all _ List.mem_cons_self
 refine⟨S,hs.upd (S':=S) .head (Frame.refl _ _) (fun _ h=>h) (fun _ h=> .inl h) hs.lt hall.1.2.2 (fun k hk=>?_)⟩
 have hk:k=D:=hk
 subst hk
 exact⟨.inl (.inr rfl),(hall.2 _ (.inr rfl)).1,(hall.2 _ (.inr rfl)).2.1⟩
def mark(D:Nat):List Deferred:=[{target:= .collected D,args:= #[]}]
/-! ### Behind the statement: the mark lies among the deferred calls -/
variable {ops:Array Oper}{Q:Exit→Act→World→Prop}{l:List Oper}{ds:List Deferred}
theorem Mem.undef{w:World}(hm:Mem κ (Dc.aa7 D::H) w):Mem κ H (w.putObj D (.deferred none)):=by
 obtain⟨S,hs⟩:=hm
 let e:Chunk:=⟨fun _=>False,fun _ _=>True,fun _ _ _ _ _=>trivial,fun _ _ _ _ _=>trivial⟩
 have:=hs.upd (c':=e) (S':=S) (w':=w.putObj D (.deferred none)) .head ⟨rfl,rfl,rfl,by simp[World.putObj],fun k _ hne=>World.putObj_heap_other (fun e=>hne e)⟩ (fun _ h=>h) (fun _ h=> .inl h) (fun k hk=>by simpa [World.putObj] using hs.lt k hk) trivial (fun k hk=>hk.elim)
 exact⟨S,this.sub' (List.sublist_cons_self _ _)⟩
end
end Go.Dc
namespace Go.Dc
section
variable {P:Program}{n:Nat}{κ:Ctx}{ρ:Env}{H:List Chunk}{g:Bool}
end
end Go.Dc
namespace Go.Dc
open Go.RowKit aC
def u8(c:Int):UInt8:=UInt8.ofNat c.toNat
def u8b(c:Int):Bool:=decide (0≤c∧c≤255)
theorem arW{c:Int}(h:u8b c=true):((u8 c).toNat:Int)=c:=by
 simp only[u8b,decide_eq_true_eq] at h
 have:(UInt8.ofNat c.toNat).toNat=c.toNat:=by
  rw[UInt8.toNat_ofNat']
  omega
 show (((UInt8.ofNat c.toNat).toNat:Nat):Int)=c
 rw[this];omega
def qO(u:Bool)(b:Nat):Value:= .pointer (match u with|true=>some ⟨b,0,none⟩|false=>none)
section
variable {P:Program}
theorem aqZ{w:World}(t u ty e:TypeId)(i:TypeInfo)(z:Value)(ht:P.underlying t=some (.slice e))(hu:P.underlying u=some .string)(hi:P.info? e=some i)(hz:i.zero=some z)
  (base:Option Addr)(m cap:Nat)(s:ByteArray)(olds:List Value)(hlo:olds.length=m*i.size)
  (holds:∀j v,olds[j]?=some v→base=some ⟨sb base,so base,none⟩∧w.cell? ⟨sb base,so base+j,none⟩=some v)
  (hg:cap<m+s.size)(h63:m+s.size≤9223372036854775807)(hb:(m+s.size)*i.bytes≤140737488355328):
  ∃cap' rest,m+s.size≤cap'∧rest=Builtin.zeroCells z.cells (cap'-(m+s.size))∧(Builtin.append_ #[t,u] ty #[.slice base m cap,.string s]).run P w=
   .ok (.slice (some ⟨w.heap.size,0,none⟩) (m+s.size) cap') (w.drew.alloc (.cells (olds.toArray++(Lib.strCells s).toArray++rest) e)):=by
 have hn:¬(m+s.size≤cap):=by omega
 have h63':¬(9223372036854775807<((m:Int)+(s.size:Int))):=by omega
 have hfit:Builtin.nextslicecap (m+s.size) cap*i.bytes≤281474976710656:=growslice_fits (by omega) hb
 have h48':¬(281474976710656<Builtin.nextslicecap (m+s.size) cap*i.bytes):=by omega
 have hf:=Lib.run_firstCells_string (P:=P) w.drew i.size s
 have hfo:=KM (P:=P) (w:=w.drew) (size:=i.size) (m:=m) (src:=base) (len:=m) (cap:=cap) hlo (by simpa using holds)
 refine⟨grownCap w (m+s.size) cap e,_,?_,rfl,?_⟩
 ·unfold grownCap Question.cut
  exact Nat.le_add_right _ _
 ·simp[Builtin.append_,run_underlying ht,run_underlying hu,sizeOf,typeInfo,zeroValue,hi,hz,Builtin.lenOf,hn,h63',h48',Question.forced,hf,hfo,newRow,grownCap]
  congr 2
  apply Array.ext'
  simp[List.append_assoc]
theorem aqX{w:World}(t u ty e:TypeId)(i:TypeInfo)(ht:P.underlying t=some (.slice e))(hu:P.underlying u=some .string)(hi:P.info? e=some i)(hs1:i.size=1)
  (gb o m cap:Nat)(cur:Array Value)(hg:w.heap[gb]?=some (.cells cur e (0,0)))(s:ByteArray)
  (hroom:m+s.size≤cap)(hfit:o+m+s.size≤cur.size):
  (Builtin.append_ #[t,u] ty #[.slice (some ⟨gb,o,none⟩) m cap,.string s]).run P w=
   .ok (.slice (some ⟨gb,o,none⟩) (m+s.size) cap) (w.setRow gb (cur.toList.take (o+m)++Lib.strCells s++cur.toList.drop (o+m+s.size)).toArray):=by
 have hf:=Lib.run_firstCells_string (P:=P) w 1 s
 have hst:=run_storeCells_at P gb (o+m) e (Lib.strCells s) 0 cur w hg (by simpa [Lib.strCells_length] using hfit) (Lib.strCells_oneCell s)
 simp only[Nat.add_zero,Lib.strCells_length] at hst
 simp[Builtin.append_,run_underlying ht,run_underlying hu,sizeOf,typeInfo,hi,hs1,Builtin.lenOf,hroom,hf,Addr.add_lit,hst]
theorem aq1{w:World}(t u ty e:TypeId)(i:TypeInfo)(ht:P.underlying t=some (.slice e))(hu:P.underlying u=some .string)(hi:P.info? e=some i):
  (Builtin.append_ #[t,u] ty #[.slice none 0 0,.string ⟨#[]⟩]).run P w= .ok (.slice none 0 0) w:=by
 have hf:=Lib.run_firstCells_string (P:=P) w i.size ⟨#[]⟩
 have h0:(⟨#[]⟩:ByteArray).size=0:=rfl
 rw[h0] at hf
 simp[Builtin.append_,run_underlying ht,run_underlying hu,sizeOf,typeInfo,hi,Builtin.lenOf,h0,hf]
theorem XG(s:Str):Lib.strCells s.ba=Lib.byteCells s.l:=by
 rw[Lib.strCells_eq]
 simp[Str.ba]
end
def Lc(P:Program)(t:TypeId):Bool:=match P.underlying t with|some .string=>true|_=>false
theorem arI{P:Program}{t:TypeId}(h:Lc P t=true):P.underlying t=some .string:=by
 unfold Lc at h
 split at h
 ·assumption
 ·cases h
section
variable {P:Program}{n:Nat}{κ:Ctx}{ρ:Env}{H:List Chunk}{C:Env→List Chunk→Prop}{g:Bool}
theorem arz{x y:Operand}{t u e d:Nat}{ty:TypeId}{pos:String}{aV:Array Edge}{gd:Option (Nat×Bool)}{r:SR Unit}{xs:List UInt8}{s:Str}{m:Nat}{H':SR Unit→List Chunk}
  (hu:∀r',eT H (aj (α:=UInt8) e r xs) (aj (α:=UInt8) e r' (xs++s.l)) (H' r'))
  (hb:xs.length+s.l.length≤140737488355328)
  (k:∀r':SR Unit,C ((d,.v (.slice r'.a (xs++s.l).length r'.cap))::ρ) (H' r'))
  (hx:Gets ρ true x (.slice r.a m r.cap):=by exact gT)(hy:Gets ρ true y (.string s.ba):=by exact gT)
  (hm1:m=xs.length:=by first|rfl|simp only[List.length_set,List.length_append,List.length_replicate])
  (hd:Nat.blt d n=true:=by rfl)(hi:Aq P t e 1 1=true:=by kernel_rfl)(hst:Lc P u=true:=by kernel_rfl):
  jq P n κ ⟨some d,.call {callee:= .builtin .append,args:= #[x,y],argTypes:= #[t,u]},ty,pos,aV,gd⟩ ρ H C:=by
 subst hm1
 intro K Q hs w act hm ho
 obtain⟨hut,i,z,hi',hisz,Ms,hz,hzs,hpos⟩:=KG hi
 have Z7:=arI hst
 obtain⟨cs,hcs⟩:=Jq act.eval .append x y #[t,u] (some d) ty pos aV gd
 obtain⟨S,hms⟩:=hm
 have hφ:=(hu r).has.φ hms
 have hin:=(hms.all _ (hu r).has.mem).2
 have JC:s.ba.size=s.l.length:=Str.EX s
 have hlen:(xs++s.l).length=xs.length+s.l.length:=List.length_append
 let es':Nat→Unit:=fun _=>()
 have fin:∀(a':Option Addr) (cap':Nat) (w':World),(builtin .append #[t,u] ty cs #[.slice r.a xs.length r.cap,.string s.ba]).run P w= .ok (.value (.slice a' (xs.length+s.l.length) cap')) w'→
   Frame (aj (α:=UInt8) e r xs).fp w w'→(aj (α:=UInt8) e (⟨a',cap',es'⟩:SR Unit) (xs++s.l)).φ S w'→(∀p,a'=some p→(((aj (α:=UInt8) e r xs).fp p.block∨w.heap.size≤p.block)∧p.block<w'.heap.size))→
   Oper.wp P ⟨some d,.call {callee:= .builtin .append,args:= #[x,y],argTypes:= #[t,u]},ty,pos,aV,gd⟩ act w K Q:=by
  intro a' cap' w' hrun hfr hφ' hfp
  unfold Oper.wp
  rw[hcs,hx.eval ho rfl,hy.eval ho rfl,hrun]
  have hv:(.slice a' (xs.length+s.l.length) cap':Value)= .slice (⟨a',cap',es'⟩:SR Unit).a (xs++s.l).length (⟨a',cap',es'⟩:SR Unit).cap:=by rw[hlen]
  refine hs _ _ (k ⟨a',cap',es'⟩) w' _ ⟨S,hms.upd (hu _) hfr (fun _ h=>h) (fun _ h=> .inl h) (fun k hk=>Nat.lt_of_lt_of_le (hms.lt k hk) hfr.size) hφ' ?_⟩ (ho.put (by simpa [Nat.blt_eq] using hd) (congrArg some hv))
  rintro kk ⟨p,hp,rfl⟩
  obtain⟨h1,h2⟩:=hfp p hp
  refine⟨h1,h2,fun hsk=>?_⟩
  rcases h1 with h1|h1
  ·exact (hin _ h1).2.1 hsk
  ·have:=hms.lt _ hsk;omega
 have adK:∀(l:List UInt8) (q:Nat) (x:UInt8),l[q]?=some x→(Lib.byteCells l)[q]?=some (.int .u8 (x.toNat:Int)):=fun l q x hq=>by
  simp[Lib.byteCells,hq]
 have ad1:∀(x:UInt8) (q j:Nat) (v:Value) (es:Nat→Unit),(enc (α:=UInt8) (es q) x)[j]?=some v→j=0∧v= .int .u8 (x.toNat:Int):=fun x q j v es h=>by
  cases j with
  |zero=>exact⟨rfl,(Option.some.inj h).symm⟩
  |succ j=>
   have:([Value.int .u8 (x.toNat:Int)]:List Value)[j+1]?=some v:=h
   simp at this
 have Qf:∀(olds:List Value),olds=Lib.byteCells xs→(∀j v,olds[j]?=some v→r.a=some ⟨sb r.a,so r.a,none⟩∧w.cell? ⟨sb r.a,so r.a+j,none⟩=some v)→
   r.cap<xs.length+s.l.length→Oper.wp P ⟨some d,.call {callee:= .builtin .append,args:= #[x,y],argTypes:= #[t,u]},ty,pos,aV,gd⟩ act w K Q:=by
  intro olds hol holds hgrow
  obtain⟨cap',rest,hcap,hrest,hrun⟩:=aqZ (P:=P) t u ty e i z hut Z7 hi' hz r.a xs.length r.cap s.ba olds (by rw[hol,Lib.byteCells_length,hisz,Nat.mul_one]) holds (by rw[JC];exact hgrow) (by rw[JC];omega) (by rw[Ms,JC];omega)
  rw[JC] at hcap hrest hrun
  have hw':∀k,k<w.heap.size→(w.drew.alloc (.cells (olds.toArray++(Lib.strCells s.ba).toArray++rest) e)).heap[k]?=w.heap[k]?:=fun k hk=>Below.heap_alloc w.drew _ k hk
  have hzc:z.cells.size=1:=hzs
  refine fin (some ⟨w.heap.size,0,none⟩) cap' _ (iM hrun) ⟨rfl,rfl,rfl,by simp,fun k hk _=>hw' k hk⟩ ⟨by rw[hlen];show _*1≤_;omega,.inr ⟨w.heap.size,0,olds.toArray++(Lib.strCells s.ba).toArray++rest,rfl,?_,by rw[hlen];exact hcap,?_,?_⟩⟩ ?_
  ·show (w.heap.push _)[w.heap.size]?=_
   simp
  ·simp only[Array.size_append,List.size_toArray,hrest,aip,hol,XG,Lib.byteCells_length,hzc]
   show 0+cap'*1≤_
   omega
  ·intro q v hq
   refine⟨fun j v' hv=>?_,trivial⟩
   obtain⟨rfl,rfl⟩:=ad1 _ _ _ _ _ hv
   have hL:(olds.toArray++(Lib.strCells s.ba).toArray++rest)[0+(q*1+0)]?=(Lib.byteCells (xs++s.l)++rest.toList)[q]?:=by
    rw[Lib.byteCells_append,hol,XG,Nat.zero_add,Nat.mul_one,Nat.add_zero,←Array.getElem?_toList]
    simp
   refine hL.trans ?_
   have Z5:=(List.getElem?_eq_some_iff.1 hq).1
   rw[List.getElem?_append_left (by rw[Lib.byteCells_length];exact Z5)]
   exact adK _ _ _ hq
  ·intro p hp
   cases hp
   exact⟨.inr (Nat.le_refl _),by show w.heap.size<(w.heap.push _).size;simp⟩
 rcases hφ.2 with ⟨ha,QL,hc0⟩|⟨gb,o,cur,ha,hgb,h3,h4,h5⟩
 ·subst QL
  by_cases hy0:s.l.length=0
  ·have hy1:s.l=[]:=List.length_eq_zero_iff.1 hy0
   refine fin none 0 w ?_ (Frame.refl _ w) ⟨by simp[hy1],.inl ⟨rfl,by simp[hy1],rfl⟩⟩ (fun p hp=>by cases hp)
   rw[ha,hc0,hy0]
   have hba:s.ba=⟨#[]⟩:=by unfold Str.ba;rw[hy1]
   rw[hba]
   exact iM (aq1 (P:=P) t u ty e i hut Z7 hi')
  ·exact Qf [] rfl (fun j v hv=>by simp at hv) (by rw[hc0];simp;omega)
 ·have h4':o+r.cap≤cur.size:=by have:o+r.cap*1≤cur.size:=h4;omega
  have holds:∀j v,(Lib.byteCells xs)[j]?=some v→r.a=some ⟨sb r.a,so r.a,none⟩∧w.cell? ⟨sb r.a,so r.a+j,none⟩=some v:=fun q v hv=>by
   rw[ha]
   refine⟨rfl,?_⟩
   obtain⟨x',hx',rfl⟩:∃x',xs[q]?=some x'∧v= .int .u8 (x'.toNat:Int):=by
    simp only[Lib.byteCells,List.getElem?_map,Option.map_eq_some_iff] at hv
    obtain⟨x',h1,h2⟩:=hv
    exact⟨x',h1,h2.symm⟩
   show w.cell? ⟨gb,o+q,none⟩=some _
   have:=(h5 q x' hx').1 0 _ rfl
   have e1:o+(q*aC.n UInt8+0)=o+q:=by show o+(q*1+0)=_;omega
   rw[e1] at this
   simp[World.cell?,hgb,this]
  by_cases hroom:xs.length+s.l.length≤r.cap
  ·have hrun:=aqX (P:=P) (w:=w) t u ty e i hut Z7 hi' hisz gb o xs.length r.cap cur hgb s.ba (by rw[JC];exact hroom) (by rw[JC];omega)
   rw[JC] at hrun
   refine fin r.a r.cap (w.setRow gb (cur.toList.take (o+xs.length)++Lib.strCells s.ba++cur.toList.drop (o+xs.length+s.l.length)).toArray) ?_ ?_ ?_ ?_
   ·have:=iM (P:=P) hrun
    rw[ha]
    exact this
   ·refine⟨rfl,rfl,rfl,by simp[World.setRow],fun k _ hn=>?_⟩
    have hne:gb≠k:=fun h=>hn ⟨_,ha,h.symm⟩
    simp[World.setRow,Array.getElem?_modify,hne]
   ·refine⟨by rw[hlen];show _*1≤_;omega,.inr ⟨gb,o,_,ha,setRow_heap w gb cur _ e (0,0) hgb,by rw[hlen];exact hroom,?_,?_⟩⟩
    ·have hc:(cur.toList.take (o+xs.length)++Lib.strCells s.ba++cur.toList.drop (o+xs.length+s.l.length)).toArray.size=cur.size:=by
      simp only[List.size_toArray,List.length_append,List.length_take,List.length_drop,Array.length_toList,XG,Lib.byteCells_length]
      omega
     rw[hc];exact h4
    ·intro q v hq
     refine⟨fun j v' hv=>?_,trivial⟩
     obtain⟨rfl,rfl⟩:=ad1 _ _ _ _ _ hv
     have Z5:=(List.getElem?_eq_some_iff.1 hq).1
     rw[hlen] at Z5
     have hpre:(cur.toList.take (o+xs.length)).length=o+xs.length:=by
      have hcl:cur.toList.length=cur.size:=Array.length_toList
      rw[List.length_take,hcl];omega
     show (cur.toList.take (o+xs.length)++Lib.strCells s.ba++cur.toList.drop (o+xs.length+s.l.length)).toArray[o+(q*1+0)]?=_
     rw[show o+(q*1+0)=o+q by omega]
     simp only[List.getElem?_toArray]
     by_cases hlt:q<xs.length
     ·have hq':xs[q]?=some v:=by rwa [List.getElem?_append_left hlt] at hq
      rw[List.append_assoc,List.getElem?_append_left (by rw[hpre];omega),List.getElem?_take,if_pos (by omega)]
      have:=(h5 q v hq').1 0 _ rfl
      have e1:o+(q*aC.n UInt8+0)=o+q:=by show o+(q*1+0)=_;omega
      rw[e1] at this
      simpa using this
     ·have hq':s.l[q-xs.length]?=some v:=by rwa [List.getElem?_append_right (by omega)] at hq
      rw[List.append_assoc,List.getElem?_append_right (by rw[hpre];omega),hpre,XG,List.getElem?_append_left (by rw[Lib.byteCells_length];omega),show o+q-(o+xs.length)=q-xs.length by omega]
      exact adK _ _ _ hq'
   ·intro p hp
    refine⟨.inl ⟨p,hp,rfl⟩,?_⟩
    have:=(hin p.block ⟨p,hp,rfl⟩).1
    simpa [World.setRow] using this
  ·exact Qf _ rfl holds (by omega)
theorem arC{x:Operand}{t d e:Nat}{ty:TypeId}{pos:String}{aV:Array Edge}{gd:Option (Nat×Bool)}{r:SR Unit}{xs:List UInt8}{m:Nat}
  (hh:Has H (aj (α:=UInt8) e r xs))
  (k:∀q:Option Addr,(r.a=none∨r.cap≠0→q=r.a)→C ((d,.v (.pointer q))::ρ) H)
  (hx:Gets ρ true x (.slice r.a m r.cap):=by exact gT)
  (hd:Nat.blt d n=true:=by rfl)(hp:(match P.underlying ty with|some (.pointer _)=>true|_=>false)=true:=by kernel_rfl):
  jq P n κ ⟨some d,.call {callee:= .builtin .unsafeSliceData,args:= #[x],argTypes:= #[t]},ty,pos,aV,gd⟩ ρ H C:=by
 intro K Q hs w act hm ho
 have hd':d<n:=by simpa [Nat.blt_eq] using hd
 obtain⟨cs,hcs⟩:=Mk act.eval .unsafeSliceData x #[t] (some d) ty pos aV gd
 obtain⟨pe,hpe⟩:∃pe,P.underlying ty=some (.pointer pe):=by
  split at hp
  ·exact⟨_,by assumption⟩
  ·cases hp
 unfold Oper.wp
 rw[hcs,hx.eval ho rfl]
 obtain⟨S,hms⟩:=hm
 have hφ:=hh.φ hms
 have easy:(r.a=none∨r.cap≠0)→(Builtin.unsafeSliceData_ #[t] ty #[.slice r.a m r.cap]).run P w= .ok (.pointer r.a) w:=fun h=>by
  rcases h with h|h
  ·rw[h];rfl
  ·cases hra:r.a with
   |none=>rfl
   |some a=>exact Lib.run_unsafeSliceData_row w #[t] ty a m r.cap h
 by_cases hc:r.a=none∨r.cap≠0
 ·rw[show (builtin .unsafeSliceData #[t] ty cs #[.slice r.a m r.cap]).run P w=_ from iM (easy hc)]
  exact hs _ _ (k r.a (fun _=>rfl)) w _ ⟨S,hms⟩ (ho.put hd' rfl)
 ·have hc0:r.cap=0:=Classical.not_not.1 fun h=>hc (.inr h)
  rcases hφ.2 with ⟨ha,_,_⟩|⟨gb,o,cur,ha,hgb,h3,h4,h5⟩
  ·exact absurd (Or.inl ha) hc
  ·have hsh:w.shape? gb=some (e,cur.size):=by simp[World.shape?,hgb]
   have hrun:=Lib.run_unsafeSliceData_zero (P:=P) w #[t] ty pe hpe ⟨gb,o,none⟩ m (e,cur.size) hsh
   rw[ha,hc0]
   rw[show (builtin .unsafeSliceData #[t] ty cs #[.slice (some ⟨gb,o,none⟩) m 0]).run P w=_ from iM hrun]
   refine hs _ _ (k _ (fun h=>absurd h hc)) _ _ ⟨S,hms.keep ⟨rfl,rfl,rfl,by simp,fun k hk _=>Below.heap_alloc w _ k hk⟩⟩ (ho.put hd' rfl)
theorem ao3{e:TypeId}(hc:P.cellsOf e=1)(count o n:Nat)(hn:o+n≤count):liesAt P P.depth e count o e n=true:=by
 have hd:P.depth=(2*(P.types.size+Made.depth)+1)+1:=rfl
 rw[hd]
 simp only[liesAt,Bool.or_eq_true]
 left
 rw[hd]
 simp[rowAt,hc,hn,sameLayout,Nat.mod_one]
theorem aq6{w:World}(pt it ty e:TypeId)(hp:P.underlying pt=some (.pointer e))(hc:P.cellsOf e=1)(g o cells:Nat)(hsh:w.shape? g=some (e,cells))(l:List UInt8)(h0:l≠[])(hn:o+l.length≤cells)(h63:l.length≤9223372036854775807)
  (hcell:∀j x,l[j]?=some x→w.cell? ⟨g,o+j,none⟩=some (.int .u8 x.toNat)):
  (Builtin.unsafeString_ #[pt,it] ty #[.pointer (some ⟨g,o,none⟩),.int .i64 l.length]).run P w= .ok (.string ⟨l.toArray⟩) (w.freeze ⟨g,o,none⟩ l.length):=by
 have hl:l.length≠0:=by simpa using h0
 have hlb:=Lib.run_loadBytes (P:=P) w l ⟨g,o,none⟩ .empty (fun j x hx=>by rw[Addr.add_lit];exact hcell j x hx)
 have hlies:=ao3 (P:=P) hc (cells / P.cellsOf e) o l.length (by rw[hc];simpa using hn)
 have h63':¬(9223372036854775807:Int)<(l.length:Int):=by omega
 obtain ⟨A,B,D,hdef⟩ : ∃ (A B : Sem Unit) (D : Sem Value), Builtin.unsafeString_ #[pt,it] ty #[.pointer (some ⟨g,o,none⟩),.int .i64 l.length]=
   (do
    let n ←asInt (.int .i64 l.length)
    if n<0 then A
    if n>IntKind.i64.max then B
    if n=0 then pure (.string .empty)
    else if ←variablesAt ⟨g,o,none⟩ (←elemOf pt) n.toNat then do
     let s ←loadBytes ⟨g,o,none⟩ .empty n.toNat
     freeze ⟨g,o,none⟩ n.toNat
     pure (.string s)
    else D):=⟨_,_,_,rfl⟩
 rw[hdef]
 have hmax:IntKind.i64.max=9223372036854775807:=rfl
 have hneg:¬(l.length:Int)<0:=by omega
 simp[asInt,asIntOf,hmax,h63',hneg,hl,variablesAt,hsh,elemOf,run_underlying hp,hlies,hlb]
theorem arD{x y:Operand}{t u d e:Nat}{ty:TypeId}{pos:String}{aV:Array Edge}{gd:Option (Nat×Bool)}{r:SR Unit}{l:List UInt8}{q:Option Addr}{H':List Chunk}
  (hsel:lQ H (aj (α:=UInt8) e r l) H')(hq:r.a=none∨r.cap≠0→q=r.a)
  (k:C ((d,.v (.string (⟨l⟩:Str).ba))::ρ) H')
  (hx:Gets ρ true x (.pointer q):=by exact gT)
  (hy:Gets ρ true y (.int .i64 (l.length:Int)):=by exact gT)
  (hd:Nat.blt d n=true:=by rfl)(hp:P.underlying t=some (.pointer e):=by kernel_rfl)(hc:P.cellsOf e=1:=by kernel_rfl):
  jq P n κ ⟨some d,.call {callee:= .builtin .unsafeString,args:= #[x,y],argTypes:= #[t,u]},ty,pos,aV,gd⟩ ρ H C:=by
 intro K Q hs w act hm ho
 have hd':d<n:=by simpa [Nat.blt_eq] using hd
 obtain⟨cs,hcs⟩:=Jq act.eval .unsafeString x y #[t,u] (some d) ty pos aV gd
 unfold Oper.wp
 rw[hcs,hx.eval ho rfl,hy.eval ho rfl]
 have hm0:=hm
 obtain⟨S,hms⟩:=hm
 have hmem:aj (α:=UInt8) e r l∈H:=hsel.perm.mem_iff.2 List.mem_cons_self
 have hφ:=(hms.all _ hmem).1
 by_cases hl:l=[]
 ·subst hl
  rw[show (builtin .unsafeString #[t,u] ty cs #[.pointer q,.int .i64 (([]:List UInt8).length:Int)]).run P w=_ from iM (Lib.run_unsafeString_none w t u ty q)]
  refine hs _ _ k w _ ((hm0.perm hsel.perm).sub (List.sublist_cons_self _ _)) (ho.put hd' rfl)
 ·rcases hφ.2 with ⟨_,h,_⟩|⟨gb,o,cur,ha,hgb,h3,h4,h5⟩
  ·exact absurd h hl
  ·have hcap:r.cap≠0:=by
    have:0<l.length:=List.length_pos_iff.2 hl
    omega
   have hqe:q=some ⟨gb,o,none⟩:=(hq (.inr hcap)).trans ha
   subst hqe
   have hb:=hφ.1
   have hb':l.length≤140737488355328:=by have:l.length*1≤140737488355328:=hb;omega
   have h4':o+r.cap≤cur.size:=by have:o+r.cap*1≤cur.size:=h4;omega
   have hrun:=aq6 (P:=P) (w:=w) t u ty e hp hc gb o cur.size (by simp[World.shape?,hgb]) l hl (by omega) (by omega) (fun j x hx=>by
    have:=(h5 j x hx).1 0 _ rfl
    have e1:o+(j*aC.n UInt8+0)=o+j:=by show o+(j*1+0)=_;omega
    rw[e1] at this
    simp[World.cell?,hgb,this])
   rw[show (builtin .unsafeString #[t,u] ty cs #[.pointer (some ⟨gb,o,none⟩),.int .i64 (l.length:Int)]).run P w=_ from iM hrun]
   have hblt:gb<w.heap.size:=(Array.getElem?_eq_some_iff.1 hgb).1
   have hfr:Frame (aj (α:=UInt8) e r l).fp w (w.freeze ⟨gb,o,none⟩ l.length):=by
    unfold World.freeze
    split
    ·exact Frame.refl _ w
    ·refine⟨rfl,rfl,rfl,by simp,fun k _ hn=>?_⟩
     have hne:gb≠k:=fun h=>hn ⟨_,ha,h.symm⟩
     simp[Array.getElem?_modify,hne]
   let c0:Chunk:=⟨fun _=>False,fun _ _=>True,fun _ _ _ _ _=>trivial,fun _ _ _ _ _=>trivial⟩
   have hm1:iU S κ (aj (α:=UInt8) e r l::H') w:=hms.perm hsel.perm
   have hm2:=hm1.upd (c':=c0) .head hfr (fun _ h=>h) (fun _ h=> .inl h) (fun k hk=>Nat.lt_of_lt_of_le (hms.lt k hk) hfr.size) trivial (fun k hk=>hk.elim)
   exact hs _ _ k _ _ ⟨S,hm2.sub' (List.sublist_cons_self _ _)⟩ (ho.put hd' rfl)
end
/-! ### Package-level variables -/
theorem Mem.Jr{S:bO}{w:World}{cs H:List Chunk}{c:Chunk}(hm:Mem (xG w S cs) H w)(hf:∀k,¬c.fp k)(h:c.φ S w):Mem (xG w S cs) (c::H) w:=by
 obtain⟨S',hs⟩:=hm
 exact⟨S',hs.add (Frame.refl _ w) (fun _ h=>h) (fun _ h=> .inl h) hs.lt (c.mono S S' w hs.sub h) (fun k hk=>(hf k hk).elim)⟩
/-! ### A range over a string -/
section
variable {P:Program}{n:Nat}{κ:Ctx}{ρ:Env}{H:List Chunk}{C:Env→List Chunk→Prop}{g:Bool}
end
end Go.Dc
namespace Go.Dc
open Go.RowKit aC
def gN(g:Nat)(vs:List Value):Chunk where
 fp:=fun _=>False
 φ:=fun S w=>S g∧∃T fz,w.heap[g]?=some (.cells vs.toArray T fz)
 dep:=fun S w w' h hw=>⟨hw.1,by rw[h g (.inr hw.1)];exact hw.2⟩
 mono:=fun S S' w h hw=>⟨h _ hw.1,hw.2⟩
theorem akc{P:Program}{g:Nat}{name:String}{k:IntKind}{zs:List Int}{S:bO}{w:World}(h:(gN g (zs.map fun z=> .int k z)).φ S w)(hg:P.globalNamed name=some g):Lib.TabIs P w name k zs:=by
 obtain⟨_,T,fz,hc⟩:=h
 unfold Lib.TabIs World.var?
 rw[hg]
 simp[hc]
theorem akd{P:Program}{g:Nat}{name:String}{vs:List Value}{w:World}(h:w.var? P name=some vs.toArray)(hg:P.globalNamed name=some g):(gN g vs).φ (fun k=>k<w.heap.size) w:=by
 unfold World.var? at h
 rw[hg] at h
 simp only[Option.bind_some] at h
 split at h
 ·rename_i cs T fz hc
  have:cs=vs.toArray:=Option.some.inj h
  subst this
  exact⟨(Array.getElem?_eq_some_iff.1 hc).1,T,fz,hc⟩
 ·cases h
section
variable {P:Program}{n:Nat}{κ:Ctx}{ρ:Env}{H:List Chunk}{g:Bool}
def adH(P:Program)(t m:Nat):Bool:=match P.underlying t with
 |some (.array k e)=>k==m&&(match P.info? e with|some i=>i.size==1|none=>false)&&oQ P e
 |_=>false
/-! Two or three operations that may come up, before the region's last. -/
def UN(P:Program)(n:Nat)(κ:Ctx)(ops:Array Oper)(K:Act→World→Prop)(Hs:List Chunk)(z fuel:Nat)(listed:Array Bool)(ρ:Env)(H:List Chunk)(i:Nat):Prop:=
 ∃o,ops[i]?=some o∧o.guard=none∧jq P n κ o ρ H (fun ρ' H'=>(∀w,Mem κ H' w→Mem κ Hs w)∧AZ P n κ ops K Hs z fuel (listed.setIfInBounds i true) ρ' H')
section
variable {ops:Array Oper}{K:Act→World→Prop}{Hs:List Chunk}{z fuel:Nat}{listed:Array Bool}
theorem UN.wpOp{i:Nat}(h:UN P n κ ops K Hs z fuel listed ρ H i){w:World}{a:Act}(hm:Mem κ H w)(ho:Ok n ρ a):
  Go.wpOp P ops (fun e a w=>e= .normal∧K a w) i (fun a' w'=>(i≠z→Mem κ Hs w')∧zo P .any ops (fun e a w=>e= .normal∧K a w) (fun w=>Mem κ Hs w) z fuel (listed.setIfInBounds i true) a' w') a w:=by
 obtain⟨o,hi,hg,hs⟩:=h
 unfold Go.wpOp
 simp only[hi,Region.wanted,hg,if_true]
 refine .inl (hs _ _ ?_ w a hm ho)
 intro ρ' H' ⟨c1,c2⟩ w' a' hm' ho'
 exact⟨fun _=>c1 w' hm',c2 w' a' hm' ho'⟩
theorem UZ(i j:Nat)(h1:UN P n κ ops K Hs z fuel listed ρ H i)(h2:UN P n κ ops K Hs z fuel listed ρ H j)
  (hr:Region.ready .any ops listed=[i,j]:=by kernel_rfl):AZ P n κ ops K Hs z (fuel+1) listed ρ H:=by
 intro w a hm ho
 refine⟨fun h=>(by rw[hr] at h;cases h),fun k hk=>?_⟩
 rw[hr] at hk
 simp at hk
 rcases hk with rfl|rfl
 ·exact h1.wpOp hm ho
 ·exact h2.wpOp hm ho
end
variable {C:Env→List Chunk→Prop}
end
end Go.Dc
namespace Go.Dc
open Go.RowKit aC
theorem afp{P:Program}{w:World}:∀{l:List (String×DataW Unit)}{ps:List MemPlace},DataW.LaidVars P w l ps→∀(n:String) (d:DataW Unit),(n,d)∈l→
  ∃g t cs fuel p,P.globalNamed n=some g∧(P.globals[g]?).map (·.type)=some t∧w.var? P n=some cs∧DataW.trod (fun _=>()) P w 0 (fun _=>true) false fuel t cs.toList=some (d,p)
 |[],_,_,n,d,hm=>by simp at hm
 |(n',d')::r,ps,h,n,d,hm=>by
  obtain⟨g,t,cs,fuel,p,q,h1,h2,h3,h4,h5,_⟩:=h
  rcases List.mem_cons.1 hm with e|e
  ·cases e;exact⟨g,t,cs,fuel,p,h1,h2,h3,h4⟩
  ·exact afp h5 n d e
theorem aoV{P:Program}{w:World}{l:List (String×DataW Unit)}(h:laidMetH P l w)(n:String)(d:DataW Unit)(hm:(n,d)∈l)(hd:d.handleName? =none):
  ∃g t cs fuel p,P.globalNamed n=some g∧(P.globals[g]?).map (·.type)=some t∧w.var? P n=some cs∧DataW.trod (fun _=>()) P w 0 (fun _=>true) false fuel t cs.toList=some (d,p):=by
 obtain⟨⟨ps,hl,_⟩,_⟩:=laidMetH_iff.1 h
 exact afp hl n d (List.mem_filter.2 ⟨hm,by simp[hd]⟩)
def Zd(P:Program)(name:String)(g n:Nat)(k:Option IntKind):Bool:=
 decide (P.globalNamed name=some g)&&match (P.globals[g]?).map (·.type) with
 |some t=>decide (P.cellsOf t=n)&&match P.underlying t with
  |some (.array m e)=>decide (m=n)&&decide (P.cellsOf e=1)&&match P.underlying e,k with
   |some (.int k'),some k=>decide (k'=k)
   |some .string,none=>true
   |_,_=>false
  |_=>false
 |none=>false
theorem aj4{P:Program}{name:String}{g n:Nat}{k:IntKind}(h:Zd P name g n (some k)=true):
  P.globalNamed name=some g∧∃t e,(P.globals[g]?).map (·.type)=some t∧P.underlying t=some (.array n e)∧P.underlying e=some (.int k)∧P.cellsOf e=1∧P.cellsOf t=n:=by
 unfold Zd at h
 simp only[Bool.and_eq_true,decide_eq_true_eq] at h
 refine⟨h.1,?_⟩
 have h:=h.2
 split at h
 ·rename_i t ht
  simp only[Bool.and_eq_true,decide_eq_true_eq] at h
  obtain⟨hc,h⟩:=h
  split at h
  ·rename_i m e hu
   simp only[Bool.and_eq_true,decide_eq_true_eq] at h
   obtain⟨⟨rfl,h1⟩,h2⟩:=h
   split at h2
   ·rename_i k' k2 he hk
    cases hk
    simp only[decide_eq_true_eq] at h2
    subst h2
    exact⟨t,e,ht,hu,he,h1,hc⟩
   ·rename_i hk;cases hk
   ·cases h2
  ·cases h
 ·cases h
theorem aoW{P:Program}{w:World}{l:List (String×DataW Unit)}(h:laidMetH P l w)(n:String)(g m:Nat)(k:IntKind)(zs:List Int)(hb:Zd P n g m (some k)=true)(hm:(n,Lib.tabData k zs)∈l):(gN g (zs.map fun z=> .int k z)).φ (fun k=>k<w.heap.size) w:=by
 obtain⟨hg,t,e,h1,h2,h3,h4,h5⟩:=aj4 hb
 obtain⟨g',t',cs,fuel,p,e1,e2,e3,e4⟩:=aoV h n _ hm rfl
 obtain rfl:=Option.some.inj (hg.symm.trans e1)
 obtain rfl:=Option.some.inj (h1.symm.trans e2)
 refine akd ?_ hg
 rw[e3,←Lib.cells_of_tab h2 h3 h4 h5 e4]
end Go.Dc
namespace Go.Dc
open Go.RowKit aC
section
variable {P:Program}{n:Nat}{κ:Ctx}{ρ:Env}{H:List Chunk}{g:Bool}
theorem ajC{x y:Operand}{t m:Nat}{k:IntKind}{i:Int}{xs:List Nat}{v:Nat}(l:List Value)(hi:g=true→idx xs i=some v)(hl:l=xs.map (fun s=> .func (.func s) #[] #[]):=by rfl)(hm:xs.length=m:=by rfl)
  (hx:Gets ρ g x (.agg l.toArray):=by exact gT)(hy:Gets ρ g y (.int k i):=by exact gT)
  (ht:adH P t m=true:=by kernel_rfl):Ev P n κ H ρ g (.index t x y) (.func (.func v) #[] #[]):=by
 intro w a dst ty pos aV gd hm' ho hg
 have e1:=hx.eval ho hg
 have e2:=hy.eval ho hg
 obtain⟨h0,hlt,hv⟩:=nH (hi hg)
 unfold adH at ht
 split at ht
 ·rename_i kk e hu
  simp only[Bool.and_eq_true,beq_iff_eq] at ht
  obtain⟨⟨h1,h2⟩,h3⟩:=ht
  cases hti:P.info? e with
  |none=>rw[hti] at h2;cases h2
  |some ti=>
   rw[hti] at h2
   simp at h2
   show (Instr.index t (a.eval x) (a.eval y) >>= fun v=>pure (Next.value v)).run P w=_
   rw[e1,e2]
   refine iM ?_
   unfold Instr.index
   show (underlying t >>= _).run P w=_
   rw[run_bind_ok (kH hu w)]
   have hb:0≤i∧i<(kk:Int):=by rw[h1,←hm];exact⟨h0,hlt⟩
   simp only[hb,and_self,if_true]
   rw[run_bind_ok (wu hti w),h2,Nat.mul_one]
   refine KO h3 ?_
   subst hl
   simp[hv]
 ·cases ht
theorem Mem.aj2{b T:Nat}{l:List Value}{w:World}{H':List Chunk}(hm:Mem κ H w)(hu:eT H (own b T l) (Dc.mG b T l) H':=by repeat (first|exact eT.head|apply eT.tail)):Mem κ H' w:=by
 obtain⟨S,hs⟩:=hm
 have h0:=hs.all _ hu.has.mem
 exact⟨fun k=>S k∨(own b T l).fp k,hs.upd hu (Frame.refl _ w) (fun _ h=> .inl h) (fun k hk=>hk.elim .inl (fun h=> .inr (.inl h))) (fun k hk=>hk.elim (hs.lt k) (fun h=>(h0.2 k h).1)) ⟨.inr rfl,h0.1⟩ (fun k hk=>hk.elim)⟩
/-! ### Regions of many orders: every set of what has come up is one lemma -/
theorem acU{md:Region.Mode}{ops:Array Oper}{Q:Exit→Act→World→Prop}{S S':World→Prop}(hS:∀w,S' w→S w):
  ∀(fuel:Nat) (listed:Array Bool) (a:Act) (w:World),wpAnyH P md ops Q S' fuel listed a w→wpAnyH P md ops Q S fuel listed a w
 |0,_,_,_,h=>h
 |fuel+1,_,_,_,h=>⟨h.1,fun i hi=>wpOp_mono (fun a' w' h'=>⟨hS _ h'.1,acU hS fuel _ a' w' h'.2⟩) (h.2 i hi)⟩
variable {ops:Array Oper}{K:Act→World→Prop}{Hs:List Chunk}{fuel:Nat}{listed:Array Bool}
theorem uQ(vK:List Chunk)(h1:∀w,Mem κ H w→Mem κ vK w)(h2:∀w,Mem κ vK w→Mem κ Hs w)(k:AW P n κ ops K vK fuel listed ρ H):AW P n κ ops K Hs fuel listed ρ H:=
 fun w a hm _ ho=>acU h2 _ _ _ _ (k w a hm (h1 w hm) ho)
theorem aiV{ρ0:Env}(h:∀G:Nat→Array Bool→Env→List Chunk→List Chunk→Prop,(∀f l ad H Hs,G f l ad H Hs=AW P n κ ops K Hs f l (ad++ρ0) H)→G fuel listed [] H Hs):AW P n κ ops K Hs fuel listed ρ0 H:=
 h (fun f l ad H Hs=>AW P n κ ops K Hs f l (ad++ρ0) H) (fun _ _ _ _ _=>rfl)
theorem afz{ad ρ0:Env}{t:Nat}:look (ad++ρ0) t=match look ad t with|some e=>some e|none=>look ρ0 t:=by
 induction ad with
 |nil=>rfl
 |cons p r ih=>
  simp only[List.cons_append,look]
  split
  ·rfl
  ·exact ih
theorem afA{ad:Env}{t:Nat}(h:∀p∈ad,p.1≠t):look ad t=none:=by
 induction ad with
 |nil=>rfl
 |cons p r ih=>
  simp only[look]
  split
  ·rename_i hb;exact absurd (Nat.eq_of_beq_eq_true hb) (h p List.mem_cons_self)
  ·exact ih fun q hq=>h q (List.mem_cons_of_mem _ hq)
theorem afB{ad tL ρ0:Env}(h1:∀p∈ad,look tL p.1=look ad p.1)(h2:∀p∈tL,look tL p.1=look ad p.1):∀t,look (tL++ρ0) t=look (ad++ρ0) t:=by
 intro t
 have:look tL t=look ad t:=by
  by_cases e:∃p∈ad,p.1=t
  ·obtain⟨p,hp,rfl⟩:=e;exact h1 p hp
  ·by_cases e':∃p∈tL,p.1=t
   ·obtain⟨p,hp,rfl⟩:=e';exact h2 p hp
   ·rw[afA (fun p hp hh=>e ⟨p,hp,hh⟩),afA (fun p hp hh=>e' ⟨p,hp,hh⟩)]
 rw[afz,afz,this]
theorem aiW{ρ0:Env}{G:Nat→Array Bool→Env→List Chunk→List Chunk→Prop}(hG:∀f l ad H Hs,G f l ad H Hs=AW P n κ ops K Hs f l (ad++ρ0) H){ad tL:Env}{l':Array Bool}{H' vK:List Chunk}
  (h:G fuel l' tL H' vK)(hl:listed=l')(hρ:∀t,look (tL++ρ0) t=look (ad++ρ0) t)(hH:∀w,Mem κ H w→Mem κ H' w)(hs:∀w,Mem κ H w→Mem κ vK w)(hss:∀w,Mem κ vK w→Mem κ Hs w):
  AW P n κ ops K Hs fuel listed (ad++ρ0) H:=by
 subst hl
 rw[hG] at h
 intro w a hm _ ho
 exact acU hss _ _ _ _ (h w a (hH w hm) (hs w hm) ⟨ho.size,ho.uz,fun t e he=>ho.get t e (by rw[←hρ t];exact he)⟩)
def Gf(Q:Nat×EV→Prop):Env→Prop
 |[]=>True
 |p::r=>Q p∧Gf Q r
theorem Gf.mem{Q:Nat×EV→Prop}:∀{l:Env},Gf Q l→∀p∈l,Q p
 |_::_,h,p,hp=>(List.mem_cons.1 hp).elim (fun e=>e▸h.1) (fun hp=>Gf.mem h.2 p hp)
theorem iJ{ρ0:Env}{G:Nat→Array Bool→Env→List Chunk→List Chunk→Prop}(k:Nat)(hG:∀f l ad H Hs,G f l ad H Hs=AW P n κ ops K Hs f l (ad++ρ0) H){tL:Env}{l':Array Bool}{H' vK:List Chunk}
  (h:G fuel l' tL H' vK)(hk:ρ.drop k=ρ0:=by rfl)(hl:listed=l':=by rfl)
  (h1:Gf (fun p=>look tL p.1=look (ρ.take k) p.1) (ρ.take k):=by repeat (first|exact trivial|refine And.intro rfl ?_))
  (h2:Gf (fun p=>look tL p.1=look (ρ.take k) p.1) tL:=by repeat (first|exact trivial|refine And.intro rfl ?_))
  (hH:∀w,Mem κ H w→Mem κ H' w:=by intro w hm;exact hm.qI)(hs:∀w,Mem κ H w→Mem κ vK w:=by intro w hm;exact hm.qI)(hss:∀w,Mem κ vK w→Mem κ Hs w:=by intro w hm;exact hm.qI):
  AW P n κ ops K Hs fuel listed ρ H:=by
 have e:ρ=ρ.take k++ρ0:=by rw[←hk];exact (List.take_append_drop k ρ).symm
 rw[e]
 exact aiW hG h hl (afB h1.mem h2.mem) hH hs hss
end
end Go.Dc
namespace Go.Dc
open Go.RowKit aC
def SR.put{ρ:Type}(r:SR ρ)(i:Nat)(q:ρ):SR ρ:=⟨r.a,r.cap,fun j=>if j=i then q else r.es j⟩
def hrow{α:Type}[aC α](on:Nat→Prop)(e:TypeId)(r:SR (R α))(xs:List α):Chunk where
 fp:=fun k=>∃p,r.a=some p∧k=p.block
 φ:=fun S w=>xs.length*aC.bytes α≤140737488355328∧((r.a=none∧xs=[]∧r.cap=0)∨
  ∃g o cur,r.a=some ⟨g,o,none⟩∧w.heap[g]?=some (.cells cur e (0,0))∧xs.length≤r.cap∧o+r.cap*n α≤cur.size∧
   ∀i x,xs[i]?=some x→(∀j v,(enc (r.es i) x)[j]?=some v→cur[o+(i*n α+j)]?=some v)∧(on i→ok S w (r.es i) x))
 dep:=fun S w w' h hw=>by
  refine⟨hw.1,?_⟩
  rcases hw.2 with h2|⟨g,o,cur,ha,hg,h3,h4,h5⟩
  ·exact .inl h2
  ·refine .inr ⟨g,o,cur,ha,?_,h3,h4,fun i x hx=>⟨(h5 i x hx).1,fun ho=>aC.dep S w w' _ _ (fun k hk=>h k (.inr hk)) ((h5 i x hx).2 ho)⟩⟩
   rw[h g (.inl ⟨_,ha,rfl⟩)]
   exact hg
 mono:=fun S S' w h hw=>by
  refine⟨hw.1,?_⟩
  rcases hw.2 with h2|⟨g,o,cur,ha,hg,h3,h4,h5⟩
  ·exact .inl h2
  ·exact .inr ⟨g,o,cur,ha,hg,h3,h4,fun i x hx=>⟨(h5 i x hx).1,fun ho=>aC.mono S S' w _ _ h ((h5 i x hx).2 ho)⟩⟩
section
variable {P:Program}{n:Nat}{κ:Ctx}{ρ:Env}{H:List Chunk}{g:Bool}{C:Env→List Chunk→Prop}
theorem Mem.toH{α:Type}[aC α]{e:TypeId}{r:SR (R α)}{xs:List α}{w:World}{H':List Chunk}(hm:Mem κ H w)
  (hu:eT H (aj e r xs) (hrow (fun _=>True) e r xs) H':=by repeat (first|exact eT.head|apply eT.tail)):Mem κ H' w:=by
 obtain⟨S,hs⟩:=hm
 have h0:=hs.all _ hu.has.mem
 refine⟨S,hs.upd hu (Frame.refl _ w) (fun _ h=>h) (fun _ h=> .inl h) hs.lt ⟨h0.1.1,?_⟩ (fun k hk=>⟨.inl hk,(h0.2 k hk).1,(h0.2 k hk).2.1⟩)⟩
 rcases h0.1.2 with h2|⟨g,o,cur,ha,hg,h3,h4,h5⟩
 ·exact .inl h2
 ·exact .inr ⟨g,o,cur,ha,hg,h3,h4,fun i x hx=>⟨(h5 i x hx).1,fun _=>(h5 i x hx).2⟩⟩
theorem Mem.vD{α:Type}[aC α]{on:Nat→Prop}{e:TypeId}{r:SR (R α)}{xs:List α}{i:Int}{x x':α}{w:World}{H':List Chunk}(hm:Mem κ H w)(hon:∀k,k≠i.toNat→on k)(hi:idx xs i=some x)
  (henc:enc (r.es i.toNat) x'=enc (r.es i.toNat) x)(hk:Sk κ H (r.es i.toNat) x')
  (hu:eT H (hrow on e r xs) (aj e r (xs.set i.toNat x')) H':=by repeat (first|exact eT.head|apply eT.tail)):Mem κ H' w:=by
 obtain⟨S,hs⟩:=hm
 have h0:=hs.all _ hu.has.mem
 obtain⟨hi0,hilt,hget⟩:=nH hi
 refine⟨S,hs.upd hu (Frame.refl _ w) (fun _ h=>h) (fun _ h=> .inl h) hs.lt ⟨by rw[List.length_set];exact h0.1.1,?_⟩ (fun k hk=>⟨.inl hk,(h0.2 k hk).1,(h0.2 k hk).2.1⟩)⟩
 rcases h0.1.2 with ⟨_,h2,_⟩|⟨g,o,cur,ha,hg,h3,h4,h5⟩
 ·subst h2;simp at hilt;omega
 ·refine .inr ⟨g,o,cur,ha,hg,by rw[List.length_set];exact h3,h4,fun k z hz=>?_⟩
  by_cases hki:k=i.toNat
  ·subst hki
   rw[List.getElem?_set_self (by omega)] at hz
   cases hz
   refine⟨fun j v hv=>?_,hk S w hs⟩
   rw[henc] at hv
   exact (h5 _ x hget).1 j v hv
  ·rw[List.getElem?_set_ne (Ne.symm hki)] at hz
   exact⟨(h5 k z hz).1,(h5 k z hz).2 (hon k hki)⟩
theorem KZ{α:Type}[aC α]{x y:Operand}{t e:Nat}{ty:TypeId}{pos:String}{aV:Array Edge}{gd:Option (Nat×Bool)}{on:Nat→Prop}{r:SR (R α)}{xs:List α}{i:Int}{u:α}{o m:Nat}{v:Value}{vs:List Value}{H':List Chunk}
  (j:Nat)(u':α)(q:R α)(on':Nat→Prop)(hon:∀k,on' k→on k∧k≠i.toNat)(hi:idx xs i=some u)(henc:enc q u'=vC (enc (r.es i.toNat) u) j vs)
  (hu:eT H (hrow on e r xs) (hrow on' e (r.put i.toNat q) (xs.set i.toNat u')) H')(k:C ρ H')
  (hx:Gets ρ true x (.pointer (some ⟨sb r.a,o,none⟩)):=by exact gT)(hy:Gets ρ true y v:=by exact gT)
  (hvs:v.cells=vs.toArray:=by rfl)(hlen:vs.length=m:=by rfl)(h10:vs.all Value.oneCell'=true:=by rfl)
  (ho':o=so r.a+(i.toNat*aC.n α+j):=by first|rfl|(show _=_+(_*(_:Nat)+_);omega))(hj0:Nat.ble (j+m) (aC.n α)=true:=by rfl)
  (ht:P.cellsOf t=m:=by kernel_rfl)(hti:(P.info? t).isSome=true:=by kernel_rfl):jq P n κ ⟨none,.store t x y,ty,pos,aV,gd⟩ ρ H C:=by
 have hj:j+m≤aC.n α:=by simpa [Nat.ble_eq] using hj0
 intro K Q hs w a hm ho
 obtain⟨hi0,hilt,hget⟩:=nH hi
 obtain⟨S,hms⟩:=hm
 have hφ:=hu.has.φ hms
 have hin:=(hms.all _ hu.has.mem).2
 have e1:=hx.eval ho rfl
 have e2:=hy.eval ho rfl
 rcases hφ.2 with ⟨_,h0,_⟩|⟨gb,off,cur,ha,hgb,h3,h4,h5⟩
 ·subst h0;simp at hilt;omega
 ·rw[ha] at e1
  have hoff:o=off+(i.toNat*aC.n α+j):=by rw[ho',ha];rfl
  have Y1:a.eval x= .pointer (some ⟨gb,o,none⟩):=e1
  have hfit:o+0+vs.length≤cur.size:=by
   have:i.toNat*aC.n α+aC.n α≤r.cap*aC.n α:=by rw[←Nat.succ_mul];exact Nat.mul_le_mul_right _ (by omega)
   omega
  have hst:=run_storeCells_at P gb o e vs 0 cur w hgb hfit (List.all_eq_true.1 h10)
  simp only[Nat.add_zero] at hst
  cases Bf:P.info? t with
  |none=>rw[Bf] at hti;cases hti
  |some ti=>
   have hsz:ti.size=m:=by simpa [Program.cellsOf,Bf] using ht
   have hrun:(execOp a.eval ⟨none,.store t x y,ty,pos,aV,gd⟩).run P w= .ok .skip (w.setRow gb (cur.toList.take o++vs++cur.toList.drop (o+vs.length)).toArray):=by
    show ((Instr.storeAt t (a.eval x) (a.eval y)) >>= fun _=>pure Next.skip).run P w=_
    rw[Y1,e2]
    have:(Instr.storeAt t (.pointer (some ⟨gb,o,none⟩)) v).run P w= .ok () (w.setRow gb (cur.toList.take o++vs++cur.toList.drop (o+vs.length)).toArray):=by
     show (storeVar t ⟨gb,o,none⟩ v).run P w=_
     unfold storeVar
     rw[run_bind_ok (wu Bf w),hvs]
     have hsz2:¬(vs.toArray.size≠ti.size):=by simp[hlen,hsz]
     simp only[hsz2,if_false]
     exact hst
    rw[run_bind_ok this]
    rfl
   unfold Oper.wp
   rw[hrun]
   have hcl:cur.toList.length=cur.size:=Array.length_toList
   have hpre:(cur.toList.take o).length=o:=by rw[List.length_take,hcl];omega
   have hne:∀k,k≠gb→(w.setRow gb (cur.toList.take o++vs++cur.toList.drop (o+vs.length)).toArray).heap[k]?=w.heap[k]?:=fun k hk=>by
    simp[World.setRow,Array.getElem?_modify,Ne.symm hk]
   refine hs _ _ k _ _ ⟨S,hms.upd hu ⟨rfl,rfl,rfl,by simp[World.setRow],fun kk _ hn=>hne kk (fun h=>hn ⟨_,ha,h⟩)⟩ (fun _ h=>h) (fun _ h=> .inl h) (fun k hk=>by simpa [World.setRow] using hms.lt k hk) ⟨by rw[List.length_set];exact hφ.1,.inr ⟨gb,off,_,ha,setRow_heap w gb cur _ e (0,0) hgb,by rw[List.length_set];exact h3,?_,?_⟩⟩ ?_⟩ ho
   ·simp only[List.size_toArray,List.length_append,hpre,List.length_drop,hcl]
    show off+r.cap*_≤_
    omega
   ·intro p z hq
    have Vq:∀k,S k→(w.setRow gb (cur.toList.take o++vs++cur.toList.drop (o+vs.length)).toArray).heap[k]?=w.heap[k]?:=fun k hk=>hne k (fun h=>by subst h;exact (hin k ⟨_,ha,rfl⟩).2.1 hk)
    have cells:∀c,(cur.toList.take o++vs++cur.toList.drop (o+vs.length))[c]?=if c<o then cur[c]? else if c<o+vs.length then vs[c-o]? else cur[c]?:=fun c=>by
     by_cases hc:c<o
     ·rw[if_pos hc,List.append_assoc,List.getElem?_append_left (by omega),List.getElem?_take,if_pos hc];simp
     ·rw[if_neg hc,List.append_assoc,List.getElem?_append_right (by omega),hpre]
      by_cases hc2:c<o+vs.length
      ·rw[if_pos hc2,List.getElem?_append_left (by omega)]
      ·rw[if_neg hc2,List.getElem?_append_right (by omega),List.getElem?_drop]
       rw[show o+vs.length+(c-o-vs.length)=c by omega];simp
    by_cases hqi:p=i.toNat
    ·subst hqi
     rw[List.getElem?_set_self (by omega)] at hq
     cases hq
     have hput:(r.put i.toNat q).es i.toNat=q:=by simp[SR.put]
     rw[hput]
     refine⟨fun j' v' hv'=>?_,fun h=>absurd rfl (hon _ h).2⟩
     have hj':j'<aC.n α:=by have:=(List.getElem?_eq_some_iff.1 hv').1;rwa [aC.len] at this
     simp only[List.getElem?_toArray]
     rw[cells]
     rw[henc] at hv'
     by_cases hin':j≤j'∧j'<j+vs.length
     ·have e3:j'=j+(j'-j):=by omega
      rw[e3,acs vs _ j (j'-j) (by omega) (by rw[aC.len];omega)] at hv'
      rw[if_neg (by omega),if_pos (by omega)]
      rw[show off+(i.toNat*aC.n α+j')-o=j'-j by omega]
      exact hv'
     ·rw[Xq vs _ j j' (by omega)] at hv'
      have:=(h5 _ u hget).1 j' v' hv'
      by_cases hc:off+(i.toNat*aC.n α+j')<o
      ·rw[if_pos hc];exact this
      ·rw[if_neg hc,if_neg (by omega)];exact this
    ·rw[List.getElem?_set_ne (Ne.symm hqi)] at hq
     have hput:(r.put i.toNat q).es p=r.es p:=by simp[SR.put,hqi]
     rw[hput]
     refine⟨fun j' v' hv'=>?_,fun ho=>aC.dep S w _ _ _ Vq ((h5 p z hq).2 (hon _ ho).1)⟩
     have hj':j'<aC.n α:=by have:=(List.getElem?_eq_some_iff.1 hv').1;rwa [aC.len] at this
     have:=(h5 p z hq).1 j' v' hv'
     simp only[List.getElem?_toArray]
     rw[cells]
     rcases Nat.lt_or_gt_of_ne hqi with hlt|hgt
     ·have:p*aC.n α+aC.n α≤i.toNat*aC.n α:=by rw[←Nat.succ_mul];exact Nat.mul_le_mul_right _ hlt
      rw[if_pos (by omega)];assumption
     ·have:i.toNat*aC.n α+aC.n α≤p*aC.n α:=by rw[←Nat.succ_mul];exact Nat.mul_le_mul_right _ hgt
      rw[if_neg (by omega),if_neg (by omega)];assumption
   ·rintro kk ⟨p,hp,rfl⟩
    have:=hin p.block ⟨p,hp,rfl⟩
    exact⟨.inl ⟨p,hp,rfl⟩,by simpa [World.setRow] using this.1,this.2.1⟩
/-! ### Reading -/
def Cl{α:Type}[aC α](κ:Ctx)(H:List Chunk)(r:SR (R α))(xs:List α):Prop:=
 ∀w,Mem κ H w→xs.length≤140737488355328∧∀i x,xs[i]?=some x→r.a=some ⟨sb r.a,so r.a,none⟩∧∀j v,(enc (r.es i) x)[j]?=some v→w.cell? ⟨sb r.a,so r.a+(i*aC.n α+j),none⟩=some v
theorem Cl.hrow{α:Type}[aC α]{on:Nat→Prop}{e:TypeId}{r:SR (R α)}{xs:List α}(h:Has H (Dc.hrow on e r xs)):Cl κ H r xs:=fun w hm=>by
 obtain⟨S,hs⟩:=hm
 have h0:=h.φ hs
 have hb:=aC.bpos (α:=α)
 refine⟨?_,fun i x hx=>?_⟩
 ·calc xs.length=xs.length*1:=by omega
   _≤xs.length*aC.bytes α:=Nat.mul_le_mul_left _ hb
   _≤_:=h0.1
 ·rcases h0.2 with ⟨_,h2,_⟩|⟨g,o,cur,ha,hg,h3,h4,h5⟩
  ·subst h2;simp at hx
  ·refine⟨by rw[ha];rfl,fun j v hv=>?_⟩
   rw[ha]
   show w.cell? ⟨g,o+(i*aC.n α+j),none⟩=some v
   simp[World.cell?,hg,(h5 i x hx).1 j v hv]
theorem Cl.len{α:Type}[aC α]{r:SR (R α)}{xs:List α}(h:Cl κ H r xs){w:World}(hm:Mem κ H w):xs.length≤140737488355328:=(h w hm).1
theorem Mg{α:Type}[aC α]{x y:Operand}{t:Nat}{k:IntKind}{i:Int}{r:SR (R α)}{xs:List α}{m:Nat}(sz:Nat)(hk:Cl κ H r xs)(hi:g=true→0≤i∧i<xs.length)
  (hx:Gets ρ g x (.slice r.a m r.cap):=by exact gT)(hy:Gets ρ g y (.int k i):=by exact gT)
  (hs:elemSize P t=some sz:=by kernel_rfl)(hml:m=xs.length:=by first|rfl|simp only[List.length_set,List.length_append,List.length_replicate]):
  Ev P n κ H ρ g (.indexAddr t x y) (.pointer (some ⟨sb r.a,so r.a+i.toNat*sz,none⟩)):=by
 subst hml
 intro w a dst ty pos aV gd hm ho hg
 have hb:=hi hg
 have ha:r.a=some ⟨sb r.a,so r.a,none⟩:=by
  have hlt:i.toNat<xs.length:=by omega
  exact ((hk w hm).2 i.toNat xs[i.toNat] (by simp[hlt])).1
 have e1:=hx.eval ho hg
 rw[ha] at e1
 have e2:=hy.eval ho hg
 unfold elemSize at hs
 split at hs
 ·rename_i el hu
  cases hti:P.info? el with
  |none=>rw[hti] at hs;cases hs
  |some ti=>
   rw[hti] at hs
   simp at hs
   subst hs
   show (Instr.indexAt t (a.eval x) (a.eval y) >>= fun v=>pure (Next.value v)).run P w=_
   rw[e1,e2]
   refine iM ?_
   unfold Instr.indexAt
   show (underlying t >>= _).run P w=_
   rw[run_bind_ok (kH hu w)]
   show (underlying t >>= _).run P w=_
   rw[run_bind_ok (kH hu w)]
   simp only[hb,and_self,if_true]
   rw[run_bind_ok (wu hti w)]
   show Result.ok (Value.pointer (some (Addr.add ⟨sb r.a,so r.a,none⟩ (i.toNat*ti.size)))) w=_
   rw[Addr.add_lit]
 ·cases hs
theorem ad4{α:Type}[aC α]{x:Operand}{t:TypeId}{r:SR (R α)}{xs:List α}{i:Int}{y:α}{o:Nat}{v:Value}(j:Nat)(hk:Cl κ H r xs)(hi:g=true→idx xs i=some y)
  (hv:(enc (r.es i.toNat) y)[j]?=some v)(hx:Gets ρ g x (.pointer (some ⟨sb r.a,o,none⟩)):=by exact gT)
  (ho':o=so r.a+(i.toNat*aC.n α+j):=by first|rfl|(show _=_+(_*(_:Nat)+_);omega))
  (ht:oQ P t=true:=by kernel_rfl):Ev P n κ H ρ g (.load t x) v:=
 D5 hx ht fun hg w hm=>by rw[ho'];exact ((hk w hm).2 _ y (nH (hi hg)).2.2).2 j v hv
theorem SR.iZ{ρ:Type}(r:SR ρ)(i:Nat)(q:ρ):(r.put i q).es i=q:=by simp[SR.put]
end
end Go.Dc
namespace Go.Dc
open Go.RowKit aC
class Inner (α:Type) (β:outParam Type) [aC α] [aC β] where
 get:α→List β
 rep:R α→SR (R β)
 okI:∀S w r x,sF S w (rep r) (get x)→ok S w r x
section
variable {α β:Type}[aC α][aC β][Inner α β]
variable {P:Program}{n:Nat}{κ:Ctx}{ρ:Env}{H:List Chunk}{g:Bool}{C:Env→List Chunk→Prop}
theorem iU.cut{S:bO}{w:World}{c c1 c2:Chunk}{H:List Chunk}(hm:iU S κ (c::H) w)(h1:c1.φ S w)(h2:c2.φ S w)(f1:∀k,c1.fp k→c.fp k)(f2:∀k,c2.fp k→c.fp k)(hd:A9 c1 c2):
  iU S κ (c1::c2::H) w:=by
 have h0:=hm.all _ List.mem_cons_self
 have hp:=List.pairwise_cons.1 hm.sG
 refine⟨hm.frame,hm.sub,hm.sup,hm.lt,fun d hd'=>?_,?_⟩
 ·rcases List.mem_cons.1 hd' with rfl|hd'
  ·exact⟨h1,fun k hk=>h0.2 k (f1 k hk)⟩
  ·rcases List.mem_cons.1 hd' with rfl|hd'
   ·exact⟨h2,fun k hk=>h0.2 k (f2 k hk)⟩
   ·exact hm.all d (List.mem_cons_of_mem _ hd')
 ·rw[List.pairwise_cons,List.pairwise_cons]
  refine⟨fun d hd' k hk hk'=>?_,fun d hd' k hk hk'=>hp.1 d hd' k (f2 k hk) hk',hp.2⟩
  rcases List.mem_cons.1 hd' with rfl|hd'
  ·exact hd k hk hk'
  ·exact hp.1 d hd' k (f1 k hk) hk'
/-! ### Reading -/
/-! ### Append -/
structure Raw(α:Type)[aC α] where
 l:List Value
 hl:l.length=aC.n α
 h1:∀v∈l,v.oneCell'=true
instance:aC (Raw α) where
 R:=Unit
 n:=aC.n α
 bytes:=aC.bytes α
 enc:=fun _ x=>x.l
 ok:=fun _ _ _ _=>True
 npos:=aC.npos
 bpos:=aC.bpos
 len:=fun _ x=>x.hl
 one:=fun _ x=>x.h1
 mono:=fun _ _ _ _ _ _ h=>h
 dep:=fun _ _ _ _ _ _ h=>h
end
end Go.Dc
namespace Go.Dc
open Go.RowKit aC
inductive Any where
 |s (x:Str)
 |i (x:Int)
 deriving DecidableEq,Inhabited
def Any.iR:Any→Bool
 | .s _=>true
 | .i _=>false
def Any.JH:Any→Bool
 | .s _=>false
 | .i _=>true
def Any.str:Any→Str
 | .s x=>x
 | .i _=>⟨[]⟩
def Any.int:Any→Int
 | .s _=>0
 | .i x=>x
def EP(ts ti:Nat):Any→Value
 | .s x=> .iface ts (.string x.ba)
 | .i x=> .iface ti (.int .i64 x)
section
variable {P:Program}{n:Nat}{κ:Ctx}{ρ:Env}{H:List Chunk}{g:Bool}
theorem ahC{t:TypeId}{v:Value}(h:((P.info? t).bind fun i=>i.zero)=some v)(w:World):(zeroValue t).run P w= .ok v w:=by
 cases hi:P.info? t with
 |none=>rw[hi] at h;cases h
 |some i=>
  rw[hi] at h
  have hz:i.zero=some v:=h
  unfold zeroValue
  rw[run_bind_ok (KN hi w)]
  simp only[hz]
  rfl
def VK(P:Program)(t:TypeId):Bool:=match P.underlying t with|some (.int .i64)=>true|_=>false
theorem qP{x:Operand}{ts ti:Nat}{s:Str}(hx:Gets ρ g x (.string s.ba):=by exact gT)
  (ht:Lc P ts=true:=by kernel_rfl):Ev P n κ H ρ g (.makeInterface ts x) (EP ts ti (.s s)):=by
 intro w a dst ty pos aV gd hm ho hg
 have e:=hx.eval ho hg
 unfold Lc at ht
 split at ht
 ·rename_i hu
  show (Instr.makeInterface ts (a.eval x) >>= fun v=>pure (Next.value v)).run P w=_
  rw[e]
  refine iM ?_
  unfold Instr.makeInterface
  show (underlying ts >>= _).run P w=_
  rw[run_bind_ok (kH hu w)]
  rfl
 ·cases ht
theorem vN{x:Operand}{ts ti:Nat}{i:Int}(hx:Gets ρ g x (.int .i64 i):=by exact gT)
  (ht:VK P ti=true:=by kernel_rfl):Ev P n κ H ρ g (.makeInterface ti x) (EP ts ti (.i i)):=by
 intro w a dst ty pos aV gd hm ho hg
 have e:=hx.eval ho hg
 unfold VK at ht
 split at ht
 ·rename_i hu
  show (Instr.makeInterface ti (a.eval x) >>= fun v=>pure (Next.value v)).run P w=_
  rw[e]
  refine iM ?_
  unfold Instr.makeInterface
  show (underlying ti >>= _).run P w=_
  rw[run_bind_ok (kH hu w)]
  rfl
 ·cases ht
theorem ajF{x:Operand}{xt ts ti:Nat}{v:Any}(hx:Gets ρ g x (EP ts ti v):=by exact gT)
  (ht:Lc P ts=true:=by kernel_rfl)(hne:Nat.beq ti ts=false:=by rfl)(hz:((P.info? ts).bind fun i=>i.zero)=some (.string (Str.ba ⟨[]⟩)):=by kernel_rfl):
  Ev P n κ H ρ g (.typeAssert x xt ts true) (.tuple #[.string v.str.ba,.bool v.iR]):=by
 intro w a dst ty pos aV gd hm ho hg
 have e:=hx.eval ho hg
 unfold Lc at ht
 split at ht
 ·rename_i hu
  show (Instr.typeAssert (a.eval x) xt ts true >>= fun v=>pure (Next.value v)).run P w=_
  rw[e]
  refine iM ?_
  unfold Instr.typeAssert
  show (underlying ts >>= _).run P w=_
  rw[run_bind_ok (kH hu w)]
  cases v with
  |s y=>simp[EP,Any.str,Any.iR]
  |i y=>
   have h2:ti≠ts:=fun h=>by subst h;simp at hne
   simp only[EP,if_neg h2,Any.str,Any.iR]
   show (zeroValue ts >>= _).run P w=_
   rw[run_bind_ok (ahC hz w)]
   rfl
 ·cases ht
theorem ajE{x:Operand}{xt ts ti:Nat}{v:Any}(hx:Gets ρ g x (EP ts ti v):=by exact gT)
  (ht:VK P ti=true:=by kernel_rfl)(hne:Nat.beq ts ti=false:=by rfl)(hz:((P.info? ti).bind fun i=>i.zero)=some (.int .i64 0):=by kernel_rfl):
  Ev P n κ H ρ g (.typeAssert x xt ti true) (.tuple #[.int .i64 v.int,.bool v.JH]):=by
 intro w a dst ty pos aV gd hm ho hg
 have e:=hx.eval ho hg
 unfold VK at ht
 split at ht
 ·rename_i hu
  show (Instr.typeAssert (a.eval x) xt ti true >>= fun v=>pure (Next.value v)).run P w=_
  rw[e]
  refine iM ?_
  unfold Instr.typeAssert
  show (underlying ti >>= _).run P w=_
  rw[run_bind_ok (kH hu w)]
  cases v with
  |i y=>simp[EP,Any.int,Any.JH]
  |s y=>
   have h2:ts≠ti:=fun h=>by subst h;simp at hne
   simp only[EP,if_neg h2,Any.int,Any.JH]
   show (zeroValue ti >>= _).run P w=_
   rw[run_bind_ok (ahC hz w)]
   rfl
 ·cases ht
/-! ### Regions of many orders, the last operation of which writes what the others read -/
theorem acW{md:Region.Mode}{ops:Array Oper}{Q:Exit→Act→World→Prop}{S S':World→Prop}{z:Nat}(hS:∀w,S' w→S w):
  ∀(fuel:Nat) (listed:Array Bool) (a:Act) (w:World),zo P md ops Q S' z fuel listed a w→zo P md ops Q S z fuel listed a w
 |0,_,_,_,h=>h
 |fuel+1,_,_,_,h=>⟨h.1,fun i hi=>wpOp_mono (fun a' w' h'=>⟨fun hne=>hS _ (h'.1 hne),acW hS fuel _ a' w' h'.2⟩) (h.2 i hi)⟩
variable {ops:Array Oper}{K:Act→World→Prop}{Hs:List Chunk}{z fuel:Nat}{listed:Array Bool}
theorem LM(vK:List Chunk)(h2:∀w,Mem κ vK w→Mem κ Hs w)(k:AZ P n κ ops K vK z fuel listed ρ H):AZ P n κ ops K Hs z fuel listed ρ H:=
 fun w a hm ho=>acW h2 _ _ _ _ (k w a hm ho)
theorem aiY{ρ0:Env}(h:∀G:Nat→Array Bool→Env→List Chunk→List Chunk→Prop,(∀f l ad H Hs,G f l ad H Hs=AZ P n κ ops K Hs z f l (ad++ρ0) H)→G fuel listed [] H Hs):AZ P n κ ops K Hs z fuel listed ρ0 H:=
 h (fun f l ad H Hs=>AZ P n κ ops K Hs z f l (ad++ρ0) H) (fun _ _ _ _ _=>rfl)
theorem yH{ρ0:Env}{G:Nat→Array Bool→Env→List Chunk→List Chunk→Prop}(k:Nat)(hG:∀f l ad H Hs,G f l ad H Hs=AZ P n κ ops K Hs z f l (ad++ρ0) H){tL:Env}{l':Array Bool}{H' vK:List Chunk}
  (h:G fuel l' tL H' vK)(hk:ρ.drop k=ρ0:=by rfl)(hl:listed=l':=by rfl)
  (h1:Gf (fun p=>look tL p.1=look (ρ.take k) p.1) (ρ.take k):=by repeat (first|exact trivial|refine And.intro rfl ?_))
  (h2:Gf (fun p=>look tL p.1=look (ρ.take k) p.1) tL:=by repeat (first|exact trivial|refine And.intro rfl ?_))
  (hH:∀w,Mem κ H w→Mem κ H' w:=by intro w hm;exact hm.qI)(hss:∀w,Mem κ vK w→Mem κ Hs w:=by intro w hm;exact hm.qI):
  AZ P n κ ops K Hs z fuel listed ρ H:=by
 have e:ρ=ρ.take k++ρ0:=by rw[←hk];exact (List.take_append_drop k ρ).symm
 subst hl
 rw[hG] at h
 intro w a hm ho
 refine acW hss _ _ _ _ (h w a (hH w hm) ⟨ho.size,ho.uz,fun t e' he=>ho.get t e' ?_⟩)
 rw[e]
 rw[←afB h1.mem h2.mem t]
 exact he
end
end Go.Dc
namespace Go.Dc
open Go.RowKit aC
section
variable {P:Program}{n:Nat}{κ:Ctx}{ρ:Env}{H:List Chunk}{g:Bool}{C:Env→List Chunk→Prop}
theorem hA{H:List Chunk}{c:Chunk}(h:Has H c:=by repeat (first|exact Has.head|apply Has.tail)):Has H c:=h
theorem uA{H H':List Chunk}{c c':Chunk}(h:eT H c c' H':=by repeat (first|exact eT.head|apply eT.tail)):eT H c c' H':=h
theorem uR{α:Type}{H:List Chunk}{c:Chunk}{c':α→Chunk}{H':α→List Chunk}(h:∀r',eT H c (c' r') (H' r'):=by intro r';repeat (first|exact eT.head|apply eT.tail)):∀r',eT H c (c' r') (H' r'):=h
theorem sA{H H' cs:List Chunk}(h:jM H cs H':=by repeat (first|exact jM.nil|(apply jM.cons;· (repeat (first|exact lQ.head|apply lQ.tail))))):jM H cs H':=h
theorem s1{H H':List Chunk}{c:Chunk}(h:lQ H c H':=by repeat (first|exact lQ.head|apply lQ.tail)):lQ H c H':=h
theorem rI{H H':List Chunk}(h:∀w,Mem κ H w→Mem κ H' w:=by intro w hm;exact hm.qI):∀w,Mem κ H w→Mem κ H' w:=h
theorem kI{α:Type}[aC α]{S:bO}{w:World}{r:R α}{x:α}(hs:iU S κ H w)(h:Has H (dw r x):=by repeat (first|exact Has.head|apply Has.tail)):ok S w r x:=h.φ hs
theorem kM{α:Type}[aC α]{S:bO}{w:World}{r:R α}{x:α}(hs:iU S κ H w)(h:Has H (dw r x):=by repeat (first|exact Has.head|apply Has.tail)):ok (lend S H) w r x:=Kn.lend (Kn.dw h) hs
theorem kT{α:Type}[aC α]{e:TypeId}{S:bO}{w:World}{r:SR (R α)}{x:List α}(hs:iU S κ H w)(h:Has H (aj e r x):=by repeat (first|exact Has.head|apply Has.tail)):ok (α:=List α) (lend S H) w r x:=Kn.lend (Kn.aj h) hs
theorem oF{α:Type}[aC α]{es:Nat→R α}{xs:List α}(h:∀S w r x,ok (α:=α) S w r x:=by exact fun _ _ _ _=>trivial):mg κ H es xs:=mg.flat h
theorem iS{α:Type}{xs:List α}{i:Int}{x:α}(h:idx xs i=some x){g:Bool}:g=true→0≤i∧i<xs.length:=fun _=>⟨(nH h).1,(nH h).2.1⟩
theorem iT{α:Type}{b:Bool}{x y r:α}(h:b=true)(hM:(if b then x else y)=r):x=r:=(aoz h).symm.trans hM
theorem iF{α:Type}{b:Bool}{x y r:α}(h:b=false)(hM:(if b then x else y)=r):y=r:=(aoy h).symm.trans hM
theorem gq{β:Type}{cs':β→List Chunk}(h:∀r c,c∈cs' r→Pf c:=by (intro r c hc;simp only[List.mem_cons,List.not_mem_nil,or_false] at hc;repeat (first|(rcases hc with rfl|hc;(first|exact Js|exact Qb (fun _ _ _ _=>trivial)))|(subst hc;(first|exact Js|exact Qb (fun _ _ _ _=>trivial)))))):∀r c,c∈cs' r→Pf c:=h
section
variable {Q:Exit→Act→World→Prop}{ops:Array Oper}{rest:List Oper}
theorem sr{id:Nat}{l:List Oper}{y:Code}(h:OW P n κ l.toArray (Exit.then (y.wp P Q) Q) l ρ H):CW P n κ (.seq (.region id l.toArray false) y) Q ρ H:=
 fun w a hm ho=>wp_seq (bB h w a hm ho)
theorem on{y:Code}(h:CW P n κ y Q ρ H):OW P n κ ops (Exit.then (y.wp P Q) Q) [] ρ H:=bC h
theorem oe{op:Op}{v:Value}{d:Nat}{ty:TypeId}{pos:String}{aV:Array Edge}
 (h:Ev P n κ H ρ true op v)(k:OW P n κ ops Q rest ((d,.v v)::ρ) H)(hd:Nat.blt d n=true:=by rfl):
 OW P n κ ops Q (⟨some d,op,ty,pos,aV,none⟩::rest) ρ H:=aZ h k hd
theorem om{x:Operand}{v:Value}{d:Nat}{ty:TypeId}{pos:String}{aV:Array Edge}(k:OW P n κ ops Q rest ((d,.v v)::ρ) H)
 (hx:Gets ρ true x v:=by exact gT)(hd:Nat.blt d n=true:=by rfl):OW P n κ ops Q (⟨some d,.move x,ty,pos,aV,none⟩::rest) ρ H:=aZ (aL hx) k hd
theorem oa{x:Operand}{v:Value}{d:Nat}{ty:TypeId}{pos:String}{aV:Array Edge}(k:OW P n κ ops Q rest ((d,.v v)::ρ) H)
 (hx:Gets ρ true x v:=by exact gT)(hd:Nat.blt d n=true:=by rfl):OW P n κ ops Q (⟨some d,.assign x,ty,pos,aV,none⟩::rest) ρ H:=aZ (dD hx) k hd
theorem cc{α:Type}{c:Operand}{x y:Code}{t:Bool}{X Y r:α}(hc:qC ρ c=some (.v (.bool t)))(hM:(if t then X else Y)=r)(ht:t=true→X=r→CW P n κ x Q ρ H)(hf:t=false→Y=r→CW P n κ y Q ρ H):
 CW P n κ (.cond c x y) Q ρ H:=wJ hc (fun h=>ht h (iT h hM)) (fun h=>hf h (iF h hM))
theorem pI{T:TypeId}{b:Nat}{l:List Value}{ps:List (Nat×Value)}{H1 H2 Hs:List Chunk}(hu:eT H (own b T l) (Hw b ps) H1:=by repeat (first|exact eT.head|apply eT.tail))
  (hp:∀p∈ps,l[p.1]?=some p.2:=by intro p hp;simp only[List.mem_cons,List.not_mem_nil,or_false] at hp;repeat (first|(rcases hp with rfl|hp;rfl)|(rcases hp with rfl;rfl)))
  (hr:jM H1 (Hw b ps::Hs) H2:=by repeat (first|exact jM.nil|(apply jM.cons;· (repeat (first|exact lQ.head|apply lQ.tail))))):∀w,Mem κ H w→Mem κ (Hw b ps::Hs) w:=
 fun w hm=>(hm.Hw ps hu hp).qI hr
end
end
end Go.Dc
namespace Go.Dc
open Go.RowKit aC
abbrev sL{ρ α:Type}(r:SR ρ)(l:List α):Value:= .slice r.a l.length r.cap
abbrev vI(x:Int):Value:= .int .i64 x
abbrev z0:Value:= .slice none 0 0
abbrev vP(b:Nat):Value:= .pointer (some ⟨b,0,none⟩)
abbrev eP(b:Nat):EV:= .v (.pointer (some ⟨b,0,none⟩))
abbrev eI(x:Int):EV:= .v (.int .i64 x)
abbrev eS{ρ α:Type}(r:SR ρ)(l:List α):EV:= .v (.slice r.a l.length r.cap)
abbrev iL{α:Type}[aC α](x:List α)(r:aC.R (List α)):Chunk:=dw (α:=List α) r x
abbrev sB(S:bO)(w:World):Prop:=∀k,S k→k<w.heap.size
section
variable {P:Program}{n:Nat}{κ:Ctx}{ρ:Env}{H:List Chunk}{g:Bool}
theorem kG{α:Type}[aC α](x:List α)(r:aC.R (List α))(h:Has H (dw (α:=List α) r x):=by repeat (first|exact Has.head|apply Has.tail)):Kn κ H (α:=List α) r x:=Kn.dw h
end
end Go.Dc
namespace Go.Dc
open Go.RowKit aC
section
variable {P:Program}{n:Nat}{κ:Ctx}{ρ:Env}{H:List Chunk}{Q:Exit→Act→World→Prop}{ops:Array Oper}{rest:List Oper}
theorem sS{ρ' ρ:Env}(h:rR ρ' ρ:=by repeat (first|exact trivial|refine And.intro rfl ?_)):rR ρ' ρ:=h
theorem cA{α:Type}(a:α)(l r:List α):a::l++r=a::(l++r):=rfl
theorem nA{α:Type}(r:List α):[]++r=r:=rfl
theorem aT{y:Code}{x:Operand}{v:Value}{d:Nat}{ty:TypeId}{pos:String}{aV:Array Edge}(k:CW P n κ y Q ((d,.v v)::ρ) H)
 (hx:Gets ρ true x v:=by exact gT)(hd:Nat.blt d n=true:=by rfl):OW P n κ ops (Exit.then (y.wp P Q) Q) [⟨some d,.assign x,ty,pos,aV,none⟩] ρ H:=oa (on k) hx hd
theorem bI{id:Nat}{y:Code}{x:Operand}{v:Value}{d:Nat}{ty:TypeId}{pos:String}{aV:Array Edge}(k:CW P n κ y Q ((d,.v v)::ρ) H)
 (hx:Gets ρ true x v:=by exact gT)(hd:Nat.blt d n=true:=by rfl):CW P n κ (.seq (.region id [⟨some d,.assign x,ty,pos,aV,none⟩].toArray false) y) Q ρ H:=sr (aT k hx hd)
theorem aW{id:Nat}{l:List Oper}{y:Code}{x:Operand}{v:Value}{d:Nat}{ty:TypeId}{pos:String}{aV:Array Edge}(k:OW P n κ (⟨some d,.move x,ty,pos,aV,none⟩::l).toArray (Exit.then (y.wp P Q) Q) l ((d,.v v)::ρ) H)
 (hx:Gets ρ true x v:=by exact gT)(hd:Nat.blt d n=true:=by rfl):CW P n κ (.seq (.region id (⟨some d,.move x,ty,pos,aV,none⟩::l).toArray false) y) Q ρ H:=sr (om k hx hd)
/-! ### Returns -/
theorem bQ{α:Type}{S:bO}{w0:World}{fn:Func}{r:ResultVar}{x y:α}{V v:Value}(hM:some x=some y)(hr:fn.results= #[r]:=by rfl)
 (hv:pJ P ρ H r v:=by first|exact .tmp rfl|exact .cell rfl (by repeat (first|exact Has.head|apply Has.tail)) rfl (by kernel_rfl))(he:y=x→v=V:=by intro h;subst h;rfl):
 KW n (xG w0 S []) (fun a w=>bodyPost P fn (dz w0 V) .ret a w) ρ H:=mD (fun w hm=>pz hm (he (some_inj hM))) hr hv
theorem zk{α:Type}{S:bO}{w0:World}{fn:Func}{r1 r2:ResultVar}{x y:α}{V v1 v2:Value}(hM:some x=some y)(hr:fn.results= #[r1,r2]:=by rfl)
 (hv1:pJ P ρ H r1 v1:=by first|exact .tmp rfl|exact .cell rfl (by repeat (first|exact Has.head|apply Has.tail)) rfl (by kernel_rfl))
 (hv2:pJ P ρ H r2 v2:=by first|exact .tmp rfl|exact .cell rfl (by repeat (first|exact Has.head|apply Has.tail)) rfl (by kernel_rfl))(he:y=x→ .tuple #[v1,v2]=V:=by intro h;subst h;rfl):
 KW n (xG w0 S []) (fun a w=>bodyPost P fn (dz w0 V) .ret a w) ρ H:=uw (fun w hm=>pz hm (he (some_inj hM))) hr hv1 hv2
/-! ### Calls, boxes, stores -/
section
variable {f d:Nat}{xs:List Operand}{vs:List Value}{v:Value}{ts:Array TypeId}{ty:TypeId}{pos:String}{aV:Array Edge}
theorem cv(hc:∀{S:bO}{w:World},iU S κ H w→Calls P f vs.toArray w (dz w v))(k:OW P n κ ops Q rest ((d,.v v)::ρ) H)
  (ha:jg ρ true xs vs:=by repeat (first|exact jg.nil|(apply jg.cons;first|exact .plain rfl|exact .cond rfl id|exact .cond rfl gl)))
  (hd:Nat.blt d n=true:=by rfl)(hf:callable P f=true:=by kernel_rfl):OW P n κ ops Q (⟨some d,.call {callee:= .value (.func f),args:=xs.toArray,argTypes:=ts},ty,pos,aV,none⟩::rest) ρ H:=
 bM (lK (fun _ hm=>let ⟨_,hs⟩:=hm;hc hs) k ha hd hf)
theorem sV{gd:Option (Nat×Bool)}{C:Env→List Chunk→Prop}(hc:∀{S:bO}{w:World},iU S κ H w→Calls P f vs.toArray w (dz w v))(k:C ((d,.v v)::ρ) H)
  (ha:jg ρ true xs vs:=by repeat (first|exact jg.nil|(apply jg.cons;first|exact .plain rfl|exact .cond rfl id|exact .cond rfl gl)))
  (hd:Nat.blt d n=true:=by rfl)(hf:callable P f=true:=by kernel_rfl):jq P n κ ⟨some d,.call {callee:= .value (.func f),args:=xs.toArray,argTypes:=ts},ty,pos,aV,gd⟩ ρ H C:=
 lK (fun _ hm=>let ⟨_,hs⟩:=hm;hc hs) k ha hd hf
theorem cg{j:Nat}{want g:Bool}(hg:qQ ops ρ j want=some g)(hc:∀{S:bO}{w:World},g=true→iU S κ H w→Calls P f vs.toArray w (dz w v))(k:OW P n κ ops Q rest ((d,.c g v)::ρ) H)
  (ha:jg ρ g xs vs:=by repeat (first|exact jg.nil|(apply jg.cons;first|exact .plain rfl|exact .cond rfl id|exact .cond rfl gl)))
  (hd:Nat.blt d n=true:=by rfl)(hf:callable P f=true:=by kernel_rfl):OW P n κ ops Q (⟨some d,.call {callee:= .value (.func f),args:=xs.toArray,argTypes:=ts},ty,pos,aV,some (j,want)⟩::rest) ρ H:=
 V3 hg (fun h _ hm=>let ⟨_,hs⟩:=hm;hc h hs) k ha hd hf
end
section
variable {T d:Nat}{ty:TypeId}{pos:String}{aV:Array Edge}{l:List Value}
theorem oA(hz:DN P T=some l)(k:∀b,OW P n κ ops Q rest ((d,.v (.pointer (some ⟨b,0,none⟩)))::ρ) (own b T l::H))(hd:Nat.blt d n=true:=by rfl):OW P n κ ops Q (⟨some d,.alloc T,ty,pos,aV,none⟩::rest) ρ H:=bM (iw hz k hd)
theorem oB(l:List Value){x:Operand}(k:∀b,OW P n κ ops Q rest ((d,.v (.pointer (some ⟨b,0,none⟩)))::ρ) (own b T l::H))
 (hx:Gets ρ true x (.agg l.toArray):=by exact gT)(hd:Nat.blt d n=true:=by rfl):OW P n κ ops Q (⟨some d,.box T x,ty,pos,aV,none⟩::rest) ρ H:=bM (Av hx k hd)
variable {K:Act→World→Prop}{Hs:List Chunk}{fuel:Nat}{listed:Array Bool}
theorem aA(i:Nat)(hi:ops[i]?=some ⟨some d,.alloc T,ty,pos,aV,none⟩)(hz:DN P T=some l)(k:∀b,AW P n κ ops K Hs fuel (listed.setIfInBounds i true) ((d,.v (.pointer (some ⟨b,0,none⟩)))::ρ) (own b T l::H))
  (himp:∀b w,Mem κ (own b T l::H) w→Mem κ Hs w:=by intro b w hm;exact hm.qI)(hd:Nat.blt d n=true:=by rfl)(hr:Region.ready .any ops listed=[i]:=by kernel_rfl):AW P n κ ops K Hs (fuel+1) listed ρ H:=
 dH i hi (iw hz (fun b=>⟨himp b,k b⟩) hd) rfl hr
end
section
variable {x y:Operand}{t T m:Nat}{ty:TypeId}{pos:String}{aV:Array Edge}{l:List Value}{v:Value}{H':List Chunk}
theorem oS(b:Nat)(vs:List Value)(k:OW P n κ ops Q rest ρ H')(hx:Gets ρ true x (.pointer (some ⟨b,0,none⟩)):=by exact gT)(hy:Gets ρ true y v:=by exact gT)(hvs:v.cells=vs.toArray:=by rfl)
  (hlen:vs.length=m:=by rfl)(hu:eT H (own b T l) (own b T vs) H':=by repeat (first|exact eT.head|apply eT.tail))
  (hl:l.length=m:=by rfl)(h10:vs.all Value.oneCell'=true:=by rfl)
  (ht:P.cellsOf t=m:=by kernel_rfl)(hti:(P.info? t).isSome=true:=by kernel_rfl):OW P n κ ops Q (⟨none,.store t x y,ty,pos,aV,none⟩::rest) ρ H:=
 bM (xu (hx:=hx) (hy:=hy) (hvs:=hvs) (hlen:=hlen) (hu:=hu) (hl:=hl) (h10:=h10) (ht:=ht) (hti:=hti) (k:=k))
variable {K:Act→World→Prop}{Hs:List Chunk}{fuel:Nat}{listed:Array Bool}
theorem aS(i:Nat)(hi:ops[i]?=some ⟨none,.store t x y,ty,pos,aV,none⟩)(b:Nat)(vs:List Value)(k:AW P n κ ops K Hs fuel (listed.setIfInBounds i true) ρ H')
  (hx:Gets ρ true x (.pointer (some ⟨b,0,none⟩)):=by exact gT)(hy:Gets ρ true y v:=by exact gT)(hvs:v.cells=vs.toArray:=by rfl)
  (hlen:vs.length=m:=by rfl)(hu:eT H (own b T l) (own b T vs) H':=by repeat (first|exact eT.head|apply eT.tail))
  (hl:l.length=m:=by rfl)(h10:vs.all Value.oneCell'=true:=by rfl)
  (ht:P.cellsOf t=m:=by kernel_rfl)(hti:(P.info? t).isSome=true:=by kernel_rfl)
  (himp:∀w,Mem κ H' w→Mem κ Hs w:=by intro w hm;exact hm.qI)(hr:Region.ready .any ops listed=[i]:=by kernel_rfl):AW P n κ ops K Hs (fuel+1) listed ρ H:=
 dH i hi (xu (hx:=hx) (hy:=hy) (hvs:=hvs) (hlen:=hlen) (hu:=hu) (hl:=hl) (h10:=h10) (ht:=ht) (hti:=hti) (k:=⟨himp,k⟩)) rfl hr
end
/-! ### Arithmetic that the model has checked -/
section
variable {β:Type}{k0:Option β}{r:β}{x y:Operand}{t u:TypeId}{p q:Int}{d:Nat}{ty:TypeId}{pos:String}{aV:Array Edge}
theorem oP(hM:bq (bJ (p+q)) k0=some r)(k:k0=some r→OW P n κ ops Q rest ((d,.v (.int .i64 (p+q)))::ρ) H)(hx:Gets ρ true x (.int .i64 p):=by exact gT)
  (hy:Gets ρ true y (.int .i64 q):=by exact gT)(hd:Nat.blt d n=true:=by rfl):OW P n κ ops Q (⟨some d,.binOp .add t x y u,ty,pos,aV,none⟩::rest) ρ H:=
 aZ (eH hx hy (fun _=>dY (bW hM).1)) (k (bW hM).2) hd
theorem oN(hM:bq (bJ (p-q)) k0=some r)(k:k0=some r→OW P n κ ops Q rest ((d,.v (.int .i64 (p-q)))::ρ) H)(hx:Gets ρ true x (.int .i64 p):=by exact gT)
  (hy:Gets ρ true y (.int .i64 q):=by exact gT)(hd:Nat.blt d n=true:=by rfl):OW P n κ ops Q (⟨some d,.binOp .sub t x y u,ty,pos,aV,none⟩::rest) ρ H:=
 aZ (ng hx hy (fun _=>dY (bW hM).1)) (k (bW hM).2) hd
end
/-! ### Loops and meetings -/
section
variable {σ θ β:Type}{y:β}
theorem lp{B:(σ→Option β)→σ→Option β}{body:Code}{s0:σ}(t0:θ)(hM:iter B FUEL s0=some y)(env:σ→θ→Env)(mem:σ→θ→List Chunk)(hs:rR (env s0 t0) ρ)(hH:∀w,Mem κ H w→Mem κ (mem s0 t0) w)
  (round:∀(c:σ→Option β) (s:σ) (t:θ),B c s=some y→∀K:Act→World→Prop,
   (∀(t':θ) {s':σ}{ρ':Env}{H':List Chunk},c s'=some y→rR (env s' t') ρ'→(∀w,Mem κ H' w→Mem κ (mem s' t') w)→KW n κ K ρ' H')→CW P n κ body (Exit.then K Q) (env s t) (mem s t)):CW P n κ (.loop body) Q ρ H:=
 Gx (γ:=Nat×σ×θ) (fun g=>env g.2.1 g.2.2) (fun g=>mem g.2.1 g.2.2) (fun g=>iter B g.1 g.2.1=some y) (fun g=>g.1) (FUEL,s0,t0) hM hs hH fun g hg K hK=>by
  obtain⟨m,s,t⟩:=g
  obtain⟨m,c,rfl,rfl,h⟩:=aoF hg
  exact round _ s t h K fun t' s' ρ' H' e h1 h2=>hK (m,s',t') ρ' H' e (Nat.lt_succ_self _) h1 h2
theorem lq{B:(σ→Option β)→σ→Option β}{body:Code}{s0:σ}(hM:iter B FUEL s0=some y)(env:σ→Env)(mem:σ→List Chunk)(hs:rR (env s0) ρ)(hH:∀w,Mem κ H w→Mem κ (mem s0) w)
  (round:∀(c:σ→Option β) (s:σ),B c s=some y→∀K:Act→World→Prop,
   (∀{s':σ}{ρ':Env}{H':List Chunk},c s'=some y→rR (env s') ρ'→(∀w,Mem κ H' w→Mem κ (mem s') w)→KW n κ K ρ' H')→CW P n κ body (Exit.then K Q) (env s) (mem s)):CW P n κ (.loop body) Q ρ H:=
 lp () hM (fun s _=>env s) (fun s _=>mem s) hs hH fun c s _ h K hK=>round c s h K fun e h1 h2=>hK () e h1 h2
theorem jn(θ:Type)(y:β){k:σ→Option β}{x z:Code}(env:σ→θ→Env)(mem:σ→θ→List Chunk)
  (hx:∀K:Act→World→Prop,(∀(t:θ) {s:σ}{ρ':Env}{H':List Chunk},k s=some y→rR (env s t) ρ'→(∀w,Mem κ H' w→Mem κ (mem s t) w)→KW n κ K ρ' H')→CW P n κ x (Exit.then K Q) ρ H)
  (hz:∀s t,k s=some y→CW P n κ z Q (env s t) (mem s t)):CW P n κ (.seq x z) Q ρ H:=
 PW (γ:=σ×θ) (fun g=>env g.1 g.2) (fun g=>mem g.1 g.2) (fun g=>k g.1=some y) (fun K hK=>hx K fun t s ρ' H' e h1 h2=>hK (s,t) ρ' H' e h1 h2) fun g hg=>hz g.1 g.2 hg
theorem jm(y:β){k:σ→Option β}{x z:Code}(env:σ→Env)(mem:σ→List Chunk)
  (hx:∀K:Act→World→Prop,(∀{s:σ}{ρ':Env}{H':List Chunk},k s=some y→rR (env s) ρ'→(∀w,Mem κ H' w→Mem κ (mem s) w)→KW n κ K ρ' H')→CW P n κ x (Exit.then K Q) ρ H)
  (hz:∀s,k s=some y→CW P n κ z Q (env s) (mem s)):CW P n κ (.seq x z) Q ρ H:=
 PW env mem (fun s=>k s=some y) (fun K hK=>hx K fun e h1 h2=>hK _ _ _ e h1 h2) hz
end
end
end Go.Dc
