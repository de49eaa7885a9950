/- Several parts of the engine, one behind the other. -/
import Derived.Test.YtcalibhfgdncaaaGreatDm
import Derived.RangeFuncIn
import Derived.RangeFuncRecord
import Derived.RangeFuncLeaves
import Derived.TacticsIn
import Derived.OrdersIn
import Derived.Lib.AppendStr
import Derived.Lib.UnsafeStr
import Derived.Lib.Builder
import Derived.Lib.OthersKept
import Derived.Laws.IdiomStrings
import Derived.Lib.LaidTab
set_option linter.all false
namespace Go.Dc
open Go.RowKit ak
structure Hdr where
 a:Option Addr
 len:Nat
 cap:Nat
instance:ak Hdr where
 R:=Unit
 n:=1
 bytes:=24
 enc:=fun _ x=>[.slice x.a x.len x.cap]
 ok:=fun _ _ _ _=>True
 npos:=by decide
 bpos:=by decide
 len:=fun _ _=>rfl
 one:=fun r x v hv=>by simp at hv;subst hv;rfl
 mono:=fun _ _ _ _ _ _ h=>h
 dep:=fun _ _ _ _ _ _ h=>h
section
variable {P:Program}{n:Nat}{κ:Ctx}{ρ:Env}{H:List Chunk}{g:Bool}{C:Env→List Chunk→Prop}{β:Type}[ak β]
end
end Go.Dc
namespace Go.Dc
open Go.RowKit ak
section
variable {P:Program}{n:Nat}{κ:Ctx}{ρ:Env}{H:List Chunk}{g:Bool}
theorem Kn.anP{α:Type}[ak α]{r:SR (R α)}{xs ys:List α}{lo hi:Int}(h:Kn κ H (α:=List α) r xs)(hq:sub xs lo hi=some ys):Kn κ H (α:=List α) (r.sub lo.toNat (ak.n α)) ys:=
 h.map fun _ _ hs=>tK.sub hs hq
theorem Ok.same{v v':Value}{a:Act}{t:Nat}(h:Ok n ρ a)(hl:look ρ t=some (.v v))(he:v=v'):Ok n ((t,.v v')::ρ) a:=by
 subst he
 refine⟨h.size,h.wm,fun u e he=>?_⟩
 simp only[look] at he
 by_cases hb:t=u
 ·subst hb
  simp at he
  subst he
  exact h.get _ _ hl
 ·have hb':Nat.beq t u=false:=Fy hb
  rw[hb'] at he
  exact h.get u e he
theorem aak{ops:Array Oper}{Q:Exit→Act→World→Prop}{rest:List Oper}{v v':Value}(t:Nat)(hl:look ρ t=some (.v v))(he:v=v')(k:OW P n κ ops Q rest ((t,.v v')::ρ) H):OW P n κ ops Q rest ρ H:=
 fun w a hm ho=>k w a hm (ho.same hl he)
theorem SY{ops:Array Oper}{K:Act→World→Prop}{Hs:List Chunk}{fuel:Nat}{listed:Array Bool}{v v':Value}(t:Nat)(hl:look ρ t=some (.v v))(he:v=v')(k:AW P n κ ops K Hs fuel listed ((t,.v v')::ρ) H):AW P n κ ops K Hs fuel listed ρ H:=
 fun w a hm hs ho=>k w a hm hs (ho.same hl he)
end
end Go.Dc
namespace Go.Dc
open Go.RowKit ak
theorem Str.Td{s t:Str}:s.ba=t.ba↔s=t:=⟨Str.XE,fun h=>by rw[h]⟩
def Es{α:Type}(xs:List α)(lo:Nat)(ys:List α):List α:=xs.take lo++ys++xs.drop (lo+ys.length)
def Et{α:Type}(xs:List α)(lo dl:Nat)(ys:List α):Option (List α):=if lo+dl≤xs.length then some (Es xs lo (ys.take dl)) else none
theorem ah3{α:Type}(xs:List α)(lo:Nat):Es xs lo []=xs:=by simp[Es]
theorem acI{α:Type}{xs ys:List α}{lo:Nat}(h:lo+ys.length≤xs.length):(Es xs lo ys).length=xs.length:=by
 simp only[Es,List.length_append,List.length_take,List.length_drop];omega
theorem Ja{α:Type}{xs ys zs:List α}{lo dl:Nat}(h:Et xs lo dl ys=some zs):zs.length=xs.length:=by
 unfold Et at h
 split at h
 ·cases h;exact acI (by simp only[List.length_take];omega)
 ·cases h
theorem ah2{α:Type}{xs ys:List α}{lo:Nat}(h:lo+ys.length≤xs.length)(q:Nat):(Es xs lo ys)[q]?=if q<lo then xs[q]? else if q<lo+ys.length then ys[q-lo]? else xs[q]?:=by
 have h1:(xs.take lo).length=lo:=by rw[List.length_take];omega
 unfold Es
 rw[List.append_assoc]
 by_cases a:q<lo
 ·rw[if_pos a,List.getElem?_append_left (by omega),List.getElem?_take,if_pos a]
 ·rw[if_neg a,List.getElem?_append_right (by omega),h1]
  by_cases b:q<lo+ys.length
  ·rw[if_pos b,List.getElem?_append_left (by omega)]
  ·rw[if_neg b,List.getElem?_append_right (by omega),List.getElem?_drop,show lo+ys.length+(q-lo-ys.length)=q by omega]
section
variable {P:Program}
theorem am9{w:World}(t ty e:TypeId)(i:TypeInfo)(ht:P.underlying t=some (.slice e))(hi:P.info? e=some i)
  (gb o dl cd:Nat)(cur:Array Value)(hg:w.heap[gb]?=some (.cells cur e (0,0)))(src:Option Addr)(mm c:Nat)(news:List Value)(hl:news.length=Nat.min mm dl*i.size)
  (hnews:∀j v,news[j]?=some v→src=some ⟨sb src,so src,none⟩∧w.cell? ⟨sb src,so src+j,none⟩=some v)(h1:∀u∈news,u.oneCell'=true)(hfit:o+news.length≤cur.size):
  (Builtin.copy_ #[t,t] ty #[.slice (some ⟨gb,o,none⟩) dl cd,.slice src mm c]).run P w=
   .ok (.int .i64 (Nat.min mm dl:Nat)) (w.setRow gb (cur.toList.take o++news++cur.toList.drop (o+news.length)).toArray):=by
 have hf:=Nw (P:=P) (w:=w) (size:=i.size) (m:=Nat.min mm dl) (src:=src) (len:=mm) (cap:=c) hl hnews
 have hst:=run_storeCells_at P gb o e news 0 cur w hg (by simpa using hfit) h1
 simp only[Nat.add_zero] at hst
 simp[Builtin.copy_,run_underlying ht,sizeOf,typeInfo,hi,Builtin.lenOf,hf,hst,goInt]
theorem ana{w:World}(t ty e:TypeId)(i:TypeInfo)(ht:P.underlying t=some (.slice e))(hi:P.info? e=some i)(ba:Option Addr)(dl cd:Nat)(src:Option Addr)(mm c:Nat)(h0:Nat.min mm dl=0):
  (Builtin.copy_ #[t,t] ty #[.slice ba dl cd,.slice src mm c]).run P w= .ok (.int .i64 (0:Nat)) w:=by
 have hf:=Nw (P:=P) (w:=w) (size:=i.size) (m:=0) (src:=src) (len:=mm) (cap:=c) (cs:=[]) (by simp) (fun j v hv=>by simp at hv)
 cases ba with
 |none=>simp[Builtin.copy_,run_underlying ht,sizeOf,typeInfo,hi,Builtin.lenOf,h0,hf,goInt]
 |some a=>simp[Builtin.copy_,run_underlying ht,sizeOf,typeInfo,hi,Builtin.lenOf,h0,hf,goInt,storeCells]
end
section
variable {P:Program}{n:Nat}{κ:Ctx}{ρ:Env}{H:List Chunk}{g:Bool}{C:Env→List Chunk→Prop}
theorem Kn.abQ{α:Type}[ak α]{r:SR (R α)}{xs:List α}{w:World}(hk:Kn κ H (α:=List α) r xs)(hm:Mem κ H w):xs.length≤r.cap:=by
 obtain⟨S,hs⟩:=hm
 obtain⟨L,_,h2⟩:=hk S w hs
 exact h2.1
theorem acT{α:Type}[ak α]{x:Operand}{lo hi:Option Operand}{t m:Nat}{r:SR (R α)}{xs ys:List α}{ol oh:Option (IntKind×Int)}
  (hcap:xs.length≤r.cap)(hq:g=true→sub xs (oval ol 0) (oval oh xs.length)=some ys)
  (hx:Gets ρ g x (.slice r.a m r.cap):=by exact gT)
  (hm1:m=xs.length:=by first|rfl|simp only[List.length_set,List.length_append,List.length_replicate])
  (hlo:BJ ρ g lo ol:=by first|exact .none|exact .some (.plain rfl)|exact .some (.cond rfl id)|exact .some (.cond rfl gl))
  (hhi:BJ ρ g hi oh:=by first|exact .none|exact .some (.plain rfl)|exact .some (.cond rfl id)|exact .some (.cond rfl gl))
  (hsz:elemSize P t=some (ak.n α):=by kernel_rfl):
  Ev P n κ H ρ g (.slice t x lo hi none) (.slice (r.sub (oval ol 0).toNat (ak.n α)).a ys.length (r.sub (oval ol 0).toNat (ak.n α)).cap):=by
 subst hm1
 intro w a dst ty pos aR gd hm ho hg
 show (Instr.sliceAt t (a.eval x) (lo.map a.eval) (hi.map a.eval) none >>= fun v=>pure (Next.value v)).run P w=_
 rw[hx.eval ho hg,hlo.eval ho hg,hhi.eval ho hg]
 exact jS (aa0 (hq hg) hcap hsz)
def From{ρ:Type}(r:SR ρ)(lo sz:Nat)(ba:Option Addr):Prop:=∀gb o,r.a=some ⟨gb,o,none⟩→r.cap≠lo→ba=some ⟨gb,o+lo*sz,none⟩
theorem From.all{ρ:Type}{r:SR ρ}{sz:Nat}:From r 0 sz r.a:=fun gb o h _=>by rw[h];simp
theorem From.sub{ρ:Type}{r:SR ρ}{lo sz:Nat}:From r lo sz (r.sub lo sz).a:=fun gb o h hne=>by
 show (if r.cap=lo then r.a else r.a.map (·.add (lo*sz)))=_
 rw[if_neg hne,h]
 simp[Addr.add_lit]
theorem aib{α:Type}[ak α]{es:Nat→R α}{ys:List α}{k j:Nat}{v:Value}(h:(iZ es (ys.take k) 0)[j]?=some v):(iZ es ys 0)[j]?=some v:=by
 obtain⟨i,j',x,rfl,hj,hx,hv⟩:=Tx es h
 have hx':ys[i]?=some x:=by
  rw[List.getElem?_take] at hx
  split at hx
  ·exact hx
  ·cases hx
 rw[GQ es ys 0 i j' x hx' hj,Nat.zero_add]
 exact hv
theorem agG{α:Type}[ak α]{x y:Operand}{t e sz lS d:Nat}{ty:TypeId}{pos:String}{aR:Array Edge}{gd:Option (Nat×Bool)}{r r2:SR (R α)}{xs ys zs:List α}{lo dl cd m2:Nat}{ba:Option Addr}{H':List Chunk}
  (hu:eG H (ah e r xs) (ah e r zs) H')(hk:Kn κ H (α:=List α) r2 ys)(hq:Et xs lo dl ys=some zs)(hba:From r lo sz ba)
  (hfl:∀(S:bF) (w:World) (q:R α) (u:α),ok S w q u)(hen:∀(p q:R α) (u:α),enc p u=enc q u)
  (k:C ((d,.v (.int .i64 (Nat.min ys.length dl:Nat)))::ρ) H')
  (hx:Gets ρ true x (.slice ba dl cd):=by exact gT)(hy:Gets ρ true y (.slice r2.a m2 r2.cap):=by exact gT)
  (hm2:m2=ys.length:=by first|rfl|simp only[List.length_set,List.length_append,List.length_replicate])
  (hd:Nat.blt d n=true:=by rfl)(hsz:ak.n α=sz:=by rfl)(hby:ak.bytes α=lS:=by rfl)(hi:CB P t e sz lS=true:=by kernel_rfl):
  jF P n κ ⟨some d,.call {callee:= .builtin .copy,args:= #[x,y],argTypes:= #[t,t]},ty,pos,aR,gd⟩ ρ H C:=by
 subst hm2
 intro K Q hs w act hm ho
 obtain⟨hut,i,z,hi',hisz,Uc,hz,hzs,hpos⟩:=Np hi
 obtain⟨cs,hcs⟩:=Lh act.eval .copy x y #[t,t] (some d) ty pos aR gd
 have hnews:=abT hk hm
 obtain⟨S,hms⟩:=hm
 have hφ:=hu.has.φ hms
 have hin:=(hms.all _ hu.has.mem).2
 unfold Et at hq
 split at hq
 case isFalse=>cases hq
 rename_i hld
 have ZA:zs=Es xs lo (ys.take dl):=by cases hq;rfl
 have hzl:zs.length=xs.length:=by rw[ZA];exact acI (by simp only[List.length_take];omega)
 by_cases h0:Nat.min ys.length dl=0
 ·have hnil:ys.take dl=[]:=List.length_eq_zero_iff.1 (by rw[List.length_take];exact (Nat.min_comm _ _).trans h0)
  have hzx:zs=xs:=by rw[ZA,hnil,ah3]
  subst hzx
  unfold Oper.wp
  rw[hcs,hx.eval ho rfl,hy.eval ho rfl]
  have hr:=jS (P:=P) (ana (P:=P) (w:=w) t ty e i hut hi' ba dl cd r2.a ys.length r2.cap h0)
  rw[show (0:Nat)=Nat.min ys.length dl from h0.symm] at hr
  rw[show builtin .copy #[t,t] ty cs #[.slice ba dl cd,.slice r2.a ys.length r2.cap]=(Builtin.copy_ #[t,t] ty #[.slice ba dl cd,.slice r2.a ys.length r2.cap] >>= fun v=>pure (Next.value v)) from rfl,hr]
  exact hs _ _ k w _ ⟨S,hms.upd hu (Frame.refl _ w) (fun _ h=>h) (fun _ h=> .inl h) hms.lt hφ (fun kk hk=>⟨.inl hk,(hin kk hk).1,(hin kk hk).2.1⟩)⟩ (ho.put (by simpa [Nat.blt_eq] using hd) rfl)
 ·rcases hφ.2 with ⟨ha,Zo,hc0⟩|⟨gb,o,cur,ha,hgb,h3,h4,h5⟩
  ·subst Zo
   have:dl=0:=by simp at hld;omega
   subst this
   exact absurd (Nat.min_zero _) h0
  ·have hne:r.cap≠lo:=by
    have:0<dl:=by
     have:=Nat.min_le_right ys.length dl
     have h1:Nat.min ys.length dl≤dl:=this
     omega
    omega
   have hb:=hba gb o ha hne
   subst hb
   have hyl:(ys.take dl).length=Nat.min ys.length dl:=by rw[List.length_take];exact Nat.min_comm _ _
   have hnl:(iZ r2.es (ys.take dl) 0).length=Nat.min ys.length dl*i.size:=by rw[BN,hisz,hsz,hyl]
   have akv:lo+(ys.take dl).length≤xs.length:=by simp only[List.length_take];omega
   have hfit:o+lo*sz+(iZ r2.es (ys.take dl) 0).length≤cur.size:=by
    rw[BN,hsz,Nat.add_assoc,←Nat.add_mul]
    rw[hsz] at h4
    exact Nat.le_trans (Nat.add_le_add_left (Nat.mul_le_mul_right _ (by omega)) _) h4
   have hrun:=jS (P:=P) (am9 (P:=P) (w:=w) t ty e i hut hi' gb (o+lo*sz) dl cd cur hgb r2.a ys.length r2.cap (iZ r2.es (ys.take dl) 0) hnl (fun j v hv=>hnews j v (aib hv)) (XR _ _ _) hfit)
   unfold Oper.wp
   rw[hcs,hx.eval ho rfl,hy.eval ho rfl]
   rw[show builtin .copy #[t,t] ty cs #[.slice (some ⟨gb,o+lo*sz,none⟩) dl cd,.slice r2.a ys.length r2.cap]=(Builtin.copy_ #[t,t] ty #[.slice (some ⟨gb,o+lo*sz,none⟩) dl cd,.slice r2.a ys.length r2.cap] >>= fun v=>pure (Next.value v)) from rfl,hrun]
   generalize hN:iZ r2.es (ys.take dl) 0=N at*
   have hfr:Frame (ah e r xs).fp w (w.setRow gb (cur.toList.take (o+lo*sz)++N++cur.toList.drop (o+lo*sz+N.length)).toArray):=by
    refine⟨rfl,rfl,rfl,by simp[World.setRow],fun k _ hn=>?_⟩
    have hne:gb≠k:=fun h=>hn ⟨_,ha,h.symm⟩
    simp[World.setRow,Array.getElem?_modify,hne]
   refine hs _ _ k _ _ ⟨S,hms.upd hu hfr (fun _ h=>h) (fun _ h=> .inl h) (fun k hk=>Nat.lt_of_lt_of_le (hms.lt k hk) hfr.size) ⟨by rw[hzl];exact hφ.1,.inr ⟨gb,o,_,ha,setRow_heap w gb cur _ e (0,0) hgb,by rw[hzl];exact h3,?_,?_⟩⟩ ?_⟩ (ho.put (by simpa [Nat.blt_eq] using hd) rfl)
   ·have hc:(cur.toList.take (o+lo*sz)++N++cur.toList.drop (o+lo*sz+N.length)).toArray.size=cur.size:=by
     simp only[List.size_toArray,List.length_append,List.length_take,List.length_drop,Array.length_toList]
     omega
    rw[hc];exact h4
   ·intro q u G6
    refine⟨fun j v hv=>?_,hfl _ _ _ _⟩
    have hj:j<ak.n α:=by have:=(List.getElem?_eq_some_iff.1 hv).1;rwa [ak.len] at this
    simp only[List.getElem?_toArray]
    have hpre:(cur.toList.take (o+lo*sz)).length=o+lo*sz:=by
     have hcl:cur.toList.length=cur.size:=Array.length_toList
     rw[List.length_take,hcl];omega
    have hNl:N.length=(ys.take dl).length*ak.n α:=by rw[←hN,BN]
    rw[ZA,ah2 akv] at G6
    have mul_lt:∀a b:Nat,a<b→a*ak.n α+j<b*ak.n α:=fun a b hab=>by
     have:a*ak.n α+ak.n α≤b*ak.n α:=by rw[←Nat.succ_mul];exact Nat.mul_le_mul_right _ hab
     omega
    rw[←hsz] at hpre ⊢
    by_cases a1:q<lo
    ·rw[if_pos a1] at G6
     have:=mul_lt q lo a1
     rw[List.append_assoc,List.getElem?_append_left (by rw[hpre];omega),List.getElem?_take,if_pos (by omega)]
     have:=(h5 q u G6).1 j v hv
     simpa using this
    ·rw[if_neg a1] at G6
     have hle:lo*ak.n α≤q*ak.n α:=Nat.mul_le_mul_right _ (by omega)
     by_cases a2:q<lo+(ys.take dl).length
     ·rw[if_pos a2] at G6
      have e1:o+(q*ak.n α+j)=(o+lo*ak.n α)+((q-lo)*ak.n α+j):=by rw[Nat.sub_mul];omega
      have hlt2:(q-lo)*ak.n α+j<N.length:=by rw[hNl];exact mul_lt _ _ (by omega)
      rw[e1,List.append_assoc,List.getElem?_append_right (by rw[hpre];omega),hpre,Nat.add_sub_cancel_left,List.getElem?_append_left hlt2,←hN,GQ r2.es _ 0 _ j u G6 hj,Nat.zero_add,hen _ (r.es q)]
      exact hv
     ·rw[if_neg a2] at G6
      have hle2:(lo+(ys.take dl).length)*ak.n α≤q*ak.n α:=Nat.mul_le_mul_right _ (by omega)
      rw[Nat.add_mul,←hNl] at hle2
      rw[List.append_assoc,List.getElem?_append_right (by rw[hpre];omega),hpre,List.getElem?_append_right (by omega),List.getElem?_drop]
      rw[show o+lo*ak.n α+N.length+(o+(q*ak.n α+j)-(o+lo*ak.n α)-N.length)=o+(q*ak.n α+j) by omega]
      have:=(h5 q u G6).1 j v hv
      simpa using this
   ·rintro kk ⟨p,hp,rfl⟩
    have h:=hin p.block ⟨p,hp,rfl⟩
    refine⟨.inl ⟨p,hp,rfl⟩,?_,h.2.1⟩
    have:=h.1
    simpa [World.setRow] using this
theorem Wn{f d:Nat}{x:Operand}{xs:List Operand}{vs cap:List Value}{v:Value}{ts:Array TypeId}{ty:TypeId}{pos:String}{aR:Array Edge}{gd:Option (Nat×Bool)}
  (hc:∀w,Mem κ H w→Calls P f (vs++cap).toArray w (dw w v))(k:C ((d,.v v)::ρ) H)
  (hx:Gets ρ true x (.func (.func f) #[] cap.toArray):=by exact gT)
  (ha:jk ρ true xs vs:=by repeat (first|exact jk.nil|(apply jk.cons;first|exact .plain rfl|exact .cond rfl id|exact .cond rfl gl)))
  (hd:Nat.blt d n=true:=by rfl)(hf:callable P f=true:=by kernel_rfl):
  jF P n κ ⟨some d,.call {callee:= .value x,args:=xs.toArray,argTypes:=ts},ty,pos,aR,gd⟩ ρ H C:=by
 intro K Q hs w a hm ho
 unfold Oper.wp
 rw[anb (hx.eval ho rfl) (ha.eval ho rfl) hf]
 refine (hc w hm).mono ?_
 rintro e w' ⟨rfl,hb⟩
 exact hs _ _ k w' _ (hm.Uy hb) (ho.put (by simpa [Nat.blt_eq] using hd) rfl)
end
end Go.Dc
namespace Go.Dc
open Go.RowKit ak
theorem bnT{b:Bool}(h:(!b)=false):b=true:=by cases b with|true=>rfl|false=>cases h
structure ag2(α:Type) where
 l:List α
 deriving DecidableEq,Inhabited
instance {α:Type}[ak α]:ak (ag2 α) where
 R:=SR (R α)
 n:=1
 bytes:=8
 enc:=fun r _=>[.map (some (sb r.a))]
 ok:=fun _ _ _ _=>True
 npos:=Nat.one_pos
 bpos:=by omega
 len:=fun _ _=>rfl
 one:=fun _ _ v hv=>by simp at hv;subst hv;rfl
 mono:=fun _ _ _ _ _ _ h=>h
 dep:=fun _ _ _ _ _ _ h=>h
theorem ais{α:Type}{xs:List α}{p:α→Bool}:(xs.find? p=none∧xs.findIdx? p=none∧xs.any p=false∧∀x∈xs,p x=false)∨
  ∃i x,xs.find? p=some x∧xs.findIdx? p=some i∧xs[i]?=some x∧xs.any p=true∧p x=true∧∀j y,j<i→xs[j]?=some y→p y=false:=by
 induction xs with
 |nil=>exact .inl ⟨rfl,rfl,rfl,by simp⟩
 |cons a l ih=>
  cases ha:p a with
  |true=>exact .inr ⟨0,a,by simp[ha],by simp[List.findIdx?_cons,ha],rfl,by simp[ha],ha,fun j y hj=>by omega⟩
  |false=>
   rcases ih with ⟨h1,h2,h3,h4⟩|⟨i,x,h1,h2,h3,h4,h5,h6⟩
   ·refine .inl ⟨by simp[ha,h1],by simp[List.findIdx?_cons,ha,h2],by simp[ha,h3],fun x hx=>?_⟩
    rcases List.mem_cons.1 hx with rfl|hx
    ·exact ha
    ·exact h4 x hx
   ·refine .inr ⟨i+1,x,by simp[ha,h1],by simp[List.findIdx?_cons,ha,h2],by simpa using h3,by simp[ha,h4],h5,fun j y hj hy=>?_⟩
    cases j with
    |zero=>simp at hy;subst hy;exact ha
    |succ j=>exact h6 j y (by omega) (by simpa using hy)
class GD (α:Type) (β:outParam Type) [ak α] [ak β] where
 ks:List PK
 aeH:α→List Value
 val:α→List β
 rep:R α→SR (R β)
 fits:∀x,fit ks (aeH x)=true
 okv:∀S w r x,ok S w r x→tK S w (rep r) (val x)
section
variable {α β:Type}[ak α][ak β][GD α β]
def alK(r:SR (R α))(xs:List α):Chunk where
 fp:=fun k=>k=sb r.a
 φ:=fun S w=>∃es clock,w.heap[sb r.a]?=some (.map es clock)∧es.toList.length=xs.length∧
  ∀i x,xs[i]?=some x→(∃e,es.toList[i]?=some e∧e.key= .agg (GD.aeH x).toArray∧e.val= .slice (GD.rep (r.es i)).a (GD.val x).length (GD.rep (r.es i)).cap)∧ok S w (r.es i) x
 dep:=fun S w w' h hw=>by
  obtain⟨es,clock,h1,h2,h3⟩:=hw
  exact⟨es,clock,by rw[h _ (.inl rfl)];exact h1,h2,fun i x hx=>⟨(h3 i x hx).1,ak.dep S w w' _ _ (fun k hk=>h k (.inr hk)) (h3 i x hx).2⟩⟩
 mono:=fun S S' w h hw=>by
  obtain⟨es,clock,h1,h2,h3⟩:=hw
  exact⟨es,clock,h1,h2,fun i x hx=>⟨(h3 i x hx).1,ak.mono S S' w _ _ h (h3 i x hx).2⟩⟩
def aah(xs:List α)(p:α→Bool):List β:=match xs.find? p with|some x=>GD.val x|none=>[]
def aag(z:Nat→R β)(r:SR (R α))(xs:List α)(p:α→Bool):SR (R β):=match xs.findIdx? p with|some i=>GD.rep (r.es i)|none=>⟨none,0,z⟩
def MR.add(r:SR (R α))(i:Nat)(q:R α):SR (R α):=⟨r.a,r.cap,fun j=>if j=i then q else r.es j⟩
theorem al5{S:bF}{w:World}{z:Nat→R β}:tK S w (⟨none,0,z⟩:SR (R β)) []:=⟨Nat.le_refl _,by simp,fun i x hx=>by simp at hx⟩
variable {P:Program}{n:Nat}{κ:Ctx}{ρ:Env}{H:List Chunk}{g:Bool}{C:Env→List Chunk→Prop}
theorem Sk.found{r:SR (R α)}{xs:List α}(h:Has H (alK r xs))(z:Nat→R β)(p:α→Bool):Sk κ H (α:=List β) (aag z r xs p) (aah xs p):=by
 intro S w hs
 obtain⟨es,clock,_,_,h3⟩:=h.φ hs
 show tK S w _ _
 rcases ais (xs:=xs) (p:=p) with ⟨h1,h2,_⟩|⟨i,x,h1,h2,hx,_⟩
 ·simp only[aah,aag,h1,h2];exact al5
 ·simp only[aah,aag,h1,h2]
  exact GD.okv S w _ _ (h3 i x hx).2
end
/-! ### Some cells of a block that is written meanwhile -/
def Hy(b:Nat)(ps:List (Nat×Value)):Chunk where
 fp:=fun k=>k=b
 φ:=fun _ w=>∀p∈ps,w.cell? ⟨b,p.1,none⟩=some p.2
 dep:=fun S w w' h hw p hp=>by rw[World.cell?_of_block (w:=w) (h b (.inl rfl))];exact hw p hp
 mono:=fun _ _ _ _ h=>h
section
variable {P:Program}{n:Nat}{κ:Ctx}{ρ:Env}{H:List Chunk}{g:Bool}
theorem Mem.Hy{T:TypeId}{b:Nat}{l:List Value}{w:World}{H':List Chunk}(ps:List (Nat×Value))(hm:Mem κ H w)(hu:eG H (own b T l) (Dc.Hy b ps) H')
  (h:∀p∈ps,l[p.1]?=some p.2):Mem κ H' w:=by
 obtain⟨S,hs⟩:=hm
 refine⟨S,hs.upd (S':=S) hu (Frame.refl _ _) (fun _ h=>h) (fun _ h=> .inl h) hs.lt (fun p hp=>?_) (fun k hk=>?_)⟩
 ·have hb:w.heap[b]?=some (.cells l.toArray T (0,0)):=hu.has.φ hs
  simp[World.cell?,hb,h p hp]
 ·have hk:k=b:=hk
  subst hk
  exact⟨.inl rfl,((hs.all _ hu.has.mem).2 _ rfl).1,((hs.all _ hu.has.mem).2 _ rfl).2.1⟩
theorem acQ{x:Operand}{t b o:Nat}{v:Value}{ps:List (Nat×Value)}(hh:Has H (Dc.Hy b ps))(hv:(o,v)∈ps)
  (hx:Gets ρ g x (.pointer (some ⟨b,o,none⟩)):=by exact gT)(ht:oK P t=true:=by kernel_rfl):Ev P n κ H ρ g (.load t x) v:=
 Dk hx ht fun _ _ hm=>let ⟨_,hs⟩:=hm;hh.φ hs _ hv
theorem ah7{Q:Exit→Act→World→Prop}{id:Nat}{ops:Array Oper}(Hs:List Chunk)(himp:∀w,Mem κ H w→Mem κ Hs w)
  (h:AW P n κ ops (fun a w=>Q .normal a w) Hs ops.size (Array.replicate ops.size false) ρ H)(hm:P.follows .mixedOrders=true:=by kernel_rfl):
  CW P n κ (.region id ops true) Q ρ H:=by
 intro w a hmm ho
 have hm':=hmm.drawn (w.drawn+1)
 have:=wp_region_held (id:=id) (P:=P) (Q:=fun e a w=>e= .normal∧Q .normal a w) (S:=fun w=>Mem κ Hs w) hm (h _ a hm' (himp _ hm') ho)
 exact wp_mono this (fun e a w hq=>by obtain⟨rfl,hk⟩:=hq;exact hk)
end
end Go.Dc
namespace Go.Dc
open Go.RowKit
inductive Wd:Fence→Prop
 |plain:Wd Fence.wide
 |round (l:Nat):Wd (Fence.wide.inRound l)
theorem Wd.fn{F:Fence}(h:Wd F)(f:FuncId):F.fn f:=by cases h<;>trivial
theorem Wd.depth{F:Fence}(h:Wd F):F.depth.isSome=true→False:=by cases h<;>(intro h;cases h)
theorem Wd.calls{F:Fence}{n:Nat}{P:Program}{f:FuncId}{args:Array Value}{w:World}{R:Ending→World→Prop}(h:Wd F)(hc:Calls P f args w R):CallsIn F n P f args w R:=by
 cases h with
 |plain=>exact callsIn_wide.2 hc
 |round l=>
  have h1:CallsIn Fence.wide n P f args w R:=callsIn_wide.2 hc
  exact h1
theorem Wd.rows{F:Fence}{n:Nat}{P:Program}{row:String}{args:Array Value}{w:World}{R:Value→World→Prop}(h:Wd F)(hc:Rows P row args w R):RowsIn F n P row args w R:=by
 cases h with
 |plain=>exact fun c cs _=>let ⟨v,w',r,s⟩:=hc c cs;⟨v,w',r,stepsIn_wide.2 s⟩
 |round l=>exact fun c cs _=>let ⟨v,w',r,s⟩:=hc c cs;⟨v,w',r,stepsIn_wide.2 s⟩
def aaj:Op→Bool
 | .defer _=>false
 |_=>true
theorem al4{o:Op}(h:aaj o=true):∀c,o≠ .defer c:=fun c e=>by subst e;cases h
theorem an1{F:Fence}{N:Nat}{P:Program}{o:Oper}{a:Act}{w:World}{K:Act→World→Prop}{Q:Exit→Act→World→Prop}(hF:Wd F)(hnd:aaj o.op=true)(h:o.wp P a w K Q):o.wpIn F N P a w K Q:=by
 refine⟨fun f _=>hF.fn f,?_⟩
 rw[Oper.semAt_eq _ _ _ (al4 hnd)]
 unfold Oper.wp at h
 generalize (execOp a.eval o).run P w=r at h
 cases r with
 |ok x w'=>
  cases x with
  |value v=>exact h
  |skip=>exact h
  |defer d=>exact h
  |enter f args=>exact⟨fun hd=>(hF.depth hd).elim,hF.calls h⟩
  |row row args=>exact⟨fun hd=>(hF.depth hd).elim,hF.rows h⟩
  |round l f t a b=>exact h.elim
  |_=>exact h
 |halt x w'=>cases x<;>exact h
section
variable {F:Fence}{P:Program}{n:Nat}{κ:Ctx}{ops:Array Oper}{Q:Exit→Act→World→Prop}{rest:List Oper}{ρ:Env}{H:List Chunk}
/-! In whatever order, under a fence: every order is walked. -/
def AWi(F:Fence)(P:Program)(n:Nat)(κ:Ctx)(ops:Array Oper)(Q:Exit→Act→World→Prop)(fuel:Nat)(listed:Array Bool)(ρ:Env)(H:List Chunk):Prop:=
 ∀w a,Mem κ H w→Ok n ρ a→wpAnyIn F 0 P .any ops Q fuel listed a w
def abC(F:Fence)(P:Program)(n:Nat)(κ:Ctx)(ops:Array Oper)(Q:Exit→Act→World→Prop)(fuel:Nat)(listed:Array Bool)(ρ:Env)(H:List Chunk)(i:Nat):Prop:=
 ∃o,ops[i]?=some o∧o.guard=none∧aaj o.op=true∧jF P n κ o ρ H (AWi F P n κ ops Q fuel (listed.setIfInBounds i true))
theorem abC.wpOp{fuel:Nat}{listed:Array Bool}{i:Nat}(hF:Wd F)(h:abC F P n κ ops Q fuel listed ρ H i){w:World}{a:Act}(hm:Mem κ H w)(ho:Ok n ρ a):
  wpOpIn F 0 P ops Q i (wpAnyIn F 0 P .any ops Q fuel (listed.setIfInBounds i true)) a w:=by
 obtain⟨o,hi,hg,hnd,hs⟩:=h
 unfold wpOpIn
 simp only[hi,Region.wanted,hg,if_true]
 exact an1 hF hnd (hs _ _ (fun _ _ hc w a m o=>hc w a m o) w a hm ho)
end
/-! ### The loop's record -/
def alI(L D:Nat)(n:Nat)(ρ:Env)(ps:Array Tmp)(assign body:Code)(st:LoopState)(pend:Option Code):Chunk where
 fp:=fun k=>k=L∨k=D
 φ:=fun _ w=>L≠D∧(∃a fn,Ok n ρ a∧w.heap[L]?=some (.loop {state:=st,pending:=pend,fn:=fn,tmps:=a.tmps,params:=ps,assign:=assign,body:=body,defers:=D}))∧w.heap[D]?=some (.deferred (some []))
 dep:=fun S w w' h hw=>by
  obtain⟨h0,⟨a,fn,h1,h2⟩,h3⟩:=hw
  exact⟨h0,⟨a,fn,h1,by rw[h L (.inl (.inl rfl))];exact h2⟩,by rw[h D (.inl (.inr rfl))];exact h3⟩
 mono:=fun _ _ _ _ h=>h
def aad(D:Nat):Chunk where
 fp:=fun k=>k=D
 φ:=fun _ w=>w.heap[D]?=some (.deferred (some []))
 dep:=fun S w w' h hw=>by rw[h D (.inl rfl)];exact hw
 mono:=fun _ _ _ _ h=>h
section
variable {P:Program}{n:Nat}{κ:Ctx}{ρ:Env}{H:List Chunk}{L D nL:Nat}{ρL:Env}{ps:Array Tmp}{assign body:Code}
/-! ### The statement -/
theorem Mem.aad{st:LoopState}{pe:Option Code}{w:World}(hm:Mem κ (alI L D nL ρL ps assign body st pe::H) w):Mem κ (Dc.aad D::H) w:=by
 obtain⟨S,hs⟩:=hm
 have hall:=hs.all _ List.mem_cons_self
 refine⟨S,hs.upd (S':=S) .head (Frame.refl _ _) (fun _ h=>h) (fun _ h=> .inl h) hs.lt hall.1.2.2 (fun k hk=>?_)⟩
 have hk:k=D:=hk
 subst hk
 exact⟨.inl (.inr rfl),(hall.2 _ (.inr rfl)).1,(hall.2 _ (.inr rfl)).2.1⟩
def mark(D:Nat):List Deferred:=[{target:= .collected D,args:= #[]}]
/-! ### Behind the statement: the mark lies among the deferred calls -/
variable {ops:Array Oper}{Q:Exit→Act→World→Prop}{l:List Oper}{ds:List Deferred}
theorem Mem.undef{w:World}(hm:Mem κ (Dc.aad D::H) w):Mem κ H (w.putObj D (.deferred none)):=by
 obtain⟨S,hs⟩:=hm
 let e:Chunk:=⟨fun _=>False,fun _ _=>True,fun _ _ _ _ _=>trivial,fun _ _ _ _ _=>trivial⟩
 have:=hs.upd (c':=e) (S':=S) (w':=w.putObj D (.deferred none)) .head ⟨rfl,rfl,rfl,by simp[World.putObj],fun k _ hne=>World.putObj_heap_other (fun e=>hne e)⟩ (fun _ h=>h) (fun _ h=> .inl h) (fun k hk=>by simpa [World.putObj] using hs.lt k hk) trivial (fun k hk=>hk.elim)
 exact⟨S,this.sub' (List.sublist_cons_self _ _)⟩
end
end Go.Dc
namespace Go.Dc
section
variable {P:Program}{n:Nat}{κ:Ctx}{ρ:Env}{H:List Chunk}{g:Bool}
end
end Go.Dc
namespace Go.Dc
open Go.RowKit ak
def u8(c:Int):UInt8:=UInt8.ofNat c.toNat
section
variable {P:Program}
end
section
variable {P:Program}{n:Nat}{κ:Ctx}{ρ:Env}{H:List Chunk}{C:Env→List Chunk→Prop}{g:Bool}
end
/-! ### Package-level variables -/
/-! ### A range over a string -/
section
variable {P:Program}{n:Nat}{κ:Ctx}{ρ:Env}{H:List Chunk}{C:Env→List Chunk→Prop}{g:Bool}
end
end Go.Dc
namespace Go.Dc
open Go.RowKit ak
section
variable {P:Program}{n:Nat}{κ:Ctx}{ρ:Env}{H:List Chunk}{g:Bool}
def abN(P:Program)(t m:Nat):Bool:=match P.underlying t with
 |some (.array k e)=>k==m&&(match P.info? e with|some i=>i.size==1|none=>false)&&oK P e
 |_=>false
/-! Two or three operations that may come up, before the region's last. -/
def abD(P:Program)(n:Nat)(κ:Ctx)(ops:Array Oper)(K:Act→World→Prop)(Hs:List Chunk)(z fuel:Nat)(listed:Array Bool)(ρ:Env)(H:List Chunk)(i:Nat):Prop:=
 ∃o,ops[i]?=some o∧o.guard=none∧jF P n κ o ρ H (fun ρ' H'=>(∀w,Mem κ H' w→Mem κ Hs w)∧AZ P n κ ops K Hs z fuel (listed.setIfInBounds i true) ρ' H')
section
variable {ops:Array Oper}{K:Act→World→Prop}{Hs:List Chunk}{z fuel:Nat}{listed:Array Bool}
theorem abD.wpOp{i:Nat}(h:abD P n κ ops K Hs z fuel listed ρ H i){w:World}{a:Act}(hm:Mem κ H w)(ho:Ok n ρ a):
  Go.wpOp P ops (fun e a w=>e= .normal∧K a w) i (fun a' w'=>(i≠z→Mem κ Hs w')∧CO P .any ops (fun e a w=>e= .normal∧K a w) (fun w=>Mem κ Hs w) z fuel (listed.setIfInBounds i true) a' w') a w:=by
 obtain⟨o,hi,hg,hs⟩:=h
 unfold Go.wpOp
 simp only[hi,Region.wanted,hg,if_true]
 refine .inl (hs _ _ ?_ w a hm ho)
 intro ρ' H' ⟨c1,c2⟩ w' a' hm' ho'
 exact⟨fun _=>c1 w' hm',c2 w' a' hm' ho'⟩
end
variable {C:Env→List Chunk→Prop}
end
end Go.Dc
namespace Go.Dc
open Go.RowKit ak
section
variable {P:Program}{n:Nat}{κ:Ctx}{ρ:Env}{H:List Chunk}{g:Bool}
theorem aic{x y:Operand}{t m:Nat}{k:IntKind}{i:Int}{xs:List Nat}{v:Nat}(l:List Value)(hi:g=true→idx xs i=some v)(hl:l=xs.map (fun s=> .func (.func s) #[] #[]):=by rfl)(hm:xs.length=m:=by rfl)
  (hx:Gets ρ g x (.agg l.toArray):=by exact gT)(hy:Gets ρ g y (.int k i):=by exact gT)
  (ht:abN P t m=true:=by kernel_rfl):Ev P n κ H ρ g (.index t x y) (.func (.func v) #[] #[]):=by
 intro w a dst ty pos aR gd hm' ho hg
 have e1:=hx.eval ho hg
 have e2:=hy.eval ho hg
 obtain⟨h0,hlt,hv⟩:=jG (hi hg)
 unfold abN at ht
 split at ht
 ·rename_i kk e hu
  simp only[Bool.and_eq_true,beq_iff_eq] at ht
  obtain⟨⟨h1,h2⟩,h3⟩:=ht
  cases hti:P.info? e with
  |none=>rw[hti] at h2;cases h2
  |some ti=>
   rw[hti] at h2
   simp at h2
   show (Instr.index t (a.eval x) (a.eval y) >>= fun v=>pure (Next.value v)).run P w=_
   rw[e1,e2]
   refine jS ?_
   unfold Instr.index
   show (underlying t >>= _).run P w=_
   rw[run_bind_ok (mo hu w)]
   have hb:0≤i∧i<(kk:Int):=by rw[h1,←hm];exact⟨h0,hlt⟩
   simp only[hb,and_self,if_true]
   rw[run_bind_ok (wF hti w),h2,Nat.mul_one]
   refine Kl h3 ?_
   subst hl
   simp[hv]
 ·cases ht
theorem Mem.aiG{b T:Nat}{l:List Value}{w:World}{H':List Chunk}(hm:Mem κ H w)(hu:eG H (own b T l) (Dc.kV b T l) H':=by repeat (first|exact eG.head|apply eG.tail)):Mem κ H' w:=by
 obtain⟨S,hs⟩:=hm
 have h0:=hs.all _ hu.has.mem
 exact⟨fun k=>S k∨(own b T l).fp k,hs.upd hu (Frame.refl _ w) (fun _ h=> .inl h) (fun k hk=>hk.elim .inl (fun h=> .inr (.inl h))) (fun k hk=>hk.elim (hs.lt k) (fun h=>(h0.2 k h).1)) ⟨.inr rfl,h0.1⟩ (fun k hk=>hk.elim)⟩
/-! ### Regions of many orders: every set of what has come up is one lemma -/
theorem abm{md:Region.Mode}{ops:Array Oper}{Q:Exit→Act→World→Prop}{S S':World→Prop}(hS:∀w,S' w→S w):
  ∀(fuel:Nat) (listed:Array Bool) (a:Act) (w:World),wpAnyH P md ops Q S' fuel listed a w→wpAnyH P md ops Q S fuel listed a w
 |0,_,_,_,h=>h
 |fuel+1,_,_,_,h=>⟨h.1,fun i hi=>wpOp_mono (fun a' w' h'=>⟨hS _ h'.1,abm hS fuel _ a' w' h'.2⟩) (h.2 i hi)⟩
variable {ops:Array Oper}{K:Act→World→Prop}{Hs:List Chunk}{fuel:Nat}{listed:Array Bool}
theorem vO(CV:List Chunk)(h1:∀w,Mem κ H w→Mem κ CV w)(h2:∀w,Mem κ CV w→Mem κ Hs w)(k:AW P n κ ops K CV fuel listed ρ H):AW P n κ ops K Hs fuel listed ρ H:=
 fun w a hm _ ho=>abm h2 _ _ _ _ (k w a hm (h1 w hm) ho)
theorem ahn{ρ0:Env}(h:∀G:Nat→Array Bool→Env→List Chunk→List Chunk→Prop,(∀f l ad H Hs,G f l ad H Hs=AW P n κ ops K Hs f l (ad++ρ0) H)→G fuel listed [] H Hs):AW P n κ ops K Hs fuel listed ρ0 H:=
 h (fun f l ad H Hs=>AW P n κ ops K Hs f l (ad++ρ0) H) (fun _ _ _ _ _=>rfl)
theorem aeR{ad ρ0:Env}{t:Nat}:look (ad++ρ0) t=match look ad t with|some e=>some e|none=>look ρ0 t:=by
 induction ad with
 |nil=>rfl
 |cons p r ih=>
  simp only[List.cons_append,look]
  split
  ·rfl
  ·exact ih
theorem aeS{ad:Env}{t:Nat}(h:∀p∈ad,p.1≠t):look ad t=none:=by
 induction ad with
 |nil=>rfl
 |cons p r ih=>
  simp only[look]
  split
  ·rename_i hb;exact absurd (Nat.eq_of_beq_eq_true hb) (h p List.mem_cons_self)
  ·exact ih fun q hq=>h q (List.mem_cons_of_mem _ hq)
theorem alH{ad zI ρ0:Env}(h1:∀p∈ad,look zI p.1=look ad p.1)(h2:∀p∈zI,look zI p.1=look ad p.1):∀t,look (zI++ρ0) t=look (ad++ρ0) t:=by
 intro t
 have:look zI t=look ad t:=by
  by_cases e:∃p∈ad,p.1=t
  ·obtain⟨p,hp,rfl⟩:=e;exact h1 p hp
  ·by_cases e':∃p∈zI,p.1=t
   ·obtain⟨p,hp,rfl⟩:=e';exact h2 p hp
   ·rw[aeS (fun p hp hh=>e ⟨p,hp,hh⟩),aeS (fun p hp hh=>e' ⟨p,hp,hh⟩)]
 rw[aeR,aeR,this]
theorem aho{ρ0:Env}{G:Nat→Array Bool→Env→List Chunk→List Chunk→Prop}(hG:∀f l ad H Hs,G f l ad H Hs=AW P n κ ops K Hs f l (ad++ρ0) H){ad zI:Env}{l':Array Bool}{H' CV:List Chunk}
  (h:G fuel l' zI H' CV)(hl:listed=l')(hρ:∀t,look (zI++ρ0) t=look (ad++ρ0) t)(hH:∀w,Mem κ H w→Mem κ H' w)(hs:∀w,Mem κ H w→Mem κ CV w)(hss:∀w,Mem κ CV w→Mem κ Hs w):
  AW P n κ ops K Hs fuel listed (ad++ρ0) H:=by
 subst hl
 rw[hG] at h
 intro w a hm _ ho
 exact abm hss _ _ _ _ (h w a (hH w hm) (hs w hm) ⟨ho.size,ho.wm,fun t e he=>ho.get t e (by rw[←hρ t];exact he)⟩)
def KA(Q:Nat×EV→Prop):Env→Prop
 |[]=>True
 |p::r=>Q p∧KA Q r
theorem KA.mem{Q:Nat×EV→Prop}:∀{l:Env},KA Q l→∀p∈l,Q p
 |_::_,h,p,hp=>(List.mem_cons.1 hp).elim (fun e=>e▸h.1) (fun hp=>KA.mem h.2 p hp)
theorem iQ{ρ0:Env}{G:Nat→Array Bool→Env→List Chunk→List Chunk→Prop}(k:Nat)(hG:∀f l ad H Hs,G f l ad H Hs=AW P n κ ops K Hs f l (ad++ρ0) H){zI:Env}{l':Array Bool}{H' CV:List Chunk}
  (h:G fuel l' zI H' CV)(hk:ρ.drop k=ρ0:=by rfl)(hl:listed=l':=by rfl)
  (h1:KA (fun p=>look zI p.1=look (ρ.take k) p.1) (ρ.take k):=by repeat (first|exact trivial|refine And.intro rfl ?_))
  (h2:KA (fun p=>look zI p.1=look (ρ.take k) p.1) zI:=by repeat (first|exact trivial|refine And.intro rfl ?_))
  (hH:∀w,Mem κ H w→Mem κ H' w:=by intro w hm;exact hm.jw)(hs:∀w,Mem κ H w→Mem κ CV w:=by intro w hm;exact hm.jw)(hss:∀w,Mem κ CV w→Mem κ Hs w:=by intro w hm;exact hm.jw):
  AW P n κ ops K Hs fuel listed ρ H:=by
 have e:ρ=ρ.take k++ρ0:=by rw[←hk];exact (List.take_append_drop k ρ).symm
 rw[e]
 exact aho hG h hl (alH h1.mem h2.mem) hH hs hss
end
end Go.Dc
namespace Go.Dc
open Go.RowKit ak
def SR.put{ρ:Type}(r:SR ρ)(i:Nat)(q:ρ):SR ρ:=⟨r.a,r.cap,fun j=>if j=i then q else r.es j⟩
def hrow{α:Type}[ak α](on:Nat→Prop)(e:TypeId)(r:SR (R α))(xs:List α):Chunk where
 fp:=fun k=>∃p,r.a=some p∧k=p.block
 φ:=fun S w=>xs.length*ak.bytes α≤140737488355328∧((r.a=none∧xs=[]∧r.cap=0)∨
  ∃g o cur,r.a=some ⟨g,o,none⟩∧w.heap[g]?=some (.cells cur e (0,0))∧xs.length≤r.cap∧o+r.cap*n α≤cur.size∧
   ∀i x,xs[i]?=some x→(∀j v,(enc (r.es i) x)[j]?=some v→cur[o+(i*n α+j)]?=some v)∧(on i→ok S w (r.es i) x))
 dep:=fun S w w' h hw=>by
  refine⟨hw.1,?_⟩
  rcases hw.2 with h2|⟨g,o,cur,ha,hg,h3,h4,h5⟩
  ·exact .inl h2
  ·refine .inr ⟨g,o,cur,ha,?_,h3,h4,fun i x hx=>⟨(h5 i x hx).1,fun ho=>ak.dep S w w' _ _ (fun k hk=>h k (.inr hk)) ((h5 i x hx).2 ho)⟩⟩
   rw[h g (.inl ⟨_,ha,rfl⟩)]
   exact hg
 mono:=fun S S' w h hw=>by
  refine⟨hw.1,?_⟩
  rcases hw.2 with h2|⟨g,o,cur,ha,hg,h3,h4,h5⟩
  ·exact .inl h2
  ·exact .inr ⟨g,o,cur,ha,hg,h3,h4,fun i x hx=>⟨(h5 i x hx).1,fun ho=>ak.mono S S' w _ _ h ((h5 i x hx).2 ho)⟩⟩
section
variable {P:Program}{n:Nat}{κ:Ctx}{ρ:Env}{H:List Chunk}{g:Bool}{C:Env→List Chunk→Prop}
theorem Mem.toH{α:Type}[ak α]{e:TypeId}{r:SR (R α)}{xs:List α}{w:World}{H':List Chunk}(hm:Mem κ H w)
  (hu:eG H (ah e r xs) (hrow (fun _=>True) e r xs) H':=by repeat (first|exact eG.head|apply eG.tail)):Mem κ H' w:=by
 obtain⟨S,hs⟩:=hm
 have h0:=hs.all _ hu.has.mem
 refine⟨S,hs.upd hu (Frame.refl _ w) (fun _ h=>h) (fun _ h=> .inl h) hs.lt ⟨h0.1.1,?_⟩ (fun k hk=>⟨.inl hk,(h0.2 k hk).1,(h0.2 k hk).2.1⟩)⟩
 rcases h0.1.2 with h2|⟨g,o,cur,ha,hg,h3,h4,h5⟩
 ·exact .inl h2
 ·exact .inr ⟨g,o,cur,ha,hg,h3,h4,fun i x hx=>⟨(h5 i x hx).1,fun _=>(h5 i x hx).2⟩⟩
theorem Mem.agt{α:Type}[ak α]{on:Nat→Prop}{e:TypeId}{r:SR (R α)}{xs:List α}{i:Int}{x x':α}{w:World}{H':List Chunk}(hm:Mem κ H w)(hon:∀k,k≠i.toNat→on k)(hi:idx xs i=some x)
  (henc:enc (r.es i.toNat) x'=enc (r.es i.toNat) x)(hk:Sk κ H (r.es i.toNat) x')
  (hu:eG H (hrow on e r xs) (ah e r (xs.set i.toNat x')) H':=by repeat (first|exact eG.head|apply eG.tail)):Mem κ H' w:=by
 obtain⟨S,hs⟩:=hm
 have h0:=hs.all _ hu.has.mem
 obtain⟨hi0,hilt,hget⟩:=jG hi
 refine⟨S,hs.upd hu (Frame.refl _ w) (fun _ h=>h) (fun _ h=> .inl h) hs.lt ⟨by rw[List.length_set];exact h0.1.1,?_⟩ (fun k hk=>⟨.inl hk,(h0.2 k hk).1,(h0.2 k hk).2.1⟩)⟩
 rcases h0.1.2 with ⟨_,h2,_⟩|⟨g,o,cur,ha,hg,h3,h4,h5⟩
 ·subst h2;simp at hilt;omega
 ·refine .inr ⟨g,o,cur,ha,hg,by rw[List.length_set];exact h3,h4,fun k z hz=>?_⟩
  by_cases hki:k=i.toNat
  ·subst hki
   rw[List.getElem?_set_self (by omega)] at hz
   cases hz
   refine⟨fun j v hv=>?_,hk S w hs⟩
   rw[henc] at hv
   exact (h5 _ x hget).1 j v hv
  ·rw[List.getElem?_set_ne (Ne.symm hki)] at hz
   exact⟨(h5 k z hz).1,(h5 k z hz).2 (hon k hki)⟩
theorem agJ{α:Type}[ak α]{x y:Operand}{t e:Nat}{ty:TypeId}{pos:String}{aR:Array Edge}{gd:Option (Nat×Bool)}{on:Nat→Prop}{r:SR (R α)}{xs:List α}{i:Int}{u:α}{o m:Nat}{v:Value}{vs:List Value}{H':List Chunk}
  (j:Nat)(u':α)(q:R α)(on':Nat→Prop)(hon:∀k,on' k→on k∧k≠i.toNat)(hi:idx xs i=some u)(henc:enc q u'=wH (enc (r.es i.toNat) u) j vs)
  (hu:eG H (hrow on e r xs) (hrow on' e (r.put i.toNat q) (xs.set i.toNat u')) H')(k:C ρ H')
  (hx:Gets ρ true x (.pointer (some ⟨sb r.a,o,none⟩)):=by exact gT)(hy:Gets ρ true y v:=by exact gT)
  (hvs:v.cells=vs.toArray:=by rfl)(hlen:vs.length=m:=by rfl)(h10:vs.all Value.oneCell'=true:=by rfl)
  (ho':o=so r.a+(i.toNat*ak.n α+j):=by first|rfl|(show _=_+(_*(_:Nat)+_);omega))(hj0:Nat.ble (j+m) (ak.n α)=true:=by rfl)
  (ht:P.cellsOf t=m:=by kernel_rfl)(hti:(P.info? t).isSome=true:=by kernel_rfl):jF P n κ ⟨none,.store t x y,ty,pos,aR,gd⟩ ρ H C:=by
 have hj:j+m≤ak.n α:=by simpa [Nat.ble_eq] using hj0
 intro K Q hs w a hm ho
 obtain⟨hi0,hilt,hget⟩:=jG hi
 obtain⟨S,hms⟩:=hm
 have hφ:=hu.has.φ hms
 have hin:=(hms.all _ hu.has.mem).2
 have e1:=hx.eval ho rfl
 have e2:=hy.eval ho rfl
 rcases hφ.2 with ⟨_,h0,_⟩|⟨gb,off,cur,ha,hgb,h3,h4,h5⟩
 ·subst h0;simp at hilt;omega
 ·rw[ha] at e1
  have hoff:o=off+(i.toNat*ak.n α+j):=by rw[ho',ha];rfl
  have Jb:a.eval x= .pointer (some ⟨gb,o,none⟩):=e1
  have hfit:o+0+vs.length≤cur.size:=by
   have:i.toNat*ak.n α+ak.n α≤r.cap*ak.n α:=by rw[←Nat.succ_mul];exact Nat.mul_le_mul_right _ (by omega)
   omega
  have hst:=run_storeCells_at P gb o e vs 0 cur w hgb hfit (List.all_eq_true.1 h10)
  simp only[Nat.add_zero] at hst
  cases xL:P.info? t with
  |none=>rw[xL] at hti;cases hti
  |some ti=>
   have hsz:ti.size=m:=by simpa [Program.cellsOf,xL] using ht
   have hrun:(execOp a.eval ⟨none,.store t x y,ty,pos,aR,gd⟩).run P w= .ok .skip (w.setRow gb (cur.toList.take o++vs++cur.toList.drop (o+vs.length)).toArray):=by
    show ((Instr.storeAt t (a.eval x) (a.eval y)) >>= fun _=>pure Next.skip).run P w=_
    rw[Jb,e2]
    have:(Instr.storeAt t (.pointer (some ⟨gb,o,none⟩)) v).run P w= .ok () (w.setRow gb (cur.toList.take o++vs++cur.toList.drop (o+vs.length)).toArray):=by
     show (storeVar t ⟨gb,o,none⟩ v).run P w=_
     unfold storeVar
     rw[run_bind_ok (wF xL w),hvs]
     have hsz2:¬(vs.toArray.size≠ti.size):=by simp[hlen,hsz]
     simp only[hsz2,if_false]
     exact hst
    rw[run_bind_ok this]
    rfl
   unfold Oper.wp
   rw[hrun]
   have hcl:cur.toList.length=cur.size:=Array.length_toList
   have hpre:(cur.toList.take o).length=o:=by rw[List.length_take,hcl];omega
   have hne:∀k,k≠gb→(w.setRow gb (cur.toList.take o++vs++cur.toList.drop (o+vs.length)).toArray).heap[k]?=w.heap[k]?:=fun k hk=>by
    simp[World.setRow,Array.getElem?_modify,Ne.symm hk]
   refine hs _ _ k _ _ ⟨S,hms.upd hu ⟨rfl,rfl,rfl,by simp[World.setRow],fun kk _ hn=>hne kk (fun h=>hn ⟨_,ha,h⟩)⟩ (fun _ h=>h) (fun _ h=> .inl h) (fun k hk=>by simpa [World.setRow] using hms.lt k hk) ⟨by rw[List.length_set];exact hφ.1,.inr ⟨gb,off,_,ha,setRow_heap w gb cur _ e (0,0) hgb,by rw[List.length_set];exact h3,?_,?_⟩⟩ ?_⟩ ho
   ·simp only[List.size_toArray,List.length_append,hpre,List.length_drop,hcl]
    show off+r.cap*_≤_
    omega
   ·intro p z hq
    have TW:∀k,S k→(w.setRow gb (cur.toList.take o++vs++cur.toList.drop (o+vs.length)).toArray).heap[k]?=w.heap[k]?:=fun k hk=>hne k (fun h=>by subst h;exact (hin k ⟨_,ha,rfl⟩).2.1 hk)
    have cells:∀c,(cur.toList.take o++vs++cur.toList.drop (o+vs.length))[c]?=if c<o then cur[c]? else if c<o+vs.length then vs[c-o]? else cur[c]?:=fun c=>by
     by_cases hc:c<o
     ·rw[if_pos hc,List.append_assoc,List.getElem?_append_left (by omega),List.getElem?_take,if_pos hc];simp
     ·rw[if_neg hc,List.append_assoc,List.getElem?_append_right (by omega),hpre]
      by_cases hc2:c<o+vs.length
      ·rw[if_pos hc2,List.getElem?_append_left (by omega)]
      ·rw[if_neg hc2,List.getElem?_append_right (by omega),List.getElem?_drop]
       rw[show o+vs.length+(c-o-vs.length)=c by omega];simp
    by_cases hqi:p=i.toNat
    ·subst hqi
     rw[List.getElem?_set_self (by omega)] at hq
     cases hq
     have hput:(r.put i.toNat q).es i.toNat=q:=by simp[SR.put]
     rw[hput]
     refine⟨fun j' v' hv'=>?_,fun h=>absurd rfl (hon _ h).2⟩
     have hj':j'<ak.n α:=by have:=(List.getElem?_eq_some_iff.1 hv').1;rwa [ak.len] at this
     simp only[List.getElem?_toArray]
     rw[cells]
     rw[henc] at hv'
     by_cases hin':j≤j'∧j'<j+vs.length
     ·have e3:j'=j+(j'-j):=by omega
      rw[e3,aa2 vs _ j (j'-j) (by omega) (by rw[ak.len];omega)] at hv'
      rw[if_neg (by omega),if_pos (by omega)]
      rw[show off+(i.toNat*ak.n α+j')-o=j'-j by omega]
      exact hv'
     ·rw[VZ vs _ j j' (by omega)] at hv'
      have:=(h5 _ u hget).1 j' v' hv'
      by_cases hc:off+(i.toNat*ak.n α+j')<o
      ·rw[if_pos hc];exact this
      ·rw[if_neg hc,if_neg (by omega)];exact this
    ·rw[List.getElem?_set_ne (Ne.symm hqi)] at hq
     have hput:(r.put i.toNat q).es p=r.es p:=by simp[SR.put,hqi]
     rw[hput]
     refine⟨fun j' v' hv'=>?_,fun ho=>ak.dep S w _ _ _ TW ((h5 p z hq).2 (hon _ ho).1)⟩
     have hj':j'<ak.n α:=by have:=(List.getElem?_eq_some_iff.1 hv').1;rwa [ak.len] at this
     have:=(h5 p z hq).1 j' v' hv'
     simp only[List.getElem?_toArray]
     rw[cells]
     rcases Nat.lt_or_gt_of_ne hqi with hlt|hgt
     ·have:p*ak.n α+ak.n α≤i.toNat*ak.n α:=by rw[←Nat.succ_mul];exact Nat.mul_le_mul_right _ hlt
      rw[if_pos (by omega)];assumption
     ·have:i.toNat*ak.n α+ak.n α≤p*ak.n α:=by rw[←Nat.succ_mul];exact Nat.mul_le_mul_right _ hgt
      rw[if_neg (by omega),if_neg (by omega)];assumption
   ·rintro kk ⟨p,hp,rfl⟩
    have:=hin p.block ⟨p,hp,rfl⟩
    exact⟨.inl ⟨p,hp,rfl⟩,by simpa [World.setRow] using this.1,this.2.1⟩
/-! ### Reading -/
def Cl{α:Type}[ak α](κ:Ctx)(H:List Chunk)(r:SR (R α))(xs:List α):Prop:=
 ∀w,Mem κ H w→xs.length≤140737488355328∧∀i x,xs[i]?=some x→r.a=some ⟨sb r.a,so r.a,none⟩∧∀j v,(enc (r.es i) x)[j]?=some v→w.cell? ⟨sb r.a,so r.a+(i*ak.n α+j),none⟩=some v
theorem Cl.hrow{α:Type}[ak α]{on:Nat→Prop}{e:TypeId}{r:SR (R α)}{xs:List α}(h:Has H (Dc.hrow on e r xs)):Cl κ H r xs:=fun w hm=>by
 obtain⟨S,hs⟩:=hm
 have h0:=h.φ hs
 have hb:=ak.bpos (α:=α)
 refine⟨?_,fun i x hx=>?_⟩
 ·calc xs.length=xs.length*1:=by omega
   _≤xs.length*ak.bytes α:=Nat.mul_le_mul_left _ hb
   _≤_:=h0.1
 ·rcases h0.2 with ⟨_,h2,_⟩|⟨g,o,cur,ha,hg,h3,h4,h5⟩
  ·subst h2;simp at hx
  ·refine⟨by rw[ha];rfl,fun j v hv=>?_⟩
   rw[ha]
   show w.cell? ⟨g,o+(i*ak.n α+j),none⟩=some v
   simp[World.cell?,hg,(h5 i x hx).1 j v hv]
theorem Cl.len{α:Type}[ak α]{r:SR (R α)}{xs:List α}(h:Cl κ H r xs){w:World}(hm:Mem κ H w):xs.length≤140737488355328:=(h w hm).1
theorem aif{α:Type}[ak α]{x:Operand}{t:TypeId}{r:SR (R α)}{xs:List α}{i:Int}{y:α}{o:Nat}{v:Value}(j:Nat)(hk:Cl κ H r xs)(hi:g=true→idx xs i=some y)
  (hv:(enc (r.es i.toNat) y)[j]?=some v)(hx:Gets ρ g x (.pointer (some ⟨sb r.a,o,none⟩)):=by exact gT)
  (ho':o=so r.a+(i.toNat*ak.n α+j):=by first|rfl|(show _=_+(_*(_:Nat)+_);omega))
  (ht:oK P t=true:=by kernel_rfl):Ev P n κ H ρ g (.load t x) v:=
 Dk hx ht fun hg w hm=>by rw[ho'];exact ((hk w hm).2 _ y (jG (hi hg)).2.2).2 j v hv
theorem SR.Gf{ρ:Type}(r:SR ρ)(i:Nat)(q:ρ):(r.put i q).es i=q:=by simp[SR.put]
end
end Go.Dc
namespace Go.Dc
open Go.RowKit ak
class Inner (α:Type) (β:outParam Type) [ak α] [ak β] where
 get:α→List β
 rep:R α→SR (R β)
 okI:∀S w r x,tK S w (rep r) (get x)→ok S w r x
section
variable {α β:Type}[ak α][ak β][Inner α β]
variable {P:Program}{n:Nat}{κ:Ctx}{ρ:Env}{H:List Chunk}{g:Bool}{C:Env→List Chunk→Prop}
theorem je.cut{S:bF}{w:World}{c c1 c2:Chunk}{H:List Chunk}(hm:je S κ (c::H) w)(h1:c1.φ S w)(h2:c2.φ S w)(f1:∀k,c1.fp k→c.fp k)(f2:∀k,c2.fp k→c.fp k)(hd:BI c1 c2):
  je S κ (c1::c2::H) w:=by
 have h0:=hm.all _ List.mem_cons_self
 have hp:=List.pairwise_cons.1 hm.sN
 refine⟨hm.frame,hm.sub,hm.sup,hm.lt,fun d hd'=>?_,?_⟩
 ·rcases List.mem_cons.1 hd' with rfl|hd'
  ·exact⟨h1,fun k hk=>h0.2 k (f1 k hk)⟩
  ·rcases List.mem_cons.1 hd' with rfl|hd'
   ·exact⟨h2,fun k hk=>h0.2 k (f2 k hk)⟩
   ·exact hm.all d (List.mem_cons_of_mem _ hd')
 ·rw[List.pairwise_cons,List.pairwise_cons]
  refine⟨fun d hd' k hk hk'=>?_,fun d hd' k hk hk'=>hp.1 d hd' k (f2 k hk) hk',hp.2⟩
  rcases List.mem_cons.1 hd' with rfl|hd'
  ·exact hd k hk hk'
  ·exact hp.1 d hd' k (f1 k hk) hk'
/-! ### Reading -/
/-! ### Append -/
structure Raw(α:Type)[ak α] where
 l:List Value
 hl:l.length=ak.n α
 h1:∀v∈l,v.oneCell'=true
instance:ak (Raw α) where
 R:=Unit
 n:=ak.n α
 bytes:=ak.bytes α
 enc:=fun _ x=>x.l
 ok:=fun _ _ _ _=>True
 npos:=ak.npos
 bpos:=ak.bpos
 len:=fun _ x=>x.hl
 one:=fun _ x=>x.h1
 mono:=fun _ _ _ _ _ _ h=>h
 dep:=fun _ _ _ _ _ _ h=>h
end
end Go.Dc
namespace Go.Dc
open Go.RowKit ak
inductive Any where
 |s (x:Str)
 |i (x:Int)
 deriving DecidableEq,Inhabited
def Any.kF:Any→Bool
 | .s _=>true
 | .i _=>false
def Any.int:Any→Int
 | .s _=>0
 | .i x=>x
section
variable {P:Program}{n:Nat}{κ:Ctx}{ρ:Env}{H:List Chunk}{g:Bool}
/-! ### Regions of many orders, the last operation of which writes what the others read -/
variable {ops:Array Oper}{K:Act→World→Prop}{Hs:List Chunk}{z fuel:Nat}{listed:Array Bool}
end
end Go.Dc
namespace Go.Dc
open Go.RowKit ak
section
variable {P:Program}{n:Nat}{κ:Ctx}{ρ:Env}{H:List Chunk}{g:Bool}{C:Env→List Chunk→Prop}
theorem hA{H:List Chunk}{c:Chunk}(h:Has H c:=by repeat (first|exact Has.head|apply Has.tail)):Has H c:=h
theorem uA{H H':List Chunk}{c c':Chunk}(h:eG H c c' H':=by repeat (first|exact eG.head|apply eG.tail)):eG H c c' H':=h
theorem uR{α:Type}{H:List Chunk}{c:Chunk}{c':α→Chunk}{H':α→List Chunk}(h:∀r',eG H c (c' r') (H' r'):=by intro r';repeat (first|exact eG.head|apply eG.tail)):∀r',eG H c (c' r') (H' r'):=h
theorem sA{H H' cs:List Chunk}(h:jL H cs H':=by repeat (first|exact jL.nil|(apply jL.cons;· (repeat (first|exact lH.head|apply lH.tail))))):jL H cs H':=h
theorem s1{H H':List Chunk}{c:Chunk}(h:lH H c H':=by repeat (first|exact lH.head|apply lH.tail)):lH H c H':=h
theorem rI{H H':List Chunk}(h:∀w,Mem κ H w→Mem κ H' w:=by intro w hm;exact hm.jw):∀w,Mem κ H w→Mem κ H' w:=h
theorem kI{α:Type}[ak α]{S:bF}{w:World}{r:R α}{x:α}(hs:je S κ H w)(h:Has H (cO r x):=by repeat (first|exact Has.head|apply Has.tail)):ok S w r x:=h.φ hs
theorem kM{α:Type}[ak α]{S:bF}{w:World}{r:R α}{x:α}(hs:je S κ H w)(h:Has H (cO r x):=by repeat (first|exact Has.head|apply Has.tail)):ok (lend S H) w r x:=Kn.lend (Kn.cO h) hs
theorem kT{α:Type}[ak α]{e:TypeId}{S:bF}{w:World}{r:SR (R α)}{x:List α}(hs:je S κ H w)(h:Has H (ah e r x):=by repeat (first|exact Has.head|apply Has.tail)):ok (α:=List α) (lend S H) w r x:=Kn.lend (Kn.ah h) hs
theorem oF{α:Type}[ak α]{es:Nat→R α}{xs:List α}(h:∀S w r x,ok (α:=α) S w r x:=by exact fun _ _ _ _=>trivial):mD κ H es xs:=mD.flat h
theorem iS{α:Type}{xs:List α}{i:Int}{x:α}(h:idx xs i=some x){g:Bool}:g=true→0≤i∧i<xs.length:=fun _=>⟨(jG h).1,(jG h).2.1⟩
theorem iT{α:Type}{b:Bool}{x y r:α}(h:b=true)(hM:(if b then x else y)=r):x=r:=(ak5 h).symm.trans hM
theorem iF{α:Type}{b:Bool}{x y r:α}(h:b=false)(hM:(if b then x else y)=r):y=r:=(ak4 h).symm.trans hM
theorem fO{β:Type}{cs':β→List Chunk}(h:∀r c,c∈cs' r→NY c:=by (intro r c hc;simp only[List.mem_cons,List.not_mem_nil,or_false] at hc;repeat (first|(rcases hc with rfl|hc;(first|exact acZ|exact ac0 (fun _ _ _ _=>trivial)))|(subst hc;(first|exact acZ|exact ac0 (fun _ _ _ _=>trivial)))))):∀r c,c∈cs' r→NY c:=h
section
variable {Q:Exit→Act→World→Prop}{ops:Array Oper}{rest:List Oper}
theorem sr{id:Nat}{l:List Oper}{y:Code}(h:OW P n κ l.toArray (Exit.then (y.wp P Q) Q) l ρ H):CW P n κ (.seq (.region id l.toArray false) y) Q ρ H:=
 fun w a hm ho=>wp_seq (aT h w a hm ho)
theorem on{y:Code}(h:CW P n κ y Q ρ H):OW P n κ ops (Exit.then (y.wp P Q) Q) [] ρ H:=aU h
theorem oe{op:Op}{v:Value}{d:Nat}{ty:TypeId}{pos:String}{aR:Array Edge}
 (h:Ev P n κ H ρ true op v)(k:OW P n κ ops Q rest ((d,.v v)::ρ) H)(hd:Nat.blt d n=true:=by rfl):
 OW P n κ ops Q (⟨some d,op,ty,pos,aR,none⟩::rest) ρ H:=aZ h k hd
theorem om{x:Operand}{v:Value}{d:Nat}{ty:TypeId}{pos:String}{aR:Array Edge}(k:OW P n κ ops Q rest ((d,.v v)::ρ) H)
 (hx:Gets ρ true x v:=by exact gT)(hd:Nat.blt d n=true:=by rfl):OW P n κ ops Q (⟨some d,.move x,ty,pos,aR,none⟩::rest) ρ H:=aZ (aH hx) k hd
theorem oa{x:Operand}{v:Value}{d:Nat}{ty:TypeId}{pos:String}{aR:Array Edge}(k:OW P n κ ops Q rest ((d,.v v)::ρ) H)
 (hx:Gets ρ true x v:=by exact gT)(hd:Nat.blt d n=true:=by rfl):OW P n κ ops Q (⟨some d,.assign x,ty,pos,aR,none⟩::rest) ρ H:=aZ (dL hx) k hd
theorem cc{α:Type}{c:Operand}{x y:Code}{t:Bool}{X Y r:α}(hc:qy ρ c=some (.v (.bool t)))(hM:(if t then X else Y)=r)(ht:t=true→X=r→CW P n κ x Q ρ H)(hf:t=false→Y=r→CW P n κ y Q ρ H):
 CW P n κ (.cond c x y) Q ρ H:=vR hc (fun h=>ht h (iT h hM)) (fun h=>hf h (iF h hM))
theorem pI{T:TypeId}{b:Nat}{l:List Value}{ps:List (Nat×Value)}{H1 H2 Hs:List Chunk}(hu:eG H (own b T l) (Hy b ps) H1:=by repeat (first|exact eG.head|apply eG.tail))
  (hp:∀p∈ps,l[p.1]?=some p.2:=by intro p hp;simp only[List.mem_cons,List.not_mem_nil,or_false] at hp;repeat (first|(rcases hp with rfl|hp;rfl)|(rcases hp with rfl;rfl)))
  (hr:jL H1 (Hy b ps::Hs) H2:=by repeat (first|exact jL.nil|(apply jL.cons;· (repeat (first|exact lH.head|apply lH.tail))))):∀w,Mem κ H w→Mem κ (Hy b ps::Hs) w:=
 fun w hm=>(hm.Hy ps hu hp).jw hr
end
end
end Go.Dc
namespace Go.Dc
open Go.RowKit ak
abbrev sL{ρ α:Type}(r:SR ρ)(l:List α):Value:= .slice r.a l.length r.cap
abbrev vI(x:Int):Value:= .int .i64 x
abbrev z0:Value:= .slice none 0 0
abbrev vP(b:Nat):Value:= .pointer (some ⟨b,0,none⟩)
abbrev eP(b:Nat):EV:= .v (.pointer (some ⟨b,0,none⟩))
abbrev eI(x:Int):EV:= .v (.int .i64 x)
abbrev eS{ρ α:Type}(r:SR ρ)(l:List α):EV:= .v (.slice r.a l.length r.cap)
abbrev iL{α:Type}[ak α](x:List α)(r:ak.R (List α)):Chunk:=cO (α:=List α) r x
abbrev sB(S:bF)(w:World):Prop:=∀k,S k→k<w.heap.size
section
variable {P:Program}{n:Nat}{κ:Ctx}{ρ:Env}{H:List Chunk}{g:Bool}
theorem kG{α:Type}[ak α](x:List α)(r:ak.R (List α))(h:Has H (cO (α:=List α) r x):=by repeat (first|exact Has.head|apply Has.tail)):Kn κ H (α:=List α) r x:=Kn.cO h
end
end Go.Dc
namespace Go.Dc
open Go.RowKit ak
section
variable {P:Program}{n:Nat}{κ:Ctx}{ρ:Env}{H:List Chunk}{Q:Exit→Act→World→Prop}{ops:Array Oper}{rest:List Oper}
theorem sS{ρ' ρ:Env}(h:sM ρ' ρ:=by repeat (first|exact trivial|refine And.intro rfl ?_)):sM ρ' ρ:=h
theorem cA{α:Type}(a:α)(l r:List α):a::l++r=a::(l++r):=rfl
theorem nA{α:Type}(r:List α):[]++r=r:=rfl
theorem aL{y:Code}{x:Operand}{v:Value}{d:Nat}{ty:TypeId}{pos:String}{aR:Array Edge}(k:CW P n κ y Q ((d,.v v)::ρ) H)
 (hx:Gets ρ true x v:=by exact gT)(hd:Nat.blt d n=true:=by rfl):OW P n κ ops (Exit.then (y.wp P Q) Q) [⟨some d,.assign x,ty,pos,aR,none⟩] ρ H:=oa (on k) hx hd
theorem bg{id:Nat}{y:Code}{x:Operand}{v:Value}{d:Nat}{ty:TypeId}{pos:String}{aR:Array Edge}(k:CW P n κ y Q ((d,.v v)::ρ) H)
 (hx:Gets ρ true x v:=by exact gT)(hd:Nat.blt d n=true:=by rfl):CW P n κ (.seq (.region id [⟨some d,.assign x,ty,pos,aR,none⟩].toArray false) y) Q ρ H:=sr (aL k hx hd)
theorem aJ{id:Nat}{l:List Oper}{y:Code}{x:Operand}{v:Value}{d:Nat}{ty:TypeId}{pos:String}{aR:Array Edge}(k:OW P n κ (⟨some d,.move x,ty,pos,aR,none⟩::l).toArray (Exit.then (y.wp P Q) Q) l ((d,.v v)::ρ) H)
 (hx:Gets ρ true x v:=by exact gT)(hd:Nat.blt d n=true:=by rfl):CW P n κ (.seq (.region id (⟨some d,.move x,ty,pos,aR,none⟩::l).toArray false) y) Q ρ H:=sr (om k hx hd)
/-! ### Returns -/
theorem bD{α:Type}{S:bF}{w0:World}{fn:Func}{r:ResultVar}{x y:α}{V v:Value}(hM:some x=some y)(hr:fn.results= #[r]:=by rfl)
 (hv:qw P ρ H r v:=by first|exact .tmp rfl|exact .cell rfl (by repeat (first|exact Has.head|apply Has.tail)) rfl (by kernel_rfl))(he:y=x→v=V:=by intro h;subst h;rfl):
 KW n (sJ w0 S []) (fun a w=>bodyPost P fn (dw w0 V) .ret a w) ρ H:=tO (fun w hm=>qj hm (he (some_inj hM))) hr hv
theorem CF{α:Type}{S:bF}{w0:World}{fn:Func}{r1 r2:ResultVar}{x y:α}{V v1 v2:Value}(hM:some x=some y)(hr:fn.results= #[r1,r2]:=by rfl)
 (hv1:qw P ρ H r1 v1:=by first|exact .tmp rfl|exact .cell rfl (by repeat (first|exact Has.head|apply Has.tail)) rfl (by kernel_rfl))
 (hv2:qw P ρ H r2 v2:=by first|exact .tmp rfl|exact .cell rfl (by repeat (first|exact Has.head|apply Has.tail)) rfl (by kernel_rfl))(he:y=x→ .tuple #[v1,v2]=V:=by intro h;subst h;rfl):
 KW n (sJ w0 S []) (fun a w=>bodyPost P fn (dw w0 V) .ret a w) ρ H:=nu (fun w hm=>qj hm (he (some_inj hM))) hr hv1 hv2
/-! ### Calls, boxes, stores -/
section
variable {f d:Nat}{xs:List Operand}{vs:List Value}{v:Value}{ts:Array TypeId}{ty:TypeId}{pos:String}{aR:Array Edge}
theorem cv(hc:∀{S:bF}{w:World},je S κ H w→Calls P f vs.toArray w (dw w v))(k:OW P n κ ops Q rest ((d,.v v)::ρ) H)
  (ha:jk ρ true xs vs:=by repeat (first|exact jk.nil|(apply jk.cons;first|exact .plain rfl|exact .cond rfl id|exact .cond rfl gl)))
  (hd:Nat.blt d n=true:=by rfl)(hf:callable P f=true:=by kernel_rfl):OW P n κ ops Q (⟨some d,.call {callee:= .value (.func f),args:=xs.toArray,argTypes:=ts},ty,pos,aR,none⟩::rest) ρ H:=
 aY (nW (fun _ hm=>let ⟨_,hs⟩:=hm;hc hs) k ha hd hf)
theorem sV{gd:Option (Nat×Bool)}{C:Env→List Chunk→Prop}(hc:∀{S:bF}{w:World},je S κ H w→Calls P f vs.toArray w (dw w v))(k:C ((d,.v v)::ρ) H)
  (ha:jk ρ true xs vs:=by repeat (first|exact jk.nil|(apply jk.cons;first|exact .plain rfl|exact .cond rfl id|exact .cond rfl gl)))
  (hd:Nat.blt d n=true:=by rfl)(hf:callable P f=true:=by kernel_rfl):jF P n κ ⟨some d,.call {callee:= .value (.func f),args:=xs.toArray,argTypes:=ts},ty,pos,aR,gd⟩ ρ H C:=
 nW (fun _ hm=>let ⟨_,hs⟩:=hm;hc hs) k ha hd hf
theorem cg{j:Nat}{want g:Bool}(hg:rW ops ρ j want=some g)(hc:∀{S:bF}{w:World},g=true→je S κ H w→Calls P f vs.toArray w (dw w v))(k:OW P n κ ops Q rest ((d,.c g v)::ρ) H)
  (ha:jk ρ g xs vs:=by repeat (first|exact jk.nil|(apply jk.cons;first|exact .plain rfl|exact .cond rfl id|exact .cond rfl gl)))
  (hd:Nat.blt d n=true:=by rfl)(hf:callable P f=true:=by kernel_rfl):OW P n κ ops Q (⟨some d,.call {callee:= .value (.func f),args:=xs.toArray,argTypes:=ts},ty,pos,aR,some (j,want)⟩::rest) ρ H:=
 UU hg (fun h _ hm=>let ⟨_,hs⟩:=hm;hc h hs) k ha hd hf
end
section
variable {T d:Nat}{ty:TypeId}{pos:String}{aR:Array Edge}{l:List Value}
theorem oA(hz:Ei P T=some l)(k:∀b,OW P n κ ops Q rest ((d,.v (.pointer (some ⟨b,0,none⟩)))::ρ) (own b T l::H))(hd:Nat.blt d n=true:=by rfl):OW P n κ ops Q (⟨some d,.alloc T,ty,pos,aR,none⟩::rest) ρ H:=aY (iP hz k hd)
theorem oB(l:List Value){x:Operand}(k:∀b,OW P n κ ops Q rest ((d,.v (.pointer (some ⟨b,0,none⟩)))::ρ) (own b T l::H))
 (hx:Gets ρ true x (.agg l.toArray):=by exact gT)(hd:Nat.blt d n=true:=by rfl):OW P n κ ops Q (⟨some d,.box T x,ty,pos,aR,none⟩::rest) ρ H:=aY (zi hx k hd)
variable {K:Act→World→Prop}{Hs:List Chunk}{fuel:Nat}{listed:Array Bool}
theorem aA(i:Nat)(hi:ops[i]?=some ⟨some d,.alloc T,ty,pos,aR,none⟩)(hz:Ei P T=some l)(k:∀b,AW P n κ ops K Hs fuel (listed.setIfInBounds i true) ((d,.v (.pointer (some ⟨b,0,none⟩)))::ρ) (own b T l::H))
  (himp:∀b w,Mem κ (own b T l::H) w→Mem κ Hs w:=by intro b w hm;exact hm.jw)(hd:Nat.blt d n=true:=by rfl)(hr:Region.ready .any ops listed=[i]:=by kernel_rfl):AW P n κ ops K Hs (fuel+1) listed ρ H:=
 dX i hi (iP hz (fun b=>⟨himp b,k b⟩) hd) rfl hr
end
section
variable {x y:Operand}{t T m:Nat}{ty:TypeId}{pos:String}{aR:Array Edge}{l:List Value}{v:Value}{H':List Chunk}
theorem oS(b:Nat)(vs:List Value)(k:OW P n κ ops Q rest ρ H')(hx:Gets ρ true x (.pointer (some ⟨b,0,none⟩)):=by exact gT)(hy:Gets ρ true y v:=by exact gT)(hvs:v.cells=vs.toArray:=by rfl)
  (hlen:vs.length=m:=by rfl)(hu:eG H (own b T l) (own b T vs) H':=by repeat (first|exact eG.head|apply eG.tail))
  (hl:l.length=m:=by rfl)(h10:vs.all Value.oneCell'=true:=by rfl)
  (ht:P.cellsOf t=m:=by kernel_rfl)(hti:(P.info? t).isSome=true:=by kernel_rfl):OW P n κ ops Q (⟨none,.store t x y,ty,pos,aR,none⟩::rest) ρ H:=
 aY (zk (hx:=hx) (hy:=hy) (hvs:=hvs) (hlen:=hlen) (hu:=hu) (hl:=hl) (h10:=h10) (ht:=ht) (hti:=hti) (k:=k))
variable {K:Act→World→Prop}{Hs:List Chunk}{fuel:Nat}{listed:Array Bool}
theorem aS(i:Nat)(hi:ops[i]?=some ⟨none,.store t x y,ty,pos,aR,none⟩)(b:Nat)(vs:List Value)(k:AW P n κ ops K Hs fuel (listed.setIfInBounds i true) ρ H')
  (hx:Gets ρ true x (.pointer (some ⟨b,0,none⟩)):=by exact gT)(hy:Gets ρ true y v:=by exact gT)(hvs:v.cells=vs.toArray:=by rfl)
  (hlen:vs.length=m:=by rfl)(hu:eG H (own b T l) (own b T vs) H':=by repeat (first|exact eG.head|apply eG.tail))
  (hl:l.length=m:=by rfl)(h10:vs.all Value.oneCell'=true:=by rfl)
  (ht:P.cellsOf t=m:=by kernel_rfl)(hti:(P.info? t).isSome=true:=by kernel_rfl)
  (himp:∀w,Mem κ H' w→Mem κ Hs w:=by intro w hm;exact hm.jw)(hr:Region.ready .any ops listed=[i]:=by kernel_rfl):AW P n κ ops K Hs (fuel+1) listed ρ H:=
 dX i hi (zk (hx:=hx) (hy:=hy) (hvs:=hvs) (hlen:=hlen) (hu:=hu) (hl:=hl) (h10:=h10) (ht:=ht) (hti:=hti) (k:=⟨himp,k⟩)) rfl hr
end
/-! ### Arithmetic that the model has checked -/
section
variable {β:Type}{k0:Option β}{r:β}{x y:Operand}{t u:TypeId}{p q:Int}{d:Nat}{ty:TypeId}{pos:String}{aR:Array Edge}
theorem oP(hM:aX (bA (p+q)) k0=some r)(k:k0=some r→OW P n κ ops Q rest ((d,.v (.int .i64 (p+q)))::ρ) H)(hx:Gets ρ true x (.int .i64 p):=by exact gT)
  (hy:Gets ρ true y (.int .i64 q):=by exact gT)(hd:Nat.blt d n=true:=by rfl):OW P n κ ops Q (⟨some d,.binOp .add t x y u,ty,pos,aR,none⟩::rest) ρ H:=
 aZ (dh hx hy (fun _=>dI (bQ hM).1)) (k (bQ hM).2) hd
theorem oN(hM:aX (bA (p-q)) k0=some r)(k:k0=some r→OW P n κ ops Q rest ((d,.v (.int .i64 (p-q)))::ρ) H)(hx:Gets ρ true x (.int .i64 p):=by exact gT)
  (hy:Gets ρ true y (.int .i64 q):=by exact gT)(hd:Nat.blt d n=true:=by rfl):OW P n κ ops Q (⟨some d,.binOp .sub t x y u,ty,pos,aR,none⟩::rest) ρ H:=
 aZ (mQ hx hy (fun _=>dI (bQ hM).1)) (k (bQ hM).2) hd
end
/-! ### Loops and meetings -/
section
variable {σ θ β:Type}{y:β}
theorem lp{B:(σ→Option β)→σ→Option β}{body:Code}{s0:σ}(t0:θ)(hM:iter B FUEL s0=some y)(env:σ→θ→Env)(mem:σ→θ→List Chunk)(hs:sM (env s0 t0) ρ)(hH:∀w,Mem κ H w→Mem κ (mem s0 t0) w)
  (round:∀(c:σ→Option β) (s:σ) (t:θ),B c s=some y→∀K:Act→World→Prop,
   (∀(t':θ) {s':σ}{ρ':Env}{H':List Chunk},c s'=some y→sM (env s' t') ρ'→(∀w,Mem κ H' w→Mem κ (mem s' t') w)→KW n κ K ρ' H')→CW P n κ body (Exit.then K Q) (env s t) (mem s t)):CW P n κ (.loop body) Q ρ H:=
 GN (γ:=Nat×σ×θ) (fun g=>env g.2.1 g.2.2) (fun g=>mem g.2.1 g.2.2) (fun g=>iter B g.1 g.2.1=some y) (fun g=>g.1) (FUEL,s0,t0) hM hs hH fun g hg K hK=>by
  obtain⟨m,s,t⟩:=g
  obtain⟨m,c,rfl,rfl,h⟩:=alb hg
  exact round _ s t h K fun t' s' ρ' H' e h1 h2=>hK (m,s',t') ρ' H' e (Nat.lt_succ_self _) h1 h2
theorem lq{B:(σ→Option β)→σ→Option β}{body:Code}{s0:σ}(hM:iter B FUEL s0=some y)(env:σ→Env)(mem:σ→List Chunk)(hs:sM (env s0) ρ)(hH:∀w,Mem κ H w→Mem κ (mem s0) w)
  (round:∀(c:σ→Option β) (s:σ),B c s=some y→∀K:Act→World→Prop,
   (∀{s':σ}{ρ':Env}{H':List Chunk},c s'=some y→sM (env s') ρ'→(∀w,Mem κ H' w→Mem κ (mem s') w)→KW n κ K ρ' H')→CW P n κ body (Exit.then K Q) (env s) (mem s)):CW P n κ (.loop body) Q ρ H:=
 lp () hM (fun s _=>env s) (fun s _=>mem s) hs hH fun c s _ h K hK=>round c s h K fun e h1 h2=>hK () e h1 h2
theorem jn(θ:Type)(y:β){k:σ→Option β}{x z:Code}(env:σ→θ→Env)(mem:σ→θ→List Chunk)
  (hx:∀K:Act→World→Prop,(∀(t:θ) {s:σ}{ρ':Env}{H':List Chunk},k s=some y→sM (env s t) ρ'→(∀w,Mem κ H' w→Mem κ (mem s t) w)→KW n κ K ρ' H')→CW P n κ x (Exit.then K Q) ρ H)
  (hz:∀s t,k s=some y→CW P n κ z Q (env s t) (mem s t)):CW P n κ (.seq x z) Q ρ H:=
 OG (γ:=σ×θ) (fun g=>env g.1 g.2) (fun g=>mem g.1 g.2) (fun g=>k g.1=some y) (fun K hK=>hx K fun t s ρ' H' e h1 h2=>hK (s,t) ρ' H' e h1 h2) fun g hg=>hz g.1 g.2 hg
theorem jm(y:β){k:σ→Option β}{x z:Code}(env:σ→Env)(mem:σ→List Chunk)
  (hx:∀K:Act→World→Prop,(∀{s:σ}{ρ':Env}{H':List Chunk},k s=some y→sM (env s) ρ'→(∀w,Mem κ H' w→Mem κ (mem s) w)→KW n κ K ρ' H')→CW P n κ x (Exit.then K Q) ρ H)
  (hz:∀s,k s=some y→CW P n κ z Q (env s) (mem s)):CW P n κ (.seq x z) Q ρ H:=
 OG env mem (fun s=>k s=some y) (fun K hK=>hx K fun e h1 h2=>hK _ _ _ e h1 h2) hz
end
end
end Go.Dc
