/- Several parts of the engine, one behind the other. -/
import Derived.Test.YtcalibhfgdncaaaGreatDoorDm
import Derived.RangeFuncIn
import Derived.RangeFuncRecord
import Derived.RangeFuncLeaves
import Derived.TacticsIn
import Derived.OrdersIn
import Derived.Lib.AppendStr
import Derived.Lib.UnsafeStr
import Derived.Lib.Builder
import Derived.Lib.OthersKept
import Derived.Laws.IdiomStrings
import Derived.Lib.LaidTab
import Derived.LaidSub
set_option linter.all false
namespace Go.Dc
open Go.RowKit ah
structure Hdr where
 a:Option Addr
 len:Nat
 cap:Nat
instance:ah Hdr where
 R:=Unit
 n:=1
 bytes:=24
 enc:=fun _ x=>[.slice x.a x.len x.cap]
 ok:=fun _ _ _ _=>True
 npos:=by decide
 bpos:=by decide
 len:=fun _ _=>rfl
 one:=fun r x v hv=>by simp at hv;subst hv;rfl
 mono:=fun _ _ _ _ _ _ h=>h
 dep:=fun _ _ _ _ _ _ h=>h
section
variable {P:Program}{n:Nat}{κ:Ctx}{ρ:Env}{H:List Chunk}{g:Bool}{C:Env→List Chunk→Prop}{β:Type}[ah β]
theorem akX{α:Type}[ah α]{t d len:Nat}{parts:List (Nat×Operand)}{vs:List (Nat×Value)}{ty:TypeId}{pos:String}{aU:Array Edge}{gd:Option (Nat×Bool)}(e:Nat)(es:Nat→R α)(xs:List α)
  (hok:∀S w,dW S κ H w→∀i y,xs[i]?=some y→ok S w (es i) y)
  (k:∀r:SR (R α),(∀i,r.es i=es i)→C ((d,.v (.slice r.a xs.length r.cap))::ρ) (aj e r xs::H))
  (hv:uZ ρ true parts vs:=by repeat (first|exact uZ.nil|(apply uZ.cons;first|exact .plain rfl|exact .cond rfl id|exact .cond rfl gl)))
  (hb:∀w,(Instr.buildSlice t len vs.toArray).run P w= .ok (.slice (some ⟨w.heap.size,0,none⟩) len len) (w.alloc (.cells (gY es xs 0).toArray e)):=by intro w;kernel_rfl)
  (hlen:xs.length=len:=by rfl)(hbb:Nat.ble (xs.length*ah.bytes α) 140737488355328=true:=by rfl)
  (hd:Nat.blt d n=true:=by rfl):jE P n κ ⟨some d,.buildSlice t len parts.toArray,ty,pos,aU,gd⟩ ρ H C:=by
 intro K Q hs w a hm ho
 subst hlen
 have e':=hv.eval ho rfl
 have hr:(execOp a.eval ⟨some d,.buildSlice t xs.length parts.toArray,ty,pos,aU,gd⟩).run P w= .ok (.value (.slice (some ⟨w.heap.size,0,none⟩) xs.length xs.length)) (w.alloc (.cells (gY es xs 0).toArray e)):=by
  show (Instr.buildSlice t xs.length (parts.toArray.map fun (i,x)=>(i,a.eval x)) >>= fun v=>pure (Next.value v)).run P w=_
  refine kN ?_
  have:(parts.toArray.map fun (i,x)=>(i,a.eval x))=vs.toArray:=by rw[←e'];simp
  rw[this]
  exact hb w
 unfold Oper.wp
 rw[hr]
 obtain⟨S,hms⟩:=hm
 have hw':∀k,k<w.heap.size→(w.alloc (.cells (gY es xs 0).toArray e)).heap[k]?=w.heap[k]?:=fun k hk=>Below.heap_alloc w _ k hk
 refine hs _ _ (k ⟨some ⟨w.heap.size,0,none⟩,xs.length,es⟩ (fun _=>rfl)) _ _ ⟨S,hms.add (c:=aj e ⟨some ⟨w.heap.size,0,none⟩,xs.length,es⟩ xs) ⟨rfl,rfl,rfl,by simp,fun k hk _=>hw' k hk⟩ (fun _ h=>h) (fun _ h=> .inl h) (fun k hk=>?_) ⟨by simpa using hbb,.inr ⟨w.heap.size,0,(gY es xs 0).toArray,rfl,?_,Nat.le_refl _,?_,?_⟩⟩ ?_⟩ (ho.put (by simpa [Nat.blt_eq] using hd) rfl)
 ·have:=hms.lt k hk
  show k<(w.heap.push _).size
  simp;omega
 ·show (w.heap.push _)[w.heap.size]?=_
  simp
 ·simp[Aq]
 ·intro i x hx
  refine⟨fun j v hv=>?_,ah.dep S w _ _ _ (fun k hk=>hw' k (hms.lt k hk)) (hok S w hms i x hx)⟩
  have hj:j<ah.n α:=by have:=(List.getElem?_eq_some_iff.1 hv).1;rwa [ah.len] at this
  simp only[List.getElem?_toArray,Nat.zero_add]
  rw[Gd es xs 0 i j x hx hj,Nat.zero_add]
  exact hv
 ·rintro kk ⟨p,hp,rfl⟩
  cases hp
  exact⟨Nat.le_refl _,by show w.heap.size<(w.heap.push _).size;simp,fun h=>by have:=hms.lt w.heap.size h;omega⟩
end
section
variable {P:Program}{n:Nat}{κ:Ctx}{ρ:Env}{H:List Chunk}{g:Bool}
theorem Kn.awQ{α:Type}[ah α]{r:SR (R α)}{xs ys:List α}{lo hi:Int}(h:Kn κ H (α:=List α) r xs)(hq:sub xs lo hi=some ys):Kn κ H (α:=List α) (r.sub lo.toNat (ah.n α)) ys:=
 h.map fun _ _ hs=>qU.sub hs hq
theorem Ok.same{v v':Value}{a:Act}{t:Nat}(h:Ok n ρ a)(hl:look ρ t=some (.v v))(he:v=v'):Ok n ((t,.v v')::ρ) a:=by
 subst he
 refine⟨h.size,h.yT,fun u e he=>?_⟩
 simp only[look] at he
 by_cases hb:t=u
 ·subst hb
  simp at he
  subst he
  exact h.get _ _ hl
 ·have hb':Nat.beq t u=false:=Rz hb
  rw[hb'] at he
  exact h.get u e he
theorem aes{ops:Array Oper}{Q:Exit→Act→World→Prop}{rest:List Oper}{v v':Value}(t:Nat)(hl:look ρ t=some (.v v))(he:v=v')(k:OW P n κ ops Q rest ((t,.v v')::ρ) H):OW P n κ ops Q rest ρ H:=
 fun w a hm ho=>k w a hm (ho.same hl he)
theorem XF{ops:Array Oper}{K:Act→World→Prop}{Hs:List Chunk}{fuel:Nat}{listed:Array Bool}{v v':Value}(t:Nat)(hl:look ρ t=some (.v v))(he:v=v')(k:AW P n κ ops K Hs fuel listed ((t,.v v')::ρ) H):AW P n κ ops K Hs fuel listed ρ H:=
 fun w a hm hs ho=>k w a hm hs (ho.same hl he)
end
theorem Str.F4{s t:Str}:s.ba=t.ba↔s=t:=⟨Str.abO,fun h=>by rw[h]⟩
def EG{α:Type}(xs:List α)(lo:Nat)(ys:List α):List α:=xs.take lo++ys++xs.drop (lo+ys.length)
def EH{α:Type}(xs:List α)(lo dl:Nat)(ys:List α):Option (List α):=if lo+dl≤xs.length then some (EG xs lo (ys.take dl)) else none
theorem am1{α:Type}(xs:List α)(lo:Nat):EG xs lo []=xs:=by simp[EG]
theorem agS{α:Type}{xs ys:List α}{lo:Nat}(h:lo+ys.length≤xs.length):(EG xs lo ys).length=xs.length:=by
 simp only[EG,List.length_append,List.length_take,List.length_drop];omega
theorem KN{α:Type}{xs ys zs:List α}{lo dl:Nat}(h:EH xs lo dl ys=some zs):zs.length=xs.length:=by
 unfold EH at h
 split at h
 ·cases h;exact agS (by simp only[List.length_take];omega)
 ·cases h
theorem am0{α:Type}{xs ys:List α}{lo:Nat}(h:lo+ys.length≤xs.length)(q:Nat):(EG xs lo ys)[q]?=if q<lo then xs[q]? else if q<lo+ys.length then ys[q-lo]? else xs[q]?:=by
 have h1:(xs.take lo).length=lo:=by rw[List.length_take];omega
 unfold EG
 rw[List.append_assoc]
 by_cases a:q<lo
 ·rw[if_pos a,List.getElem?_append_left (by omega),List.getElem?_take,if_pos a]
 ·rw[if_neg a,List.getElem?_append_right (by omega),h1]
  by_cases b:q<lo+ys.length
  ·rw[if_pos b,List.getElem?_append_left (by omega)]
  ·rw[if_neg b,List.getElem?_append_right (by omega),List.getElem?_drop,show lo+ys.length+(q-lo-ys.length)=q by omega]
section
variable {P:Program}
theorem avL{w:World}(t ty e:TypeId)(i:TypeInfo)(ht:P.underlying t=some (.slice e))(hi:P.info? e=some i)
  (gb o dl cd:Nat)(cur:Array Value)(hg:w.heap[gb]?=some (.cells cur e (0,0)))(src:Option Addr)(mm c:Nat)(news:List Value)(hl:news.length=Nat.min mm dl*i.size)
  (hnews:∀j v,news[j]?=some v→src=some ⟨sb src,so src,none⟩∧w.cell? ⟨sb src,so src+j,none⟩=some v)(h1:∀u∈news,u.oneCell'=true)(hfit:o+news.length≤cur.size):
  (Builtin.copy_ #[t,t] ty #[.slice (some ⟨gb,o,none⟩) dl cd,.slice src mm c]).run P w=
   .ok (.int .i64 (Nat.min mm dl:Nat)) (w.setRow gb (cur.toList.take o++news++cur.toList.drop (o+news.length)).toArray):=by
 have hf:=QH (P:=P) (w:=w) (size:=i.size) (m:=Nat.min mm dl) (src:=src) (len:=mm) (cap:=c) hl hnews
 have hst:=run_storeCells_at P gb o e news 0 cur w hg (by simpa using hfit) h1
 simp only[Nat.add_zero] at hst
 simp[Builtin.copy_,run_underlying ht,sizeOf,typeInfo,hi,Builtin.lenOf,hf,hst,goInt]
theorem avM{w:World}(t ty e:TypeId)(i:TypeInfo)(ht:P.underlying t=some (.slice e))(hi:P.info? e=some i)(ba:Option Addr)(dl cd:Nat)(src:Option Addr)(mm c:Nat)(h0:Nat.min mm dl=0):
  (Builtin.copy_ #[t,t] ty #[.slice ba dl cd,.slice src mm c]).run P w= .ok (.int .i64 (0:Nat)) w:=by
 have hf:=QH (P:=P) (w:=w) (size:=i.size) (m:=0) (src:=src) (len:=mm) (cap:=c) (cs:=[]) (by simp) (fun j v hv=>by simp at hv)
 cases ba with
 |none=>simp[Builtin.copy_,run_underlying ht,sizeOf,typeInfo,hi,Builtin.lenOf,h0,hf,goInt]
 |some a=>simp[Builtin.copy_,run_underlying ht,sizeOf,typeInfo,hi,Builtin.lenOf,h0,hf,goInt,storeCells]
end
section
variable {P:Program}{n:Nat}{κ:Ctx}{ρ:Env}{H:List Chunk}{g:Bool}{C:Env→List Chunk→Prop}
theorem Kn.agJ{α:Type}[ah α]{r:SR (R α)}{xs:List α}{w:World}(hk:Kn κ H (α:=List α) r xs)(hm:Mem κ H w):xs.length≤r.cap:=by
 obtain⟨S,hs⟩:=hm
 obtain⟨L,_,h2⟩:=hk S w hs
 exact h2.1
theorem ag9{α:Type}[ah α]{x:Operand}{lo hi:Option Operand}{t m:Nat}{r:SR (R α)}{xs ys:List α}{ol oh:Option (IntKind×Int)}
  (hcap:xs.length≤r.cap)(hq:g=true→sub xs (oval ol 0) (oval oh xs.length)=some ys)
  (hx:Gets ρ g x (.slice r.a m r.cap):=by exact gT)
  (hm1:m=xs.length:=by first|rfl|simp only[List.length_set,List.length_append,List.length_replicate])
  (hlo:EA ρ g lo ol:=by first|exact .none|exact .some (.plain rfl)|exact .some (.cond rfl id)|exact .some (.cond rfl gl))
  (hhi:EA ρ g hi oh:=by first|exact .none|exact .some (.plain rfl)|exact .some (.cond rfl id)|exact .some (.cond rfl gl))
  (hsz:elemSize P t=some (ah.n α):=by kernel_rfl):
  Ev P n κ H ρ g (.slice t x lo hi none) (.slice (r.sub (oval ol 0).toNat (ah.n α)).a ys.length (r.sub (oval ol 0).toNat (ah.n α)).cap):=by
 subst hm1
 intro w a dst ty pos aU gd hm ho hg
 show (Instr.sliceAt t (a.eval x) (lo.map a.eval) (hi.map a.eval) none >>= fun v=>pure (Next.value v)).run P w=_
 rw[hx.eval ho hg,hlo.eval ho hg,hhi.eval ho hg]
 exact kN (akw (hq hg) hcap hsz)
def From{ρ:Type}(r:SR ρ)(lo sz:Nat)(ba:Option Addr):Prop:=∀gb o,r.a=some ⟨gb,o,none⟩→r.cap≠lo→ba=some ⟨gb,o+lo*sz,none⟩
theorem From.all{ρ:Type}{r:SR ρ}{sz:Nat}:From r 0 sz r.a:=fun gb o h _=>by rw[h];simp
theorem From.sub{ρ:Type}{r:SR ρ}{lo sz:Nat}:From r lo sz (r.sub lo sz).a:=fun gb o h hne=>by
 show (if r.cap=lo then r.a else r.a.map (·.add (lo*sz)))=_
 rw[if_neg hne,h]
 simp[Addr.add_lit]
theorem ang{α:Type}[ah α]{es:Nat→R α}{ys:List α}{k j:Nat}{v:Value}(h:(gY es (ys.take k) 0)[j]?=some v):(gY es ys 0)[j]?=some v:=by
 obtain⟨i,j',x,rfl,hj,hx,hv⟩:=Ye es h
 have hx':ys[i]?=some x:=by
  rw[List.getElem?_take] at hx
  split at hx
  ·exact hx
  ·cases hx
 rw[Gd es ys 0 i j' x hx' hj,Nat.zero_add]
 exact hv
theorem ak0{α:Type}[ah α]{x y:Operand}{t e sz kC d:Nat}{ty:TypeId}{pos:String}{aU:Array Edge}{gd:Option (Nat×Bool)}{r r2:SR (R α)}{xs ys zs:List α}{lo dl cd m2:Nat}{ba:Option Addr}{H':List Chunk}
  (hu:fq H (aj e r xs) (aj e r zs) H')(hk:Kn κ H (α:=List α) r2 ys)(hq:EH xs lo dl ys=some zs)(hba:From r lo sz ba)
  (hfl:∀(S:aW) (w:World) (q:R α) (u:α),ok S w q u)(hen:∀(p q:R α) (u:α),enc p u=enc q u)
  (k:C ((d,.v (.int .i64 (Nat.min ys.length dl:Nat)))::ρ) H')
  (hx:Gets ρ true x (.slice ba dl cd):=by exact gT)(hy:Gets ρ true y (.slice r2.a m2 r2.cap):=by exact gT)
  (hm2:m2=ys.length:=by first|rfl|simp only[List.length_set,List.length_append,List.length_replicate])
  (hd:Nat.blt d n=true:=by rfl)(hsz:ah.n α=sz:=by rfl)(hby:ah.bytes α=kC:=by rfl)(hi:Fu P t e sz kC=true:=by kernel_rfl):
  jE P n κ ⟨some d,.call {callee:= .builtin .copy,args:= #[x,y],argTypes:= #[t,t]},ty,pos,aU,gd⟩ ρ H C:=by
 subst hm2
 intro K Q hs w act hm ho
 obtain⟨hut,i,z,hi',hisz,YF,hz,hzs,hpos⟩:=Wz hi
 obtain⟨cs,hcs⟩:=Yk act.eval .copy x y #[t,t] (some d) ty pos aU gd
 have hnews:=agL hk hm
 obtain⟨S,hms⟩:=hm
 have hφ:=hu.has.φ hms
 have hin:=(hms.all _ hu.has.mem).2
 unfold EH at hq
 split at hq
 case isFalse=>cases hq
 rename_i hld
 have hzq:zs=EG xs lo (ys.take dl):=by cases hq;rfl
 have hzl:zs.length=xs.length:=by rw[hzq];exact agS (by simp only[List.length_take];omega)
 by_cases h0:Nat.min ys.length dl=0
 ·have hnil:ys.take dl=[]:=List.length_eq_zero_iff.1 (by rw[List.length_take];exact (Nat.min_comm _ _).trans h0)
  have hzx:zs=xs:=by rw[hzq,hnil,am1]
  subst hzx
  unfold Oper.wp
  rw[hcs,hx.eval ho rfl,hy.eval ho rfl]
  have hr:=kN (P:=P) (avM (P:=P) (w:=w) t ty e i hut hi' ba dl cd r2.a ys.length r2.cap h0)
  rw[show (0:Nat)=Nat.min ys.length dl from h0.symm] at hr
  rw[show builtin .copy #[t,t] ty cs #[.slice ba dl cd,.slice r2.a ys.length r2.cap]=(Builtin.copy_ #[t,t] ty #[.slice ba dl cd,.slice r2.a ys.length r2.cap] >>= fun v=>pure (Next.value v)) from rfl,hr]
  exact hs _ _ k w _ ⟨S,hms.upd hu (Frame.refl _ w) (fun _ h=>h) (fun _ h=> .inl h) hms.lt hφ (fun kk hk=>⟨.inl hk,(hin kk hk).1,(hin kk hk).2.1⟩)⟩ (ho.put (by simpa [Nat.blt_eq] using hd) rfl)
 ·rcases hφ.2 with ⟨ha,adl,hc0⟩|⟨gb,o,cur,ha,hgb,h3,h4,h5⟩
  ·subst adl
   have:dl=0:=by simp at hld;omega
   subst this
   exact absurd (Nat.min_zero _) h0
  ·have hne:r.cap≠lo:=by
    have:0<dl:=by
     have:=Nat.min_le_right ys.length dl
     have h1:Nat.min ys.length dl≤dl:=this
     omega
    omega
   have hb:=hba gb o ha hne
   subst hb
   have hyl:(ys.take dl).length=Nat.min ys.length dl:=by rw[List.length_take];exact Nat.min_comm _ _
   have hnl:(gY r2.es (ys.take dl) 0).length=Nat.min ys.length dl*i.size:=by rw[Aq,hisz,hsz,hyl]
   have apI:lo+(ys.take dl).length≤xs.length:=by simp only[List.length_take];omega
   have hfit:o+lo*sz+(gY r2.es (ys.take dl) 0).length≤cur.size:=by
    rw[Aq,hsz,Nat.add_assoc,←Nat.add_mul]
    rw[hsz] at h4
    exact Nat.le_trans (Nat.add_le_add_left (Nat.mul_le_mul_right _ (by omega)) _) h4
   have hrun:=kN (P:=P) (avL (P:=P) (w:=w) t ty e i hut hi' gb (o+lo*sz) dl cd cur hgb r2.a ys.length r2.cap (gY r2.es (ys.take dl) 0) hnl (fun j v hv=>hnews j v (ang hv)) (ab4 _ _ _) hfit)
   unfold Oper.wp
   rw[hcs,hx.eval ho rfl,hy.eval ho rfl]
   rw[show builtin .copy #[t,t] ty cs #[.slice (some ⟨gb,o+lo*sz,none⟩) dl cd,.slice r2.a ys.length r2.cap]=(Builtin.copy_ #[t,t] ty #[.slice (some ⟨gb,o+lo*sz,none⟩) dl cd,.slice r2.a ys.length r2.cap] >>= fun v=>pure (Next.value v)) from rfl,hrun]
   generalize hN:gY r2.es (ys.take dl) 0=N at*
   have hfr:Frame (aj e r xs).fp w (w.setRow gb (cur.toList.take (o+lo*sz)++N++cur.toList.drop (o+lo*sz+N.length)).toArray):=by
    refine⟨rfl,rfl,rfl,by simp[World.setRow],fun k _ hn=>?_⟩
    have hne:gb≠k:=fun h=>hn ⟨_,ha,h.symm⟩
    simp[World.setRow,Array.getElem?_modify,hne]
   refine hs _ _ k _ _ ⟨S,hms.upd hu hfr (fun _ h=>h) (fun _ h=> .inl h) (fun k hk=>Nat.lt_of_lt_of_le (hms.lt k hk) hfr.size) ⟨by rw[hzl];exact hφ.1,.inr ⟨gb,o,_,ha,setRow_heap w gb cur _ e (0,0) hgb,by rw[hzl];exact h3,?_,?_⟩⟩ ?_⟩ (ho.put (by simpa [Nat.blt_eq] using hd) rfl)
   ·have hc:(cur.toList.take (o+lo*sz)++N++cur.toList.drop (o+lo*sz+N.length)).toArray.size=cur.size:=by
     simp only[List.size_toArray,List.length_append,List.length_take,List.length_drop,Array.length_toList]
     omega
    rw[hc];exact h4
   ·intro q u IW
    refine⟨fun j v hv=>?_,hfl _ _ _ _⟩
    have hj:j<ah.n α:=by have:=(List.getElem?_eq_some_iff.1 hv).1;rwa [ah.len] at this
    simp only[List.getElem?_toArray]
    have hpre:(cur.toList.take (o+lo*sz)).length=o+lo*sz:=by
     have hcl:cur.toList.length=cur.size:=Array.length_toList
     rw[List.length_take,hcl];omega
    have hNl:N.length=(ys.take dl).length*ah.n α:=by rw[←hN,Aq]
    rw[hzq,am0 apI] at IW
    have mul_lt:∀a b:Nat,a<b→a*ah.n α+j<b*ah.n α:=fun a b hab=>by
     have:a*ah.n α+ah.n α≤b*ah.n α:=by rw[←Nat.succ_mul];exact Nat.mul_le_mul_right _ hab
     omega
    rw[←hsz] at hpre ⊢
    by_cases a1:q<lo
    ·rw[if_pos a1] at IW
     have:=mul_lt q lo a1
     rw[List.append_assoc,List.getElem?_append_left (by rw[hpre];omega),List.getElem?_take,if_pos (by omega)]
     have:=(h5 q u IW).1 j v hv
     simpa using this
    ·rw[if_neg a1] at IW
     have hle:lo*ah.n α≤q*ah.n α:=Nat.mul_le_mul_right _ (by omega)
     by_cases a2:q<lo+(ys.take dl).length
     ·rw[if_pos a2] at IW
      have e1:o+(q*ah.n α+j)=(o+lo*ah.n α)+((q-lo)*ah.n α+j):=by rw[Nat.sub_mul];omega
      have hlt2:(q-lo)*ah.n α+j<N.length:=by rw[hNl];exact mul_lt _ _ (by omega)
      rw[e1,List.append_assoc,List.getElem?_append_right (by rw[hpre];omega),hpre,Nat.add_sub_cancel_left,List.getElem?_append_left hlt2,←hN,Gd r2.es _ 0 _ j u IW hj,Nat.zero_add,hen _ (r.es q)]
      exact hv
     ·rw[if_neg a2] at IW
      have hle2:(lo+(ys.take dl).length)*ah.n α≤q*ah.n α:=Nat.mul_le_mul_right _ (by omega)
      rw[Nat.add_mul,←hNl] at hle2
      rw[List.append_assoc,List.getElem?_append_right (by rw[hpre];omega),hpre,List.getElem?_append_right (by omega),List.getElem?_drop]
      rw[show o+lo*ah.n α+N.length+(o+(q*ah.n α+j)-(o+lo*ah.n α)-N.length)=o+(q*ah.n α+j) by omega]
      have:=(h5 q u IW).1 j v hv
      simpa using this
   ·rintro kk ⟨p,hp,rfl⟩
    have h:=hin p.block ⟨p,hp,rfl⟩
    refine⟨.inl ⟨p,hp,rfl⟩,?_,h.2.1⟩
    have:=h.1
    simpa [World.setRow] using this
theorem Nc{f d:Nat}{x:Operand}{xs:List Operand}{vs cap:List Value}{v:Value}{ts:Array TypeId}{ty:TypeId}{pos:String}{aU:Array Edge}{gd:Option (Nat×Bool)}
  (hc:∀w,Mem κ H w→Calls P f (vs++cap).toArray w (bM w v))(k:C ((d,.v v)::ρ) H)
  (hx:Gets ρ true x (.func (.func f) #[] cap.toArray):=by exact gT)
  (ha:ku ρ true xs vs:=by repeat (first|exact ku.nil|(apply ku.cons;first|exact .plain rfl|exact .cond rfl id|exact .cond rfl gl)))
  (hd:Nat.blt d n=true:=by rfl)(hf:callable P f=true:=by kernel_rfl):
  jE P n κ ⟨some d,.call {callee:= .value x,args:=xs.toArray,argTypes:=ts},ty,pos,aU,gd⟩ ρ H C:=by
 intro K Q hs w a hm ho
 unfold Oper.wp
 rw[avN (hx.eval ho rfl) (ha.eval ho rfl) hf]
 refine (hc w hm).mono ?_
 rintro e w' ⟨rfl,hb⟩
 exact hs _ _ k w' _ (hm.Y2 hb) (ho.put (by simpa [Nat.blt_eq] using hd) rfl)
end
structure alQ(α:Type) where
 l:List α
 deriving DecidableEq,Inhabited
instance {α:Type}[ah α]:ah (alQ α) where
 R:=SR (R α)
 n:=1
 bytes:=8
 enc:=fun r _=>[.map (some (sb r.a))]
 ok:=fun _ _ _ _=>True
 npos:=Nat.one_pos
 bpos:=by omega
 len:=fun _ _=>rfl
 one:=fun _ _ v hv=>by simp at hv;subst hv;rfl
 mono:=fun _ _ _ _ _ _ h=>h
 dep:=fun _ _ _ _ _ _ h=>h
theorem anv{α:Type}{xs:List α}{p:α→Bool}:(xs.find? p=none∧xs.findIdx? p=none∧xs.any p=false∧∀x∈xs,p x=false)∨
  ∃i x,xs.find? p=some x∧xs.findIdx? p=some i∧xs[i]?=some x∧xs.any p=true∧p x=true∧∀j y,j<i→xs[j]?=some y→p y=false:=by
 induction xs with
 |nil=>exact .inl ⟨rfl,rfl,rfl,by simp⟩
 |cons a l ih=>
  cases ha:p a with
  |true=>exact .inr ⟨0,a,by simp[ha],by simp[List.findIdx?_cons,ha],rfl,by simp[ha],ha,fun j y hj=>by omega⟩
  |false=>
   rcases ih with ⟨h1,h2,h3,h4⟩|⟨i,x,h1,h2,h3,h4,h5,h6⟩
   ·refine .inl ⟨by simp[ha,h1],by simp[List.findIdx?_cons,ha,h2],by simp[ha,h3],fun x hx=>?_⟩
    rcases List.mem_cons.1 hx with rfl|hx
    ·exact ha
    ·exact h4 x hx
   ·refine .inr ⟨i+1,x,by simp[ha,h1],by simp[List.findIdx?_cons,ha,h2],by simpa using h3,by simp[ha,h4],h5,fun j y hj hy=>?_⟩
    cases j with
    |zero=>simp at hy;subst hy;exact ha
    |succ j=>exact h6 j y (by omega) (by simpa using hy)
class Ia (α:Type) (β:outParam Type) [ah α] [ah β] where
 ks:List PK
 ah4:α→List Value
 val:α→List β
 rep:R α→SR (R β)
 fits:∀x,fit ks (ah4 x)=true
 okv:∀S w r x,ok S w r x→qU S w (rep r) (val x)
section
variable {α β:Type}[ah α][ah β][Ia α β]
def asY(r:SR (R α))(xs:List α):Chunk where
 fp:=fun k=>k=sb r.a
 φ:=fun S w=>∃es clock,w.heap[sb r.a]?=some (.map es clock)∧es.toList.length=xs.length∧
  ∀i x,xs[i]?=some x→(∃e,es.toList[i]?=some e∧e.key= .agg (Ia.ah4 x).toArray∧e.val= .slice (Ia.rep (r.es i)).a (Ia.val x).length (Ia.rep (r.es i)).cap)∧ok S w (r.es i) x
 dep:=fun S w w' h hw=>by
  obtain⟨es,clock,h1,h2,h3⟩:=hw
  exact⟨es,clock,by rw[h _ (.inl rfl)];exact h1,h2,fun i x hx=>⟨(h3 i x hx).1,ah.dep S w w' _ _ (fun k hk=>h k (.inr hk)) (h3 i x hx).2⟩⟩
 mono:=fun S S' w h hw=>by
  obtain⟨es,clock,h1,h2,h3⟩:=hw
  exact⟨es,clock,h1,h2,fun i x hx=>⟨(h3 i x hx).1,ah.mono S S' w _ _ h (h3 i x hx).2⟩⟩
def aef(xs:List α)(p:α→Bool):List β:=match xs.find? p with|some x=>Ia.val x|none=>[]
def aee(z:Nat→R β)(r:SR (R α))(xs:List α)(p:α→Bool):SR (R β):=match xs.findIdx? p with|some i=>Ia.rep (r.es i)|none=>⟨none,0,z⟩
def MR.add(r:SR (R α))(i:Nat)(q:R α):SR (R α):=⟨r.a,r.cap,fun j=>if j=i then q else r.es j⟩
theorem att{S:aW}{w:World}{z:Nat→R β}:qU S w (⟨none,0,z⟩:SR (R β)) []:=⟨Nat.le_refl _,by simp,fun i x hx=>by simp at hx⟩
variable {P:Program}{n:Nat}{κ:Ctx}{ρ:Env}{H:List Chunk}{g:Bool}{C:Env→List Chunk→Prop}
theorem Sk.found{r:SR (R α)}{xs:List α}(h:Has H (asY r xs))(z:Nat→R β)(p:α→Bool):Sk κ H (α:=List β) (aee z r xs p) (aef xs p):=by
 intro S w hs
 obtain⟨es,clock,_,_,h3⟩:=h.φ hs
 show qU S w _ _
 rcases anv (xs:=xs) (p:=p) with ⟨h1,h2,_⟩|⟨i,x,h1,h2,hx,_⟩
 ·simp only[aef,aee,h1,h2];exact att
 ·simp only[aef,aee,h1,h2]
  exact Ia.okv S w _ _ (h3 i x hx).2
end
/-! ### Some cells of a block that is written meanwhile -/
def vJ(b:Nat)(ps:List (Nat×Value)):Chunk where
 fp:=fun k=>k=b
 φ:=fun _ w=>∀p∈ps,w.cell? ⟨b,p.1,none⟩=some p.2
 dep:=fun S w w' h hw p hp=>by rw[World.cell?_of_block (w:=w) (h b (.inl rfl))];exact hw p hp
 mono:=fun _ _ _ _ h=>h
section
variable {P:Program}{n:Nat}{κ:Ctx}{ρ:Env}{H:List Chunk}{g:Bool}
theorem Mem.vJ{T:TypeId}{b:Nat}{l:List Value}{w:World}{H':List Chunk}(ps:List (Nat×Value))(hm:Mem κ H w)(hu:fq H (own b T l) (Dc.vJ b ps) H')
  (h:∀p∈ps,l[p.1]?=some p.2):Mem κ H' w:=by
 obtain⟨S,hs⟩:=hm
 refine⟨S,hs.upd (S':=S) hu (Frame.refl _ _) (fun _ h=>h) (fun _ h=> .inl h) hs.lt (fun p hp=>?_) (fun k hk=>?_)⟩
 ·have hb:w.heap[b]?=some (.cells l.toArray T (0,0)):=hu.has.φ hs
  simp[World.cell?,hb,h p hp]
 ·have hk:k=b:=hk
  subst hk
  exact⟨.inl rfl,((hs.all _ hu.has.mem).2 _ rfl).1,((hs.all _ hu.has.mem).2 _ rfl).2.1⟩
theorem Cg{x:Operand}{t b o:Nat}{v:Value}{ps:List (Nat×Value)}(hh:Has H (Dc.vJ b ps))(hv:(o,v)∈ps)
  (hx:Gets ρ g x (.pointer (some ⟨b,o,none⟩)):=by exact gT)(ht:mR P t=true:=by kernel_rfl):Ev P n κ H ρ g (.load t x) v:=
 II hx ht fun _ _ hm=>let ⟨_,hs⟩:=hm;hh.φ hs _ hv
theorem RS{Q:Exit→Act→World→Prop}{id:Nat}{ops:Array Oper}(Hs:List Chunk)(himp:∀w,Mem κ H w→Mem κ Hs w)
  (h:AW P n κ ops (fun a w=>Q .normal a w) Hs ops.size (Array.replicate ops.size false) ρ H)(hm:P.follows .mixedOrders=true:=by kernel_rfl):
  CW P n κ (.region id ops true) Q ρ H:=by
 intro w a hmm ho
 have hm':=hmm.drawn (w.drawn+1)
 have:=wp_region_held (id:=id) (P:=P) (Q:=fun e a w=>e= .normal∧Q .normal a w) (S:=fun w=>Mem κ Hs w) hm (h _ a hm' (himp _ hm') ho)
 exact wp_mono this (fun e a w hq=>by obtain⟨rfl,hk⟩:=hq;exact hk)
end
inductive Wd:Fence→Prop
 |plain:Wd Fence.wide
 |round (l:Nat):Wd (Fence.wide.inRound l)
theorem Wd.fn{F:Fence}(h:Wd F)(f:FuncId):F.fn f:=by cases h<;>trivial
theorem Wd.depth{F:Fence}(h:Wd F):F.depth.isSome=true→False:=by cases h<;>(intro h;cases h)
theorem Wd.calls{F:Fence}{n:Nat}{P:Program}{f:FuncId}{args:Array Value}{w:World}{R:Ending→World→Prop}(h:Wd F)(hc:Calls P f args w R):CallsIn F n P f args w R:=by
 cases h with
 |plain=>exact callsIn_wide.2 hc
 |round l=>
  have h1:CallsIn Fence.wide n P f args w R:=callsIn_wide.2 hc
  exact h1
theorem Wd.rows{F:Fence}{n:Nat}{P:Program}{row:String}{args:Array Value}{w:World}{R:Value→World→Prop}(h:Wd F)(hc:Rows P row args w R):RowsIn F n P row args w R:=by
 cases h with
 |plain=>exact fun c cs _=>let ⟨v,w',r,s⟩:=hc c cs;⟨v,w',r,stepsIn_wide.2 s⟩
 |round l=>exact fun c cs _=>let ⟨v,w',r,s⟩:=hc c cs;⟨v,w',r,stepsIn_wide.2 s⟩
def OV:Op→Bool
 | .defer _=>false
 |_=>true
theorem ato{o:Op}(h:OV o=true):∀c,o≠ .defer c:=fun c e=>by subst e;cases h
theorem alB{F:Fence}{N:Nat}{P:Program}{o:Oper}{a:Act}{w:World}{K:Act→World→Prop}{Q:Exit→Act→World→Prop}(hF:Wd F)(hnd:OV o.op=true)(h:o.wp P a w K Q):o.wpIn F N P a w K Q:=by
 refine⟨fun f _=>hF.fn f,?_⟩
 rw[Oper.semAt_eq _ _ _ (ato hnd)]
 unfold Oper.wp at h
 generalize (execOp a.eval o).run P w=r at h
 cases r with
 |ok x w'=>
  cases x with
  |value v=>exact h
  |skip=>exact h
  |defer d=>exact h
  |enter f args=>exact⟨fun hd=>(hF.depth hd).elim,hF.calls h⟩
  |row row args=>exact⟨fun hd=>(hF.depth hd).elim,hF.rows h⟩
  |round l f t a b=>exact h.elim
  |_=>exact h
 |halt x w'=>cases x<;>exact h
section
variable {F:Fence}{P:Program}{n:Nat}{κ:Ctx}{ops:Array Oper}{Q:Exit→Act→World→Prop}{rest:List Oper}{ρ:Env}{H:List Chunk}
def Dp(F:Fence)(P:Program)(n:Nat)(κ:Ctx)(ops:Array Oper)(Q:Exit→Act→World→Prop)(l:List Oper)(ρ:Env)(H:List Chunk):Prop:=
 ∀w a,Mem κ H w→Ok n ρ a→wpListIn F 0 P ops Q l a w
def vS(F:Fence)(P:Program)(n:Nat)(κ:Ctx)(c:Code)(Q:Exit→Act→World→Prop)(ρ:Env)(H:List Chunk):Prop:=
 ∀w a,Mem κ H w→Ok n ρ a→c.wpIn F 0 P Q a w
theorem Ed(h:KW n κ (fun a w=>Q .normal a w) ρ H):Dp F P n κ ops Q [] ρ H:=fun w a hm ho=>h w a hm ho
theorem OY{o:Oper}(hF:Wd F)(h:jE P n κ o ρ H (Dp F P n κ ops Q rest))(hg:o.guard=none:=by rfl)(hnd:OV o.op=true:=by rfl):Dp F P n κ ops Q (o::rest) ρ H:=
 fun w a hm ho=>wpListIn_plain hg fun K hK=>alB hF hnd (h K Q (fun _ _ hc w a m o=>hK _ _ (hc w a m o)) w a hm ho)
theorem nX{op:Op}{v:Value}{d:Nat}{ty:TypeId}{pos:String}{aU:Array Edge}(hF:Wd F)
 (h:Ev P n κ H ρ true op v)(k:Dp F P n κ ops Q rest ((d,.v v)::ρ) H)(hd:Nat.blt d n=true:=by rfl)(hnd:OV op=true:=by rfl):
 Dp F P n κ ops Q (⟨some d,op,ty,pos,aU,none⟩::rest) ρ H:=OY hF (rH h k hd) rfl hnd
theorem aty{l:List Oper}{H':List Chunk}(h:∀w,Mem κ H w→Mem κ H' w)(k:Dp F P n κ ops Q l ρ H'):Dp F P n κ ops Q l ρ H:=fun w a hm ho=>k w a (h w hm) ho
theorem agT{c:Code}(h:vS Fence.wide P n κ c Q ρ H):CW P n κ c Q ρ H:=fun w a hm ho=>wpIn_wide.1 (h w a hm ho)
theorem KO{x y:Code}(h:∀K:Act→World→Prop,(∀ρ H,vS F P n κ y Q ρ H→KW n κ K ρ H)→vS F P n κ x (Exit.then K Q) ρ H):vS F P n κ (.seq x y) Q ρ H:=
 fun w a hm ho=>wpIn_seq (h (y.wpIn F 0 P Q) (fun _ _ hk=>hk) w a hm ho)
theorem am9(h:KW n κ (fun a w=>Q .normal a w) ρ H):vS F P n κ .skip Q ρ H:=fun w a hm ho=>wpIn_skip (h w a hm ho)
theorem Ya(h:KW n κ (fun a w=>Q .ret a w) ρ H):vS F P n κ .ret Q ρ H:=fun w a hm ho=>wpIn_ret (h w a hm ho)
theorem agU{id:Nat}{c:Code}(h:vS F P n κ c (Exit.inBlock id Q) ρ H):vS F P n κ (.block id c) Q ρ H:=fun w a hm ho=>wpIn_block (h w a hm ho)
theorem F8{id:Nat}{l:List Oper}(h:Dp F P n κ l.toArray Q l ρ H):vS F P n κ (.region id l.toArray false) Q ρ H:=fun w a hm ho=>wpIn_region_lit (h w a hm ho)
theorem abX{c:Operand}{x y:Code}{t:Bool}(hc:wh ρ c=some (.v (.bool t)))(ht:t=true→vS F P n κ x Q ρ H)(hf:t=false→vS F P n κ y Q ρ H):
  vS F P n κ (.cond c x y) Q ρ H:=
 fun w a hm ho=>wpIn_cond_split (Gets.eval (.plain hc) ho rfl) (fun h=>ht h w a hm ho) (fun h=>hf h w a hm ho)
/-! In whatever order, under a fence: every order is walked. -/
def NG(F:Fence)(P:Program)(n:Nat)(κ:Ctx)(ops:Array Oper)(Q:Exit→Act→World→Prop)(fuel:Nat)(listed:Array Bool)(ρ:Env)(H:List Chunk):Prop:=
 ∀w a,Mem κ H w→Ok n ρ a→wpAnyIn F 0 P .any ops Q fuel listed a w
theorem XG{fuel:Nat}{listed:Array Bool}(k:KW n κ (fun a w=>Q .normal a w) ρ H)(hr:Region.ready .any ops listed=[]:=by kernel_rfl):NG F P n κ ops Q fuel listed ρ H:=
 fun w a hm ho=>wpAnyIn_done hr (k w a hm ho) fuel
def Ri(F:Fence)(P:Program)(n:Nat)(κ:Ctx)(ops:Array Oper)(Q:Exit→Act→World→Prop)(fuel:Nat)(listed:Array Bool)(ρ:Env)(H:List Chunk)(i:Nat):Prop:=
 ∃o,ops[i]?=some o∧o.guard=none∧OV o.op=true∧jE P n κ o ρ H (NG F P n κ ops Q fuel (listed.setIfInBounds i true))
theorem Ri.wpOp{fuel:Nat}{listed:Array Bool}{i:Nat}(hF:Wd F)(h:Ri F P n κ ops Q fuel listed ρ H i){w:World}{a:Act}(hm:Mem κ H w)(ho:Ok n ρ a):
  wpOpIn F 0 P ops Q i (wpAnyIn F 0 P .any ops Q fuel (listed.setIfInBounds i true)) a w:=by
 obtain⟨o,hi,hg,hnd,hs⟩:=h
 unfold wpOpIn
 simp only[hi,Region.wanted,hg,if_true]
 exact alB hF hnd (hs _ _ (fun _ _ hc w a m o=>hc w a m o) w a hm ho)
theorem Cb{fuel:Nat}{listed:Array Bool}(hF:Wd F)(i:Nat){o:Oper}(hi:ops[i]?=some o)(h:jE P n κ o ρ H (NG F P n κ ops Q fuel (listed.setIfInBounds i true)))
  (hg:o.guard=none:=by rfl)(hnd:OV o.op=true:=by rfl)(hr:Region.ready .any ops listed=[i]:=by kernel_rfl):NG F P n κ ops Q (fuel+1) listed ρ H:=by
 intro w a hm ho
 refine wpAnyIn_all hr (by simp) fun j hj=>?_
 simp at hj;subst hj
 exact Ri.wpOp hF ⟨o,hi,hg,hnd,h⟩ hm ho
theorem agG{fuel:Nat}{listed:Array Bool}(hF:Wd F)(i j:Nat)(h1:Ri F P n κ ops Q fuel listed ρ H i)(h2:Ri F P n κ ops Q fuel listed ρ H j)
  (hr:Region.ready .any ops listed=[i,j]:=by kernel_rfl):NG F P n κ ops Q (fuel+1) listed ρ H:=by
 intro w a hm ho
 refine wpAnyIn_all hr (by simp) fun k hk=>?_
 simp at hk
 rcases hk with rfl|rfl
 ·exact h1.wpOp hF hm ho
 ·exact h2.wpOp hF hm ho
theorem agV{id:Nat}(h:NG F P n κ ops Q ops.size (Array.replicate ops.size false) ρ H)(hm:P.follows .mixedOrders=true:=by kernel_rfl):vS F P n κ (.region id ops true) Q ρ H:=
 fun w a hmm ho=>wpIn_region_any hm (h _ a (hmm.drawn (w.drawn+1)) ho)
end
/-! ### The loop's record -/
def mZ(L D:Nat)(n:Nat)(ρ:Env)(ps:Array Tmp)(assign body:Code)(st:LoopState)(pend:Option Code):Chunk where
 fp:=fun k=>k=L∨k=D
 φ:=fun _ w=>L≠D∧(∃a fn,Ok n ρ a∧w.heap[L]?=some (.loop {state:=st,pending:=pend,fn:=fn,tmps:=a.tmps,params:=ps,assign:=assign,body:=body,defers:=D}))∧w.heap[D]?=some (.deferred (some []))
 dep:=fun S w w' h hw=>by
  obtain⟨h0,⟨a,fn,h1,h2⟩,h3⟩:=hw
  exact⟨h0,⟨a,fn,h1,by rw[h L (.inl (.inl rfl))];exact h2⟩,by rw[h D (.inl (.inr rfl))];exact h3⟩
 mono:=fun _ _ _ _ h=>h
def Gt(D:Nat):Chunk where
 fp:=fun k=>k=D
 φ:=fun _ w=>w.heap[D]?=some (.deferred (some []))
 dep:=fun S w w' h hw=>by rw[h D (.inl rfl)];exact hw
 mono:=fun _ _ _ _ h=>h
section
variable {P:Program}{n:Nat}{κ:Ctx}{ρ:Env}{H:List Chunk}{L D nL:Nat}{ρL:Env}{ps:Array Tmp}{assign body:Code}
theorem Mem.Ul{st st':LoopState}{pe Zj:Option Code}{w:World}{a:Act}{fn:FuncId}(hm:Mem κ (mZ L D nL ρL ps assign body st pe::H) w)(ha:Ok nL ρL a)
  (hw:w.heap[L]?=some (.loop {state:=st,pending:=pe,fn:=fn,tmps:=a.tmps,params:=ps,assign:=assign,body:=body,defers:=D})):
  Mem κ (mZ L D nL ρL ps assign body st' Zj::H) (w.putObj L (.loop {state:=st',pending:=Zj,fn:=fn,tmps:=a.tmps,params:=ps,assign:=assign,body:=body,defers:=D})):=by
 obtain⟨S,hs⟩:=hm
 have hφ:=(Has.head:Has (mZ L D nL ρL ps assign body st pe::H) _).φ hs
 have hlt:L<w.heap.size:=(Array.getElem?_eq_some_iff.1 hw).1
 have hall:=hs.all _ List.mem_cons_self
 refine⟨S,hs.upd (S':=S) .head ⟨rfl,rfl,rfl,by simp[World.putObj],fun k _ hne=>World.putObj_heap_other (fun e=>hne (.inl e))⟩ (fun _ h=>h) (fun _ h=> .inl h) (fun k hk=>by simpa [World.putObj] using hs.lt k hk) ?_ ?_⟩
 ·exact⟨hφ.1,⟨a,fn,ha,World.putObj_heap_same hlt⟩,(World.putObj_heap_other (fun e=>hφ.1 e.symm)).trans hφ.2.2⟩
 ·intro k hk
  refine⟨.inl hk,?_,(hall.2 k hk).2.1⟩
  have:=(hall.2 k hk).1
  simpa [World.putObj] using this
theorem OT{st:LoopState}{pe:Option Code}{w:World}(hm:Mem κ (mZ L D nL ρL ps assign body st pe::H) w):
  ∃a fn,Ok nL ρL a∧w.heap[L]?=some (.loop {state:=st,pending:=pe,fn:=fn,tmps:=a.tmps,params:=ps,assign:=assign,body:=body,defers:=D}):=by
 obtain⟨S,hs⟩:=hm
 exact ((Has.head:Has (mZ L D nL ρL ps assign body st pe::H) _).φ hs).2.1
theorem avO{x:Operand}{xs:List Operand}{vs:List Value}{ts:Array TypeId}{dst:Option Tmp}{ty:TypeId}{pos:String}{aU:Array Edge}{gd:Option (Nat×Bool)}{a:Act}{w:World}
  (hx:a.eval x= .func (.yield L) #[] #[])(e:xs.map a.eval=vs):
  (execOp a.eval ⟨dst,.call {callee:= .value x,args:=xs.toArray,argTypes:=ts},ty,pos,aU,gd⟩).run P w=(Instr.yield L vs.toArray).run P w:=by
 simp only[execOp,resolve,List.map_toArray,e,hx]
 show (Instr.yield L ((#[]++vs.toArray)++ #[])).run P w=_
 rw[Array.empty_append,Array.append_empty]
def RQ(κ:Ctx)(c:Chunk)(Tn Tr:List Chunk→Prop):Exit→Act→World→Prop
 | .normal,_,w=>∃H2,Tn H2∧Mem κ (c::H2) w
 | .ret,_,w=>∃H2,Tr H2∧Mem κ (c::H2) w
 |_,_,_=>False
theorem aiG{ops:Array Oper}{Q:Exit→Act→World→Prop}{rest:List Oper}{x y:Operand}{v:Value}{p d:Nat}{ts:Array TypeId}{ty:TypeId}{pos:String}{aU:Array Edge}(Tn Tr:List Chunk→Prop)
  (YJ:∀F,Wd F→∀(Ka:Act→World→Prop),
   (∀ρ2,vS F P nL κ body (RQ κ (mZ L D nL ρL #[p] assign body .busy none) Tn Tr) ρ2 (mZ L D nL ρL #[p] assign body .busy none::H)→KW nL κ Ka ρ2 (mZ L D nL ρL #[p] assign body .ready none::H))→
   vS F P nL κ assign (Exit.then Ka (fun _ _ _=>False)) ((p,.v v)::ρL) (mZ L D nL ρL #[p] assign body .ready none::H))
  (kt:∀H2,Tn H2→Dp Fence.wide P n κ ops Q rest ((d,.v (.bool true))::ρ) (mZ L D nL ρL #[p] assign body .ready none::H2))
  (kf:∀H2,Tr H2→Dp Fence.wide P n κ ops Q rest ((d,.v (.bool false))::ρ) (mZ L D nL ρL #[p] assign body .done (some .ret)::H2))
  (hx:Gets ρ true x (.func (.yield L) #[] #[]):=by exact gT)
  (hy:Gets ρ true y v:=by exact gT)(hd:Nat.blt d n=true:=by rfl)(hp:Nat.blt p nL=true:=by rfl):
  Dp Fence.wide P n κ ops Q (⟨some d,.call {callee:= .value x,args:= #[y],argTypes:=ts},ty,pos,aU,none⟩::rest) ρ (mZ L D nL ρL #[p] assign body .ready none::H):=by
 intro w a hm ho
 refine wpListIn_plain rfl fun K hK=>⟨fun f _=>trivial,?_⟩
 obtain⟨aL,fn,NY,hw⟩:=OT hm
 show Oper.uponIn _ _ _ _ _ _ _ ((execOp a.eval ⟨some d,.call {callee:= .value x,args:=[y].toArray,argTypes:=ts},ty,pos,aU,none⟩).run P w)
 rw[avO (hx.eval ho rfl) (vs:=[v]) (by simp[hy.eval ho rfl]),run_yield hw (by rfl)]
 refine⟨fun h=>(Wd.plain.depth h).elim,?_⟩
 have hd':d<n:=by simpa [Nat.blt_eq] using hd
 have hp':p<nL:=by simpa [Nat.blt_eq] using hp
 refine roundIn_of_wpIn trivial ?_
 have ok1:Ok nL ((p,.v v)::ρL) {tmps:=aL.tmps.setIfInBounds p v,defers:=[]}:=by
  have:=NY.put (d:=p) (e:= .v v) (u:=v) hp' rfl
  have e:aL.put (some p) v={tmps:=aL.tmps.setIfInBounds p v,defers:=[]}:=by
   simp[Act.put,NY.yT]
  rw[e] at this
  exact this
 have ef:(#[p].zip #[v]).foldl (fun (tmps:Array Value) (x:Tmp×Value)=>match x with|(t,a)=>tmps.setIfInBounds t a) aL.tmps=aL.tmps.setIfInBounds p v:=by simp
 rw[←ef] at ok1
 refine YJ _ (Wd.round L) _ ?_ w _ hm ok1
 intro ρ2 hb w1 a1 hm1 atr
 obtain⟨aL1,fn1,aos,hw1⟩:=OT hm1
 refine⟨_,run_beginRound hw1 rfl,?_⟩
 have hm2:Mem κ (mZ L D nL ρL #[p] assign body .busy none::H) (w1.putObj L (.loop {state:= .busy,pending:=none,fn:=fn1,tmps:=aL1.tmps,params:= #[p],assign:=assign,body:=body,defers:=D})):=hm1.Ul aos hw1
 refine wpIn_mono (hb _ a1 hm2 atr) ?_
 intro e a3 w3 hq
 cases e with
 |normal=>
  obtain⟨H2,hT,DI⟩:=hq
  obtain⟨aL3,fn3,acI,hw3⟩:=OT DI
  refine⟨_,_,run_endRound none hw3,?_⟩
  exact hK _ _ (kt H2 hT _ _ (DI.Ul acI hw3) (ho.put hd' rfl))
 |ret=>
  obtain⟨H2,hT,DI⟩:=hq
  obtain⟨aL3,fn3,acI,hw3⟩:=OT DI
  refine⟨_,_,run_endRound (some .ret) hw3,?_⟩
  exact hK _ _ (kf H2 hT _ _ (DI.Ul acI hw3) (ho.put hd' rfl))
 |exit id=>exact hq.elim
 |goto t=>exact hq.elim
 |panic c=>exact hq.elim
 |outgrown=>exact hq.elim
/-! ### The statement -/
theorem Mem.asS{w:World}{a:Act}(fn:FuncId)(hm:Mem κ H w)(ha:Ok n ρ a):
  Mem κ (mZ (w.heap.size+1) w.heap.size n ρ ps assign body .ready none::H)
   ((w.alloc (.deferred (some []))).alloc (.loop {state:= .ready,pending:=none,fn:=fn,tmps:=a.tmps,params:=ps,assign:=assign,body:=body,defers:=w.heap.size})):=by
 obtain⟨S,hs⟩:=hm
 have s1:(w.alloc (.deferred (some []))).heap.size=w.heap.size+1:=by simp
 have hL:((w.alloc (.deferred (some []))).alloc (.loop {state:= .ready,pending:=none,fn:=fn,tmps:=a.tmps,params:=ps,assign:=assign,body:=body,defers:=w.heap.size})).heap[w.heap.size+1]?=some (.loop {state:= .ready,pending:=none,fn:=fn,tmps:=a.tmps,params:=ps,assign:=assign,body:=body,defers:=w.heap.size}):=by
  have:=World.alloc_heap_new (w.alloc (.deferred (some []))) (.loop {state:= .ready,pending:=none,fn:=fn,tmps:=a.tmps,params:=ps,assign:=assign,body:=body,defers:=w.heap.size})
  rwa [World.size_alloc] at this
 have hD:((w.alloc (.deferred (some []))).alloc (.loop {state:= .ready,pending:=none,fn:=fn,tmps:=a.tmps,params:=ps,assign:=assign,body:=body,defers:=w.heap.size})).heap[w.heap.size]?=some (.deferred (some [])):=
  (Below.heap_alloc _ _ _ (by simp)).trans (World.alloc_heap_new w _)
 refine⟨S,hs.add ⟨rfl,rfl,rfl,by simp;omega,fun k hk _=>?_⟩ (fun _ h=>h) (fun _ h=> .inl h) (fun k hk=>?_) ⟨by omega,⟨a,fn,ha,hL⟩,hD⟩ ?_⟩
 ·exact (Below.heap_alloc _ _ _ (by simp;omega)).trans (Below.heap_alloc _ _ _ hk)
 ·have:=hs.lt k hk
  simp;omega
 ·intro k hk
  rcases hk with rfl|rfl
  ·exact⟨by omega,by simp,fun h=>by have:=hs.lt _ h;omega⟩
  ·exact⟨Nat.le_refl _,by simp;omega,fun h=>by have:=hs.lt _ h;omega⟩
theorem Mem.Gt{st:LoopState}{pe:Option Code}{w:World}(hm:Mem κ (mZ L D nL ρL ps assign body st pe::H) w):Mem κ (Dc.Gt D::H) w:=by
 obtain⟨S,hs⟩:=hm
 have hall:=hs.all _ List.mem_cons_self
 refine⟨S,hs.upd (S':=S) .head (Frame.refl _ _) (fun _ h=>h) (fun _ h=> .inl h) hs.lt hall.1.2.2 (fun k hk=>?_)⟩
 have hk:k=D:=hk
 subst hk
 exact⟨.inl (.inr rfl),(hall.2 _ (.inr rfl)).1,(hall.2 _ (.inr rfl)).2.1⟩
def mark(D:Nat):List Deferred:=[{target:= .collected D,args:= #[]}]
theorem am7{Q:Exit→Act→World→Prop}{g:Operand}{id gf:Nat}{cap:List Value}(Tn Tr:List Chunk→Prop)
  (hg:wh ρ g=some (.v (.func (.func gf) #[] cap.toArray)))(aps:callable P gf=true)
  (hit:∀L D w1,Mem κ (mZ L D n ρ ps assign body .ready none::H) w1→Calls P gf (.func (.yield L) #[] #[]::cap).toArray w1 (fun e w2=>(∃v,e= .returned v)∧
   ((∃H2,Tn H2∧Mem κ (mZ L D n ρ ps assign body .ready none::H2) w2)∨(∃H2,Tr H2∧Mem κ (mZ L D n ρ ps assign body .done (some .ret)::H2) w2))))
  (hn:∀D H2,Tn H2→∀w a,Mem κ (Dc.Gt D::H2) w→Ok n ρ a→Q .normal {a with defers:=mark D} w)
  (hr:∀D H2,Tr H2→∀w a,Mem κ (Dc.Gt D::H2) w→Ok n ρ a→Q .ret {a with defers:=mark D} w):
  CW P n κ (.block id (.rangeFunc g ps assign body)) Q ρ H:=by
 intro w a hm ho
 refine wp_block (wpIn_wide (n:=1).1 (wpIn_rangeFunc ?_))
 intro fn _
 have eg:a.eval g= .func (.func gf) #[] cap.toArray:=Gets.eval (.plain hg) ho rfl
 obtain⟨W1,hW1⟩:∃W1,(w.alloc (.deferred (some []))).alloc (.loop {state:= .ready,pending:=none,fn:=fn,tmps:=a.tmps,params:=ps,assign:=assign,body:=body,defers:=w.heap.size})=W1:=⟨_,rfl⟩
 have hm1:=hm.asS (ps:=ps) (assign:=assign) (body:=body) fn ho
 rw[hW1] at hm1
 refine⟨w.heap.size+1,mark w.heap.size,W1,{target:= .fn (.func gf) cap.toArray,args:= #[.func (.yield (w.heap.size+1)) #[] #[]]},W1,gf,
  #[.func (.yield (w.heap.size+1)) #[] #[]]++cap.toArray,W1,?_,?_,fun _ _=>trivial,?_,fun _=>Nat.le_refl _,?_⟩
 ·rw[←hW1];exact run_enterLoop_outer _ _ _ _ _
 ·simp only[resolve,eg]
  simp[go_sem]
 ·show (callFunc gf _).run P W1=_
  exact afs aps
 ·have ea: #[Value.func (.yield (w.heap.size+1)) #[] #[]]++cap.toArray=(Value.func (.yield (w.heap.size+1)) #[] #[]::cap).toArray:=by simp
  rw[ea]
  refine callsIn_wide.2 ((hit _ _ _ hm1).mono ?_)
  rintro e w3 ⟨⟨v,rfl⟩,⟨H2,hT,DI⟩|⟨H2,hT,DI⟩⟩
  ·obtain⟨aL,fL,NY,hw3⟩:=OT DI
   refine⟨none,_,run_endLoop hw3 (by simp),?_⟩
   have:=hn _ H2 hT _ a (DI.Ul (st':= .exhausted) (Zj:=none) NY hw3).Gt ho
   have ed:a.defers=[]:=ho.yT
   simp only[Exit.inBlock]
   rw[ed]
   exact this
  ·obtain⟨aL,fL,NY,hw3⟩:=OT DI
   refine⟨some .ret,_,run_endLoop hw3 (by simp),?_⟩
   have:=hr _ H2 hT _ a (DI.Ul (st':= .exhausted) (Zj:=some .ret) NY hw3).Gt ho
   have ed:a.defers=[]:=ho.yT
   refine wpIn_ret ?_
   simp only[Exit.inBlock]
   rw[ed]
   exact this
theorem am8{x y:Code}{Q:Exit→Act→World→Prop}(h:CW P n κ x (Exit.then (y.wp P Q) Q) ρ H):CW P n κ (.seq x y) Q ρ H:=fun w a hm ho=>wp_seq (h w a hm ho)
theorem ais{S:aW}{w w':World}{cs H':List Chunk}(hm:dW S κ cs w)(h:Mem (rJ w S cs) H' w'):Mem κ H' w':=by
 obtain⟨S',hs⟩:=h
 have hp:=(show dW S' (rJ w S cs) (H'++[]) w' by rw[List.append_nil];exact hs).fold
 have h1:=hp.all _ List.mem_cons_self
 have hf:dW S κ (many cs::[]) w:=(show dW S κ (cs++[]) w by rw[List.append_nil];exact hm).fold
 have:=(hf.upd (c':=many H') (S':=S') .head hs.frame hs.sub (fun k hk=>(hs.sup k hk)) hs.lt h1.1 (fun k hk=>⟨(h1.2 k hk).2.2,(h1.2 k hk).1,(h1.2 k hk).2.1⟩)).unfold
 rw[List.append_nil] at this
 exact⟨S',this⟩
/-! ### Behind the statement: the mark lies among the deferred calls -/
theorem Act.ZA(a:Act)(ds:List Deferred)(d:Option Tmp)(v:Value):({a with defers:=ds}:Act).put d v={(a.put d v) with defers:=ds}:=by cases d<;>rfl
theorem alC{o:Oper}{a:Act}{w:World}{K:Act→World→Prop}{Q:Exit→Act→World→Prop}(ds:List Deferred)(hnd:∀d w',(execOp a.eval o).run P w≠ .ok (.defer d) w')
  (h:o.wp P a w (fun a w=>K {a with defers:=ds} w) (fun e a w=>Q e {a with defers:=ds} w)):o.wp P {a with defers:=ds} w K Q:=by
 unfold Oper.wp at h ⊢
 have he:({a with defers:=ds}:Act).eval=a.eval:=by funext x;cases x<;>rfl
 rw[he]
 generalize (execOp a.eval o).run P w=r at h hnd
 cases r with
 |ok x w'=>
  cases x with
  |value v=>rw[Oper.upon_value] at h ⊢;rw[Act.ZA];exact h
  |skip=>rw[Oper.upon_skip] at h ⊢;rw[Act.ZA];exact h
  |defer d=>exact absurd rfl (hnd d w')
  |enter f args=>
   rw[Oper.upon_enter] at h ⊢
   refine h.mono ?_
   intro e w'' he
   cases e with
   |returned v=>dsimp only at he ⊢;rw[Act.ZA];exact he
   |panicked c=>exact he
   |outgrown=>obtain⟨a0,w0,hq⟩:=he;exact⟨_,w0,hq⟩
  |row row args=>
   rw[Oper.upon_row] at h ⊢
   exact h.mono fun v w'' he=>by rw[Act.ZA];exact he
  |round l f t a b=>exact h.elim
  |_=>exact h
 |halt x w'=>cases x<;>exact h
theorem atn{s:Sem Value}{w:World}:∀d w',(s >>= fun v=>(pure (Next.value v):Sem Next)).run P w≠ .ok (.defer d) w':=by
 intro d w' h
 rw[Sem.run_bind] at h
 cases hs:s.run P w with
 |ok v w1=>rw[hs] at h;cases h
 |halt x w1=>rw[hs] at h;cases h
theorem atm{s:Sem Unit}{w:World}:∀d w',(s >>= fun _=>(pure Next.skip:Sem Next)).run P w≠ .ok (.defer d) w':=by
 intro d w' h
 rw[Sem.run_bind] at h
 cases hs:s.run P w with
 |ok v w1=>rw[hs] at h;cases h
 |halt x w1=>rw[hs] at h;cases h
def KC(P:Program)(n:Nat)(κ:Ctx)(ops:Array Oper)(Q:Exit→Act→World→Prop)(ds:List Deferred)(l:List Oper)(ρ:Env)(H:List Chunk):Prop:=
 ∀w a,Mem κ H w→Ok n ρ a→wpList P ops Q l {a with defers:=ds} w
variable {ops:Array Oper}{Q:Exit→Act→World→Prop}{l:List Oper}{ds:List Deferred}
theorem atA(h:∀w a,Mem κ H w→Ok n ρ a→Q .normal {a with defers:=ds} w):KC P n κ ops Q ds [] ρ H:=h
theorem atz{t:TypeId}{x:Operand}{v:Value}{d:Nat}{ty:TypeId}{pos:String}{aU:Array Edge}
  (h:Ev P n κ H ρ true (.load t x) v)(k:KC P n κ ops Q ds l ((d,.v v)::ρ) H)(hd:Nat.blt d n=true:=by rfl):
  KC P n κ ops Q ds (⟨some d,.load t x,ty,pos,aU,none⟩::l) ρ H:=by
 intro w a hm ho
 refine wpList_plain rfl fun K hK=>alC ds atn ?_
 exact rH (C:=fun ρ' H'=>KC P n κ ops Q ds l ρ' H') h k hd _ _ (fun ρ' H' hc w a m o=>hK _ _ (hc w a m o)) w a hm ho
theorem aeu{t:TypeId}{x y:Operand}{ty:TypeId}{pos:String}{aU:Array Edge}
  (h:jE P n κ ⟨none,.store t x y,ty,pos,aU,none⟩ ρ H (fun ρ' H'=>KC P n κ ops Q ds l ρ' H')):
  KC P n κ ops Q ds (⟨none,.store t x y,ty,pos,aU,none⟩::l) ρ H:=by
 intro w a hm ho
 refine wpList_plain rfl fun K hK=>alC ds atm ?_
 exact h _ _ (fun ρ' H' hc w a m o=>hK _ _ (hc w a m o)) w a hm ho
theorem Mem.undef{w:World}(hm:Mem κ (Dc.Gt D::H) w):Mem κ H (w.putObj D (.deferred none)):=by
 obtain⟨S,hs⟩:=hm
 let e:Chunk:=⟨fun _=>False,fun _ _=>True,fun _ _ _ _ _=>trivial,fun _ _ _ _ _=>trivial⟩
 have:=hs.upd (c':=e) (S':=S) (w':=w.putObj D (.deferred none)) .head ⟨rfl,rfl,rfl,by simp[World.putObj],fun k _ hne=>World.putObj_heap_other (fun e=>hne e)⟩ (fun _ h=>h) (fun _ h=> .inl h) (fun k hk=>by simpa [World.putObj] using hs.lt k hk) trivial (fun k hk=>hk.elim)
 exact⟨S,this.sub' (List.sublist_cons_self _ _)⟩
theorem akc{N:Nat}{fn:Func}{R:Ending→World→Prop}{r1 r2 r3:ResultVar}{v1 v2 v3:Value}{w:World}{a:Act}(hm:Mem κ (Dc.Gt D::H) w)(ho:Ok n ρ a)(h:∀w,Mem κ H w→R (.returned (.tuple #[v1,v2,v3])) w)
  (hr:fn.results= #[r1,r2,r3]:=by rfl)
  (hv1:qD P ρ H r1 v1:=by first|exact .tmp rfl|exact .one rfl (by repeat (first|exact Has.head|apply Has.tail)) (by kernel_rfl))
  (hv2:qD P ρ H r2 v2:=by first|exact .tmp rfl|exact .one rfl (by repeat (first|exact Has.head|apply Has.tail)) (by kernel_rfl))
  (hv3:qD P ρ H r3 v3:=by first|exact .tmp rfl|exact .one rfl (by repeat (first|exact Has.head|apply Has.tail)) (by kernel_rfl)):
  bodyPostM Fence.wide N P fn R .ret {a with defers:=mark D} w:=by
 have hD:w.heap[D]?=some (.deferred (some [])):=by obtain⟨S,hs⟩:=hm;exact (Has.head:Has (Dc.Gt D::H) _).φ hs
 have hm':=hm.undef
 have e1:=hv1.run hm' ho
 have e2:=hv2.run hm' ho
 have e3:=hv3.run hm' ho
 exact⟨by simp,.inl ⟨D,_,rfl,run_takeDeferred hD,_,afv hr e1 e2 e3,h _ hm'⟩⟩
theorem asr{N:Nat}{fn:Func}{R:Ending→World→Prop}{r1 r2 r3:ResultVar}{v1 v2 v3:Value}(h:∀w,Mem κ H w→R (.returned (.tuple #[v1,v2,v3])) w)
  (hr:fn.results= #[r1,r2,r3]:=by rfl)
  (hv1:qD P ρ H r1 v1:=by first|exact .tmp rfl|exact .one rfl (by repeat (first|exact Has.head|apply Has.tail)) (by kernel_rfl))
  (hv2:qD P ρ H r2 v2:=by first|exact .tmp rfl|exact .one rfl (by repeat (first|exact Has.head|apply Has.tail)) (by kernel_rfl))
  (hv3:qD P ρ H r3 v3:=by first|exact .tmp rfl|exact .one rfl (by repeat (first|exact Has.head|apply Has.tail)) (by kernel_rfl)):
  KW n κ (fun a w=>bodyPostM Fence.wide N P fn R .ret a w) ρ H:=by
 intro w a hm ho
 show LeavesInM _ _ _ _ _ _ a.defers _ _
 rw[ho.yT]
 exact⟨_,afv hr (hv1.run hm ho) (hv2.run hm ho) (hv3.run hm ho),h _ hm⟩
theorem amE{f:FuncId}{fn:Func}{c:Code}{args:List Value}{R:Ending→World→Prop}{w:World}
  (hf:P.funcs[f]?=some fn)(hb:fn.body=some c)(hm:Mem κ H w)(hl:Nat.ble args.length fn.ntmps=true)
  (h:CW P fn.ntmps κ c (bodyPostM Fence.wide 1 P fn R) (NM 0 args) H):Calls P f args.toArray w R:=by
 refine (callsIn_wide (n:=1)).1 (callsIn_of_wp_marks hf hb trivial (wpIn_wide.2 (h w _ hm ⟨?_,rfl,?_⟩)))
 ·have:args.length≤fn.ntmps:=by simpa [Nat.ble_eq] using hl
  simp;omega
 ·intro t e he
  obtain⟨v,rfl,_,hv⟩:=abN args 0 t e he
  simp only[Nat.sub_zero] at hv
  have hlt:t<args.length:=(List.getElem?_eq_some_iff.1 hv).1
  show _=some v
  rw[Array.getElem?_append_left (by simpa using hlt)]
  simpa using hv
theorem as1{S:aW}{w:World}{cs:List Chunk}(hm:dW S κ cs w):Pre S cs w:=
 ⟨hm.lt,⟨fun c hc=>(hm.all c hc).1,hm.xH⟩,fun k ⟨c,hc,hk⟩=>⟨((hm.all c hc).2 k hk).1,((hm.all c hc).2 k hk).2.1⟩⟩
end
section
variable {P:Program}{n:Nat}{κ:Ctx}{ρ:Env}{H:List Chunk}{g:Bool}
end
def u8(c:Int):UInt8:=UInt8.ofNat c.toNat
section
variable {P:Program}
end
section
variable {P:Program}{n:Nat}{κ:Ctx}{ρ:Env}{H:List Chunk}{C:Env→List Chunk→Prop}{g:Bool}
end
/-! ### Package-level variables -/
def lY(g:Nat):Chunk where
 fp:=fun _=>False
 φ:=fun S w=>S g∧∃m:Int,w.cell? ⟨g,0,none⟩=some (.int .i64 m)
 dep:=fun S w w' h hw=>⟨hw.1,by rw[World.cell?_of_block (w:=w) (h g (.inr hw.1))];exact hw.2⟩
 mono:=fun S S' w h hw=>⟨h _ hw.1,hw.2⟩
theorem Mem.KX{S:aW}{w:World}{cs H:List Chunk}{c:Chunk}(hm:Mem (rJ w S cs) H w)(hf:∀k,¬c.fp k)(h:c.φ S w):Mem (rJ w S cs) (c::H) w:=by
 obtain⟨S',hs⟩:=hm
 exact⟨S',hs.add (Frame.refl _ w) (fun _ h=>h) (fun _ h=> .inl h) hs.lt (c.mono S S' w hs.sub h) (fun k hk=>(hf k hk).elim)⟩
/-! ### A range over a string -/
section
variable {P:Program}{n:Nat}{κ:Ctx}{ρ:Env}{H:List Chunk}{C:Env→List Chunk→Prop}{g:Bool}
end
section
variable {P:Program}{n:Nat}{κ:Ctx}{ρ:Env}{H:List Chunk}{g:Bool}
def agB(P:Program)(t m:Nat):Bool:=match P.underlying t with
 |some (.array k e)=>k==m&&(match P.info? e with|some i=>i.size==1|none=>false)&&mR P e
 |_=>false
/-! Two or three operations that may come up, before the region's last. -/
def agq(P:Program)(n:Nat)(κ:Ctx)(ops:Array Oper)(K:Act→World→Prop)(Hs:List Chunk)(z fuel:Nat)(listed:Array Bool)(ρ:Env)(H:List Chunk)(i:Nat):Prop:=
 ∃o,ops[i]?=some o∧o.guard=none∧jE P n κ o ρ H (fun ρ' H'=>(∀w,Mem κ H' w→Mem κ Hs w)∧AZ P n κ ops K Hs z fuel (listed.setIfInBounds i true) ρ' H')
section
variable {ops:Array Oper}{K:Act→World→Prop}{Hs:List Chunk}{z fuel:Nat}{listed:Array Bool}
theorem agq.wpOp{i:Nat}(h:agq P n κ ops K Hs z fuel listed ρ H i){w:World}{a:Act}(hm:Mem κ H w)(ho:Ok n ρ a):
  Go.wpOp P ops (fun e a w=>e= .normal∧K a w) i (fun a' w'=>(i≠z→Mem κ Hs w')∧QZ P .any ops (fun e a w=>e= .normal∧K a w) (fun w=>Mem κ Hs w) z fuel (listed.setIfInBounds i true) a' w') a w:=by
 obtain⟨o,hi,hg,hs⟩:=h
 unfold Go.wpOp
 simp only[hi,Region.wanted,hg,if_true]
 refine .inl (hs _ _ ?_ w a hm ho)
 intro ρ' H' ⟨c1,c2⟩ w' a' hm' ho'
 exact⟨fun _=>c1 w' hm',c2 w' a' hm' ho'⟩
end
variable {C:Env→List Chunk→Prop}
end
section
variable {P:Program}{n:Nat}{κ:Ctx}{ρ:Env}{H:List Chunk}{g:Bool}
theorem anj{x y:Operand}{t m:Nat}{k:IntKind}{i:Int}{xs:List Nat}{v:Nat}(l:List Value)(hi:g=true→idx xs i=some v)(hl:l=xs.map (fun s=> .func (.func s) #[] #[]):=by rfl)(hm:xs.length=m:=by rfl)
  (hx:Gets ρ g x (.agg l.toArray):=by exact gT)(hy:Gets ρ g y (.int k i):=by exact gT)
  (ht:agB P t m=true:=by kernel_rfl):Ev P n κ H ρ g (.index t x y) (.func (.func v) #[] #[]):=by
 intro w a dst ty pos aU gd hm' ho hg
 have e1:=hx.eval ho hg
 have e2:=hy.eval ho hg
 obtain⟨h0,hlt,hv⟩:=jX (hi hg)
 unfold agB at ht
 split at ht
 ·rename_i kk e hu
  simp only[Bool.and_eq_true,beq_iff_eq] at ht
  obtain⟨⟨h1,h2⟩,h3⟩:=ht
  cases hti:P.info? e with
  |none=>rw[hti] at h2;cases h2
  |some ti=>
   rw[hti] at h2
   simp at h2
   show (Instr.index t (a.eval x) (a.eval y) >>= fun v=>pure (Next.value v)).run P w=_
   rw[e1,e2]
   refine kN ?_
   unfold Instr.index
   show (underlying t >>= _).run P w=_
   rw[run_bind_ok (nM hu w)]
   have hb:0≤i∧i<(kk:Int):=by rw[h1,←hm];exact⟨h0,hlt⟩
   simp only[hb,and_self,if_true]
   rw[run_bind_ok (Bt hti w),h2,Nat.mul_one]
   refine M6 h3 ?_
   subst hl
   simp[hv]
 ·cases ht
theorem Mem.anD{b T:Nat}{l:List Value}{w:World}{H':List Chunk}(hm:Mem κ H w)(hu:fq H (own b T l) (Dc.CK b T l) H':=by repeat (first|exact fq.head|apply fq.tail)):Mem κ H' w:=by
 obtain⟨S,hs⟩:=hm
 have h0:=hs.all _ hu.has.mem
 exact⟨fun k=>S k∨(own b T l).fp k,hs.upd hu (Frame.refl _ w) (fun _ h=> .inl h) (fun k hk=>hk.elim .inl (fun h=> .inr (.inl h))) (fun k hk=>hk.elim (hs.lt k) (fun h=>(h0.2 k h).1)) ⟨.inr rfl,h0.1⟩ (fun k hk=>hk.elim)⟩
/-! ### Regions of many orders: every set of what has come up is one lemma -/
theorem afU{md:Region.Mode}{ops:Array Oper}{Q:Exit→Act→World→Prop}{S S':World→Prop}(hS:∀w,S' w→S w):
  ∀(fuel:Nat) (listed:Array Bool) (a:Act) (w:World),wpAnyH P md ops Q S' fuel listed a w→wpAnyH P md ops Q S fuel listed a w
 |0,_,_,_,h=>h
 |fuel+1,_,_,_,h=>⟨h.1,fun i hi=>wpOp_mono (fun a' w' h'=>⟨hS _ h'.1,afU hS fuel _ a' w' h'.2⟩) (h.2 i hi)⟩
variable {ops:Array Oper}{K:Act→World→Prop}{Hs:List Chunk}{fuel:Nat}{listed:Array Bool}
theorem u7(Dm:List Chunk)(h1:∀w,Mem κ H w→Mem κ Dm w)(h2:∀w,Mem κ Dm w→Mem κ Hs w)(k:AW P n κ ops K Dm fuel listed ρ H):AW P n κ ops K Hs fuel listed ρ H:=
 fun w a hm _ ho=>afU h2 _ _ _ _ (k w a hm (h1 w hm) ho)
theorem agD{ρ0:Env}(h:∀G:Nat→Array Bool→Env→List Chunk→List Chunk→Prop,(∀f l ad H Hs,G f l ad H Hs=AW P n κ ops K Hs f l (ad++ρ0) H)→G fuel listed [] H Hs):AW P n κ ops K Hs fuel listed ρ0 H:=
 h (fun f l ad H Hs=>AW P n κ ops K Hs f l (ad++ρ0) H) (fun _ _ _ _ _=>rfl)
theorem ain{ad ρ0:Env}{t:Nat}:look (ad++ρ0) t=match look ad t with|some e=>some e|none=>look ρ0 t:=by
 induction ad with
 |nil=>rfl
 |cons p r ih=>
  simp only[List.cons_append,look]
  split
  ·rfl
  ·exact ih
theorem aio{ad:Env}{t:Nat}(h:∀p∈ad,p.1≠t):look ad t=none:=by
 induction ad with
 |nil=>rfl
 |cons p r ih=>
  simp only[look]
  split
  ·rename_i hb;exact absurd (Nat.eq_of_beq_eq_true hb) (h p List.mem_cons_self)
  ·exact ih fun q hq=>h q (List.mem_cons_of_mem _ hq)
theorem asW{ad zF ρ0:Env}(h1:∀p∈ad,look zF p.1=look ad p.1)(h2:∀p∈zF,look zF p.1=look ad p.1):∀t,look (zF++ρ0) t=look (ad++ρ0) t:=by
 intro t
 have:look zF t=look ad t:=by
  by_cases e:∃p∈ad,p.1=t
  ·obtain⟨p,hp,rfl⟩:=e;exact h1 p hp
  ·by_cases e':∃p∈zF,p.1=t
   ·obtain⟨p,hp,rfl⟩:=e';exact h2 p hp
   ·rw[aio (fun p hp hh=>e ⟨p,hp,hh⟩),aio (fun p hp hh=>e' ⟨p,hp,hh⟩)]
 rw[ain,ain,this]
theorem amn{ρ0:Env}{G:Nat→Array Bool→Env→List Chunk→List Chunk→Prop}(hG:∀f l ad H Hs,G f l ad H Hs=AW P n κ ops K Hs f l (ad++ρ0) H){ad zF:Env}{l':Array Bool}{H' Dm:List Chunk}
  (h:G fuel l' zF H' Dm)(hl:listed=l')(hρ:∀t,look (zF++ρ0) t=look (ad++ρ0) t)(hH:∀w,Mem κ H w→Mem κ H' w)(hs:∀w,Mem κ H w→Mem κ Dm w)(hss:∀w,Mem κ Dm w→Mem κ Hs w):
  AW P n κ ops K Hs fuel listed (ad++ρ0) H:=by
 subst hl
 rw[hG] at h
 intro w a hm _ ho
 exact afU hss _ _ _ _ (h w a (hH w hm) (hs w hm) ⟨ho.size,ho.yT,fun t e he=>ho.get t e (by rw[←hρ t];exact he)⟩)
def NH(Q:Nat×EV→Prop):Env→Prop
 |[]=>True
 |p::r=>Q p∧NH Q r
theorem NH.mem{Q:Nat×EV→Prop}:∀{l:Env},NH Q l→∀p∈l,Q p
 |_::_,h,p,hp=>(List.mem_cons.1 hp).elim (fun e=>e▸h.1) (fun hp=>NH.mem h.2 p hp)
theorem fJ{ρ0:Env}{G:Nat→Array Bool→Env→List Chunk→List Chunk→Prop}(k:Nat)(hG:∀f l ad H Hs,G f l ad H Hs=AW P n κ ops K Hs f l (ad++ρ0) H){zF:Env}{l':Array Bool}{H' Dm:List Chunk}
  (h:G fuel l' zF H' Dm)(hk:ρ.drop k=ρ0:=by rfl)(hl:listed=l':=by rfl)
  (h1:NH (fun p=>look zF p.1=look (ρ.take k) p.1) (ρ.take k):=by repeat (first|exact trivial|refine And.intro rfl ?_))
  (h2:NH (fun p=>look zF p.1=look (ρ.take k) p.1) zF:=by repeat (first|exact trivial|refine And.intro rfl ?_))
  (hH:∀w,Mem κ H w→Mem κ H' w:=by intro w hm;exact hm.jg)(hs:∀w,Mem κ H w→Mem κ Dm w:=by intro w hm;exact hm.jg)(hss:∀w,Mem κ Dm w→Mem κ Hs w:=by intro w hm;exact hm.jg):
  AW P n κ ops K Hs fuel listed ρ H:=by
 have e:ρ=ρ.take k++ρ0:=by rw[←hk];exact (List.take_append_drop k ρ).symm
 rw[e]
 exact amn hG h hl (asW h1.mem h2.mem) hH hs hss
end
def SR.put{ρ:Type}(r:SR ρ)(i:Nat)(q:ρ):SR ρ:=⟨r.a,r.cap,fun j=>if j=i then q else r.es j⟩
def hrow{α:Type}[ah α](on:Nat→Prop)(e:TypeId)(r:SR (R α))(xs:List α):Chunk where
 fp:=fun k=>∃p,r.a=some p∧k=p.block
 φ:=fun S w=>xs.length*ah.bytes α≤140737488355328∧((r.a=none∧xs=[]∧r.cap=0)∨
  ∃g o cur,r.a=some ⟨g,o,none⟩∧w.heap[g]?=some (.cells cur e (0,0))∧xs.length≤r.cap∧o+r.cap*n α≤cur.size∧
   ∀i x,xs[i]?=some x→(∀j v,(enc (r.es i) x)[j]?=some v→cur[o+(i*n α+j)]?=some v)∧(on i→ok S w (r.es i) x))
 dep:=fun S w w' h hw=>by
  refine⟨hw.1,?_⟩
  rcases hw.2 with h2|⟨g,o,cur,ha,hg,h3,h4,h5⟩
  ·exact .inl h2
  ·refine .inr ⟨g,o,cur,ha,?_,h3,h4,fun i x hx=>⟨(h5 i x hx).1,fun ho=>ah.dep S w w' _ _ (fun k hk=>h k (.inr hk)) ((h5 i x hx).2 ho)⟩⟩
   rw[h g (.inl ⟨_,ha,rfl⟩)]
   exact hg
 mono:=fun S S' w h hw=>by
  refine⟨hw.1,?_⟩
  rcases hw.2 with h2|⟨g,o,cur,ha,hg,h3,h4,h5⟩
  ·exact .inl h2
  ·exact .inr ⟨g,o,cur,ha,hg,h3,h4,fun i x hx=>⟨(h5 i x hx).1,fun ho=>ah.mono S S' w _ _ h ((h5 i x hx).2 ho)⟩⟩
section
variable {P:Program}{n:Nat}{κ:Ctx}{ρ:Env}{H:List Chunk}{g:Bool}{C:Env→List Chunk→Prop}
theorem awx{α:Type}[ah α]{x y:Operand}{t e:Nat}{ty:TypeId}{pos:String}{aU:Array Edge}{gd:Option (Nat×Bool)}{on:Nat→Prop}{r:SR (R α)}{xs:List α}{i:Int}{u:α}{o m:Nat}{v:Value}{vs:List Value}{H':List Chunk}
  (j:Nat)(u':α)(q:R α)(on':Nat→Prop)(hon:∀k,on' k→on k∧k≠i.toNat)(hi:idx xs i=some u)(henc:enc q u'=uT (enc (r.es i.toNat) u) j vs)
  (hu:fq H (hrow on e r xs) (hrow on' e (r.put i.toNat q) (xs.set i.toNat u')) H')(k:C ρ H')
  (hx:Gets ρ true x (.pointer (some ⟨sb r.a,o,none⟩)):=by exact gT)(hy:Gets ρ true y v:=by exact gT)
  (hvs:v.cells=vs.toArray:=by rfl)(hlen:vs.length=m:=by rfl)(h10:vs.all Value.oneCell'=true:=by rfl)
  (ho':o=so r.a+(i.toNat*ah.n α+j):=by first|rfl|(show _=_+(_*(_:Nat)+_);omega))(hj0:Nat.ble (j+m) (ah.n α)=true:=by rfl)
  (ht:P.cellsOf t=m:=by kernel_rfl)(hti:(P.info? t).isSome=true:=by kernel_rfl):jE P n κ ⟨none,.store t x y,ty,pos,aU,gd⟩ ρ H C:=by
 have hj:j+m≤ah.n α:=by simpa [Nat.ble_eq] using hj0
 intro K Q hs w a hm ho
 obtain⟨hi0,hilt,hget⟩:=jX hi
 obtain⟨S,hms⟩:=hm
 have hφ:=hu.has.φ hms
 have hin:=(hms.all _ hu.has.mem).2
 have e1:=hx.eval ho rfl
 have e2:=hy.eval ho rfl
 rcases hφ.2 with ⟨_,h0,_⟩|⟨gb,off,cur,ha,hgb,h3,h4,h5⟩
 ·subst h0;simp at hilt;omega
 ·rw[ha] at e1
  have hoff:o=off+(i.toNat*ah.n α+j):=by rw[ho',ha];rfl
  have e1':a.eval x= .pointer (some ⟨gb,o,none⟩):=e1
  have hfit:o+0+vs.length≤cur.size:=by
   have:i.toNat*ah.n α+ah.n α≤r.cap*ah.n α:=by rw[←Nat.succ_mul];exact Nat.mul_le_mul_right _ (by omega)
   omega
  have hst:=run_storeCells_at P gb o e vs 0 cur w hgb hfit (List.all_eq_true.1 h10)
  simp only[Nat.add_zero] at hst
  cases Cj:P.info? t with
  |none=>rw[Cj] at hti;cases hti
  |some ti=>
   have hsz:ti.size=m:=by simpa [Program.cellsOf,Cj] using ht
   have hrun:(execOp a.eval ⟨none,.store t x y,ty,pos,aU,gd⟩).run P w= .ok .skip (w.setRow gb (cur.toList.take o++vs++cur.toList.drop (o+vs.length)).toArray):=by
    show ((Instr.storeAt t (a.eval x) (a.eval y)) >>= fun _=>pure Next.skip).run P w=_
    rw[e1',e2]
    have:(Instr.storeAt t (.pointer (some ⟨gb,o,none⟩)) v).run P w= .ok () (w.setRow gb (cur.toList.take o++vs++cur.toList.drop (o+vs.length)).toArray):=by
     show (storeVar t ⟨gb,o,none⟩ v).run P w=_
     unfold storeVar
     rw[run_bind_ok (Bt Cj w),hvs]
     have hsz2:¬(vs.toArray.size≠ti.size):=by simp[hlen,hsz]
     simp only[hsz2,if_false]
     exact hst
    rw[run_bind_ok this]
    rfl
   unfold Oper.wp
   rw[hrun]
   have hcl:cur.toList.length=cur.size:=Array.length_toList
   have hpre:(cur.toList.take o).length=o:=by rw[List.length_take,hcl];omega
   have hne:∀k,k≠gb→(w.setRow gb (cur.toList.take o++vs++cur.toList.drop (o+vs.length)).toArray).heap[k]?=w.heap[k]?:=fun k hk=>by
    simp[World.setRow,Array.getElem?_modify,Ne.symm hk]
   refine hs _ _ k _ _ ⟨S,hms.upd hu ⟨rfl,rfl,rfl,by simp[World.setRow],fun kk _ hn=>hne kk (fun h=>hn ⟨_,ha,h⟩)⟩ (fun _ h=>h) (fun _ h=> .inl h) (fun k hk=>by simpa [World.setRow] using hms.lt k hk) ⟨by rw[List.length_set];exact hφ.1,.inr ⟨gb,off,_,ha,setRow_heap w gb cur _ e (0,0) hgb,by rw[List.length_set];exact h3,?_,?_⟩⟩ ?_⟩ ho
   ·simp only[List.size_toArray,List.length_append,hpre,List.length_drop,hcl]
    show off+r.cap*_≤_
    omega
   ·intro p z hq
    have YA:∀k,S k→(w.setRow gb (cur.toList.take o++vs++cur.toList.drop (o+vs.length)).toArray).heap[k]?=w.heap[k]?:=fun k hk=>hne k (fun h=>by subst h;exact (hin k ⟨_,ha,rfl⟩).2.1 hk)
    have cells:∀c,(cur.toList.take o++vs++cur.toList.drop (o+vs.length))[c]?=if c<o then cur[c]? else if c<o+vs.length then vs[c-o]? else cur[c]?:=fun c=>by
     by_cases hc:c<o
     ·rw[if_pos hc,List.append_assoc,List.getElem?_append_left (by omega),List.getElem?_take,if_pos hc];simp
     ·rw[if_neg hc,List.append_assoc,List.getElem?_append_right (by omega),hpre]
      by_cases hc2:c<o+vs.length
      ·rw[if_pos hc2,List.getElem?_append_left (by omega)]
      ·rw[if_neg hc2,List.getElem?_append_right (by omega),List.getElem?_drop]
       rw[show o+vs.length+(c-o-vs.length)=c by omega];simp
    by_cases hqi:p=i.toNat
    ·subst hqi
     rw[List.getElem?_set_self (by omega)] at hq
     cases hq
     have hput:(r.put i.toNat q).es i.toNat=q:=by simp[SR.put]
     rw[hput]
     refine⟨fun j' v' hv'=>?_,fun h=>absurd rfl (hon _ h).2⟩
     have hj':j'<ah.n α:=by have:=(List.getElem?_eq_some_iff.1 hv').1;rwa [ah.len] at this
     simp only[List.getElem?_toArray]
     rw[cells]
     rw[henc] at hv'
     by_cases hin':j≤j'∧j'<j+vs.length
     ·have e3:j'=j+(j'-j):=by omega
      rw[e3,afy vs _ j (j'-j) (by omega) (by rw[ah.len];omega)] at hv'
      rw[if_neg (by omega),if_pos (by omega)]
      rw[show off+(i.toNat*ah.n α+j')-o=j'-j by omega]
      exact hv'
     ·rw[aaF vs _ j j' (by omega)] at hv'
      have:=(h5 _ u hget).1 j' v' hv'
      by_cases hc:off+(i.toNat*ah.n α+j')<o
      ·rw[if_pos hc];exact this
      ·rw[if_neg hc,if_neg (by omega)];exact this
    ·rw[List.getElem?_set_ne (Ne.symm hqi)] at hq
     have hput:(r.put i.toNat q).es p=r.es p:=by simp[SR.put,hqi]
     rw[hput]
     refine⟨fun j' v' hv'=>?_,fun ho=>ah.dep S w _ _ _ YA ((h5 p z hq).2 (hon _ ho).1)⟩
     have hj':j'<ah.n α:=by have:=(List.getElem?_eq_some_iff.1 hv').1;rwa [ah.len] at this
     have:=(h5 p z hq).1 j' v' hv'
     simp only[List.getElem?_toArray]
     rw[cells]
     rcases Nat.lt_or_gt_of_ne hqi with hlt|hgt
     ·have:p*ah.n α+ah.n α≤i.toNat*ah.n α:=by rw[←Nat.succ_mul];exact Nat.mul_le_mul_right _ hlt
      rw[if_pos (by omega)];assumption
     ·have:i.toNat*ah.n α+ah.n α≤p*ah.n α:=by rw[←Nat.succ_mul];exact Nat.mul_le_mul_right _ hgt
      rw[if_neg (by omega),if_neg (by omega)];assumption
   ·rintro kk ⟨p,hp,rfl⟩
    have:=hin p.block ⟨p,hp,rfl⟩
    exact⟨.inl ⟨p,hp,rfl⟩,by simpa [World.setRow] using this.1,this.2.1⟩
/-! ### Reading -/
def Cl{α:Type}[ah α](κ:Ctx)(H:List Chunk)(r:SR (R α))(xs:List α):Prop:=
 ∀w,Mem κ H w→xs.length≤140737488355328∧∀i x,xs[i]?=some x→r.a=some ⟨sb r.a,so r.a,none⟩∧∀j v,(enc (r.es i) x)[j]?=some v→w.cell? ⟨sb r.a,so r.a+(i*ah.n α+j),none⟩=some v
theorem Cl.hrow{α:Type}[ah α]{on:Nat→Prop}{e:TypeId}{r:SR (R α)}{xs:List α}(h:Has H (Dc.hrow on e r xs)):Cl κ H r xs:=fun w hm=>by
 obtain⟨S,hs⟩:=hm
 have h0:=h.φ hs
 have hb:=ah.bpos (α:=α)
 refine⟨?_,fun i x hx=>?_⟩
 ·calc xs.length=xs.length*1:=by omega
   _≤xs.length*ah.bytes α:=Nat.mul_le_mul_left _ hb
   _≤_:=h0.1
 ·rcases h0.2 with ⟨_,h2,_⟩|⟨g,o,cur,ha,hg,h3,h4,h5⟩
  ·subst h2;simp at hx
  ·refine⟨by rw[ha];rfl,fun j v hv=>?_⟩
   rw[ha]
   show w.cell? ⟨g,o+(i*ah.n α+j),none⟩=some v
   simp[World.cell?,hg,(h5 i x hx).1 j v hv]
theorem Cl.len{α:Type}[ah α]{r:SR (R α)}{xs:List α}(h:Cl κ H r xs){w:World}(hm:Mem κ H w):xs.length≤140737488355328:=(h w hm).1
theorem ab8{α:Type}[ah α]{x y:Operand}{t:Nat}{k:IntKind}{i:Int}{r:SR (R α)}{xs:List α}{m:Nat}(sz:Nat)(hk:Cl κ H r xs)(hi:g=true→0≤i∧i<xs.length)
  (hx:Gets ρ g x (.slice r.a m r.cap):=by exact gT)(hy:Gets ρ g y (.int k i):=by exact gT)
  (hs:elemSize P t=some sz:=by kernel_rfl)(hml:m=xs.length:=by first|rfl|simp only[List.length_set,List.length_append,List.length_replicate]):
  Ev P n κ H ρ g (.indexAddr t x y) (.pointer (some ⟨sb r.a,so r.a+i.toNat*sz,none⟩)):=by
 subst hml
 intro w a dst ty pos aU gd hm ho hg
 have hb:=hi hg
 have ha:r.a=some ⟨sb r.a,so r.a,none⟩:=by
  have hlt:i.toNat<xs.length:=by omega
  exact ((hk w hm).2 i.toNat xs[i.toNat] (by simp[hlt])).1
 have e1:=hx.eval ho hg
 rw[ha] at e1
 have e2:=hy.eval ho hg
 unfold elemSize at hs
 split at hs
 ·rename_i el hu
  cases hti:P.info? el with
  |none=>rw[hti] at hs;cases hs
  |some ti=>
   rw[hti] at hs
   simp at hs
   subst hs
   show (Instr.indexAt t (a.eval x) (a.eval y) >>= fun v=>pure (Next.value v)).run P w=_
   rw[e1,e2]
   refine kN ?_
   unfold Instr.indexAt
   show (underlying t >>= _).run P w=_
   rw[run_bind_ok (nM hu w)]
   show (underlying t >>= _).run P w=_
   rw[run_bind_ok (nM hu w)]
   simp only[hb,and_self,if_true]
   rw[run_bind_ok (Bt hti w)]
   show Result.ok (Value.pointer (some (Addr.add ⟨sb r.a,so r.a,none⟩ (i.toNat*ti.size)))) w=_
   rw[Addr.add_lit]
 ·cases hs
theorem ag6{α:Type}[ah α]{x:Operand}{t:TypeId}{r:SR (R α)}{xs:List α}{i:Int}{y:α}{o:Nat}{v:Value}(j:Nat)(hk:Cl κ H r xs)(hi:g=true→idx xs i=some y)
  (hv:(enc (r.es i.toNat) y)[j]?=some v)(hx:Gets ρ g x (.pointer (some ⟨sb r.a,o,none⟩)):=by exact gT)
  (ho':o=so r.a+(i.toNat*ah.n α+j):=by first|rfl|(show _=_+(_*(_:Nat)+_);omega))
  (ht:mR P t=true:=by kernel_rfl):Ev P n κ H ρ g (.load t x) v:=
 II hx ht fun hg w hm=>by rw[ho'];exact ((hk w hm).2 _ y (jX (hi hg)).2.2).2 j v hv
theorem SR.aiZ{ρ:Type}(r:SR ρ)(i:Nat)(q:ρ):(r.put i q).es i=q:=by simp[SR.put]
end
class Inner (α:Type) (β:outParam Type) [ah α] [ah β] where
 get:α→List β
 rep:R α→SR (R β)
 okI:∀S w r x,qU S w (rep r) (get x)→ok S w r x
section
variable {α β:Type}[ah α][ah β][Inner α β]
def o8(on:Nat→Prop)(e2:TypeId)(r:SR (R α))(xs:List α):Chunk where
 fp:=fun k=>∃i x p,xs[i]?=some x∧on i∧(Inner.rep (r.es i)).a=some p∧k=p.block
 φ:=fun S w=>(∀(i:Nat) (x:α),xs[i]?=some x→on i→(aj (α:=β) e2 (Inner.rep (r.es i)) (Inner.get x)).φ S w)∧
  (∀(i j:Nat) (x y:α) (p q:Addr),i≠j→xs[i]?=some x→xs[j]?=some y→on i→on j→(Inner.rep (r.es i)).a=some p→(Inner.rep (r.es j)).a=some q→p.block≠q.block)
 dep:=fun S w w' h hw=>⟨fun i x hx ho=>(aj (α:=β) e2 (Inner.rep (r.es i)) (Inner.get x)).dep S w w' (fun k hk=>h k (by
  rcases hk with ⟨p,hp,rfl⟩|hk
  ·exact .inl ⟨i,x,p,hx,ho,hp,rfl⟩
  ·exact .inr hk)) (hw.1 i x hx ho),hw.2⟩
 mono:=fun S S' w h hw=>⟨fun i x hx ho=>(aj (α:=β) e2 (Inner.rep (r.es i)) (Inner.get x)).mono S S' w h (hw.1 i x hx ho),hw.2⟩
def bP(on:Nat→Prop)(e e2:TypeId)(r:SR (R α))(xs:List α):Chunk:=many [hrow (fun _=>False) e r xs,o8 on e2 r xs]
theorem agX{c d:Chunk}(h:[c,d].Pairwise Dl):Dl c d:=(List.pairwise_cons.1 h).1 d List.mem_cons_self
variable {P:Program}{n:Nat}{κ:Ctx}{ρ:Env}{H:List Chunk}{g:Bool}{C:Env→List Chunk→Prop}
theorem dW.cut{S:aW}{w:World}{c c1 c2:Chunk}{H:List Chunk}(hm:dW S κ (c::H) w)(h1:c1.φ S w)(h2:c2.φ S w)(f1:∀k,c1.fp k→c.fp k)(f2:∀k,c2.fp k→c.fp k)(hd:Dl c1 c2):
  dW S κ (c1::c2::H) w:=by
 have h0:=hm.all _ List.mem_cons_self
 have hp:=List.pairwise_cons.1 hm.xH
 refine⟨hm.frame,hm.sub,hm.sup,hm.lt,fun d hd'=>?_,?_⟩
 ·rcases List.mem_cons.1 hd' with rfl|hd'
  ·exact⟨h1,fun k hk=>h0.2 k (f1 k hk)⟩
  ·rcases List.mem_cons.1 hd' with rfl|hd'
   ·exact⟨h2,fun k hk=>h0.2 k (f2 k hk)⟩
   ·exact hm.all d (List.mem_cons_of_mem _ hd')
 ·rw[List.pairwise_cons,List.pairwise_cons]
  refine⟨fun d hd' k hk hk'=>?_,fun d hd' k hk hk'=>hp.1 d hd' k (f2 k hk) hk',hp.2⟩
  rcases List.mem_cons.1 hd' with rfl|hd'
  ·exact hd k hk hk'
  ·exact hp.1 d hd' k (f1 k hk) hk'
theorem dW.glue{S:aW}{w:World}{c c1 c2:Chunk}{H:List Chunk}(hm:dW S κ (c1::c2::H) w)(h:c.φ S w)(f:∀k,c.fp k→c1.fp k∨c2.fp k):dW S κ (c::H) w:=by
 have h1:=hm.all _ List.mem_cons_self
 have h2:=hm.all _ (List.mem_cons_of_mem _ List.mem_cons_self)
 have hp:=List.pairwise_cons.1 hm.xH
 have hp2:=List.pairwise_cons.1 hp.2
 refine⟨hm.frame,hm.sub,hm.sup,hm.lt,fun d hd'=>?_,?_⟩
 ·rcases List.mem_cons.1 hd' with rfl|hd'
  ·exact⟨h,fun k hk=>(f k hk).elim (h1.2 k) (h2.2 k)⟩
  ·exact hm.all d (List.mem_cons_of_mem _ (List.mem_cons_of_mem _ hd'))
 ·rw[List.pairwise_cons]
  refine⟨fun d hd' k hk hk'=>?_,hp2.2⟩
  rcases f k hk with hk|hk
  ·exact hp.1 d (List.mem_cons_of_mem _ hd') k hk hk'
  ·exact hp2.1 d hd' k hk hk'
theorem dW.aa5{S:aW}{w:World}{c c':Chunk}{H:List Chunk}(hm:dW S κ (c::H) w)(h:c'.φ S w)(f:∀k,c'.fp k→c.fp k):dW S κ (c'::H) w:=by
 have h1:=hm.all _ List.mem_cons_self
 have hp:=List.pairwise_cons.1 hm.xH
 refine⟨hm.frame,hm.sub,hm.sup,hm.lt,fun d hd'=>?_,?_⟩
 ·rcases List.mem_cons.1 hd' with rfl|hd'
  ·exact⟨h,fun k hk=>h1.2 k (f k hk)⟩
  ·exact hm.all d (List.mem_cons_of_mem _ hd')
 ·rw[List.pairwise_cons]
  exact⟨fun d hd' k hk hk'=>hp.1 d hd' k (f k hk) hk',hp.2⟩
theorem dW.flip{S:aW}{w:World}{c d:Chunk}{H:List Chunk}(hm:dW S κ (c::d::H) w):dW S κ (d::c::H) w:=hm.perm (List.Perm.swap _ _ _)
theorem dW.aep{S:aW}{on:Nat→Prop}{e e2:TypeId}{r:SR (R α)}{xs:List α}{w:World}{H1:List Chunk}(hm:dW S κ H w)(hsel:pQ H (bP on e e2 r xs) H1):
 dW S κ (hrow (fun _=>False) e r xs::o8 on e2 r xs::H1) w:=(hm.perm hsel.perm).unfold
theorem Mem.aiD{e e2:TypeId}{r:SR (R α)}{xs:List α}{w:World}{H1:List Chunk}{i:Int}{x:α}(hm:Mem κ H w)(hi:idx xs i=some x)
  (hsel:pQ H (bP (fun _=>True) e e2 r xs) H1):Mem κ (aj (α:=β) e2 (Inner.rep (r.es i.toNat)) (Inner.get x)::bP (fun j=>j≠i.toNat) e e2 r xs::H1) w:=by
 obtain⟨S,hs⟩:=hm
 have hx:=(jX hi).2.2
 have h1:=(hs.aep hsel).flip
 have hφ:=(h1.all _ List.mem_cons_self).1
 have h2:dW S κ (aj (α:=β) e2 (Inner.rep (r.es i.toNat)) (Inner.get x)::o8 (fun j=>j≠i.toNat) e2 r xs::hrow (fun _=>False) e r xs::H1) w:=by
  refine h1.cut (hφ.1 _ x hx trivial) ⟨fun j y hy _=>hφ.1 j y hy trivial,fun a b y z p q hne hy hz _ _=>hφ.2 a b y z p q hne hy hz trivial trivial⟩ ?_ ?_ ?_
  ·rintro k ⟨p,hp,rfl⟩;exact⟨_,x,p,hx,trivial,hp,rfl⟩
  ·rintro k ⟨j,y,p,hy,_,hp,rfl⟩;exact⟨j,y,p,hy,trivial,hp,rfl⟩
  ·rintro k ⟨p,hp,rfl⟩ ⟨j,y,q,hy,hne,hq,he⟩
   exact hφ.2 j i.toNat y x q p hne hy hx trivial trivial hq hp he.symm
 have h3:dW S κ (hrow (fun _=>False) e r xs::o8 (fun j=>j≠i.toNat) e2 r xs::aj (α:=β) e2 (Inner.rep (r.es i.toNat)) (Inner.get x)::H1) w:=
  h2.perm (((List.Perm.swap _ _ _).trans ((List.Perm.swap _ _ _).cons _)).trans (List.Perm.swap _ _ _))
 have h4:dW S κ (bP (fun j=>j≠i.toNat) e e2 r xs::aj (α:=β) e2 (Inner.rep (r.es i.toNat)) (Inner.get x)::H1) w:=dW.fold (cs:=[hrow (fun _=>False) e r xs,o8 (fun j=>j≠i.toNat) e2 r xs]) h3
 exact⟨S,h4.flip⟩
theorem Mem.nO{on on':Nat→Prop}{e e2:TypeId}{r:SR (R α)}{xs:List α}{w:World}{H':List Chunk}(hm:Mem κ H w)(hon:∀i,on' i→on i)
  (hu:fq H (bP on e e2 r xs) (bP on' e e2 r xs) H'):Mem κ H' w:=by
 obtain⟨S,hs⟩:=hm
 have h0:=hs.all _ hu.has.mem
 have h1:=h0.1.1 _ List.mem_cons_self
 have h2:=h0.1.1 _ (List.mem_cons_of_mem _ List.mem_cons_self)
 have hdd:=agX h0.1.2
 have ale:∀k,(o8 on' e2 r xs).fp k→(o8 on e2 r xs).fp k:=by rintro k ⟨i,x,p,hx,ho,hp,rfl⟩;exact⟨i,x,p,hx,hon i ho,hp,rfl⟩
 have sub:∀k,(bP on' e e2 r xs).fp k→(bP on e e2 r xs).fp k:=by
  rintro k ⟨c,hc,hk⟩
  rcases List.mem_cons.1 hc with rfl|hc
  ·exact⟨_,List.mem_cons_self,hk⟩
  ·obtain rfl:=List.mem_singleton.1 hc
   exact⟨_,List.mem_cons_of_mem _ List.mem_cons_self,ale k hk⟩
 refine⟨S,hs.upd hu (Frame.refl _ w) (fun _ h=>h) (fun _ h=> .inl h) hs.lt ⟨fun c hc=>?_,?_⟩ (fun k hk=>⟨.inl (sub k hk),(h0.2 k (sub k hk)).1,(h0.2 k (sub k hk)).2.1⟩)⟩
 ·rcases List.mem_cons.1 hc with rfl|hc
  ·exact h1
  ·obtain rfl:=List.mem_singleton.1 hc
   exact⟨fun i x hx ho=>h2.1 i x hx (hon i ho),fun i j x y p q hne hx hy hi hj=>h2.2 i j x y p q hne hx hy (hon i hi) (hon j hj)⟩
 ·rw[List.pairwise_cons]
  refine⟨fun c hc=>?_,by simp⟩
  obtain rfl:=List.mem_singleton.1 hc
  exact fun k hk hk'=>hdd k hk (ale k hk')
theorem Mem.akI{e e2:TypeId}{r:SR (R α)}{xs:List α}{w:World}{H1 H2:List Chunk}{i:Int}{x:α}{q:SR (R β)}{u:List β}(hm:Mem κ H w)(hi:idx xs i=some x)(hq:Inner.rep (r.es i.toNat)=q)(hg:Inner.get x=u)
  (hsel:pQ H (aj (α:=β) e2 q u) H1)(aqU:pQ H1 (bP (fun j=>j≠i.toNat) e e2 r xs) H2):Mem κ (bP (fun _=>True) e e2 r xs::H2) w:=by
 subst hq hg
 obtain⟨S,hs⟩:=hm
 have hx:=(jX hi).2.2
 have h1:dW S κ (aj (α:=β) e2 (Inner.rep (r.es i.toNat)) (Inner.get x)::bP (fun j=>j≠i.toNat) e e2 r xs::H2) w:=hs.perm (hsel.perm.trans (List.Perm.cons _ aqU.perm))
 have h2:dW S κ (hrow (fun _=>False) e r xs::o8 (fun j=>j≠i.toNat) e2 r xs::aj (α:=β) e2 (Inner.rep (r.es i.toNat)) (Inner.get x)::H2) w:=h1.flip.unfold
 have h3:dW S κ (aj (α:=β) e2 (Inner.rep (r.es i.toNat)) (Inner.get x)::o8 (fun j=>j≠i.toNat) e2 r xs::hrow (fun _=>False) e r xs::H2) w:=
  h2.perm (((List.Perm.swap _ _ _).trans ((List.Perm.swap _ _ _).cons _)).trans (List.Perm.swap _ _ _))
 have a1:=(h3.all _ List.mem_cons_self).1
 have a2:=(h3.all _ (List.mem_cons_of_mem _ List.mem_cons_self)).1
 have hdd:=(List.pairwise_cons.1 h3.xH).1 _ List.mem_cons_self
 have h4:dW S κ (o8 (fun _=>True) e2 r xs::hrow (fun _=>False) e r xs::H2) w:=by
  refine h3.glue ⟨fun j y hy _=>?_,fun a b y z p q hne hy hz _ _ hpa hqa=>?_⟩ ?_
  ·by_cases hji:j=i.toNat
   ·subst hji
    rw[hx] at hy;cases hy
    exact a1
   ·exact a2.1 j y hy hji
  ·by_cases hai:a=i.toNat
   ·subst hai
    intro he
    rw[hx] at hy;cases hy
    exact hdd p.block ⟨p,hpa,rfl⟩ ⟨b,z,q,hz,Ne.symm hne,hqa,he⟩
   ·by_cases hbi:b=i.toNat
    ·subst hbi
     intro he
     exact hdd q.block ⟨q,hqa,rfl⟩ ⟨a,y,p,hy,hai,hpa,he.symm⟩
    ·exact a2.2 a b y z p q hne hy hz hai hbi hpa hqa
  ·rintro k ⟨j,y,p,hy,_,hpa,rfl⟩
   by_cases hji:j=i.toNat
   ·subst hji;exact .inl ⟨p,hpa,rfl⟩
   ·exact .inr ⟨j,y,p,hy,hji,hpa,rfl⟩
 exact⟨S,dW.fold (cs:=[hrow (fun _=>False) e r xs,o8 (fun _=>True) e2 r xs]) h4.flip⟩
theorem ak3{x y:Operand}{t e e2:Nat}{ty:TypeId}{pos:String}{aU:Array Edge}{gd:Option (Nat×Bool)}{r:SR (R α)}{xs:List α}{i:Int}{u:α}{o m:Nat}{v:Value}{vs:List Value}{H1:List Chunk}
  (j:Nat)(u':α)(q:R α)(hi:idx xs i=some u)(henc:enc q u'=uT (enc (r.es i.toNat) u) j vs)
  (hsel:pQ H (bP (fun j=>j≠i.toNat) e e2 r xs) H1)(k:C ρ (bP (fun j=>j≠i.toNat) e e2 (r.put i.toNat q) (xs.set i.toNat u')::H1))
  (hx:Gets ρ true x (.pointer (some ⟨sb r.a,o,none⟩)):=by exact gT)(hy:Gets ρ true y v:=by exact gT)
  (hvs:v.cells=vs.toArray:=by rfl)(hlen:vs.length=m:=by rfl)(h10:vs.all Value.oneCell'=true:=by rfl)
  (ho':o=so r.a+(i.toNat*ah.n α+j):=by first|rfl|(show _=_+(_*(_:Nat)+_);omega))(hj0:Nat.ble (j+m) (ah.n α)=true:=by rfl)
  (ht:P.cellsOf t=m:=by kernel_rfl)(hti:(P.info? t).isSome=true:=by kernel_rfl):jE P n κ ⟨none,.store t x y,ty,pos,aU,gd⟩ ρ H C:=by
 have hst:=awx (P:=P) (n:=n) (κ:=κ) (ρ:=ρ) (H:=hrow (fun _=>False) e r xs::o8 (fun j=>j≠i.toNat) e2 r xs::H1) (C:=fun ρ' H'=>ρ'=ρ∧H'=hrow (fun _=>False) e (r.put i.toNat q) (xs.set i.toNat u')::o8 (fun j=>j≠i.toNat) e2 r xs::H1)
  (ty:=ty) (pos:=pos) (aU:=aU) (gd:=gd) j u' q (fun _=>False) (fun _ h=>h.elim) hi henc fq.head ⟨rfl,rfl⟩ hx hy hvs hlen h10 ho' hj0 ht hti
 intro K Q hs w a hm ho
 obtain⟨S0,hs0⟩:=hm
 refine hst K Q ?_ w a ⟨S0,hs0.aep hsel⟩ ho
 rintro ρ' H' ⟨rfl,rfl⟩ w' a' ⟨S,hw⟩ ho'
 refine hs _ _ k w' a' ⟨S,?_⟩ ho'
 have h1:=hw.flip
 have hφ:=(h1.all _ List.mem_cons_self).1
 have ne:∀(j:Nat) (y:α),j≠i.toNat→(xs.set i.toNat u')[j]?=some y→xs[j]?=some y:=fun j y hj hy=>by rwa [List.getElem?_set_ne (Ne.symm hj)] at hy
 have es:∀j,j≠i.toNat→(r.put i.toNat q).es j=r.es j:=fun j hj=>by simp[SR.put,hj]
 have h2:dW S κ (o8 (fun j=>j≠i.toNat) e2 (r.put i.toNat q) (xs.set i.toNat u')::hrow (fun _=>False) e (r.put i.toNat q) (xs.set i.toNat u')::H1) w':=by
  refine h1.aa5 ⟨fun j y hy hj=>?_,fun a b y z p q' hne hy hz ha hb hp hq=>?_⟩ ?_
  ·rw[es j hj];exact hφ.1 j y (ne j y hj hy) hj
  ·rw[es a ha] at hp;rw[es b hb] at hq
   exact hφ.2 a b y z p q' hne (ne a y ha hy) (ne b z hb hz) ha hb hp hq
  ·rintro kk ⟨j,y,p,hy,hj,hp,rfl⟩
   rw[es j hj] at hp
   exact⟨j,y,p,ne j y hj hy,hj,hp,rfl⟩
 exact dW.fold (cs:=[hrow (fun _=>False) e (r.put i.toNat q) (xs.set i.toNat u'),o8 (fun j=>j≠i.toNat) e2 (r.put i.toNat q) (xs.set i.toNat u')]) h2.flip
/-! ### Reading -/
theorem Cl.bP{on:Nat→Prop}{e e2:TypeId}{r:SR (R α)}{xs:List α}(h:Has H (Dc.bP on e e2 r xs)):Cl κ H r xs:=fun w hm=>by
 obtain⟨S,hs⟩:=hm
 have h0:=(h.φ hs).1 _ List.mem_cons_self
 have hb:=ah.bpos (α:=α)
 refine⟨?_,fun i x hx=>?_⟩
 ·calc xs.length=xs.length*1:=by omega
   _≤xs.length*ah.bytes α:=Nat.mul_le_mul_left _ hb
   _≤_:=h0.1
 ·rcases h0.2 with ⟨_,h2,_⟩|⟨g,o,cur,ha,hg,h3,h4,h5⟩
  ·subst h2;simp at hx
  ·refine⟨by rw[ha];rfl,fun j v hv=>?_⟩
   rw[ha]
   show w.cell? ⟨g,o+(i*ah.n α+j),none⟩=some v
   simp[World.cell?,hg,(h5 i x hx).1 j v hv]
theorem Kn.bP{e e2:TypeId}{r:SR (R α)}{xs:List α}(h:Has H (Dc.bP (fun _=>True) e e2 r xs)):Kn κ H (α:=List α) r xs:=fun S w hm=>by
 have h0:=h.φ hm
 have h1:=h0.1 _ List.mem_cons_self
 have h2:=h0.1 _ (List.mem_cons_of_mem _ List.mem_cons_self)
 refine⟨(Dc.bP (fun _=>True) e e2 r xs).fp,fun k hk=>⟨_,h.mem,hk⟩,?_⟩
 by_cases hne:xs=[]
 ·subst hne
  exact⟨Nat.zero_le _,by simp,fun i x hx=>by simp at hx⟩
 ·obtain⟨g,o,cur,ha,hg,g3,g4,g5⟩:=h1.2.resolve_left (fun h=>hne h.2.1)
  refine⟨g3,h1.1,fun i x hx=>⟨by rw[ha];rfl,.inr ⟨_,List.mem_cons_self,_,ha,by rw[ha];rfl⟩,fun j v hv=>?_,Inner.okI _ _ _ _ ?_⟩⟩
  ·rw[ha]
   show w.cell? ⟨g,o+(i*ah.n α+j),none⟩=some v
   simp[World.cell?,hg,(g5 i x hx).1 j v hv]
  ·refine qU.mono (fun k hk=>?_) (abb (h2.1 i x hx trivial))
   rcases hk with hk|⟨p,hp,rfl⟩
   ·exact .inl hk
   ·exact .inr ⟨_,List.mem_cons_of_mem _ List.mem_cons_self,i,x,p,hx,trivial,hp,rfl⟩
theorem Mem.EN{e e2:TypeId}{r:SR (R α)}{xs:List α}{w:World}{H':List Chunk}(hm:Mem κ H w)(hu:fq H (Dc.bP (fun _=>True) e e2 r xs) (aj e r xs) H'):Mem κ H' w:=by
 obtain⟨S,hs⟩:=hm
 have h0:=hs.all _ hu.has.mem
 have h1:=h0.1.1 _ List.mem_cons_self
 have h2:=h0.1.1 _ (List.mem_cons_of_mem _ List.mem_cons_self)
 have hdd:=agX h0.1.2
 have ahK:∀k,(o8 (fun _=>True) e2 r xs).fp k→(Dc.bP (fun _=>True) e e2 r xs).fp k:=fun k hk=>⟨_,List.mem_cons_of_mem _ List.mem_cons_self,hk⟩
 refine⟨fun k=>S k∨(o8 (fun _=>True) e2 r xs).fp k,hs.upd hu (Frame.refl _ w) (fun _ h=> .inl h) (fun k hk=>?_) (fun k hk=>?_) ⟨h1.1,?_⟩ (fun k hk=>?_)⟩
 ·exact hk.elim .inl (fun h=> .inr (.inl (ahK k h)))
 ·exact hk.elim (hs.lt k) (fun h=>(h0.2 k (ahK k h)).1)
 ·rcases h1.2 with h3|⟨g,o,cur,ha,hg,g3,g4,g5⟩
  ·exact .inl h3
  ·refine .inr ⟨g,o,cur,ha,hg,g3,g4,fun i x hx=>⟨(g5 i x hx).1,Inner.okI _ _ _ _ ?_⟩⟩
   refine qU.mono (fun k hk=>?_) (abb (h2.1 i x hx trivial))
   rcases hk with hk|⟨p,hp,rfl⟩
   ·exact .inl hk
   ·exact .inr ⟨i,x,p,hx,trivial,hp,rfl⟩
 ·have hk':(Dc.bP (fun _=>True) e e2 r xs).fp k:=⟨_,List.mem_cons_self,hk⟩
  exact⟨.inl hk',(h0.2 k hk').1,fun h=>h.elim (h0.2 k hk').2.1 (fun h=>hdd k hk h)⟩
theorem Mem.Cv{e e2:TypeId}{es:Nat→R α}{w:World}{H':List Chunk}(hm:Mem κ H w)
  (hu:fq H (aj e (⟨none,0,es⟩:SR (R α)) ([]:List α)) (Dc.bP (fun _=>True) e e2 (⟨none,0,es⟩:SR (R α)) ([]:List α)) H'):Mem κ H' w:=by
 obtain⟨S,hs⟩:=hm
 have no:∀k,¬(Dc.bP (fun _=>True) e e2 (⟨none,0,es⟩:SR (R α)) ([]:List α)).fp k:=by
  rintro k ⟨c,hc,hk⟩
  rcases List.mem_cons.1 hc with rfl|hc
  ·obtain⟨p,hp,_⟩:=hk;cases hp
  ·obtain rfl:=List.mem_singleton.1 hc
   obtain⟨i,x,p,hx,_⟩:=hk;simp at hx
 refine⟨S,hs.upd hu (Frame.refl _ w) (fun _ h=>h) (fun _ h=> .inl h) hs.lt ⟨fun c hc=>?_,?_⟩ (fun k hk=>(no k hk).elim)⟩
 ·rcases List.mem_cons.1 hc with rfl|hc
  ·exact⟨by simp,.inl ⟨rfl,rfl,rfl⟩⟩
  ·obtain rfl:=List.mem_singleton.1 hc
   exact⟨fun i x hx=>by simp at hx,fun i j x y p q _ hx=>by simp at hx⟩
 ·rw[List.pairwise_cons]
  refine⟨fun c hc k hk=>?_,by simp⟩
  obtain⟨p,hp,_⟩:=hk;cases hp
/-! ### Append -/
structure Raw(α:Type)[ah α] where
 l:List Value
 hl:l.length=ah.n α
 h1:∀v∈l,v.oneCell'=true
instance:ah (Raw α) where
 R:=Unit
 n:=ah.n α
 bytes:=ah.bytes α
 enc:=fun _ x=>x.l
 ok:=fun _ _ _ _=>True
 npos:=ah.npos
 bpos:=ah.bpos
 len:=fun _ x=>x.hl
 one:=fun _ x=>x.h1
 mono:=fun _ _ _ _ _ _ h=>h
 dep:=fun _ _ _ _ _ _ h=>h
def raw(r:R α)(x:α):Raw α:=⟨enc r x,ah.len r x,ah.one r x⟩
def xZ(es:Nat→R α)(xs:List α):List (Raw α):=xs.mapIdx fun i x=>raw (es i) x
theorem ZJ(es:Nat→R α)(xs:List α)(i:Nat):(xZ es xs)[i]?=(xs[i]?).map (raw (es i)):=by simp[xZ]
theorem Bl(es:Nat→R α)(xs:List α):(xZ es xs).length=xs.length:=by simp[xZ]
theorem auA(es es':Nat→R α)(q:R α)(xs:List α)(x:α)(h:∀i,i<xs.length→es' i=es i)(hq:es' xs.length=q):xZ es' (xs++[x])=xZ es xs++[raw q x]:=by
 apply List.ext_getElem?
 intro i
 rw[ZJ]
 by_cases hi:i<xs.length
 ·rw[List.getElem?_append_left hi,List.getElem?_append_left (by rw[Bl];exact hi),ZJ,h i hi]
 ·by_cases he:i=xs.length
  ·subst he
   rw[List.getElem?_append_right (Nat.le_refl _),List.getElem?_append_right (by rw[Bl];exact Nat.le_refl _),Bl,hq]
   simp
  ·rw[List.getElem?_append_right (by omega),List.getElem?_append_right (by rw[Bl];omega),Bl]
   rw[List.getElem?_eq_none (by simp;omega),List.getElem?_eq_none (by simp;omega)]
   rfl
theorem ahE{e:TypeId}{r:SR (R α)}{xs:List α}{S:aW}{w:World}:(hrow (fun _=>False) e r xs).φ S w↔(aj (α:=Raw α) e (⟨r.a,r.cap,fun _=>()⟩:SR (R (Raw α))) (xZ r.es xs)).φ S w:=by
 constructor
 ·rintro⟨h1,h2⟩
  refine⟨by rw[Bl];exact h1,?_⟩
  rcases h2 with ⟨a1,a2,a3⟩|⟨g,o,cur,ha,hg,g3,g4,g5⟩
  ·exact .inl ⟨a1,by subst a2;rfl,a3⟩
  ·refine .inr ⟨g,o,cur,ha,hg,by rw[Bl];exact g3,g4,fun i x hx=>⟨fun j v hv=>?_,trivial⟩⟩
   rw[ZJ] at hx
   cases hxi:xs[i]? with
   |none=>rw[hxi] at hx;cases hx
   |some y=>
    rw[hxi] at hx
    obtain rfl:=Option.some.inj hx
    exact (g5 i y hxi).1 j v hv
 ·rintro⟨h1,h2⟩
  rw[Bl] at h1
  refine⟨h1,?_⟩
  rcases h2 with ⟨a1,a2,a3⟩|⟨g,o,cur,ha,hg,g3,g4,g5⟩
  ·refine .inl ⟨a1,?_,a3⟩
   have:=congrArg List.length a2
   rw[Bl] at this
   exact List.length_eq_zero_iff.1 this
  ·rw[Bl] at g3
   refine .inr ⟨g,o,cur,ha,hg,g3,g4,fun i x hx=>⟨fun j v hv=>?_,fun h=>h.elim⟩⟩
   exact (g5 i (raw (r.es i) x) (by rw[ZJ,hx];rfl)).1 j v hv
theorem akV {x y : Operand} {t e e2 sz kC d : Nat} {ty : TypeId} {pos : String} {aU : Array Edge} {gd : Option (Nat × Bool)} {r r2 : SR (R α)} {xs : List α} {u : α} {m m2 : Nat} {H1 : List Chunk} (q0 : R α)
  (hsel : pQ H (Dc.bP (fun _ => True) e e2 r xs) H1) (h2 : Has H1 (aj e r2 [u])) (hr2 : ∀ i, r2.es i = q0) (hu : Inner.get u = []) (hq : (Inner.rep q0).a = none ∧ (Inner.rep q0).cap = 0)
  (hb : (xs.length + 1) * kC ≤ 140737488355328)
  (k : ∀ r' : SR (R α), C ((d, .v (.slice r'.a (xs ++ [u]).length r'.cap)) :: ρ) (Dc.bP (fun _ => True) e e2 r' (xs ++ [u]) :: H1))
  (hx : Gets ρ true x (.slice r.a m r.cap) := by exact gT) (hy : Gets ρ true y (.slice r2.a m2 r2.cap) := by exact gT)
  (hm1 : m = xs.length := by first | rfl | simp only [List.length_set, List.length_append, List.length_replicate]) (hm2 : m2 = 1 := by first | rfl | simp only [List.length_set, List.length_append, List.length_replicate])
  (hd : Nat.blt d n = true := by rfl) (hsz : ah.n α = sz := by rfl) (hby : ah.bytes α = kC := by rfl) (hi : Fu P t e sz kC = true := by kernel_rfl) :
  jE P n κ ⟨some d, .call { callee := .builtin .append, args := #[x, y], argTypes := #[t, t] }, ty, pos, aU, gd⟩ ρ H C := by
 subst hm1 hm2
 intro K Q hs w act hm ho
 let r1 : SR (R (Raw α)) := ⟨r.a, r.cap, fun _ => ()⟩
 let r3 : SR (R (Raw α)) := ⟨r2.a, r2.cap, fun _ => ()⟩
 have hm' : Mem κ (aj (α := Raw α) e r1 (xZ r.es xs) :: o8 (fun _ => True) e2 r xs :: H1) w := by
  obtain ⟨S, hm⟩ := hm
  have h := hm.aep hsel
  exact ⟨S, h.aa5 (ahE.1 (h.all _ List.mem_cons_self).1) (fun _ h => h)⟩
 have hk : Kn κ (aj (α := Raw α) e r1 (xZ r.es xs) :: o8 (fun _ => True) e2 r xs :: H1) (α := List (Raw α)) r3 [raw q0 u] := fun S w hms => by
  have hmem : aj e r2 [u] ∈ (aj (α := Raw α) e r1 (xZ r.es xs) :: o8 (fun _ => True) e2 r xs :: H1) := List.mem_cons_of_mem _ (List.mem_cons_of_mem _ h2.mem)
  have hφ := (hms.all _ hmem).1
  refine ⟨(aj e r2 [u]).fp, fun k hk => ⟨_, hmem, hk⟩, ?_⟩
  rcases hφ.2 with ⟨_, a2, _⟩ | ⟨g, o, cur, ha, hg, g3, g4, g5⟩
  ·cases a2
  ·refine ⟨g3, hφ.1, fun i x hx => ?_⟩
   have hi0 : i = 0 := by
    have := (List.getElem?_eq_some_iff.1 hx).1
    simp at this; exact this
   subst hi0
   obtain rfl : raw q0 u = x := by simpa using hx
   refine ⟨by show r2.a = _; rw [ha]; rfl, .inr ⟨_, ha, by show sb r2.a = _; rw [ha]; rfl⟩, fun j v hv => ?_, trivial⟩
   show w.cell? ⟨sb r2.a, so r2.a + (0 * ah.n α + j), none⟩ = _
   rw [ha]
   have := (g5 0 u rfl).1 j v (by rw [hr2 0]; exact hv)
   show w.cell? ⟨g, o + (0 * ah.n α + j), none⟩ = _
   simp only [World.cell?, hg]
   simpa using this
 have hst : jE P n κ ⟨some d, .call { callee := .builtin .append, args := #[x, y], argTypes := #[t, t] }, ty, pos, aU, gd⟩ ρ (aj (α := Raw α) e r1 (xZ r.es xs) :: o8 (fun _ => True) e2 r xs :: H1)
   (fun ρ' H' => ∃ r' : SR (R (Raw α)), ρ' = (d, .v (.slice r'.a (xZ r.es xs ++ [raw q0 u]).length r'.cap)) :: ρ ∧ H' = aj (α := Raw α) e r' (xZ r.es xs ++ [raw q0 u]) :: o8 (fun _ => True) e2 r xs :: H1) := by
  refine iq (α := Raw α) (e := e) (sz := sz) (kC := kC) (xs := xZ r.es xs) (ys := [raw q0 u]) (m := xs.length) (m2 := 1) (r := r1) (r2 := r3)
   (H' := fun r' => aj (α := Raw α) e r' (xZ r.es xs ++ [raw q0 u]) :: o8 (fun _ => True) e2 r xs :: H1) ?_ hk ?_ ?_ ?_ hx hy ?_ ?_ hd hsz hby hi
  ·intro r'; exact fq.head
  ·intro _ _ _ _ _ _; trivial
  ·rw [Bl]; exact hb
  ·intro r'; exact ⟨r', rfl, rfl⟩
  ·rw [Bl]
  ·rfl
 refine hst K Q ?_ w act hm' ho
 rintro ρ' H' ⟨r', rfl, rfl⟩ w' a' ⟨S, hw⟩ ho'
 let r4 : SR (R α) := ⟨r'.a, r'.cap, fun i => if i < xs.length then r.es i else q0⟩
 have e4 : ∀ i, i < xs.length → r4.es i = r.es i := fun i hi => if_pos hi
 have e5 : r4.es xs.length = q0 := if_neg (Nat.lt_irrefl _)
 have hl : (xZ r.es xs ++ [raw q0 u]).length = (xs ++ [u]).length := by simp [Bl]
 rw [hl] at ho'
 refine hs _ _ (k r4) w' a' ⟨S, ?_⟩ ho'
 rw [← auA r.es r4.es q0 xs u e4 e5] at hw
 have hw1 : dW S κ (hrow (fun _ => False) e r4 (xs ++ [u]) :: o8 (fun _ => True) e2 r xs :: H1) w' := hw.aa5 (ahE.2 (hw.all _ List.mem_cons_self).1) (fun _ h => h)
 -- an element is one of the old ones, or the new one
 have el : ∀ (i : Nat) (x : α), (xs ++ [u])[i]? = some x → (i < xs.length ∧ xs[i]? = some x) ∨ (i = xs.length ∧ x = u) := fun i x hx => by
  by_cases hlt : i < xs.length
  ·exact .inl ⟨hlt, by rwa [List.getElem?_append_left hlt] at hx⟩
  ·right
   rw [List.getElem?_append_right (by omega)] at hx
   have hlt2 := (List.getElem?_eq_some_iff.1 hx).1
   simp at hlt2
   have : i = xs.length := by omega
   subst this
   simp at hx
   exact ⟨rfl, hx.symm⟩
 have nn : ∀ (i : Nat) (x : α) (p : Addr), (xs ++ [u])[i]? = some x → (Inner.rep (r4.es i)).a = some p → i < xs.length ∧ xs[i]? = some x ∧ (Inner.rep (r.es i)).a = some p := fun i x p hx hp => by
  rcases el i x hx with ⟨hlt, hxi⟩ | ⟨rfl, _⟩
  ·rw [e4 i hlt] at hp; exact ⟨hlt, hxi, hp⟩
  ·rw [e5, hq.1] at hp; cases hp
 have h1 := hw1.flip
 have hφ := (h1.all _ List.mem_cons_self).1
 have h3 : dW S κ (o8 (fun _ => True) e2 r4 (xs ++ [u]) :: hrow (fun _ => False) e r4 (xs ++ [u]) :: H1) w' := by
  refine h1.aa5 ⟨fun i x hx _ => ?_, fun i j x y p q hne hx hy _ _ hp hq' => ?_⟩ ?_
  ·rcases el i x hx with ⟨hlt, hxi⟩ | ⟨rfl, rfl⟩
   ·rw [e4 i hlt]; exact hφ.1 i x hxi trivial
   ·rw [e5, hu]; exact ⟨by simp, .inl ⟨hq.1, rfl, hq.2⟩⟩
  ·obtain ⟨_, hxi, hpi⟩ := nn i x p hx hp
   obtain ⟨_, hyj, hqj⟩ := nn j y q hy hq'
   exact hφ.2 i j x y p q hne hxi hyj trivial trivial hpi hqj
  ·rintro kk ⟨i, x, p, hx, _, hp, rfl⟩
   obtain ⟨_, hxi, hpi⟩ := nn i x p hx hp
   exact ⟨i, x, p, hxi, trivial, hpi, rfl⟩
 exact dW.fold (cs := [hrow (fun _ => False) e r4 (xs ++ [u]), o8 (fun _ => True) e2 r4 (xs ++ [u])]) h3.flip
end
inductive Any where
 |s (x:Str)
 |i (x:Int)
 deriving DecidableEq,Inhabited
def Any.jv:Any→Bool
 | .s _=>true
 | .i _=>false
def Any.int:Any→Int
 | .s _=>0
 | .i x=>x
def ami(ts ti:Nat):Any→Value
 | .s x=> .iface ts (.string x.ba)
 | .i x=> .iface ti (.int .i64 x)
section
variable {P:Program}{n:Nat}{κ:Ctx}{ρ:Env}{H:List Chunk}{g:Bool}
/-! ### Regions of many orders, the last operation of which writes what the others read -/
variable {ops:Array Oper}{K:Act→World→Prop}{Hs:List Chunk}{z fuel:Nat}{listed:Array Bool}
end
section
variable {P:Program}{n:Nat}{κ:Ctx}{ρ:Env}{H:List Chunk}{g:Bool}{C:Env→List Chunk→Prop}
theorem hA{H:List Chunk}{c:Chunk}(h:Has H c:=by repeat (first|exact Has.head|apply Has.tail)):Has H c:=h
theorem uA{H H':List Chunk}{c c':Chunk}(h:fq H c c' H':=by repeat (first|exact fq.head|apply fq.tail)):fq H c c' H':=h
theorem uR{α:Type}{H:List Chunk}{c:Chunk}{c':α→Chunk}{H':α→List Chunk}(h:∀r',fq H c (c' r') (H' r'):=by intro r';repeat (first|exact fq.head|apply fq.tail)):∀r',fq H c (c' r') (H' r'):=h
theorem sA{H H' cs:List Chunk}(h:iO H cs H':=by repeat (first|exact iO.nil|(apply iO.cons;· (repeat (first|exact pQ.head|apply pQ.tail))))):iO H cs H':=h
theorem s1{H H':List Chunk}{c:Chunk}(h:pQ H c H':=by repeat (first|exact pQ.head|apply pQ.tail)):pQ H c H':=h
theorem rI{H H':List Chunk}(h:∀w,Mem κ H w→Mem κ H' w:=by intro w hm;exact hm.jg):∀w,Mem κ H w→Mem κ H' w:=h
theorem kI{α:Type}[ah α]{S:aW}{w:World}{r:R α}{x:α}(hs:dW S κ H w)(h:Has H (dw r x):=by repeat (first|exact Has.head|apply Has.tail)):ok S w r x:=h.φ hs
theorem kM{α:Type}[ah α]{S:aW}{w:World}{r:R α}{x:α}(hs:dW S κ H w)(h:Has H (dw r x):=by repeat (first|exact Has.head|apply Has.tail)):ok (lend S H) w r x:=Kn.lend (Kn.dw h) hs
theorem kT{α:Type}[ah α]{e:TypeId}{S:aW}{w:World}{r:SR (R α)}{x:List α}(hs:dW S κ H w)(h:Has H (aj e r x):=by repeat (first|exact Has.head|apply Has.tail)):ok (α:=List α) (lend S H) w r x:=Kn.lend (Kn.aj h) hs
theorem oF{α:Type}[ah α]{es:Nat→R α}{xs:List α}(h:∀S w r x,ok (α:=α) S w r x:=by exact fun _ _ _ _=>trivial):jV κ H es xs:=jV.flat h
theorem iS{α:Type}{xs:List α}{i:Int}{x:α}(h:idx xs i=some x){g:Bool}:g=true→0≤i∧i<xs.length:=fun _=>⟨(jX h).1,(jX h).2.1⟩
theorem iT{α:Type}{b:Bool}{x y r:α}(h:b=true)(hM:(if b then x else y)=r):x=r:=(Oe h).symm.trans hM
theorem iF{α:Type}{b:Bool}{x y r:α}(h:b=false)(hM:(if b then x else y)=r):y=r:=(Od h).symm.trans hM
theorem fG{β:Type}{cs':β→List Chunk}(h:∀r c,c∈cs' r→Q8 c:=by (intro r c hc;simp only[List.mem_cons,List.not_mem_nil,or_false] at hc;repeat (first|(rcases hc with rfl|hc;(first|exact Yl|exact ach (fun _ _ _ _=>trivial)))|(subst hc;(first|exact Yl|exact ach (fun _ _ _ _=>trivial)))))):∀r c,c∈cs' r→Q8 c:=h
section
variable {Q:Exit→Act→World→Prop}{ops:Array Oper}{rest:List Oper}
theorem sr{id:Nat}{l:List Oper}{y:Code}(h:OW P n κ l.toArray (Exit.then (y.wp P Q) Q) l ρ H):CW P n κ (.seq (.region id l.toArray false) y) Q ρ H:=
 fun w a hm ho=>wp_seq (bg h w a hm ho)
theorem on{y:Code}(h:CW P n κ y Q ρ H):OW P n κ ops (Exit.then (y.wp P Q) Q) [] ρ H:=bq h
theorem oe{op:Op}{v:Value}{d:Nat}{ty:TypeId}{pos:String}{aU:Array Edge}
 (h:Ev P n κ H ρ true op v)(k:OW P n κ ops Q rest ((d,.v v)::ρ) H)(hd:Nat.blt d n=true:=by rfl):
 OW P n κ ops Q (⟨some d,op,ty,pos,aU,none⟩::rest) ρ H:=lG h k hd
theorem om{x:Operand}{v:Value}{d:Nat}{ty:TypeId}{pos:String}{aU:Array Edge}(k:OW P n κ ops Q rest ((d,.v v)::ρ) H)
 (hx:Gets ρ true x v:=by exact gT)(hd:Nat.blt d n=true:=by rfl):OW P n κ ops Q (⟨some d,.move x,ty,pos,aU,none⟩::rest) ρ H:=lG (dJ hx) k hd
theorem oa{x:Operand}{v:Value}{d:Nat}{ty:TypeId}{pos:String}{aU:Array Edge}(k:OW P n κ ops Q rest ((d,.v v)::ρ) H)
 (hx:Gets ρ true x v:=by exact gT)(hd:Nat.blt d n=true:=by rfl):OW P n κ ops Q (⟨some d,.assign x,ty,pos,aU,none⟩::rest) ρ H:=lG (eX hx) k hd
theorem cc{α:Type}{c:Operand}{x y:Code}{t:Bool}{X Y r:α}(hc:wh ρ c=some (.v (.bool t)))(hM:(if t then X else Y)=r)(ht:t=true→X=r→CW P n κ x Q ρ H)(hf:t=false→Y=r→CW P n κ y Q ρ H):
 CW P n κ (.cond c x y) Q ρ H:=xE hc (fun h=>ht h (iT h hM)) (fun h=>hf h (iF h hM))
theorem pI{T:TypeId}{b:Nat}{l:List Value}{ps:List (Nat×Value)}{H1 H2 Hs:List Chunk}(hu:fq H (own b T l) (vJ b ps) H1:=by repeat (first|exact fq.head|apply fq.tail))
  (hp:∀p∈ps,l[p.1]?=some p.2:=by intro p hp;simp only[List.mem_cons,List.not_mem_nil,or_false] at hp;repeat (first|(rcases hp with rfl|hp;rfl)|(rcases hp with rfl;rfl)))
  (hr:iO H1 (vJ b ps::Hs) H2:=by repeat (first|exact iO.nil|(apply iO.cons;· (repeat (first|exact pQ.head|apply pQ.tail))))):∀w,Mem κ H w→Mem κ (vJ b ps::Hs) w:=
 fun w hm=>(hm.vJ ps hu hp).jg hr
end
end
abbrev sL{ρ α:Type}(r:SR ρ)(l:List α):Value:= .slice r.a l.length r.cap
abbrev vI(x:Int):Value:= .int .i64 x
abbrev z0:Value:= .slice none 0 0
abbrev vP(b:Nat):Value:= .pointer (some ⟨b,0,none⟩)
abbrev eP(b:Nat):EV:= .v (.pointer (some ⟨b,0,none⟩))
abbrev eI(x:Int):EV:= .v (.int .i64 x)
abbrev eS{ρ α:Type}(r:SR ρ)(l:List α):EV:= .v (.slice r.a l.length r.cap)
abbrev iL{α:Type}[ah α](x:List α)(r:ah.R (List α)):Chunk:=dw (α:=List α) r x
abbrev sB(S:aW)(w:World):Prop:=∀k,S k→k<w.heap.size
section
variable {P:Program}{n:Nat}{κ:Ctx}{ρ:Env}{H:List Chunk}{g:Bool}
theorem kG{α:Type}[ah α](x:List α)(r:ah.R (List α))(h:Has H (dw (α:=List α) r x):=by repeat (first|exact Has.head|apply Has.tail)):Kn κ H (α:=List α) r x:=Kn.dw h
end
section
variable {P:Program}{n:Nat}{κ:Ctx}{ρ:Env}{H:List Chunk}{Q:Exit→Act→World→Prop}{ops:Array Oper}{rest:List Oper}
theorem sS{ρ' ρ:Env}(h:tF ρ' ρ:=by repeat (first|exact trivial|refine And.intro rfl ?_)):tF ρ' ρ:=h
theorem cA{α:Type}(a:α)(l r:List α):a::l++r=a::(l++r):=rfl
theorem nA{α:Type}(r:List α):[]++r=r:=rfl
theorem aN{y:Code}{x:Operand}{v:Value}{d:Nat}{ty:TypeId}{pos:String}{aU:Array Edge}(k:CW P n κ y Q ((d,.v v)::ρ) H)
 (hx:Gets ρ true x v:=by exact gT)(hd:Nat.blt d n=true:=by rfl):OW P n κ ops (Exit.then (y.wp P Q) Q) [⟨some d,.assign x,ty,pos,aU,none⟩] ρ H:=oa (on k) hx hd
theorem aJ{id:Nat}{y:Code}{x:Operand}{v:Value}{d:Nat}{ty:TypeId}{pos:String}{aU:Array Edge}(k:CW P n κ y Q ((d,.v v)::ρ) H)
 (hx:Gets ρ true x v:=by exact gT)(hd:Nat.blt d n=true:=by rfl):CW P n κ (.seq (.region id [⟨some d,.assign x,ty,pos,aU,none⟩].toArray false) y) Q ρ H:=sr (aN k hx hd)
theorem aR{id:Nat}{l:List Oper}{y:Code}{x:Operand}{v:Value}{d:Nat}{ty:TypeId}{pos:String}{aU:Array Edge}(k:OW P n κ (⟨some d,.move x,ty,pos,aU,none⟩::l).toArray (Exit.then (y.wp P Q) Q) l ((d,.v v)::ρ) H)
 (hx:Gets ρ true x v:=by exact gT)(hd:Nat.blt d n=true:=by rfl):CW P n κ (.seq (.region id (⟨some d,.move x,ty,pos,aU,none⟩::l).toArray false) y) Q ρ H:=sr (om k hx hd)
/-! ### Returns -/
theorem aZ{α:Type}{S:aW}{w0:World}{fn:Func}{r:ResultVar}{x y:α}{V v:Value}(hM:some x=some y)(hr:fn.results= #[r]:=by rfl)
 (hv:qD P ρ H r v:=by first|exact .tmp rfl|exact .cell rfl (by repeat (first|exact Has.head|apply Has.tail)) rfl (by kernel_rfl))(he:y=x→v=V:=by intro h;subst h;rfl):
 KW n (rJ w0 S []) (fun a w=>bodyPost P fn (bM w0 V) .ret a w) ρ H:=eG (fun w hm=>oG hm (he (some_inj hM))) hr hv
theorem uS{α:Type}{S:aW}{w0:World}{fn:Func}{r1 r2:ResultVar}{x y:α}{V v1 v2:Value}(hM:some x=some y)(hr:fn.results= #[r1,r2]:=by rfl)
 (hv1:qD P ρ H r1 v1:=by first|exact .tmp rfl|exact .cell rfl (by repeat (first|exact Has.head|apply Has.tail)) rfl (by kernel_rfl))
 (hv2:qD P ρ H r2 v2:=by first|exact .tmp rfl|exact .cell rfl (by repeat (first|exact Has.head|apply Has.tail)) rfl (by kernel_rfl))(he:y=x→ .tuple #[v1,v2]=V:=by intro h;subst h;rfl):
 KW n (rJ w0 S []) (fun a w=>bodyPost P fn (bM w0 V) .ret a w) ρ H:=qZ (fun w hm=>oG hm (he (some_inj hM))) hr hv1 hv2
theorem JO{α:Type}{S:aW}{w0:World}{fn:Func}{r1 r2 r3:ResultVar}{x y:α}{V v1 v2 v3:Value}(hM:some x=some y)(hr:fn.results= #[r1,r2,r3]:=by rfl)
 (hv1:qD P ρ H r1 v1:=by first|exact .tmp rfl|exact .cell rfl (by repeat (first|exact Has.head|apply Has.tail)) rfl (by kernel_rfl))
 (hv2:qD P ρ H r2 v2:=by first|exact .tmp rfl|exact .cell rfl (by repeat (first|exact Has.head|apply Has.tail)) rfl (by kernel_rfl))
 (hv3:qD P ρ H r3 v3:=by first|exact .tmp rfl|exact .cell rfl (by repeat (first|exact Has.head|apply Has.tail)) rfl (by kernel_rfl))(he:y=x→ .tuple #[v1,v2,v3]=V:=by intro h;subst h;rfl):
 KW n (rJ w0 S []) (fun a w=>bodyPost P fn (bM w0 V) .ret a w) ρ H:=qp (fun w hm=>oG hm (he (some_inj hM))) hr hv1 hv2 hv3
/-! ### Calls, boxes, stores -/
section
variable {f d:Nat}{xs:List Operand}{vs:List Value}{v:Value}{ts:Array TypeId}{ty:TypeId}{pos:String}{aU:Array Edge}
theorem cv(hc:∀{S:aW}{w:World},dW S κ H w→Calls P f vs.toArray w (bM w v))(k:OW P n κ ops Q rest ((d,.v v)::ρ) H)
  (ha:ku ρ true xs vs:=by repeat (first|exact ku.nil|(apply ku.cons;first|exact .plain rfl|exact .cond rfl id|exact .cond rfl gl)))
  (hd:Nat.blt d n=true:=by rfl)(hf:callable P f=true:=by kernel_rfl):OW P n κ ops Q (⟨some d,.call {callee:= .value (.func f),args:=xs.toArray,argTypes:=ts},ty,pos,aU,none⟩::rest) ρ H:=
 bf (jh (fun _ hm=>let ⟨_,hs⟩:=hm;hc hs) k ha hd hf)
theorem sV{gd:Option (Nat×Bool)}{C:Env→List Chunk→Prop}(hc:∀{S:aW}{w:World},dW S κ H w→Calls P f vs.toArray w (bM w v))(k:C ((d,.v v)::ρ) H)
  (ha:ku ρ true xs vs:=by repeat (first|exact ku.nil|(apply ku.cons;first|exact .plain rfl|exact .cond rfl id|exact .cond rfl gl)))
  (hd:Nat.blt d n=true:=by rfl)(hf:callable P f=true:=by kernel_rfl):jE P n κ ⟨some d,.call {callee:= .value (.func f),args:=xs.toArray,argTypes:=ts},ty,pos,aU,gd⟩ ρ H C:=
 jh (fun _ hm=>let ⟨_,hs⟩:=hm;hc hs) k ha hd hf
theorem cg{j:Nat}{want g:Bool}(hg:yH ops ρ j want=some g)(hc:∀{S:aW}{w:World},g=true→dW S κ H w→Calls P f vs.toArray w (bM w v))(k:OW P n κ ops Q rest ((d,.c g v)::ρ) H)
  (ha:ku ρ g xs vs:=by repeat (first|exact ku.nil|(apply ku.cons;first|exact .plain rfl|exact .cond rfl id|exact .cond rfl gl)))
  (hd:Nat.blt d n=true:=by rfl)(hf:callable P f=true:=by kernel_rfl):OW P n κ ops Q (⟨some d,.call {callee:= .value (.func f),args:=xs.toArray,argTypes:=ts},ty,pos,aU,some (j,want)⟩::rest) ρ H:=
 aer hg (fun h _ hm=>let ⟨_,hs⟩:=hm;hc h hs) k ha hd hf
end
section
variable {T d:Nat}{ty:TypeId}{pos:String}{aU:Array Edge}{l:List Value}
theorem oA(hz:KA P T=some l)(k:∀b,OW P n κ ops Q rest ((d,.v (.pointer (some ⟨b,0,none⟩)))::ρ) (own b T l::H))(hd:Nat.blt d n=true:=by rfl):OW P n κ ops Q (⟨some d,.alloc T,ty,pos,aU,none⟩::rest) ρ H:=bf (gU hz k hd)
theorem oB(l:List Value){x:Operand}(k:∀b,OW P n κ ops Q rest ((d,.v (.pointer (some ⟨b,0,none⟩)))::ρ) (own b T l::H))
 (hx:Gets ρ true x (.agg l.toArray):=by exact gT)(hd:Nat.blt d n=true:=by rfl):OW P n κ ops Q (⟨some d,.box T x,ty,pos,aU,none⟩::rest) ρ H:=bf (Dh hx k hd)
variable {K:Act→World→Prop}{Hs:List Chunk}{fuel:Nat}{listed:Array Bool}
theorem aA(i:Nat)(hi:ops[i]?=some ⟨some d,.alloc T,ty,pos,aU,none⟩)(hz:KA P T=some l)(k:∀b,AW P n κ ops K Hs fuel (listed.setIfInBounds i true) ((d,.v (.pointer (some ⟨b,0,none⟩)))::ρ) (own b T l::H))
  (himp:∀b w,Mem κ (own b T l::H) w→Mem κ Hs w:=by intro b w hm;exact hm.jg)(hd:Nat.blt d n=true:=by rfl)(hr:Region.ready .any ops listed=[i]:=by kernel_rfl):AW P n κ ops K Hs (fuel+1) listed ρ H:=
 bT i hi (gU hz (fun b=>⟨himp b,k b⟩) hd) rfl hr
end
section
variable {x y:Operand}{t T m:Nat}{ty:TypeId}{pos:String}{aU:Array Edge}{l:List Value}{v:Value}{H':List Chunk}
theorem oS(b:Nat)(vs:List Value)(k:OW P n κ ops Q rest ρ H')(hx:Gets ρ true x (.pointer (some ⟨b,0,none⟩)):=by exact gT)(hy:Gets ρ true y v:=by exact gT)(hvs:v.cells=vs.toArray:=by rfl)
  (hlen:vs.length=m:=by rfl)(hu:fq H (own b T l) (own b T vs) H':=by repeat (first|exact fq.head|apply fq.tail))
  (hl:l.length=m:=by rfl)(h10:vs.all Value.oneCell'=true:=by rfl)
  (ht:P.cellsOf t=m:=by kernel_rfl)(hti:(P.info? t).isSome=true:=by kernel_rfl):OW P n κ ops Q (⟨none,.store t x y,ty,pos,aU,none⟩::rest) ρ H:=
 bf (lH (hx:=hx) (hy:=hy) (hvs:=hvs) (hlen:=hlen) (hu:=hu) (hl:=hl) (h10:=h10) (ht:=ht) (hti:=hti) (k:=k))
variable {K:Act→World→Prop}{Hs:List Chunk}{fuel:Nat}{listed:Array Bool}
theorem aS(i:Nat)(hi:ops[i]?=some ⟨none,.store t x y,ty,pos,aU,none⟩)(b:Nat)(vs:List Value)(k:AW P n κ ops K Hs fuel (listed.setIfInBounds i true) ρ H')
  (hx:Gets ρ true x (.pointer (some ⟨b,0,none⟩)):=by exact gT)(hy:Gets ρ true y v:=by exact gT)(hvs:v.cells=vs.toArray:=by rfl)
  (hlen:vs.length=m:=by rfl)(hu:fq H (own b T l) (own b T vs) H':=by repeat (first|exact fq.head|apply fq.tail))
  (hl:l.length=m:=by rfl)(h10:vs.all Value.oneCell'=true:=by rfl)
  (ht:P.cellsOf t=m:=by kernel_rfl)(hti:(P.info? t).isSome=true:=by kernel_rfl)
  (himp:∀w,Mem κ H' w→Mem κ Hs w:=by intro w hm;exact hm.jg)(hr:Region.ready .any ops listed=[i]:=by kernel_rfl):AW P n κ ops K Hs (fuel+1) listed ρ H:=
 bT i hi (lH (hx:=hx) (hy:=hy) (hvs:=hvs) (hlen:=hlen) (hu:=hu) (hl:=hl) (h10:=h10) (ht:=ht) (hti:=hti) (k:=⟨himp,k⟩)) rfl hr
end
/-! ### Arithmetic that the model has checked -/
section
variable {β:Type}{k0:Option β}{r:β}{x y:Operand}{t u:TypeId}{p q:Int}{d:Nat}{ty:TypeId}{pos:String}{aU:Array Edge}
theorem oP(hM:aO (aX (p+q)) k0=some r)(k:k0=some r→OW P n κ ops Q rest ((d,.v (.int .i64 (p+q)))::ρ) H)(hx:Gets ρ true x (.int .i64 p):=by exact gT)
  (hy:Gets ρ true y (.int .i64 q):=by exact gT)(hd:Nat.blt d n=true:=by rfl):OW P n κ ops Q (⟨some d,.binOp .add t x y u,ty,pos,aU,none⟩::rest) ρ H:=
 lG (dP hx hy (fun _=>dU (bQ hM).1)) (k (bQ hM).2) hd
theorem oN(hM:aO (aX (p-q)) k0=some r)(k:k0=some r→OW P n κ ops Q rest ((d,.v (.int .i64 (p-q)))::ρ) H)(hx:Gets ρ true x (.int .i64 p):=by exact gT)
  (hy:Gets ρ true y (.int .i64 q):=by exact gT)(hd:Nat.blt d n=true:=by rfl):OW P n κ ops Q (⟨some d,.binOp .sub t x y u,ty,pos,aU,none⟩::rest) ρ H:=
 lG (pW hx hy (fun _=>dU (bQ hM).1)) (k (bQ hM).2) hd
end
/-! ### Loops and meetings -/
section
variable {σ θ β:Type}{y:β}
theorem lp{B:(σ→Option β)→σ→Option β}{body:Code}{s0:σ}(t0:θ)(hM:iter B FUEL s0=some y)(env:σ→θ→Env)(mem:σ→θ→List Chunk)(hs:tF (env s0 t0) ρ)(hH:∀w,Mem κ H w→Mem κ (mem s0 t0) w)
  (round:∀(c:σ→Option β) (s:σ) (t:θ),B c s=some y→∀K:Act→World→Prop,
   (∀(t':θ) {s':σ}{ρ':Env}{H':List Chunk},c s'=some y→tF (env s' t') ρ'→(∀w,Mem κ H' w→Mem κ (mem s' t') w)→KW n κ K ρ' H')→CW P n κ body (Exit.then K Q) (env s t) (mem s t)):CW P n κ (.loop body) Q ρ H:=
 Iu (γ:=Nat×σ×θ) (fun g=>env g.2.1 g.2.2) (fun g=>mem g.2.1 g.2.2) (fun g=>iter B g.1 g.2.1=some y) (fun g=>g.1) (FUEL,s0,t0) hM hs hH fun g hg K hK=>by
  obtain⟨m,s,t⟩:=g
  obtain⟨m,c,rfl,rfl,h⟩:=arX hg
  exact round _ s t h K fun t' s' ρ' H' e h1 h2=>hK (m,s',t') ρ' H' e (Nat.lt_succ_self _) h1 h2
theorem lq{B:(σ→Option β)→σ→Option β}{body:Code}{s0:σ}(hM:iter B FUEL s0=some y)(env:σ→Env)(mem:σ→List Chunk)(hs:tF (env s0) ρ)(hH:∀w,Mem κ H w→Mem κ (mem s0) w)
  (round:∀(c:σ→Option β) (s:σ),B c s=some y→∀K:Act→World→Prop,
   (∀{s':σ}{ρ':Env}{H':List Chunk},c s'=some y→tF (env s') ρ'→(∀w,Mem κ H' w→Mem κ (mem s') w)→KW n κ K ρ' H')→CW P n κ body (Exit.then K Q) (env s) (mem s)):CW P n κ (.loop body) Q ρ H:=
 lp () hM (fun s _=>env s) (fun s _=>mem s) hs hH fun c s _ h K hK=>round c s h K fun e h1 h2=>hK () e h1 h2
theorem jn(θ:Type)(y:β){k:σ→Option β}{x z:Code}(env:σ→θ→Env)(mem:σ→θ→List Chunk)
  (hx:∀K:Act→World→Prop,(∀(t:θ) {s:σ}{ρ':Env}{H':List Chunk},k s=some y→tF (env s t) ρ'→(∀w,Mem κ H' w→Mem κ (mem s t) w)→KW n κ K ρ' H')→CW P n κ x (Exit.then K Q) ρ H)
  (hz:∀s t,k s=some y→CW P n κ z Q (env s t) (mem s t)):CW P n κ (.seq x z) Q ρ H:=
 X9 (γ:=σ×θ) (fun g=>env g.1 g.2) (fun g=>mem g.1 g.2) (fun g=>k g.1=some y) (fun K hK=>hx K fun t s ρ' H' e h1 h2=>hK (s,t) ρ' H' e h1 h2) fun g hg=>hz g.1 g.2 hg
theorem jm(y:β){k:σ→Option β}{x z:Code}(env:σ→Env)(mem:σ→List Chunk)
  (hx:∀K:Act→World→Prop,(∀{s:σ}{ρ':Env}{H':List Chunk},k s=some y→tF (env s) ρ'→(∀w,Mem κ H' w→Mem κ (mem s) w)→KW n κ K ρ' H')→CW P n κ x (Exit.then K Q) ρ H)
  (hz:∀s,k s=some y→CW P n κ z Q (env s) (mem s)):CW P n κ (.seq x z) Q ρ H:=
 X9 env mem (fun s=>k s=some y) (fun K hK=>hx K fun e h1 h2=>hK _ _ _ e h1 h2) hz
end
end
section
variable {P:Program}{n:Nat}{κ:Ctx}{ρ:Env}{H:List Chunk}{Q:Exit→Act→World→Prop}{ops:Array Oper}{rest:List Oper}
theorem xS{d:Nat}{e:EV}:look ((d,e)::ρ) d=some e:=by simp[look]
section
variable {x:Operand}{s i b o t T d d2:Nat}{ty zn:TypeId}{pos pos2:String}{aU yB:Array Edge}{l:List Value}{v:Value}
theorem fo(off:Nat)(k:OW P n κ ops Q rest ((d2,.v v)::(d,.v (.pointer (some ⟨b,o+off,none⟩)))::ρ) H)
  (hx:Gets ρ true x (.pointer (some ⟨b,o,none⟩)):=by exact gT)(hf:EL P s i=some off:=by kernel_rfl)
  (hh:Has H (own b T l):=by repeat (first|exact Has.head|apply Has.tail))(hv:l[o+off]?=some v:=by rfl)(ht:mR P t=true:=by kernel_rfl)
  (hd:Nat.blt d n=true:=by rfl)(hd2:Nat.blt d2 n=true:=by rfl):OW P n κ ops Q (⟨some d,.fieldAddr s x i,ty,pos,aU,none⟩::⟨some d2,.load t (.tmp d),zn,pos2,yB,none⟩::rest) ρ H:=
 oe (aY off hx hf) (oe (gZ (.plain xS) hh hv ht) k hd2) hd
theorem fg{j:Nat}{want g:Bool}(off:Nat)(k:OW P n κ ops Q rest ((d2,.c g v)::(d,.c g (.pointer (some ⟨b,o+off,none⟩)))::ρ) H)(hg:yH ops ρ j want=some g:=by rfl)
  (hx:Gets ρ g x (.pointer (some ⟨b,o,none⟩)):=by exact gT)(hf:EL P s i=some off:=by kernel_rfl)
  (hh:Has H (own b T l):=by repeat (first|exact Has.head|apply Has.tail))(hv:l[o+off]?=some v:=by rfl)(ht:mR P t=true:=by kernel_rfl)
  (hg2:yH ops ((d,.c g (.pointer (some ⟨b,o+off,none⟩)))::ρ) j want=some g:=by rfl)
  (hd:Nat.blt d n=true:=by rfl)(hd2:Nat.blt d2 n=true:=by rfl):OW P n κ ops Q (⟨some d,.fieldAddr s x i,ty,pos,aU,some (j,want)⟩::⟨some d2,.load t (.tmp d),zn,pos2,yB,some (j,want)⟩::rest) ρ H:=
 bY hg (aY off hx hf) (bY hg2 (gZ (.cond xS id) hh hv ht) k hd2) hd
variable {K:Act→World→Prop}{Hs:List Chunk}{fuel z:Nat}{listed:Array Bool}
theorem fa(i0 off:Nat)(k:AW P n κ ops K Hs fuel ((listed.setIfInBounds i0 true).setIfInBounds (i0+1) true) ((d2,.v v)::(d,.v (.pointer (some ⟨b,o+off,none⟩)))::ρ) H)
  (hi:ops[i0]?=some ⟨some d,.fieldAddr s x i,ty,pos,aU,none⟩:=by rfl)(hj:ops[i0+1]?=some ⟨some d2,.load t (.tmp d),zn,pos2,yB,none⟩:=by rfl)
  (hx:Gets ρ true x (.pointer (some ⟨b,o,none⟩)):=by exact gT)(hf:EL P s i=some off:=by kernel_rfl)
  (hh:Has Hs (own b T l):=by repeat (first|exact Has.head|apply Has.tail))(hv:l[o+off]?=some v:=by rfl)(ht:mR P t=true:=by kernel_rfl)
  (hd:Nat.blt d n=true:=by rfl)(hd2:Nat.blt d2 n=true:=by rfl)(h1:Region.noSelect ops=true:=by kernel_rfl)
  (h2:Region.free .any ops listed i0=true:=by kernel_rfl)(h3:(Region.ready .any ops listed).contains i0=true:=by kernel_rfl)
  (h4:Region.free .any ops (listed.setIfInBounds i0 true) (i0+1)=true:=by kernel_rfl)(h5:(Region.ready .any ops (listed.setIfInBounds i0 true)).contains (i0+1)=true:=by kernel_rfl):
  AW P n κ ops K Hs (fuel+1+1) listed ρ H:=
 ay i0 hi (aY off hx hf) (ay (i0+1) hj (gZ (.plain xS) hh hv ht) k hd2 h1 h4 h5) hd h1 h2 h3
theorem fz(i0 off:Nat)(k:AZ P n κ ops K Hs z fuel ((listed.setIfInBounds i0 true).setIfInBounds (i0+1) true) ((d2,.v v)::(d,.v (.pointer (some ⟨b,o+off,none⟩)))::ρ) H)
  (hi:ops[i0]?=some ⟨some d,.fieldAddr s x i,ty,pos,aU,none⟩:=by rfl)(hj:ops[i0+1]?=some ⟨some d2,.load t (.tmp d),zn,pos2,yB,none⟩:=by rfl)
  (hx:Gets ρ true x (.pointer (some ⟨b,o,none⟩)):=by exact gT)(hf:EL P s i=some off:=by kernel_rfl)
  (hh:Has Hs (own b T l):=by repeat (first|exact Has.head|apply Has.tail))(hv:l[o+off]?=some v:=by rfl)(ht:mR P t=true:=by kernel_rfl)
  (hd:Nat.blt d n=true:=by rfl)(hd2:Nat.blt d2 n=true:=by rfl)(h1:lastB ops z=true:=by kernel_rfl)(h0:AL .any ops z listed=true:=by kernel_rfl)(h6:AL .any ops z (listed.setIfInBounds i0 true)=true:=by kernel_rfl)
  (hiz:Nat.blt i0 z=true:=by rfl)(hjz:Nat.blt (i0+1) z=true:=by rfl)
  (h2:Region.free .any ops listed i0=true:=by kernel_rfl)(h3:(Region.ready .any ops listed).contains i0=true:=by kernel_rfl)
  (h4:Region.free .any ops (listed.setIfInBounds i0 true) (i0+1)=true:=by kernel_rfl)(h5:(Region.ready .any ops (listed.setIfInBounds i0 true)).contains (i0+1)=true:=by kernel_rfl)
  (himp:∀w,Mem κ H w→Mem κ Hs w:=by (intro w hm;exact hm.sub (by repeat (first|exact List.Sublist.refl _|apply List.Sublist.cons_cons|apply List.Sublist.cons)))):
  AZ P n κ ops K Hs z (fuel+1+1) listed ρ H:=
 aI i0 hi (aY off hx hf) (aI (i0+1) hj (gZ (.plain xS) hh hv ht) k hd2 h1 h6 hjz h4 h5 himp) hd h1 h0 hiz h2 h3 himp
end
/-! ### Elements of rows -/
section
variable {α β:Type}[ah α]{x y:Operand}{t t2 s f m d d2 d3:Nat}{kd:IntKind}{i:Int}{r:SR (R α)}{xs:List α}{K0:α→Option β}{res:β}{V:α→Value}
 {ty zn ty3:TypeId}{pos pos2 aeI:String}{aU yB abM:Array Edge}
theorem ix(sz off:Nat)(hk:Kn κ H (α:=List α) r xs)(hM:(idx xs i).bind K0=some res)
  (k:∀u,idx xs i=some u→K0 u=some res→OW P n κ ops Q rest ((d3,.v (V u))::(d2,.v (.pointer (some ⟨sb r.a,so r.a+i.toNat*sz+off,none⟩)))::(d,.v (.pointer (some ⟨sb r.a,so r.a+i.toNat*sz,none⟩)))::ρ) H)
  (hx:Gets ρ true x (.slice r.a m r.cap):=by exact gT)(hy:Gets ρ true y (.int kd i):=by exact gT)
  (hs:elemSize P t=some sz:=by kernel_rfl)(hml:m=xs.length:=by first|rfl|simp only[List.length_set,List.length_append,List.length_replicate])
  (hf:EL P s f=some off:=by kernel_rfl)(hv:∀u,(enc (r.es i.toNat) u)[off]?=some (V u):=by intro u;rfl)(hn:sz=ah.n α:=by rfl)
  (ht:mR P t2=true:=by kernel_rfl)(hd:Nat.blt d n=true:=by rfl)(hd2:Nat.blt d2 n=true:=by rfl)(hd3:Nat.blt d3 n=true:=by rfl):
  OW P n κ ops Q (⟨some d,.indexAddr t x y,ty,pos,aU,none⟩::⟨some d2,.fieldAddr s (.tmp d) f,zn,pos2,yB,none⟩::⟨some d3,.load t2 (.tmp d2),ty3,aeI,abM,none⟩::rest) ρ H:=by
 obtain⟨u,hu,hM⟩:=bind_some hM
 exact oe (dL sz hk (iS hu) hx hy hs hml) (oe (aY off (.plain xS) hf) (oe (dY off hk (fun _=>hu) (hv u) (.plain xS) (by rw[hn];omega) ht) (k u hu hM) hd3) hd2) hd
theorem zP(sz:Nat)(hk:Kn κ H (α:=List α) r xs)(hM:(idx xs i).bind K0=some res)
  (k:∀u,idx xs i=some u→K0 u=some res→OW P n κ ops Q rest ((d2,.v (V u))::(d,.v (.pointer (some ⟨sb r.a,so r.a+i.toNat*sz,none⟩)))::ρ) H)
  (hx:Gets ρ true x (.slice r.a m r.cap):=by exact gT)(hy:Gets ρ true y (.int kd i):=by exact gT)
  (hs:elemSize P t=some sz:=by kernel_rfl)(hml:m=xs.length:=by first|rfl|simp only[List.length_set,List.length_append,List.length_replicate])
  (hv:∀u,(enc (r.es i.toNat) u)[0]?=some (V u):=by intro u;rfl)(hn:sz=ah.n α:=by rfl)
  (ht:mR P t2=true:=by kernel_rfl)(hd:Nat.blt d n=true:=by rfl)(hd2:Nat.blt d2 n=true:=by rfl):
  OW P n κ ops Q (⟨some d,.indexAddr t x y,ty,pos,aU,none⟩::⟨some d2,.load t2 (.tmp d),zn,pos2,yB,none⟩::rest) ρ H:=by
 obtain⟨u,hu,hM⟩:=bind_some hM
 exact oe (dL sz hk (iS hu) hx hy hs hml) (oe (dY 0 hk (fun _=>hu) (hv u) (.plain xS) (by rw[hn];omega) ht) (k u hu hM) hd2) hd
theorem ixs(sz m2:Nat)(L:α→List Value)(hk:Kn κ H (α:=List α) r xs)(hM:(idx xs i).bind K0=some res)
  (k:∀u,idx xs i=some u→K0 u=some res→OW P n κ ops Q rest ((d2,.v (.agg (L u).toArray))::(d,.v (.pointer (some ⟨sb r.a,so r.a+i.toNat*sz,none⟩)))::ρ) H)
  (hx:Gets ρ true x (.slice r.a m r.cap):=by exact gT)(hy:Gets ρ true y (.int kd i):=by exact gT)
  (hs:elemSize P t=some sz:=by kernel_rfl)(hml:m=xs.length:=by first|rfl|simp only[List.length_set,List.length_append,List.length_replicate])
  (hv:∀u,((enc (r.es i.toNat) u).drop 0).take m2=L u:=by intro u;rfl)(hl:∀u,(L u).length=m2:=by intro u;rfl)(hn:sz=ah.n α:=by rfl)
  (ht:Ao P t2=some m2:=by kernel_rfl)(hd:Nat.blt d n=true:=by rfl)(hd2:Nat.blt d2 n=true:=by rfl):
  OW P n κ ops Q (⟨some d,.indexAddr t x y,ty,pos,aU,none⟩::⟨some d2,.load t2 (.tmp d),zn,pos2,yB,none⟩::rest) ρ H:=by
 obtain⟨u,hu,hM⟩:=bind_some hM
 exact oe (dL sz hk (iS hu) hx hy hs hml) (oe (Ce 0 hk (fun _=>hu) (hv u) (hl u) (.plain xS) (by rw[hn];omega) ht) (k u hu hM) hd2) hd
variable {K:Act→World→Prop}{Hs:List Chunk}{fuel z:Nat}{listed:Array Bool}
theorem iQ(i0 sz off:Nat)(hk:Kn κ Hs (α:=List α) r xs)(hM:(idx xs i).bind K0=some res)
  (k:∀u,idx xs i=some u→K0 u=some res→AW P n κ ops K Hs fuel (((listed.setIfInBounds i0 true).setIfInBounds (i0+1) true).setIfInBounds (i0+2) true) ((d3,.v (V u))::(d2,.v (.pointer (some ⟨sb r.a,so r.a+i.toNat*sz+off,none⟩)))::(d,.v (.pointer (some ⟨sb r.a,so r.a+i.toNat*sz,none⟩)))::ρ) H)
  (hi:ops[i0]?=some ⟨some d,.indexAddr t x y,ty,pos,aU,none⟩:=by rfl)(hj:ops[i0+1]?=some ⟨some d2,.fieldAddr s (.tmp d) f,zn,pos2,yB,none⟩:=by rfl)(hl:ops[i0+2]?=some ⟨some d3,.load t2 (.tmp d2),ty3,aeI,abM,none⟩:=by rfl)
  (hx:Gets ρ true x (.slice r.a m r.cap):=by exact gT)(hy:Gets ρ true y (.int kd i):=by exact gT)
  (hs:elemSize P t=some sz:=by kernel_rfl)(hml:m=xs.length:=by first|rfl|simp only[List.length_set,List.length_append,List.length_replicate])
  (hf:EL P s f=some off:=by kernel_rfl)(hv:∀u,(enc (r.es i.toNat) u)[off]?=some (V u):=by intro u;rfl)(hn:sz=ah.n α:=by rfl)
  (ht:mR P t2=true:=by kernel_rfl)(hd:Nat.blt d n=true:=by rfl)(hd2:Nat.blt d2 n=true:=by rfl)(hd3:Nat.blt d3 n=true:=by rfl)(h1:Region.noSelect ops=true:=by kernel_rfl)
  (h20:Region.free .any ops listed i0=true:=by kernel_rfl)(Dw:(Region.ready .any ops listed).contains i0=true:=by kernel_rfl)
  (h21:Region.free .any ops (listed.setIfInBounds i0 true) (i0+1)=true:=by kernel_rfl)(h31:(Region.ready .any ops (listed.setIfInBounds i0 true)).contains (i0+1)=true:=by kernel_rfl)
  (h22:Region.free .any ops ((listed.setIfInBounds i0 true).setIfInBounds (i0+1) true) (i0+2)=true:=by kernel_rfl)(h32:(Region.ready .any ops ((listed.setIfInBounds i0 true).setIfInBounds (i0+1) true)).contains (i0+2)=true:=by kernel_rfl):AW P n κ ops K Hs (fuel+1+1+1) listed ρ H:=by
 obtain⟨u,hu,hM⟩:=bind_some hM
 exact (ay i0 hi (dL sz hk (iS hu) hx hy hs hml) (ay (i0+1) hj (aY off (.plain xS) hf) (ay (i0+2) hl (dY off hk (fun _=>hu) (hv u) (.plain xS) (by rw[hn];omega) ht) (k u hu hM) hd3 h1 h22 h32) hd2 h1 h21 h31) hd h1 h20 Dw)
theorem ET(i0 sz:Nat)(hk:Kn κ Hs (α:=List α) r xs)(hM:(idx xs i).bind K0=some res)
  (k:∀u,idx xs i=some u→K0 u=some res→AW P n κ ops K Hs fuel ((listed.setIfInBounds i0 true).setIfInBounds (i0+1) true) ((d2,.v (V u))::(d,.v (.pointer (some ⟨sb r.a,so r.a+i.toNat*sz,none⟩)))::ρ) H)
  (hi:ops[i0]?=some ⟨some d,.indexAddr t x y,ty,pos,aU,none⟩:=by rfl)(hj:ops[i0+1]?=some ⟨some d2,.load t2 (.tmp d),zn,pos2,yB,none⟩:=by rfl)
  (hx:Gets ρ true x (.slice r.a m r.cap):=by exact gT)(hy:Gets ρ true y (.int kd i):=by exact gT)
  (hs:elemSize P t=some sz:=by kernel_rfl)(hml:m=xs.length:=by first|rfl|simp only[List.length_set,List.length_append,List.length_replicate])
  (hv:∀u,(enc (r.es i.toNat) u)[0]?=some (V u):=by intro u;rfl)(hn:sz=ah.n α:=by rfl)
  (ht:mR P t2=true:=by kernel_rfl)(hd:Nat.blt d n=true:=by rfl)(hd2:Nat.blt d2 n=true:=by rfl)(h1:Region.noSelect ops=true:=by kernel_rfl)
  (h20:Region.free .any ops listed i0=true:=by kernel_rfl)(Dw:(Region.ready .any ops listed).contains i0=true:=by kernel_rfl)
  (h21:Region.free .any ops (listed.setIfInBounds i0 true) (i0+1)=true:=by kernel_rfl)(h31:(Region.ready .any ops (listed.setIfInBounds i0 true)).contains (i0+1)=true:=by kernel_rfl):AW P n κ ops K Hs (fuel+1+1) listed ρ H:=by
 obtain⟨u,hu,hM⟩:=bind_some hM
 exact (ay i0 hi (dL sz hk (iS hu) hx hy hs hml) (ay (i0+1) hj (dY 0 hk (fun _=>hu) (hv u) (.plain xS) (by rw[hn];omega) ht) (k u hu hM) hd2 h1 h21 h31) hd h1 h20 Dw)
theorem kH(i0 sz m2:Nat)(L:α→List Value)(hk:Kn κ Hs (α:=List α) r xs)(hM:(idx xs i).bind K0=some res)
  (k:∀u,idx xs i=some u→K0 u=some res→AW P n κ ops K Hs fuel ((listed.setIfInBounds i0 true).setIfInBounds (i0+1) true) ((d2,.v (.agg (L u).toArray))::(d,.v (.pointer (some ⟨sb r.a,so r.a+i.toNat*sz,none⟩)))::ρ) H)
  (hi:ops[i0]?=some ⟨some d,.indexAddr t x y,ty,pos,aU,none⟩:=by rfl)(hj:ops[i0+1]?=some ⟨some d2,.load t2 (.tmp d),zn,pos2,yB,none⟩:=by rfl)
  (hx:Gets ρ true x (.slice r.a m r.cap):=by exact gT)(hy:Gets ρ true y (.int kd i):=by exact gT)
  (hs:elemSize P t=some sz:=by kernel_rfl)(hml:m=xs.length:=by first|rfl|simp only[List.length_set,List.length_append,List.length_replicate])
  (hv:∀u,((enc (r.es i.toNat) u).drop 0).take m2=L u:=by intro u;rfl)(hl:∀u,(L u).length=m2:=by intro u;rfl)(hn:sz=ah.n α:=by rfl)
  (ht:Ao P t2=some m2:=by kernel_rfl)(hd:Nat.blt d n=true:=by rfl)(hd2:Nat.blt d2 n=true:=by rfl)(h1:Region.noSelect ops=true:=by kernel_rfl)
  (h20:Region.free .any ops listed i0=true:=by kernel_rfl)(Dw:(Region.ready .any ops listed).contains i0=true:=by kernel_rfl)
  (h21:Region.free .any ops (listed.setIfInBounds i0 true) (i0+1)=true:=by kernel_rfl)(h31:(Region.ready .any ops (listed.setIfInBounds i0 true)).contains (i0+1)=true:=by kernel_rfl):AW P n κ ops K Hs (fuel+1+1) listed ρ H:=by
 obtain⟨u,hu,hM⟩:=bind_some hM
 exact (ay i0 hi (dL sz hk (iS hu) hx hy hs hml) (ay (i0+1) hj (Ce 0 hk (fun _=>hu) (hv u) (hl u) (.plain xS) (by rw[hn];omega) ht) (k u hu hM) hd2 h1 h21 h31) hd h1 h20 Dw)
theorem LB(i0 sz off:Nat)(hk:Kn κ Hs (α:=List α) r xs)(hM:(idx xs i).bind K0=some res)
  (k:∀u,idx xs i=some u→K0 u=some res→AZ P n κ ops K Hs z fuel (((listed.setIfInBounds i0 true).setIfInBounds (i0+1) true).setIfInBounds (i0+2) true) ((d3,.v (V u))::(d2,.v (.pointer (some ⟨sb r.a,so r.a+i.toNat*sz+off,none⟩)))::(d,.v (.pointer (some ⟨sb r.a,so r.a+i.toNat*sz,none⟩)))::ρ) H)
  (hi:ops[i0]?=some ⟨some d,.indexAddr t x y,ty,pos,aU,none⟩:=by rfl)(hj:ops[i0+1]?=some ⟨some d2,.fieldAddr s (.tmp d) f,zn,pos2,yB,none⟩:=by rfl)(hl:ops[i0+2]?=some ⟨some d3,.load t2 (.tmp d2),ty3,aeI,abM,none⟩:=by rfl)
  (hx:Gets ρ true x (.slice r.a m r.cap):=by exact gT)(hy:Gets ρ true y (.int kd i):=by exact gT)
  (hs:elemSize P t=some sz:=by kernel_rfl)(hml:m=xs.length:=by first|rfl|simp only[List.length_set,List.length_append,List.length_replicate])
  (hf:EL P s f=some off:=by kernel_rfl)(hv:∀u,(enc (r.es i.toNat) u)[off]?=some (V u):=by intro u;rfl)(hn:sz=ah.n α:=by rfl)
  (ht:mR P t2=true:=by kernel_rfl)(hd:Nat.blt d n=true:=by rfl)(hd2:Nat.blt d2 n=true:=by rfl)(hd3:Nat.blt d3 n=true:=by rfl)(h1:lastB ops z=true:=by kernel_rfl)
  (h20:Region.free .any ops listed i0=true:=by kernel_rfl)(Dw:(Region.ready .any ops listed).contains i0=true:=by kernel_rfl)(h00:AL .any ops z listed=true:=by kernel_rfl)(hz0:Nat.blt i0 z=true:=by rfl)
  (h21:Region.free .any ops (listed.setIfInBounds i0 true) (i0+1)=true:=by kernel_rfl)(h31:(Region.ready .any ops (listed.setIfInBounds i0 true)).contains (i0+1)=true:=by kernel_rfl)(h01:AL .any ops z (listed.setIfInBounds i0 true)=true:=by kernel_rfl)(hz1:Nat.blt (i0+1) z=true:=by rfl)
  (h22:Region.free .any ops ((listed.setIfInBounds i0 true).setIfInBounds (i0+1) true) (i0+2)=true:=by kernel_rfl)(h32:(Region.ready .any ops ((listed.setIfInBounds i0 true).setIfInBounds (i0+1) true)).contains (i0+2)=true:=by kernel_rfl)(h02:AL .any ops z ((listed.setIfInBounds i0 true).setIfInBounds (i0+1) true)=true:=by kernel_rfl)(hz2:Nat.blt (i0+2) z=true:=by rfl)
  (himp:∀w,Mem κ H w→Mem κ Hs w:=by (intro w hm;exact hm.sub (by repeat (first|exact List.Sublist.refl _|apply List.Sublist.cons_cons|apply List.Sublist.cons)))):AZ P n κ ops K Hs z (fuel+1+1+1) listed ρ H:=by
 obtain⟨u,hu,hM⟩:=bind_some hM
 exact (aI i0 hi (dL sz hk (iS hu) hx hy hs hml) (aI (i0+1) hj (aY off (.plain xS) hf) (aI (i0+2) hl (dY off hk (fun _=>hu) (hv u) (.plain xS) (by rw[hn];omega) ht) (k u hu hM) hd3 h1 h02 hz2 h22 h32 himp) hd2 h1 h01 hz1 h21 h31 himp) hd h1 h00 hz0 h20 Dw himp)
theorem AX(i0 sz:Nat)(hk:Kn κ Hs (α:=List α) r xs)(hM:(idx xs i).bind K0=some res)
  (k:∀u,idx xs i=some u→K0 u=some res→AZ P n κ ops K Hs z fuel ((listed.setIfInBounds i0 true).setIfInBounds (i0+1) true) ((d2,.v (V u))::(d,.v (.pointer (some ⟨sb r.a,so r.a+i.toNat*sz,none⟩)))::ρ) H)
  (hi:ops[i0]?=some ⟨some d,.indexAddr t x y,ty,pos,aU,none⟩:=by rfl)(hj:ops[i0+1]?=some ⟨some d2,.load t2 (.tmp d),zn,pos2,yB,none⟩:=by rfl)
  (hx:Gets ρ true x (.slice r.a m r.cap):=by exact gT)(hy:Gets ρ true y (.int kd i):=by exact gT)
  (hs:elemSize P t=some sz:=by kernel_rfl)(hml:m=xs.length:=by first|rfl|simp only[List.length_set,List.length_append,List.length_replicate])
  (hv:∀u,(enc (r.es i.toNat) u)[0]?=some (V u):=by intro u;rfl)(hn:sz=ah.n α:=by rfl)
  (ht:mR P t2=true:=by kernel_rfl)(hd:Nat.blt d n=true:=by rfl)(hd2:Nat.blt d2 n=true:=by rfl)(h1:lastB ops z=true:=by kernel_rfl)
  (h20:Region.free .any ops listed i0=true:=by kernel_rfl)(Dw:(Region.ready .any ops listed).contains i0=true:=by kernel_rfl)(h00:AL .any ops z listed=true:=by kernel_rfl)(hz0:Nat.blt i0 z=true:=by rfl)
  (h21:Region.free .any ops (listed.setIfInBounds i0 true) (i0+1)=true:=by kernel_rfl)(h31:(Region.ready .any ops (listed.setIfInBounds i0 true)).contains (i0+1)=true:=by kernel_rfl)(h01:AL .any ops z (listed.setIfInBounds i0 true)=true:=by kernel_rfl)(hz1:Nat.blt (i0+1) z=true:=by rfl)
  (himp:∀w,Mem κ H w→Mem κ Hs w:=by (intro w hm;exact hm.sub (by repeat (first|exact List.Sublist.refl _|apply List.Sublist.cons_cons|apply List.Sublist.cons)))):AZ P n κ ops K Hs z (fuel+1+1) listed ρ H:=by
 obtain⟨u,hu,hM⟩:=bind_some hM
 exact (aI i0 hi (dL sz hk (iS hu) hx hy hs hml) (aI (i0+1) hj (dY 0 hk (fun _=>hu) (hv u) (.plain xS) (by rw[hn];omega) ht) (k u hu hM) hd2 h1 h01 hz1 h21 h31 himp) hd h1 h00 hz0 h20 Dw himp)
theorem ar0(i0 sz m2:Nat)(L:α→List Value)(hk:Kn κ Hs (α:=List α) r xs)(hM:(idx xs i).bind K0=some res)
  (k:∀u,idx xs i=some u→K0 u=some res→AZ P n κ ops K Hs z fuel ((listed.setIfInBounds i0 true).setIfInBounds (i0+1) true) ((d2,.v (.agg (L u).toArray))::(d,.v (.pointer (some ⟨sb r.a,so r.a+i.toNat*sz,none⟩)))::ρ) H)
  (hi:ops[i0]?=some ⟨some d,.indexAddr t x y,ty,pos,aU,none⟩:=by rfl)(hj:ops[i0+1]?=some ⟨some d2,.load t2 (.tmp d),zn,pos2,yB,none⟩:=by rfl)
  (hx:Gets ρ true x (.slice r.a m r.cap):=by exact gT)(hy:Gets ρ true y (.int kd i):=by exact gT)
  (hs:elemSize P t=some sz:=by kernel_rfl)(hml:m=xs.length:=by first|rfl|simp only[List.length_set,List.length_append,List.length_replicate])
  (hv:∀u,((enc (r.es i.toNat) u).drop 0).take m2=L u:=by intro u;rfl)(hl:∀u,(L u).length=m2:=by intro u;rfl)(hn:sz=ah.n α:=by rfl)
  (ht:Ao P t2=some m2:=by kernel_rfl)(hd:Nat.blt d n=true:=by rfl)(hd2:Nat.blt d2 n=true:=by rfl)(h1:lastB ops z=true:=by kernel_rfl)
  (h20:Region.free .any ops listed i0=true:=by kernel_rfl)(Dw:(Region.ready .any ops listed).contains i0=true:=by kernel_rfl)(h00:AL .any ops z listed=true:=by kernel_rfl)(hz0:Nat.blt i0 z=true:=by rfl)
  (h21:Region.free .any ops (listed.setIfInBounds i0 true) (i0+1)=true:=by kernel_rfl)(h31:(Region.ready .any ops (listed.setIfInBounds i0 true)).contains (i0+1)=true:=by kernel_rfl)(h01:AL .any ops z (listed.setIfInBounds i0 true)=true:=by kernel_rfl)(hz1:Nat.blt (i0+1) z=true:=by rfl)
  (himp:∀w,Mem κ H w→Mem κ Hs w:=by (intro w hm;exact hm.sub (by repeat (first|exact List.Sublist.refl _|apply List.Sublist.cons_cons|apply List.Sublist.cons)))):AZ P n κ ops K Hs z (fuel+1+1) listed ρ H:=by
 obtain⟨u,hu,hM⟩:=bind_some hM
 exact (aI i0 hi (dL sz hk (iS hu) hx hy hs hml) (aI (i0+1) hj (Ce 0 hk (fun _=>hu) (hv u) (hl u) (.plain xS) (by rw[hn];omega) ht) (k u hu hM) hd2 h1 h01 hz1 h21 h31 himp) hd h1 h00 hz0 h20 Dw himp)
end
/-! ### Moves, conditions, ways that go on -/
section
variable {x x2:Operand}{v v2:Value}{d d2:Nat}{ty zn:TypeId}{pos pos2:String}{aU yB:Array Edge}{K:Act→World→Prop}{Hs:List Chunk}{fuel z:Nat}{listed:Array Bool}
theorem am(i:Nat)(k:AW P n κ ops K Hs fuel (listed.setIfInBounds i true) ((d,.v v)::ρ) H)(hi:ops[i]?=some ⟨some d,.move x,ty,pos,aU,none⟩:=by rfl)
  (hx:Gets ρ true x v:=by exact gT)(hd:Nat.blt d n=true:=by rfl)
  (h1:Region.noSelect ops=true:=by kernel_rfl)(h2:Region.free .any ops listed i=true:=by kernel_rfl)(h3:(Region.ready .any ops listed).contains i=true:=by kernel_rfl):AW P n κ ops K Hs (fuel+1) listed ρ H:=
 ay i hi (dJ hx) k hd h1 h2 h3
theorem zm(i:Nat)(k:AZ P n κ ops K Hs z fuel (listed.setIfInBounds i true) ((d,.v v)::ρ) H)(hi:ops[i]?=some ⟨some d,.move x,ty,pos,aU,none⟩:=by rfl)
  (hx:Gets ρ true x v:=by exact gT)(hd:Nat.blt d n=true:=by rfl)(h1:lastB ops z=true:=by kernel_rfl)(h0:AL .any ops z listed=true:=by kernel_rfl)(hiz:Nat.blt i z=true:=by rfl)
  (h2:Region.free .any ops listed i=true:=by kernel_rfl)(h3:(Region.ready .any ops listed).contains i=true:=by kernel_rfl)
  (himp:∀w,Mem κ H w→Mem κ Hs w:=by (intro w hm;exact hm.sub (by repeat (first|exact List.Sublist.refl _|apply List.Sublist.cons_cons|apply List.Sublist.cons)))):AZ P n κ ops K Hs z (fuel+1) listed ρ H:=
 aI i hi (dJ hx) k hd h1 h0 hiz h2 h3 himp
theorem co{α:Type}{c:Operand}{y1 y2:Code}{t:Bool}{X Y r:α}(hM:(if t then X else Y)=r)(ht:t=true→X=r→CW P n κ y1 Q ρ H)(hf:t=false→Y=r→CW P n κ y2 Q ρ H)(hc:wh ρ c=some (.v (.bool t)):=by rfl):
 CW P n κ (.cond c y1 y2) Q ρ H:=cc hc hM ht hf
theorem oc{α:Type}{c:Operand}{y1 y2:Code}{t:Bool}{X Y r:α}(hM:(if t then X else Y)=r)(ht:t=true→X=r→CW P n κ y1 Q ρ H)(hf:t=false→Y=r→CW P n κ y2 Q ρ H)(hc:wh ρ c=some (.v (.bool t)):=by rfl):
 OW P n κ ops (Exit.then ((Code.cond c y1 y2).wp P Q) Q) [] ρ H:=on (cc hc hM ht hf)
theorem cs{y:Code}{Q2:Exit→Act→World→Prop}(hK:∀ρ H,CW P n κ y Q2 ρ H→KW n κ K ρ H)(k:CW P n κ y Q2 ρ H)(hQ:∀a w,K a w→Q .normal a w:=by exact fun _ _ h=>h):CW P n κ .skip Q ρ H:=gG fun w a hm ho=>hQ _ _ (hK _ _ k w a hm ho)
theorem cx{y:Code}{id:Nat}{Q2:Exit→Act→World→Prop}(hK:∀ρ H,CW P n κ y Q2 ρ H→KW n κ K ρ H)(k:CW P n κ y Q2 ρ H)(hQ:∀a w,K a w→Q (.exit id) a w:=by exact fun _ _ h=>h):CW P n κ (.exit id) Q ρ H:=RP fun w a hm ho=>hQ _ _ (hK _ _ k w a hm ho)
end
theorem rn(α:Type)[ah α](e:TypeId)(z:Nat→R α){c:Code}(k:CW P n κ c Q ρ (aj (α:=α) e ⟨none,0,z⟩ []::H)):CW P n κ c Q ρ H:=iP (fun _ hm=>hm.sN (α:=α) e z) k
end
inductive oI:List Chunk→List Nat→List Chunk→Prop
 |nil {H:List Chunk}:oI H [] H
 |zero {c:Chunk}{H H':List Chunk}{ks:List Nat}(h:oI H ks H'):oI (c::H) (0::ks) H'
 |succ {c:Chunk}{H H':List Chunk}{k:Nat}{ks:List Nat}(h:oI H (k::ks) H'):oI (c::H) ((k+1)::ks) (c::H')
inductive yw (ρ:Env):List Nat→Env→Prop
 |nil:yw ρ [] []
 |cons {t:Nat}{e:EV}{ts:List Nat}{r:Env}(h:look ρ t=some e) (k:yw ρ ts r):yw ρ (t::ts) ((t,e)::r)
theorem oI.sub{H H':List Chunk}{ks:List Nat}(h:oI H ks H'):List.Sublist H' H:=by
 induction h with
 |nil=>exact .refl _
 |zero _ ih=>exact .cons _ ih
 |succ _ ih=>exact .cons_cons _ ih
section
variable {P:Program}{n:Nat}{κ:Ctx}{ρ ρ0:Env}{H H0:List Chunk}{Q:Exit→Act→World→Prop}{ops:Array Oper}{rest:List Oper}
section
variable {σ θ β:Type}{y:β}
theorem lk{B:(σ→Option β)→σ→Option β}{body:Code}{s0:σ}(hM:iter B FUEL s0=some y)(ts:List Nat)(E:σ→Env)(ks:List Nat)(M:σ→List Chunk)
  (round:∀(c:σ→Option β) (s:σ),B c s=some y→∀K:Act→World→Prop,
   (∀{s':σ}{ρ':Env}{H':List Chunk},c s'=some y→tF (E s'++ρ0) ρ'→(∀w,Mem κ H' w→Mem κ (M s'++H0) w)→KW n κ K ρ' H')→CW P n κ body (Exit.then K Q) (E s++ρ0) (M s++H0))
  (_hp:yw ρ ts ρ0:=by repeat (first|exact yw.nil|(apply yw.cons;exact rfl)))(_hd:oI H ks H0:=by repeat (first|exact oI.nil|apply oI.zero|apply oI.succ))
  (hs:tF (E s0++ρ0) ρ:=by repeat (first|exact trivial|refine And.intro rfl ?_))(hH:∀w,Mem κ H w→Mem κ (M s0++H0) w:=by intro w hm;exact hm.jg):CW P n κ (.loop body) Q ρ H:=
 lq hM (fun s=>E s++ρ0) (fun s=>M s++H0) hs hH round
theorem lr{B:(σ→Option β)→σ→Option β}{body:Code}{s0:σ}(t0:θ)(hM:iter B FUEL s0=some y)(ts:List Nat)(E:σ→θ→Env)(ks:List Nat)(M:σ→θ→List Chunk)
  (round:∀(c:σ→Option β) (s:σ) (t:θ),B c s=some y→∀K:Act→World→Prop,
   (∀(t':θ) {s':σ}{ρ':Env}{H':List Chunk},c s'=some y→tF (E s' t'++ρ0) ρ'→(∀w,Mem κ H' w→Mem κ (M s' t'++H0) w)→KW n κ K ρ' H')→CW P n κ body (Exit.then K Q) (E s t++ρ0) (M s t++H0))
  (_hp:yw ρ ts ρ0:=by repeat (first|exact yw.nil|(apply yw.cons;exact rfl)))(_hd:oI H ks H0:=by repeat (first|exact oI.nil|apply oI.zero|apply oI.succ))
  (hs:tF (E s0 t0++ρ0) ρ:=by repeat (first|exact trivial|refine And.intro rfl ?_))(hH:∀w,Mem κ H w→Mem κ (M s0 t0++H0) w:=by intro w hm;exact hm.jg):CW P n κ (.loop body) Q ρ H:=
 lp t0 hM (fun s t=>E s t++ρ0) (fun s t=>M s t++H0) hs hH round
theorem jk(θ:Type)(y:β){k:σ→Option β}{x z:Code}(ts:List Nat)(E:σ→θ→Env)(ks:List Nat)(M:σ→θ→List Chunk)
  (hx:∀K:Act→World→Prop,(∀(t:θ) {s:σ}{ρ':Env}{H':List Chunk},k s=some y→tF (E s t++ρ0) ρ'→(∀w,Mem κ H' w→Mem κ (M s t++H0) w)→KW n κ K ρ' H')→CW P n κ x (Exit.then K Q) ρ H)
  (hz:∀s t,k s=some y→CW P n κ z Q (E s t++ρ0) (M s t++H0))
  (_hp:yw ρ ts ρ0:=by repeat (first|exact yw.nil|(apply yw.cons;exact rfl)))(_hd:oI H ks H0:=by repeat (first|exact oI.nil|apply oI.zero|apply oI.succ)):CW P n κ (.seq x z) Q ρ H:=
 jn θ y (fun s t=>E s t++ρ0) (fun s t=>M s t++H0) hx hz
theorem jl(y:β){k:σ→Option β}{x z:Code}(ts:List Nat)(E:σ→Env)(ks:List Nat)(M:σ→List Chunk)
  (hx:∀K:Act→World→Prop,(∀{s:σ}{ρ':Env}{H':List Chunk},k s=some y→tF (E s++ρ0) ρ'→(∀w,Mem κ H' w→Mem κ (M s++H0) w)→KW n κ K ρ' H')→CW P n κ x (Exit.then K Q) ρ H)
  (hz:∀s,k s=some y→CW P n κ z Q (E s++ρ0) (M s++H0))
  (_hp:yw ρ ts ρ0:=by repeat (first|exact yw.nil|(apply yw.cons;exact rfl)))(_hd:oI H ks H0:=by repeat (first|exact oI.nil|apply oI.zero|apply oI.succ)):CW P n κ (.seq x z) Q ρ H:=
 jm y (fun s=>E s++ρ0) (fun s=>M s++H0) hx hz
end
theorem kZ{id:Nat}{ops:Array Oper}{Hs:List Chunk}(ks:List Nat)(z:Nat)(h:AZ P n κ ops (fun a w=>Q .normal a w) Hs z ops.size (Array.replicate ops.size false) ρ H)
 (_hd:oI H ks Hs:=by repeat (first|exact oI.nil|apply oI.zero|apply oI.succ))(hm:P.follows .mixedOrders=true:=by kernel_rfl):CW P n κ (.region id ops true) Q ρ H:=Du Hs z h hm
/-! ### A store into an own box: the new cells are found -/
inductive yA:List Value→Nat→List Value→List Value→Prop
 |nil {l:List Value}{o:Nat}:yA l o [] l
 |zero {a v:Value}{l l' vs:List Value}(h:yA l 0 vs l'):yA (a::l) 0 (v::vs) (v::l')
 |succ {a:Value}{l l' vs:List Value}{o:Nat}(h:yA l o vs l'):yA (a::l) (o+1) vs (a::l')
theorem afx(a:Value):∀(vs l:List Value) (o:Nat),uT (a::l) (o+1) vs=a::uT l o vs
 |[],_,_=>rfl
 |v::vs,l,o=>by
  show uT (a::l.set o v) (o+1+1) vs=a::uT (l.set o v) (o+1) vs
  exact afx a vs _ _
theorem yA.eq{l l' vs:List Value}{o:Nat}(h:yA l o vs l'):uT l o vs=l':=by
 induction h with
 |nil=>rfl
 | @zero a v l l' vs _ ih=>
  show uT (v::l) (0+1) vs=v::l'
  rw[afx,ih]
 | @succ a l l' vs o _ ih=>rw[afx,ih]
section
variable {x y:Operand}{t b o T m:Nat}{ty:TypeId}{pos:String}{aU:Array Edge}{l l' vs:List Value}{v:Value}{H':List Chunk}
theorem sO{gd:Option (Nat×Bool)}{C:Env→List Chunk→Prop}(k:C ρ H')
  (hx:Gets ρ true x (.pointer (some ⟨b,o,none⟩)):=by exact gT)(hy:Gets ρ true y v:=by exact gT)(hvs:v.cells=vs.toArray:=by rfl)
  (hlen:vs.length=m:=by rfl)(hu:fq H (own b T l) (own b T l') H':=by repeat (first|exact fq.head|apply fq.tail))
  (he:yA l o vs l':=by repeat (first|exact yA.nil|apply yA.zero|apply yA.succ))(hl0:Nat.ble (o+m) l.length=true:=by rfl)(h10:vs.all Value.oneCell'=true:=by rfl)
  (ht:P.cellsOf t=m:=by kernel_rfl)(hti:(P.info? t).isSome=true:=by kernel_rfl):jE P n κ ⟨none,.store t x y,ty,pos,aU,gd⟩ ρ H C:=
 QL (hx:=hx) (hy:=hy) (hvs:=hvs) (hlen:=hlen) (hu:=hu) (hl0:=hl0) (h10:=h10) (he:=he.eq) (ht:=ht) (hti:=hti) (k:=k)
theorem kY(k:OW P n κ ops Q rest ρ H')
  (hx:Gets ρ true x (.pointer (some ⟨b,o,none⟩)):=by exact gT)(hy:Gets ρ true y v:=by exact gT)(hvs:v.cells=vs.toArray:=by rfl)
  (hlen:vs.length=m:=by rfl)(hu:fq H (own b T l) (own b T l') H':=by repeat (first|exact fq.head|apply fq.tail))
  (he:yA l o vs l':=by repeat (first|exact yA.nil|apply yA.zero|apply yA.succ))(hl0:Nat.ble (o+m) l.length=true:=by rfl)(h10:vs.all Value.oneCell'=true:=by rfl)
  (ht:P.cellsOf t=m:=by kernel_rfl)(hti:(P.info? t).isSome=true:=by kernel_rfl):OW P n κ ops Q (⟨none,.store t x y,ty,pos,aU,none⟩::rest) ρ H:=
 bf (sO k hx hy hvs hlen hu he hl0 h10 ht hti)
end
end
class KD where
 t:Nat→Nat→Nat
 a:Nat→Bool
section
variable {P:Program}{n:Nat}{κ:Ctx}{ρ:Env}{H:List Chunk}{g:Bool}
theorem gF[KD]{x:Operand}{s i b o off:Nat}(hx:Gets ρ g x (.pointer (some ⟨b,o,none⟩)):=by exact gT)(ho:KD.t s i=off:=by rfl)(hf:EL P s i=some off:=by kernel_rfl):
 Ev P n κ H ρ g (.fieldAddr s x i) (.pointer (some ⟨b,o+off,none⟩)):=aY off hx hf
theorem gL[KD]{x:Operand}{t b o T:Nat}{l:List Value}{v:Value}(_ha:KD.a t=false:=by rfl)(hx:Gets ρ g x (.pointer (some ⟨b,o,none⟩)):=by exact gT)
 (hh:Has H (own b T l):=by repeat (first|exact Has.head|apply Has.tail))(hv:l[o]?=some v:=by rfl)(ht:mR P t=true:=by kernel_rfl):Ev P n κ H ρ g (.load t x) v:=gZ hx hh hv ht
theorem gA[KD]{x:Operand}{t b T m:Nat}{l:List Value}(_ha:KD.a t=true:=by rfl)(hx:Gets ρ g x (.pointer (some ⟨b,0,none⟩)):=by exact gT)
 (hh:Has H (own b T l):=by repeat (first|exact Has.head|apply Has.tail))(hl:l.length=m:=by rfl)(ht:Ao P t=some m:=by kernel_rfl)(_hT:T=t:=by rfl):Ev P n κ H ρ g (.load t x) (.agg l.toArray):=fC hx hh hl ht
theorem eV{op:Op}{v:Value}(h:Ev P n κ H ρ g op v:=by first|exact dJ|exact gF|exact gL|exact eX|exact jq|exact gq|exact oK|exact nQ|exact iC|exact ag7|exact vY|exact IE|exact rT|exact rR|exact R6|exact gA|exact xI|exact anq|exact anh|exact ani|exact dF):Ev P n κ H ρ g op v:=h
theorem go{M G:Prop}(k:M)(h:M→G:=by intro kk;(repeat (first|refine oe eV ?_|refine on ?_|refine sr ?_|refine bY rfl eV ?_|refine bI ?_));exact kk):G:=h k
end
end Go.Dc
