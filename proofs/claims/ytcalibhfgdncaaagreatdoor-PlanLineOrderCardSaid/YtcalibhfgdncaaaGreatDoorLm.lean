/- Several parts of the engine, one behind the other. -/
import Derived.Test.YtcalibhfgdncaaaGreatDoorOf
set_option linter.all false
namespace Go.Dc.oJ
open Go.RowKit
section
variable {P:Program}{n:Nat}{κ:Ctx}{ρ:Env}{H:List Chunk}{g:Bool}{C:Env→List Chunk→Prop}
def ch(fp:Nat→Prop)(φ:World→Prop)(dep:∀w w':World,(∀k,fp k→w'.heap[k]?=w.heap[k]?)→φ w→φ w'):Chunk:=⟨fp,fun _=>φ,fun _ w w' h=>dep w w' fun k hk=>h k (.inl hk),fun _ _ _ _ h=>h⟩
theorem YB{c:Chunk}{w:World}(h:Has H c)(hm:Mem κ H w):∃S,c.φ S w:=let ⟨S,hs⟩:=hm;⟨S,h.φ hs⟩
theorem Lc{c:Chunk}{w:World}(h:Has H c)(hm:Mem κ H w){k:Nat}(hk:c.fp k):k<w.heap.size:=let ⟨_,hs⟩:=hm;h.lt hs hk
theorem Zg{c c':Chunk}{w w':World}{H':List Chunk}(hm:Mem κ H w)(hu:fq H c c' H')(hfr:Frame c.fp w w')(hφ:∀S,c'.φ S w')(hfp:∀k,c'.fp k→(c.fp k∨w.heap.size≤k)∧k<w'.heap.size):Mem κ H' w':=by
 obtain⟨S,hs⟩:=hm
 refine⟨S,hs.upd hu hfr (fun _ h=>h) (fun _ h=> .inl h) (fun k hk=>Nat.lt_of_lt_of_le (hs.lt k hk) hfr.size) (hφ S) fun k hk=>⟨(hfp k hk).1,(hfp k hk).2,fun h=>?_⟩⟩
 rcases (hfp k hk).1 with h1|h1
 ·exact ((hs.all c hu.has.mem).2 k h1).2.1 h
 ·have:=hs.lt k h;omega
theorem aed{c:Chunk}{w w':World}(hm:Mem κ H w)(hfr:Frame (fun _=>False) w w')(hφ:∀S,c.φ S w')(hfp:∀k,c.fp k→w.heap.size≤k∧k<w'.heap.size):Mem κ (c::H) w':=by
 obtain⟨S,hs⟩:=hm
 exact⟨S,hs.add hfr (fun _ h=>h) (fun _ h=> .inl h) (fun k hk=>Nat.lt_of_lt_of_le (hs.lt k hk) hfr.size) (hφ S) fun k hk=>⟨(hfp k hk).1,(hfp k hk).2,fun h=>by have:=hs.lt k h;have:=(hfp k hk).1;omega⟩⟩
theorem aiq{H':List Chunk}{w:World}(hm:Mem κ H w)(h:∀S,(∀c∈H,c.φ S w)→H.Pairwise Dl→(∀c∈H',c.φ S w∧∀k,c.fp k→∃d∈H,d.fp k)∧H'.Pairwise Dl):Mem κ H' w:=
 let ⟨S,hs⟩:=hm
 have h:=h S (fun c hc=>(hs.all c hc).1) hs.xH
 ⟨S,hs.frame,hs.sub,hs.sup,hs.lt,fun c hc=>⟨(h.1 c hc).1,fun k hk=>let ⟨d,hd,h⟩:=(h.1 c hc).2 k hk;(hs.all d hd).2 k h⟩,h.2⟩
abbrev k0(w:World):Ctx:=rJ w (fun _=>False) []
theorem m0(w:World):Mem (k0 w) [] w:=(pre_nil (fun _ h=>h.elim)).start
theorem as5{c:Chunk}{w:World}(hφ:c.φ (fun _=>False) w)(hb:∀k,c.fp k→k<w.heap.size):Mem ⟨w,c.fp,fun _=>False⟩ [c] w:=
 ⟨fun _=>False,Frame.refl _ _,fun _ h=>h,fun _ h=> .inl h,fun _ h=>h.elim,fun d hd=>by simp at hd;subst hd;exact⟨hφ,fun k hk=>⟨hb k hk,fun h=>h,.inl hk⟩⟩,by simp⟩
theorem mFr{w:World}(hm:Mem κ H w):Frame κ.F κ.w0 w:=let ⟨_,hs⟩:=hm;hs.frame
theorem front{w:World}{H':List Chunk}{c:Chunk}(hm:Mem κ H w)(h:pQ H c H'):Mem κ (c::H') w:=hm.perm h.perm
theorem G6{H H':List Chunk}(h:List.Sublist H' H:=by repeat (first|exact List.Sublist.refl _|apply List.Sublist.cons_cons|apply List.Sublist.cons)):List.Sublist H' H:=h
theorem agH{w0 w:World}(hm:Mem (k0 w0) H w):Below w0.heap.size w0 w:=(oG (v:= .bool true) hm rfl).2
def Sl(lo hi:Nat)(w:World)(a:Option Addr)(l:List Value):Prop:=
 ∀j v,l[j]?=some v→a=some ⟨sb a,so a,none⟩∧lo≤sb a∧sb a<hi∧w.cell? ⟨sb a,so a+j,none⟩=some v
theorem Sl.nil{lo hi:Nat}{w:World}{a:Option Addr}:Sl lo hi w a []:=fun j v h=>by simp at h
theorem Sl.addr{lo hi:Nat}{w:World}{a:Option Addr}{l:List Value}(h:Sl lo hi w a l)(hl:0<l.length):a=some ⟨sb a,so a,none⟩:=
 (h 0 l[0] (by simp[hl])).1
theorem Sl.mono{lo hi lo' hi':Nat}{w w':World}{a:Option Addr}{l:List Value}(h:Sl lo hi w a l)(hlo:lo'≤lo)(hhi:hi≤hi')
  (hw:∀k,lo≤k→k<hi→w'.heap[k]?=w.heap[k]?):Sl lo' hi' w' a l:=fun j v hv=>by
 obtain⟨h1,h2,h3,h4⟩:=h j v hv
 exact⟨h1,by omega,by omega,by rw[World.cell?_of_block (w:=w) (hw _ h2 h3)];exact h4⟩
theorem Sl.below{lo hi B:Nat}{w w':World}{a:Option Addr}{l:List Value}(h:Sl lo hi w a l)(hb:Below B w w')(hB:hi≤B):Sl lo hi w' a l:=
 h.mono (Nat.le_refl _) (Nat.le_refl _) (fun k _ hk=>hb.block k (by omega))
theorem NR{w0:World}{a:Option Addr}{l:List Value}{lo hi j:Nat}{v:Value}(hs:Sl lo hi w0 a l)(hj:l[j]?=some v)(hhi:hi≤w0.heap.size):
  ∀w,Mem (k0 w0) H w→w.cell? ⟨sb a,so a+j,none⟩=some v:=fun w hm=>by
 obtain⟨_,_,h3,h4⟩:=hs j v hj
 rw[(agH hm).cell (p:=⟨sb a,so a+j,none⟩) (by show sb a<_;omega)]
 exact h4
theorem IG{x y:Operand}{t m c:Nat}{ad:Option Addr}{k:IntKind}{i:Int}(sz:Nat)(ha:g=true→ad=some ⟨sb ad,so ad,none⟩)
  (hx:Gets ρ g x (.slice ad m c):=by first|exact .plain rfl|exact .cond rfl id|exact .cond rfl gl)(hy:Gets ρ g y (.int k i):=by first|exact .plain rfl|exact .cond rfl id|exact .cond rfl gl)
  (hs:elemSize P t=some sz:=by kernel_rfl)(hi:g=true→0≤i∧i<(m:Int):=by first|(intro _;omega)|(intro hg;simp at hg;omega)):
  Ev P n κ H ρ g (.indexAddr t x y) (.pointer (some ⟨sb ad,so ad+i.toNat*sz,none⟩)):=by
 intro w a dst ty pos aU gd hm ho hg
 have e1:=hx.eval ho hg
 rw[ha hg] at e1
 have hadm:=ha hg
 have e2:=hy.eval ho hg
 have hb:=hi hg
 unfold elemSize at hs
 split at hs
 ·rename_i el hu
  cases hti:P.info? el with
  |none=>rw[hti] at hs;cases hs
  |some ti=>
   rw[hti] at hs
   simp at hs
   subst hs
   show (Instr.indexAt t (a.eval x) (a.eval y) >>= fun v=>pure (Next.value v)).run P w=_
   rw[e1,e2]
   refine kN ?_
   unfold Instr.indexAt
   show (underlying t >>= _).run P w=_
   rw[run_bind_ok (nM hu w)]
   show (underlying t >>= _).run P w=_
   rw[run_bind_ok (nM hu w)]
   simp only[hb,and_self,if_true]
   rw[run_bind_ok (Bt hti w)]
   show Result.ok (Value.pointer (some (Addr.add ⟨sb ad,so ad,none⟩ (i.toNat*ti.size)))) w=_
   by_cases h0:i.toNat*ti.size=0
   ·simp[Addr.add,h0]
   ·simp only[Addr.add,h0,if_false]
 ·cases hs
theorem NT{x:Operand}{t:TypeId}{p:Addr}{v:Value}(hc:∀w,Mem κ H w→w.cell? p=some v)
  (hx:Gets ρ g x (.pointer (some p)):=by first|exact .plain rfl|exact .cond rfl id|exact .cond rfl gl)(ht:mR P t=true:=by kernel_rfl):Ev P n κ H ρ g (.load t x) v:=
 II hx ht fun _=>hc
theorem ab9{x:Operand}{t m b o:Nat}{l:List Value}(hc:∀w,Mem κ H w→∀j v,l[j]?=some v→w.cell? ⟨b,o+j,none⟩=some v)
  (hx:Gets ρ g x (.pointer (some ⟨b,o,none⟩)):=by first|exact .plain rfl|exact .cond rfl id|exact .cond rfl gl)(hl:l.length=m:=by rfl)(ht:Ao P t=some m:=by kernel_rfl):
  Ev P n κ H ρ g (.load t x) (.agg l.toArray):=
 R3 hx ht hl fun _ w hm j v hv=>by
  have:=hc w hm j v hv
  by_cases h0:j=0
  ·subst h0;exact this
  ·simp only[Addr.add,h0,if_false];exact this
def bt(s:ByteArray)(i:Nat):Int:=((s.data.toList.getD i 0).toNat:Int)
theorem Yg{x y:Operand}{t:TypeId}{s:ByteArray}{k:IntKind}{i:Int}
  (hx:Gets ρ g x (.string s):=by first|exact .plain rfl|exact .cond rfl id|exact .cond rfl gl)(hy:Gets ρ g y (.int k i):=by first|exact .plain rfl|exact .cond rfl id|exact .cond rfl gl)
  (ht:Gp P t=true:=by kernel_rfl)(hi:g=true→0≤i∧i<(s.size:Int):=by first|(intro _;omega)|(intro hg;simp at hg;omega)):
  Ev P n κ H ρ g (.index t x y) (.int .u8 (bt s i.toNat)):=by
 intro w a dst ty pos aU gd hm ho hg
 have e1:=hx.eval ho hg
 have e2:=hy.eval ho hg
 have hb:=hi hg
 unfold Gp at ht
 split at ht
 ·rename_i hu
  show (Instr.index t (a.eval x) (a.eval y) >>= fun v=>pure (Next.value v)).run P w=_
  rw[e1,e2]
  refine kN ?_
  unfold Instr.index
  show (underlying t >>= _).run P w=_
  rw[run_bind_ok (nM hu w)]
  have hlt:i.toNat<s.size:=by omega
  have hget:s[i.toNat]?=some (s[i.toNat]'hlt):=by simp[hlt]
  simp only[hb.1,if_true,hget]
  show Result.ok (Value.int .u8 _) w=_
  have:bt s i.toNat=((s[i.toNat]'hlt).toNat:Int):=by
   unfold bt
   rw[List.getD_eq_getElem?_getD,List.getElem?_eq_getElem (by simpa using hlt)]
   rfl
  rw[this]
 ·cases ht
def row(e sz:Nat)(a:Option Addr)(m cap:Nat)(xs:List Value):Chunk:=ch (fun k=>∃p,a=some p∧k=p.block) (fun w=>w.ownsRow 0 e sz (.slice a m cap) m xs) fun w w' h hw=>by
 refine⟨hw.1,?_⟩
 rcases hw.2 with h2|⟨gb,cap',cur,hv,hb,hh,r⟩
 ·exact .inl h2
 ·refine .inr ⟨gb,cap',cur,hv,hb,?_,r⟩
  simp only[Value.slice.injEq] at hv
  rw[h gb ⟨_,hv.1,rfl⟩]
  exact hh
theorem rowP{e sz m cap:Nat}{a:Option Addr}{xs:List Value}{w:World}(h:Has H (row e sz a m cap xs))(hm:Mem κ H w):w.ownsRow 0 e sz (.slice a m cap) m xs:=let ⟨_,h⟩:=YB h hm;h
theorem aml{w:World}(t ty e:TypeId)(i:TypeInfo)(z:Value)(ht:P.underlying t=some (.slice e))(hi:P.info? e=some i)(hz:i.zero=some z)
  (v:Value)(m:Nat)(xs:List Value)(hown:w.ownsRow 0 e i.size v m xs)(a:Addr)(mm c:Nat)(news:List Value)(hl:news.length=mm*i.size)(hnews:∀j u,news[j]?=some u→w.cell? (a.add j)=some u)
  (h1:∀u∈news,u.oneCell'=true)(h63:m+mm≤9223372036854775807)(hbytes:(m+mm)*i.bytes≤140737488355328){v':Value}{w':World}
  (h:(Builtin.append_ #[t,t] ty #[v,.slice (some a) mm c]).run P w= .ok v' w'):v'.ownBlock=v.ownBlock∨v'.ownBlock=some w.heap.size:=by
 rcases hown.2 with ⟨rfl,rfl⟩|⟨gb,cap,cur,rfl,hbg,hg,hnc,hcm,hcs,htake⟩
 ·by_cases hm:mm=0
  ·subst hm
   have hn:news=[]:=List.eq_nil_of_length_eq_zero (by simpa using hl)
   subst hn
   simp[Builtin.append_,run_underlying ht,sizeOf,typeInfo,hi,Builtin.lenOf,Builtin.firstCells,loadCells,loadCellsFrom] at h
   left;rw[←h.1]
  ·have hr:=run_append_nil (P:=P) w t ty e i z ht hi hz a mm c news hl hnews (by omega) (by omega) (by have hb:=hbytes;simp only[Nat.zero_add] at hb;omega)
   rw[hr] at h
   simp only[Result.ok.injEq] at h
   right;rw[←h.1];rfl
 ·by_cases hroom:m+mm≤cap
  ·have hfit:m*i.size+news.length≤cur.size:=by rw[hl,hcs,←Nat.add_mul];exact Nat.mul_le_mul_right _ hroom
   have hr:=run_append_room (P:=P) w t ty e i ht hi gb m cap cur hg a mm c news hl hnews h1 hroom hfit
   rw[hr] at h
   simp only[Result.ok.injEq] at h
   left;rw[←h.1];rfl
  ·have holds:∀j u,xs[j]?=some u→w.cell? ((⟨gb,0,none⟩:Addr).add j)=some u:=hown.cells (g:=gb) rfl
   have hr:=run_append_grow (P:=P) w t ty e i z ht hi hz ⟨gb,0,none⟩ m cap xs hown.1 holds a mm c news hl hnews (by omega) (by omega) (growslice_fits (by omega) hbytes)
   rw[hr] at h
   simp only[Result.ok.injEq] at h
   right;rw[←h.1];rfl
theorem awu{C:Env→List Chunk→Prop}{x y:Operand}{t e sz m mm cc d cap:Nat}{ty:TypeId}{pos:String}{aU:Array Edge}{gd:Option (Nat×Bool)}{a:Option Addr}{p:Addr}{xs news:List Value}{H':Option Addr→Nat→List Chunk}
  (kC:Nat)(hnews:∀w,Mem κ H w→∀j u,news[j]?=some u→w.cell? (p.add j)=some u)(hl:news.length=mm*sz)(h1:∀u∈news,u.oneCell'=true)
  (hb:(m+mm)*kC≤140737488355328)(hm63:m+mm≤140737488355328)
  (hu:∀a' cap',fq H (row e sz a m cap xs) (row e sz a' (m+mm) cap' (xs++news)) (H' a' cap'))
  (k:∀a' cap',C ((d,.v (.slice a' (m+mm) cap'))::ρ) (H' a' cap'))
  (hx:Gets ρ true x (.slice a m cap):=by first|exact .plain rfl|exact .cond rfl id|exact .cond rfl gl)(hy:Gets ρ true y (.slice (some p) mm cc):=by first|exact .plain rfl|exact .cond rfl id|exact .cond rfl gl)
  (hd:Nat.blt d n=true:=by rfl)(hi:Fu P t e sz kC=true:=by kernel_rfl):
  jE P n κ ⟨some d,.call {callee:= .builtin .append,args:= #[x,y],argTypes:= #[t,t]},ty,pos,aU,gd⟩ ρ H C:=by
 intro K Q hs w act hm ho
 obtain⟨hut,i,z,hi',hsz,hby,hz,hzs,hpos⟩:=Wz hi
 have hown:w.ownsRow 0 e sz (.slice a m cap) m xs:=rowP (hu none 0).has hm
 obtain⟨cs,hcs⟩:=Yk act.eval .append x y #[t,t] (some d) ty pos aU gd
 obtain⟨v',w',hr,ho2,hg,_⟩:=run_append_own (P:=P) w 0 t ty e i z sz kC hut hi' hz hsz hby hzs hpos _ m xs hown p mm cc news hl (hnews w hm) h1 (by simp only[maxLen];omega) hb (Nat.zero_le _)
 have hv:∃a' cap',v'= .slice a' (m+mm) cap':=by
  rcases ho2.2 with ⟨rfl,h0⟩|⟨gb,cap',cur,rfl,_⟩
  ·exact⟨none,0,by rw[h0]⟩
  ·exact⟨_,_,rfl⟩
 obtain⟨a',cap',rfl⟩:=hv
 unfold Oper.wp
 rw[hcs,hx.eval ho rfl,hy.eval ho rfl]
 have hrun:(builtin .append #[t,t] ty cs #[.slice a m cap,.slice (some p) mm cc]).run P w= .ok (.value (.slice a' (m+mm) cap')) w':=kN hr
 rw[hrun]
 refine hs _ _ (k a' cap') w' _ (Zg hm (hu a' cap') ⟨hg.os,hg.tape,hg.output,hg.size,fun kk hk hn=>hg.block kk hk ?_⟩ (fun _=>ho2) ?_) (ho.put (by simpa [Nat.blt_eq] using hd) rfl)
 ·intro he
  cases a with
  |none=>cases he
  |some q=>exact hn ⟨q,rfl,by simpa [Value.ownBlock] using he⟩
 ·rintro kk ⟨q,hq,rfl⟩
  subst hq
  have hlt:=ho2.lt q.block rfl
  refine⟨?_,hlt.2⟩
  subst hsz
  subst hby
  rcases aml t ty e i z hut hi' hz _ m xs hown p mm cc news hl (hnews w hm) h1 (by omega) hb hr with hq|hq
  ·left
   cases a with
   |none=>cases hq
   |some q'=>exact⟨q',rfl,by simpa [Value.ownBlock] using hq⟩
  ·right
   simp[Value.ownBlock] at hq
   omega
theorem akW{C:Env→List Chunk→Prop}{x y:Operand}{t e sz m mm cc d cap b e2:Nat}{ty:TypeId}{pos:String}{aU:Array Edge}{gd:Option (Nat×Bool)}{a:Option Addr}{xs news:List Value}{H':Option Addr→Nat→List Chunk}
  (kC:Nat)
  (hx:Gets ρ true x (.slice a m cap):=by first|exact .plain rfl|exact .cond rfl id|exact .cond rfl gl)(hy:Gets ρ true y (.slice (some ⟨b,0,none⟩) mm cc):=by first|exact .plain rfl|exact .cond rfl id|exact .cond rfl gl)
  (hh:Has H (own b e2 news):=by repeat (first|exact Has.head|apply Has.tail))
  (hu:∀a' cap',fq H (row e sz a m cap xs) (row e sz a' (m+mm) cap' (xs++news)) (H' a' cap'):=by intro a' cap';repeat (first|exact fq.head|apply fq.tail))
  (hl:news.length=mm*sz:=by rfl)(h1:news.all Value.oneCell'=true:=by rfl)
  (hb:(m+mm)*kC≤140737488355328:=by omega)(hm63:m+mm≤140737488355328:=by omega)
  (hd:Nat.blt d n=true:=by rfl)(hi:Fu P t e sz kC=true:=by kernel_rfl)
  (k:∀a' cap',C ((d,.v (.slice a' (m+mm) cap'))::ρ) (H' a' cap')):
  jE P n κ ⟨some d,.call {callee:= .builtin .append,args:= #[x,y],argTypes:= #[t,t]},ty,pos,aU,gd⟩ ρ H C:=
 awu kC (fun w hm j u hu=>by
  have:=GH (hh.own hm) hu
  by_cases h0:j=0
  ·subst h0;exact this
  ·simp only[Addr.add,h0,if_false,Nat.zero_add];exact this) hl (List.all_eq_true.1 h1) hb hm63 hu k hx hy hd hi
theorem ab7{t:TypeId}{x0 x1:Operand}{v0 v1:Value}
  (h0:Gets ρ g x0 v0:=by first|exact .plain rfl|exact .cond rfl id|exact .cond rfl gl)(h1:Gets ρ g x1 v1:=by first|exact .plain rfl|exact .cond rfl id|exact .cond rfl gl)
  (hb:∀w,(Instr.build t #[(0,v0),(1,v1)]).run P w= .ok (.agg #[v0,v1]) w:=by intro w;kernel_rfl):Ev P n κ H ρ g (.build t #[(0,x0),(1,x1)]) (.agg #[v0,v1]):=
 ag5 (parts:=[(0,x0),(1,x1)]) (l:=[v0,v1]) (fun hg _ ho=>(uZ.cons h0 (.cons h1 .nil)).eval ho hg) hb
theorem akY{t d len:Nat}{parts:List (Nat×Operand)}{vs:List (Nat×Value)}{ty:TypeId}{pos:String}{aU:Array Edge}{gd:Option (Nat×Bool)}(e:Nat)(l:List Value)
  (k:∀b,C ((d,.v (.slice (some ⟨b,0,none⟩) len len))::ρ) (own b e l::H))
  (hv:uZ ρ true parts vs:=by repeat (first|exact uZ.nil|(apply uZ.cons;first|exact .plain rfl|exact .cond rfl id|exact .cond rfl gl)))
  (hb:∀w,(Instr.buildSlice t len vs.toArray).run P w= .ok (.slice (some ⟨w.heap.size,0,none⟩) len len) (w.alloc (.cells l.toArray e)):=by intro w;kernel_rfl)
  (hd:Nat.blt d n=true:=by rfl):jE P n κ ⟨some d,.buildSlice t len parts.toArray,ty,pos,aU,gd⟩ ρ H C:=by
 intro K Q hs w a hm ho
 have e':=hv.eval ho rfl
 have hr:(execOp a.eval ⟨some d,.buildSlice t len parts.toArray,ty,pos,aU,gd⟩).run P w= .ok (.value (.slice (some ⟨w.heap.size,0,none⟩) len len)) (w.alloc (.cells l.toArray e)):=by
  show (Instr.buildSlice t len (parts.toArray.map fun (i,x)=>(i,a.eval x)) >>= fun v=>pure (Next.value v)).run P w=_
  refine kN ?_
  have:(parts.toArray.map fun (i,x)=>(i,a.eval x))=vs.toArray:=by rw[←e'];simp
  rw[this]
  exact hb w
 unfold Oper.wp
 rw[hr]
 exact hs _ _ (k w.heap.size) _ _ (hm.alloc l e) (ho.put (by simpa [Nat.blt_eq] using hd) rfl)
theorem awv{x y:Operand}{t d m e:Nat}{ty:TypeId}{pos:String}{aU:Array Edge}{gd:Option (Nat×Bool)}{k1 k2:IntKind}{z:Value}(kC:Nat)
  (k:∀a,a=some ⟨sb a,0,none⟩→C ((d,.v (.slice a m m))::ρ) (row e 1 a m m (List.replicate m z)::H))
  (hb:kC*m≤140737488355328)(hm':m≤140737488355328){p q:Int}
  (hx:Gets ρ true x (.int k1 p):=by first|exact .plain rfl|exact .cond rfl id|exact .cond rfl gl)(hy:Gets ρ true y (.int k2 q):=by first|exact .plain rfl|exact .cond rfl id|exact .cond rfl gl)(hp:p=(m:Int):=by omega)(hq:q=(m:Int):=by omega)
  (hi:Fu P t e 1 kC=true:=by kernel_rfl)(hz:KA P e=some [z]:=by kernel_rfl)
  (hd:Nat.blt d n=true:=by rfl):jE P n κ ⟨some d,.makeSlice t x y,ty,pos,aU,gd⟩ ρ H C:=by
 intro K Q hs w a hm ho
 obtain⟨hut,i,z',hi',hsz,hby,hzz,hzs,hpos⟩:=Wz hi
 have hz':z'.cells= #[z]:=by
  unfold KA at hz
  rw[hi'] at hz
  simp[hzz] at hz
  exact Array.toList_inj.1 hz
 obtain⟨w',hr,hown,hgr⟩:=run_make_full (P:=P) w 0 t e i z' 1 hut hi' hzz hsz k1 k2 m (by rw[hby];omega) (by simp only[maxLen];omega) (Nat.zero_le _)
 rw[hz',Nat.mul_one,toList_madeCells_one] at hown
 have hrun:(execOp a.eval ⟨some d,.makeSlice t x y,ty,pos,aU,gd⟩).run P w= .ok (.value (.slice (some ⟨w.heap.size,0,none⟩) m m)) w':=by
  show (Instr.makeSlice t (a.eval x) (a.eval y) >>= fun v=>pure (Next.value v)).run P w=_
  rw[hx.eval ho rfl,hy.eval ho rfl,hp,hq]
  exact kN hr
 unfold Oper.wp
 rw[hrun]
 refine hs _ _ (k (some ⟨w.heap.size,0,none⟩) rfl) w' _ (aed hm ⟨hgr.os,hgr.tape,hgr.output,hgr.size,fun kk hk _=>hgr.block kk hk (by simp)⟩ (fun _=>hown) ?_) (ho.put (by simpa [Nat.blt_eq] using hd) rfl)
 rintro kk ⟨p,hp,rfl⟩
 cases hp
 exact⟨Nat.le_refl _,(hown.lt _ rfl).2⟩
theorem akj{w:World}{e sz m cap:Nat}{a:Option Addr}{xs:List Value}(h:w.ownsRow 0 e sz (.slice a m cap) m xs)(hm:0<m):a=some ⟨sb a,so a,none⟩∧so a=0:=by
 rcases h.2 with ⟨_,h0⟩|⟨gb,cap',cur,hv,_⟩
 ·omega
 ·simp only[Value.slice.injEq] at hv
  rw[hv.1]
  exact⟨rfl,rfl⟩
theorem avx{w:World}{e sz m cap:Nat}{a:Option Addr}{xs:List Value}(h:w.ownsRow 0 e sz (.slice a m cap) m xs):xs.length=m*sz:=h.1
theorem afp{w:World}{e sz m cap j:Nat}{a:Option Addr}{xs:List Value}{v:Value}(h:w.ownsRow 0 e sz (.slice a m cap) m xs)(hj:xs[j]?=some v):w.cell? ⟨sb a,so a+j,none⟩=some v:=by
 have hlt:j<xs.length:=(List.getElem?_eq_some_iff.1 hj).1
 rcases h.2 with ⟨_,h0⟩|⟨gb,cap',cur,hv,hb,hh,h1,h2,h3,h4⟩
 ·rw[h.1,h0] at hlt;omega
 ·simp only[Value.slice.injEq] at hv
  obtain⟨hva,_,_⟩:=hv
  subst hva
  show w.cell? ⟨gb,0+j,none⟩=some v
  have hc:cur[j]?=some v:=by
   rw[←h4] at hj
   rw[List.getElem?_take] at hj
   split at hj
   ·simpa using hj
   ·cases hj
  simp[World.cell?,hh,hc]
theorem RH{e sz m cap j:Nat}{a:Option Addr}{xs:List Value}{v:Value}(hj:xs[j]?=some v)(hh:Has H (row e sz a m cap xs)):
 ∀w,Mem κ H w→w.cell? ⟨sb a,so a+j,none⟩=some v:=fun _ hm=>afp (rowP hh hm) hj
theorem ak4{x y:Operand}{t e sz m cap j:Nat}{ty:TypeId}{pos:String}{aU:Array Edge}{gd:Option (Nat×Bool)}{a:Option Addr}{xs:List Value}{v:Value}{H':List Chunk}
  (hu:fq H (row e sz a m cap xs) (row e sz a m cap (xs.set j v)) H')(hj:j<xs.length)(h1:v.oneCell'=true)
  (hx:Gets ρ true x (.pointer (some ⟨sb a,so a+j,none⟩)))(hy:Gets ρ true y v)
  (k:C ρ H')(ht:P.cellsOf t=1:=by kernel_rfl)(hti:(P.info? t).isSome=true:=by kernel_rfl):jE P n κ ⟨none,.store t x y,ty,pos,aU,gd⟩ ρ H C:=by
 intro K Q hs w act hm ho
 have hφ:=rowP hu.has hm
 have hc:∃u,w.cell? ⟨sb a,so a+j,none⟩=some u:=⟨xs[j],afp hφ (by simp[hj])⟩
 have hpos:0<m:=by
  rcases Nat.eq_zero_or_pos m with h|h
  ·have:=avx hφ;rw[h] at this;omega
  ·exact h
 have ha:=(akj hφ hpos)
 rcases hφ.2 with ⟨_,h0⟩|⟨gb,cap',cur,hv,hb,hh,h3,h4,h5,h6⟩
 ·omega
 ·simp only[Value.slice.injEq] at hv
  obtain⟨hva,_,hvc⟩:=hv
  subst hva
  subst hvc
  obtain⟨u,hu'⟩:=hc
  have hadd:(⟨sb (some (⟨gb,0,none⟩:Addr)),so (some (⟨gb,0,none⟩:Addr))+j,none⟩:Addr)=⟨gb,j,none⟩:=by simp[sb,so]
  rw[hadd] at hu' hx
  have hfz:w.frozen? ⟨gb,j,none⟩=false:=by simp[World.frozen?,hh]
  cases hi:P.info? t with
  |none=>rw[hi] at hti;cases hti
  |some i=>
   have hsz:i.size=1:=by simpa [Program.cellsOf,hi] using ht
   have hcells:v.cells= #[v]:=by cases v<;>first|rfl|simp[Value.oneCell'] at h1
   have hst:(storeCells ⟨gb,j,none⟩ [v] 0).run P w= .ok () (w.setCell ⟨gb,j,none⟩ v):=by
    show (store (Addr.add ⟨gb,j,none⟩ 0) v >>= fun _=>storeCells ⟨gb,j,none⟩ [] 1).run P w=_
    have aqW:(store (Addr.add ⟨gb,j,none⟩ 0) v).run P w= .ok () (w.setCell ⟨gb,j,none⟩ v):=by
     simp only[Addr.add,if_true]
     cases v<;>first
      |(simp[Value.oneCell'] at h1;done)
      |(simp only[store,Sem.run,hu',hfz];rfl)
    rw[run_bind_ok aqW]
    rfl
   have hrun:(execOp act.eval ⟨none,.store t x y,ty,pos,aU,gd⟩).run P w= .ok .skip (w.setCell ⟨gb,j,none⟩ v):=by
    show ((Instr.storeAt t (act.eval x) (act.eval y)) >>= fun _=>pure Next.skip).run P w=_
    rw[hx.eval ho rfl,hy.eval ho rfl]
    have:(Instr.storeAt t (.pointer (some ⟨gb,j,none⟩)) v).run P w= .ok () (w.setCell ⟨gb,j,none⟩ v):=by
     show (storeVar t ⟨gb,j,none⟩ v).run P w=_
     unfold storeVar
     rw[run_bind_ok (Bt hi w),hcells]
     have hsz2:¬((#[v]:Array Value).size≠i.size):=by simp[hsz]
     simp only[hsz2,if_false]
     exact hst
    rw[run_bind_ok this]
    rfl
   unfold Oper.wp
   rw[hrun]
   refine hs _ _ k _ _ (Zg hm hu ⟨rfl,rfl,rfl,by simp[World.setCell],fun kk _ hn=>Below.heap_setCell _ _ _ _ (fun e=>hn ⟨_,rfl,e⟩)⟩ (fun _=>?_) ?_) ho
   ·refine⟨by rw[List.length_set];exact hφ.1,.inr ⟨gb,cap,cur.setIfInBounds j v,rfl,Nat.zero_le _,?_,h3,h4,by simp[h5],?_⟩⟩
    ·show (w.setCell ⟨gb,j,none⟩ v).heap[gb]?=_
     simp[World.setCell,Array.getElem?_modify,hh]
    ·rw[←h6]
     simp[List.take_set]
   ·rintro kk ⟨p,hp,rfl⟩
    cases hp
    exact⟨.inl ⟨_,rfl,rfl⟩,by
     have:=Lc hu.has hm (k:=gb) ⟨_,rfl,rfl⟩
     simpa [World.setCell] using this⟩
def afN(P:Program)(t:TypeId):Bool:=
 (match P.underlying t with
  |some (.struct fs)=>match fs.toList with
   |[f0,f1]=>(f0.name != "_")&&(f1.name != "_")&&f0.offset==0&&f1.offset==1&&(P.underlying f0.type matches some (.int .i64))&&(P.underlying f1.type matches some (.int .i64))
   |_=>false
  |_=>false)&& !P.stoodInHeld t&& !P.eqGuardType P.depth t
theorem aku{t:TypeId}{k:IntKind}{cs:Array Value}{o:Nat}{v:Value}{w:World}(hu:P.underlying t=some (.int k))(hv:cs[o]?=some v):(part t cs o).run P w= .ok v w:=by
 have ha:(isAgg t).run P w= .ok false w:=aaE (by simp[mR,hu]) w
 unfold part
 rw[run_bind_ok ha]
 simp[hv,go_sem]
theorem avP{t:TypeId}{a b c d:Int}{w:World}(ht:afN P t=true):
  (Op.equalIn 10000 t (.agg #[.int .i64 a,.int .i64 b]) (.agg #[.int .i64 c,.int .i64 d])).run P w= .ok (decide (a=c∧b=d)) w∧P.eqGuardType P.depth t=false:=by
 unfold afN at ht
 simp only[Bool.and_eq_true,Bool.not_eq_true'] at ht
 obtain⟨⟨h1,h2⟩,h3⟩:=ht
 refine⟨?_,h3⟩
 cases hu:P.underlying t with
 |none=>rw[hu] at h1;cases h1
 |some ds=>
  rw[hu] at h1
  cases ds with
  |struct fs=>
   have hfs:P.fieldsOf t=fs:=by simp[Program.fieldsOf,hu]
   rw[run_equalIn_struct w 9999 t _ _ (by rw[hfs];exact hu) h2,hfs]
   obtain⟨fl⟩:=fs
   simp only at h1
   match fl,h1 with
   |[f0,f1],h1=>
    simp only[Bool.and_eq_true,bne_iff_ne,ne_eq,beq_iff_eq] at h1
    obtain⟨⟨⟨⟨⟨g1,g2⟩,g3⟩,g4⟩,g5⟩,g6⟩:=h1
    have u0:P.underlying f0.type=some (.int .i64):=by revert g5;cases P.underlying f0.type with|none=>simp|some d=>cases d with|int k=>cases k<;>simp|_=>simp
    have u1:P.underlying f1.type=some (.int .i64):=by revert g6;cases P.underlying f1.type with|none=>simp|some d=>cases d with|int k=>cases k<;>simp|_=>simp
    have p0:=fun (x y:Int)=>aku (w:=w) (cs:= #[.int .i64 x,.int .i64 y]) (o:=0) (v:= .int .i64 x) u0 rfl
    have p1:=fun (x y:Int)=>aku (w:=w) (cs:= #[.int .i64 x,.int .i64 y]) (o:=1) (v:= .int .i64 y) u1 rfl
    simp only[Op.eqFields,ne_eq,g1,g2,g3,g4,not_false_eq_true,if_true]
    rw[run_bind_ok (p0 a b),run_bind_ok (p0 c d),run_bind_ok (run_equalIn_int w 9998 f0.type .i64 .i64 a c u0)]
    by_cases e1:a=c
    ·simp only[e1,beq_self_eq_true,Bool.not_true,Bool.false_eq_true,if_false,true_and]
     rw[run_bind_ok (p1 c b),run_bind_ok (p1 c d),run_bind_ok (run_equalIn_int w 9998 f1.type .i64 .i64 b d u1)]
     by_cases e2:b=d
     ·simp[e2,go_sem]
     ·simp[e2,go_sem]
    ·simp[e1,go_sem]
  |_=>cases h1
theorem R7{x y:Operand}{t u:TypeId}{a b c d:Int}
  (hx:Gets ρ g x (.agg #[.int .i64 a,.int .i64 b]):=by first|exact .plain rfl|exact .cond rfl id|exact .cond rfl gl)(hy:Gets ρ g y (.agg #[.int .i64 c,.int .i64 d]):=by first|exact .plain rfl|exact .cond rfl id|exact .cond rfl gl)
  (ht:afN P t=true:=by kernel_rfl):Ev P n κ H ρ g (.binOp .eql t x y u) (.bool (decide (a=c∧b=d))):=by
 intro w act dst ty pos aU gd hm ho hg
 obtain⟨h1,h2⟩:=avP (a:=a) (b:=b) (c:=c) (d:=d) (w:=w) ht
 simp only[execOp,hx.eval ho hg,hy.eval ho hg]
 refine kN ?_
 rw[run_bind_ok (run_eqGuard_agg (P:=P) w .eql t x y _ _ h2),run_eql_struct,h1]
 rfl
def zQ(b:Nat)(S:List ByteArray):Chunk:=ch (fun k=>k=b) (fun w=>∃es clock,w.heap[b]?=some (.map es clock)∧es.toList.map (fun e=>(e.key,e.val))=S.map (fun s=>(Value.string s,Value.bool true))) fun w w' h hw=>by rw[h b rfl];exact hw
theorem Ud{b:Nat}{S:List ByteArray}{w:World}(h:Has H (zQ b S))(hm:Mem κ H w):∃es clock,w.heap[b]?=some (.map es clock)∧es.toList.map (fun e=>(e.key,e.val))=S.map (fun s=>(Value.string s,Value.bool true)):=let ⟨_,h⟩:=YB h hm;h
theorem bytes_beq{s r:ByteArray}:(s==r)=decide (s=r):=by
 rw[beq_toListBytes,afJ]
instance axS(s:ByteArray)(S:List ByteArray):Decidable (s∈S):=decidable_of_iff (S.any (fun r=>decide (s=r))=true) (by simp)
theorem ahf(s:ByteArray):∀(S:List ByteArray) (es:List MapEntry) (i:Nat),es.map (fun e=>(e.key,e.val))=S.map (fun s=>(Value.string s,Value.bool true))→
  (s∈S→∃j,Instr.findNow .string (.string s) es i=some (some (j,.bool true)))∧(s∉S→Instr.findNow .string (.string s) es i=some none)
 |[],es,i,h=>by
  have:es=[]:=by simpa using h
  subst this
  exact⟨fun h=>by simp at h,fun _=>rfl⟩
 |r::S,[],i,h=>by simp at h
 |r::S,e::es,i,h=>by
  simp only[List.map_cons,List.cons.injEq,Prod.mk.injEq] at h
  obtain⟨⟨h1,h2⟩,h3⟩:=h
  have ih:=ahf s S es (i+1) h3
  have hs:Instr.sameNow .string (.string s) e.key=some (decide (s=r)):=by
   rw[h1]
   show some (s==r)=_
   rw[bytes_beq]
  by_cases hr:s=r
  ·constructor
   ·intro _
    refine⟨i,?_⟩
    simp only[Instr.findNow,hs,decide_eq_true hr,h2]
   ·intro hn
    exact absurd (by simp[hr]) hn
  ·constructor
   ·intro hm
    rcases List.mem_cons.1 hm with h|h
    ·exact absurd h hr
    ·obtain⟨j,hj⟩:=ih.1 h
     exact⟨j,by simp[Instr.findNow,hs,hr,hj]⟩
   ·intro hn
    simp[Instr.findNow,hs,hr,ih.2 (fun h=>hn (List.mem_cons_of_mem _ h))]
def aaG(P:Program)(t:TypeId):Bool:=
 match P.underlying t with
 |some (.map k e)=>(P.underlying k matches some .string)&&(match P.info? e with|some i=>(match i.zero with|some (.bool false)=>true|_=>false)|none=>false)
 |_=>false
theorem akH{t:TypeId}(h:aaG P t=true):∃k e i,P.underlying t=some (.map k e)∧P.underlying k=some .string∧P.info? e=some i∧i.zero=some (.bool false):=by
 unfold aaG at h
 split at h
 ·rename_i k e hu
  simp only[Bool.and_eq_true] at h
  obtain⟨h1,h2⟩:=h
  have hk:P.underlying k=some .string:=by
   revert h1;cases P.underlying k with|none=>simp|some d=>cases d<;>simp
  split at h2
  ·rename_i i hi
   split at h2
   ·rename_i hz;exact⟨k,e,i,hu,hk,hi,hz⟩
   ·cases h2
  ·cases h2
 ·cases h
theorem run_getObj_map{b:Nat}{es:Array MapEntry}{clock:Nat}{w:World}(h:w.heap[b]?=some (.map es clock)):(getObj b).run P w= .ok (.map es clock) w:=by
 simp[getObj,Sem.run,h]
theorem akq{k:TypeId}{em:Bool}{s:ByteArray}{w:World}(hk:P.underlying k=some .string):(Instr.checkKey em 10000 k (.string s)).run P w= .ok () w:=by
 unfold Instr.checkKey
 rw[run_bind_ok (nM hk w)]
 rfl
theorem akr{k:TypeId}{s:ByteArray}{S:List ByteArray}{es:Array MapEntry}{w:World}(hk:P.underlying k=some .string)
  (h:es.toList.map (fun e=>(e.key,e.val))=S.map (fun s=>(Value.string s,Value.bool true))):
  (s∈S→∃j,(Instr.findKey k (.string s) es.toList).run P w= .ok (some (j,.bool true)) w)∧(s∉S→(Instr.findKey k (.string s) es.toList).run P w= .ok none w):=by
 have hf:=ahf s S es.toList 0 h
 constructor
 ·intro hm
  obtain⟨j,hj⟩:=hf.1 hm
  refine⟨j,?_⟩
  unfold Instr.findKey
  rw[run_bind_ok (nM hk w),hj]
  rfl
 ·intro hm
  unfold Instr.findKey
  rw[run_bind_ok (nM hk w),hf.2 hm]
  rfl
theorem anl{x y:Operand}{t b:Nat}{s:ByteArray}{S:List ByteArray}(hh:Has H (zQ b S):=by repeat (first|exact Has.head|apply Has.tail))
  (hx:Gets ρ g x (.map (some b)):=by first|exact .plain rfl|exact .cond rfl id|exact .cond rfl gl)(hy:Gets ρ g y (.string s):=by first|exact .plain rfl|exact .cond rfl id|exact .cond rfl gl)
  (ht:aaG P t=true:=by kernel_rfl):Ev P n κ H ρ g (.lookup t x y false) (.bool (decide (s∈S))):=by
 intro w a dst ty pos aU gd hm ho hg
 obtain⟨k,e,i,hu,hk,hi,hz⟩:=akH ht
 obtain⟨es,clock,hb,hes⟩:=Ud hh hm
 show (Instr.lookup t (a.eval x) (a.eval y) false >>= fun v=>pure (Next.value v)).run P w=_
 rw[hx.eval ho hg,hy.eval ho hg]
 refine kN ?_
 unfold Instr.lookup
 rw[run_bind_ok (nM hu w)]
 simp only[]
 rw[run_bind_ok (run_getObj_map hb)]
 show (Instr.checkKey es.isEmpty 10000 k (.string s) >>= _).run P w=_
 rw[run_bind_ok (akq hk)]
 have hf:=akr (w:=w) (s:=s) hk hes
 by_cases hs:s∈S
 ·obtain⟨j,hj⟩:=hf.1 hs
  rw[run_bind_ok hj]
  simp[hs,go_sem]
 ·rw[run_bind_ok (hf.2 hs)]
  have hzr:(zeroValue e).run P w= .ok (.bool false) w:=by
   unfold zeroValue
   rw[run_bind_ok (afu hi w)]
   simp only[hz]
   rfl
  simp only[]
  rw[run_bind_ok hzr]
  simp[hs,go_sem]
theorem ak2{t d:Nat}{ty:TypeId}{pos:String}{aU:Array Edge}{gd:Option (Nat×Bool)}
  (k:∀b,C ((d,.v (.map (some b)))::ρ) (zQ b []::H))(hd:Nat.blt d n=true:=by rfl):jE P n κ ⟨some d,.makeMap t none,ty,pos,aU,gd⟩ ρ H C:=by
 intro K Q hs w a hm ho
 have hr:(execOp a.eval ⟨some d,.makeMap t none,ty,pos,aU,gd⟩).run P w= .ok (.value (.map (some w.heap.size))) (w.alloc (.map #[] 0)):=rfl
 unfold Oper.wp
 rw[hr]
 refine hs _ _ (k w.heap.size) _ _ (aed hm ⟨rfl,rfl,rfl,by simp,fun k hk _=>Below.heap_alloc w _ k hk⟩ (fun _=>⟨#[],0,?_,rfl⟩) ?_) (ho.put (by simpa [Nat.blt_eq] using hd) rfl)
 ·show (w.heap.push _)[w.heap.size]?=_
  simp
 ·intro k hk
  have:k=w.heap.size:=hk
  subst this
  exact⟨Nat.le_refl _,by show w.heap.size<(w.heap.push _).size;simp⟩
theorem aww{x y z:Operand}{t b:Nat}{ty:TypeId}{pos:String}{aU:Array Edge}{gd:Option (Nat×Bool)}{s:ByteArray}{S:List ByteArray}{H':List Chunk}
  (hn:s∉S)(hu:fq H (zQ b S) (zQ b (S++[s])) H')(k:C ρ H')
  (hx:Gets ρ true x (.map (some b)):=by first|exact .plain rfl|exact .cond rfl id|exact .cond rfl gl)(hy:Gets ρ true y (.string s):=by first|exact .plain rfl|exact .cond rfl id|exact .cond rfl gl)
  (hz:Gets ρ true z (.bool true):=by first|exact .plain rfl|exact .cond rfl id|exact .cond rfl gl)
  (ht:aaG P t=true:=by kernel_rfl):jE P n κ ⟨none,.mapUpdate t x y z,ty,pos,aU,gd⟩ ρ H C:=by
 intro K Q hs w a hm ho
 obtain⟨kt,e,i,hut,hk,hi,_⟩:=akH ht
 obtain⟨es,clock,hb,hes⟩:=Ud hu.has hm
 have hlt:=Lc hu.has hm (k:=b) rfl
 have hrun:(execOp a.eval ⟨none,.mapUpdate t x y z,ty,pos,aU,gd⟩).run P w= .ok .skip {w with heap:=w.heap.setIfInBounds b (.map (es.push ⟨.string s,.bool true,clock⟩) (clock+1))}:=by
  show ((Instr.mapUpdate t (a.eval x) (a.eval y) (a.eval z)) >>= fun _=>pure Next.skip).run P w=_
  rw[hx.eval ho rfl,hy.eval ho rfl,hz.eval ho rfl]
  have:(Instr.mapUpdate t (.map (some b)) (.string s) (.bool true)).run P w= .ok () {w with heap:=w.heap.setIfInBounds b (.map (es.push ⟨.string s,.bool true,clock⟩) (clock+1))}:=by
   unfold Instr.mapUpdate
   rw[run_bind_ok (nM hut w)]
   simp only[]
   rw[run_bind_ok (run_getObj_map hb)]
   simp only[]
   rw[run_bind_ok (akq hk),run_bind_ok ((akr (w:=w) hk hes).2 hn)]
   simp[setObj,Sem.run,hb]
  rw[run_bind_ok this]
  rfl
 unfold Oper.wp
 rw[hrun]
 refine hs _ _ k _ _ (Zg hm hu ⟨rfl,rfl,rfl,by simp,fun kk _ hne=>?_⟩ (fun _=>⟨_,clock+1,by simp[hlt];rfl,by simp[hes]⟩) ?_) ho
 ·have:kk≠b:=hne
  simp[Array.getElem?_setIfInBounds_ne (Ne.symm this)]
 ·intro kk hkk
  have:kk=b:=hkk
  subst this
  exact⟨.inl rfl,by simpa using hlt⟩
def Mut(c:Chunk){β:Type}(val:β→Value)(R:β→Prop)(c':β→Chunk)(w:World)(e:Ending)(w':World):Prop:=
 ∃r,e= .returned (val r)∧R r∧(∀S,(c' r).φ S w')∧(∀k,(c' r).fp k→(c.fp k∨w.heap.size≤k)∧k<w'.heap.size)∧Frame c.fp w w'
theorem akZ{f d:Nat}{xs:List Operand}{vs:List Value}{ts:Array TypeId}{ty:TypeId}{pos:String}{aU:Array Edge}{gd:Option (Nat×Bool)}
  {β:Type}{c:Chunk}{val:β→Value}{R:β→Prop}{c':β→Chunk}{H':β→List Chunk}
  (hc:∀w,Mem κ H w→(∃S,c.φ S w)→(∀k,c.fp k→k<w.heap.size)→Calls P f vs.toArray w (Mut c val R c' w))
  (hh:Has H c:=by repeat (first|exact Has.head|apply Has.tail))(hu:∀r,fq H c (c' r) (H' r):=by intro r;repeat (first|exact fq.head|apply fq.tail))
  (ha:ku ρ true xs vs:=by repeat (first|exact ku.nil|(apply ku.cons;first|exact .plain rfl|exact .cond rfl id|exact .cond rfl gl)))
  (hd:Nat.blt d n=true:=by rfl)(hf:callable P f=true:=by kernel_rfl)(k:∀r,R r→C ((d,.v (val r))::ρ) (H' r)):jE P n κ ⟨some d,.call {callee:= .value (.func f),args:=xs.toArray,argTypes:=ts},ty,pos,aU,gd⟩ ρ H C:=by
 intro K Q hs w a hm ho
 unfold Oper.wp
 rw[QG (ha.eval ho rfl) hf]
 refine (hc w hm (YB hh hm) (fun k hk=>Lc hh hm hk)).mono ?_
 rintro e w' ⟨r,rfl,hR,hφ,hfp,hfr⟩
 exact hs _ _ (k r hR) w' _ (Zg hm (hu r) hfr hφ hfp) (ho.put (by simpa [Nat.blt_eq] using hd) rfl)
def agz(P:Program)(t len:Nat):Bool:=
 match P.underlying t with
 |some (.array m e)=>m==len&&mR P e&&(match P.info? e with|some i=>i.size==1|none=>false)
 |_=>false
theorem ank{x y:Operand}{t:TypeId}{k:IntKind}{cs:List Value}{i:Int}{v:Value}(len:Nat)(hi:g=true→0≤i∧i<(len:Int))(hv:g=true→cs[i.toNat]?=some v)
  (hx:Gets ρ g x (.agg cs.toArray):=by first|exact .plain rfl|exact .cond rfl id|exact .cond rfl gl)(hy:Gets ρ g y (.int k i):=by first|exact .plain rfl|exact .cond rfl id|exact .cond rfl gl)
  (ht:agz P t len=true:=by kernel_rfl):Ev P n κ H ρ g (.index t x y) v:=by
 intro w a dst ty pos aU gd hm ho hg
 have hi':=hi hg
 have hv':=hv hg
 unfold agz at ht
 split at ht
 ·rename_i m e hu
  simp only[Bool.and_eq_true,beq_iff_eq] at ht
  obtain⟨⟨h1,h2⟩,h3⟩:=ht
  subst h1
  split at h3
  ·rename_i ti hti
   have hsz:ti.size=1:=by simpa using h3
   show (Instr.index t (a.eval x) (a.eval y) >>= fun v=>pure (Next.value v)).run P w=_
   rw[hx.eval ho hg,hy.eval ho hg]
   refine kN ?_
   unfold Instr.index
   show (underlying t >>= _).run P w=_
   rw[run_bind_ok (nM hu w)]
   simp only[hi',and_self,if_true]
   rw[run_bind_ok (Bt hti w)]
   unfold part
   rw[run_bind_ok (aaE h2 w)]
   simp[hsz,hv',go_sem]
  ·cases h3
 ·cases ht
def bs(l:List UInt8):ByteArray:=⟨l.toArray⟩
theorem afD{w:World}{a:Addr}{v:Value}(h:w.cell? a=some v):a=⟨a.block,a.off,none⟩:=by
 obtain⟨b,o,s⟩:=a
 unfold World.cell? at h
 split at h
 ·split at h
  ·cases h
  ·rename_i hs
   cases s with
   |none=>rfl
   |some x=>simp at hs
 ·cases h
structure Row where
 a:Option Addr
 n:Nat
 cap:Nat
 xs:List Value
def Row.hdr(r:Row):Value:= .slice r.a r.n r.cap
def uP(on:Nat→Prop)(e sz:Nat)(rows:List Row):Chunk:=ch (fun k=>∃i r p,rows[i]?=some r∧on i∧r.a=some p∧k=p.block)
 (fun w=>(∀i r,rows[i]?=some r→on i→w.ownsRow 0 e sz (.slice r.a r.n r.cap) r.n r.xs)∧
  (∀i j r s p q,i≠j→rows[i]?=some r→rows[j]?=some s→on i→on j→r.a=some p→s.a=some q→p.block≠q.block)) fun w w' h hw=>by
 obtain⟨h2,h3⟩:=hw
 refine⟨fun i r hr hon=>?_,h3⟩
 exact (row e sz r.a r.n r.cap r.xs).dep (fun _=>False) w w' (fun k hk=>by
  rcases hk with hk|hk
  ·obtain⟨p,hp,rfl⟩:=hk;exact h _ ⟨i,r,p,hr,hon,hp,rfl⟩
  ·exact hk.elim) (h2 i r hr hon)
section
variable {κ:Ctx}{w:World}{H:List Chunk}{e sz:Nat}{rows:List Row}{on:Nat→Prop}
theorem awe{e sz m cap:Nat}{a:Option Addr}{xs:List Value}(h:w.ownsRow 0 e sz (.slice a m cap) m xs)(hlt:∀p,a=some p→p.block<w.heap.size):Sl 0 w.heap.size w a xs:=fun j u hu=>by
 have hpos:0<m:=by
  rcases Nat.eq_zero_or_pos m with h0|h0
  ·have:=h.1;rw[h0,Nat.zero_mul] at this
   have:xs=[]:=List.length_eq_zero_iff.1 this
   subst this;simp at hu
  ·exact h0
 have ha:=akj (e:=e) (sz:=sz) (cap:=cap) (xs:=xs) h hpos
 exact⟨ha.1,Nat.zero_le _,hlt _ ha.1,afp (e:=e) (sz:=sz) (cap:=cap) h hu⟩
theorem afA{i:Nat}{r:Row}(hr:rows[i]?=some r)(hon:on i)(hm:Mem κ H w)(hh:Has H (uP on e sz rows)):Sl 0 w.heap.size w r.a r.xs:=
 let ⟨_,h⟩:=YB hh hm;awe (h.1 i r hr hon) (fun p hp=>Lc hh hm ⟨i,r,p,hr,hon,hp,rfl⟩)
theorem akl{i:Nat}{r:Row}(hr:rows[i]?=some r)(hon:on i)(hm:Mem κ (uP on e sz rows::H) w):
  Mem κ (row e sz r.a r.n r.cap r.xs::uP (fun j=>on j∧j≠i) e sz rows::H) w:=aiq hm fun S hφ hd=>by
 obtain⟨h2,h3⟩:=hφ _ List.mem_cons_self
 have hd:=List.pairwise_cons.1 hd
 refine⟨fun c hc=>?_,?_⟩
 ·rcases List.mem_cons.1 hc with rfl|hc
  ·exact⟨h2 i r hr hon,fun k hk=>by obtain⟨p,hp,rfl⟩:=hk;exact⟨_,List.mem_cons_self,i,r,p,hr,hon,hp,rfl⟩⟩
  ·rcases List.mem_cons.1 hc with rfl|hc
   ·refine⟨⟨fun j s hs ho=>h2 j s hs ho.1,fun j j' s s' p q hne hs hs' ho ho'=>h3 j j' s s' p q hne hs hs' ho.1 ho'.1⟩,fun k hk=>⟨_,List.mem_cons_self,?_⟩⟩
    obtain⟨j,s,p,hs,ho,hp,rfl⟩:=hk
    exact⟨j,s,p,hs,ho.1,hp,rfl⟩
   ·exact⟨hφ c (List.mem_cons_of_mem _ hc),fun k hk=>⟨c,List.mem_cons_of_mem _ hc,hk⟩⟩
 ·rw[List.pairwise_cons,List.pairwise_cons]
  refine⟨fun c hc k hk hk'=>?_,fun c hc k hk hk'=>?_,hd.2⟩
  ·obtain⟨p,hp,rfl⟩:=hk
   rcases List.mem_cons.1 hc with rfl|hc
   ·obtain⟨j,s,q,hs,ho,hq,e⟩:=hk'
    exact h3 i j r s p q (Ne.symm ho.2) hr hs hon ho.1 hp hq e
   ·exact hd.1 c hc p.block ⟨i,r,p,hr,hon,hp,rfl⟩ hk'
  ·refine hd.1 c hc k ?_ hk'
   obtain⟨j,s,p,hs,ho,hp,rfl⟩:=hk
   exact⟨j,s,p,hs,ho.1,hp,rfl⟩
theorem akk{i:Nat}{r:Row}(hi:i<rows.length)(hm:Mem κ (row e sz r.a r.n r.cap r.xs::uP (fun j=>True∧j≠i) e sz rows::H) w):
  Mem κ (uP (fun _=>True) e sz (rows.set i r)::H) w:=aiq hm fun S hφ hd=>by
 have hrow:=hφ _ List.mem_cons_self
 obtain⟨h2,h3⟩:=hφ _ (List.mem_cons_of_mem _ List.mem_cons_self)
 have hd:=List.pairwise_cons.1 hd
 have hd2:=List.pairwise_cons.1 hd.2
 have hrg:=hd.1 (uP (fun j=>True∧j≠i) e sz rows) List.mem_cons_self
 have get:∀j s,(rows.set i r)[j]?=some s→(j=i∧s=r)∨(j≠i∧rows[j]?=some s):=fun j s hs=>by
  by_cases hji:j=i
  ·subst hji
   rw[List.getElem?_set_self hi] at hs
   cases hs
   exact .inl ⟨rfl,rfl⟩
  ·rw[List.getElem?_set_ne (Ne.symm hji)] at hs
   exact .inr ⟨hji,hs⟩
 refine⟨fun c hc=>?_,?_⟩
 ·rcases List.mem_cons.1 hc with rfl|hc
  ·refine⟨⟨fun j s hs _=>?_,fun j j' s s' p q hne hs hs' _ _ hp hq=>?_⟩,fun k hk=>?_⟩
   ·rcases get j s hs with ⟨_,rfl⟩|⟨hji,hs⟩
    ·exact hrow
    ·exact h2 j s hs ⟨trivial,hji⟩
   ·rcases get j s hs with ⟨rfl,rfl⟩|⟨hji,hs1⟩
    ·rcases get j' s' hs' with ⟨rfl,rfl⟩|⟨ac1,hs'⟩
     ·exact absurd rfl hne
     ·intro e
      exact hrg p.block ⟨p,hp,rfl⟩ ⟨j',s',q,hs',⟨trivial,ac1⟩,hq,e⟩
    ·rcases get j' s' hs' with ⟨rfl,rfl⟩|⟨ac1,hs2⟩
     ·intro e
      exact hrg q.block ⟨q,hq,rfl⟩ ⟨j,s,p,hs1,⟨trivial,hji⟩,hp,e.symm⟩
     ·exact h3 j j' s s' p q hne hs1 hs2 ⟨trivial,hji⟩ ⟨trivial,ac1⟩ hp hq
   ·obtain⟨j,s,p,hs,_,hp,rfl⟩:=hk
    rcases get j s hs with ⟨rfl,rfl⟩|⟨hji,hs⟩
    ·exact⟨_,List.mem_cons_self,p,hp,rfl⟩
    ·exact⟨_,List.mem_cons_of_mem _ List.mem_cons_self,j,s,p,hs,⟨trivial,hji⟩,hp,rfl⟩
  ·exact⟨hφ c (List.mem_cons_of_mem _ (List.mem_cons_of_mem _ hc)),fun k hk=>⟨c,List.mem_cons_of_mem _ (List.mem_cons_of_mem _ hc),hk⟩⟩
 ·rw[List.pairwise_cons]
  refine⟨fun c hc k hk hk'=>?_,hd2.2⟩
  obtain⟨j,s,p,hs,_,hp,rfl⟩:=hk
  rcases get j s hs with ⟨rfl,rfl⟩|⟨hji,hs⟩
  ·exact hd.1 c (List.mem_cons_of_mem _ hc) _ ⟨p,hp,rfl⟩ hk'
  ·exact hd2.1 c hc _ ⟨j,s,p,hs,⟨trivial,hji⟩,hp,rfl⟩ hk'
theorem avA{m:Nat}(hm:Mem κ H w):Mem κ (uP (fun _=>True) e sz (List.replicate m (⟨none,0,0,[]⟩:Row))::H) w:=by
 have hg:∀i r,(List.replicate m (⟨none,0,0,[]⟩:Row))[i]?=some r→r=(⟨none,0,0,[]⟩:Row):=fun i r hr=>by
  rw[List.getElem?_replicate] at hr
  split at hr
  ·simpa using hr.symm
  ·cases hr
 refine aed hm (c:=uP (fun _=>True) e sz (List.replicate m (⟨none,0,0,[]⟩:Row))) (Frame.refl _ w) (fun _=>⟨fun i r hr _=>?_,fun i j r s p q _ hr hs _ _ hp=>?_⟩) ?_
 ·have:=hg i r hr;subst this;exact World.ownsRow_nil w 0 e sz
 ·have:=hg i r hr;subst this;cases hp
 ·rintro k ⟨i,r,p,hr,_,hp,rfl⟩
  have:=hg i r hr;subst this;cases hp
end
end
end Go.Dc.oJ
namespace Go.Proofs.YtcalibhfgdncaaaGreatDoor
open Go.Dc.oJ Go.Dc Go.RowKit
attribute [local irreducible] CW OW AW AZ Ev
set_option maxHeartbeats 0
set_option maxRecDepth 10000
def ru(c:Int):Bool:=(decide (65≤c)&&decide (c≤90))||(decide (97≤c)&&decide (c≤122))
def Ap(c:Int):Bool:=decide (48≤c)&&decide (c≤57)
theorem ahM(w:World)(c:Int):Calls Tryz.prog 134 #[.int .u8 c] w (bM w (.bool (ru c))):=by
 refine bF (args:=[_]) Tryz.func134 rfl (m0 w) rfl ?_;refine go ?_;refine aF (pq rfl rfl (fun w hm=>oG hm rfl))
theorem arP(w:World)(c:Int):Calls Tryz.prog 135 #[.int .u8 c] w (bM w (.bool (Ap c))):=by
 refine bF (args:=[_]) Tryz.func135 rfl (m0 w) rfl ?_;refine go ?_;refine aF (pq rfl rfl (fun w hm=>oG hm rfl))
def qW(c:Int):Bool:=ru c||Ap c||decide (c=95)
def kW(s:ByteArray):Bool:=decide (1≤s.size)&&decide (s.size≤12)&&ru (bt s 0)&&(List.range s.size).all fun i=>qW (bt s i)
theorem amH{c:Int}(h:((!ru c&& !Ap c)&&decide (c≠95))=false):qW c=true:=by
 unfold qW
 cases hl:ru c<;>cases hd:Ap c<;>simp[hl,hd] at h ⊢
 exact h
theorem as7{s:ByteArray}(h:((decide ((s.size:Int)<1)||decide (12<(s.size:Int)))|| !ru (bt s 0))=true):kW s=false:=by
 unfold kW
 cases hl:ru (bt s 0)
 ·simp
 ·simp[hl] at h
  rcases h with h|h
  ·have:¬(1≤s.size):=by omega
   simp[this]
  ·have:¬(s.size≤12):=by omega
   simp[this]
theorem as8{s:ByteArray}{i:Int}(h0:0≤i)(h1:i<s.size)(h:((!ru (bt s i.toNat)&& !Ap (bt s i.toNat))&&decide (bt s i.toNat≠95))=true):kW s=false:=by
 have hc:qW (bt s i.toNat)=false:=by
  unfold qW
  cases hl:ru (bt s i.toNat)<;>cases hd:Ap (bt s i.toNat)<;>simp_all
 have:((List.range s.size).all fun i=>qW (bt s i))=false:=by
  rw[List.all_eq_false]
  exact⟨i.toNat,by rw[List.mem_range];omega,by simp[hc]⟩
 unfold kW
 rw[this]
 simp
theorem ata{s:ByteArray}{i:Int}(h:((¬(s.size:Int)<1)∧¬12<(s.size:Int))∧ru (bt s 0)=true)(hi:i=s.size)(hall:∀j,j<i.toNat→qW (bt s j)=true):kW s=true:=by
 unfold kW
 have h1:1≤s.size:=by omega
 have h2:s.size≤12:=by omega
 simp only[h1,h2,decide_true,h.2,Bool.true_and,List.all_eq_true,List.mem_range]
 intro j hj;exact hall j (by omega)
theorem as9(w:World)(s:ByteArray):Calls Tryz.prog 78 #[.string s] w (bM w (.bool (kW s))):=by
 refine bF (args:=[_]) Tryz.func78 rfl (m0 w) rfl ?_;refine aJ ?_;refine au fun K2 hK2=>?_;refine aR ?_;refine oe Yh ?_;refine go ?_;refine bY rfl Yh ?_;refine go ?_;refine bY rfl Yg ?_;refine aer rfl (fun _ w _=>ahM w _) ?_;refine go ?_;refine xE rfl (fun hc1=>?_) (fun hc1=>?_)
 ·
   refine aJ ?_;refine aF (pq rfl rfl (fun w hm=>oG hm (congrArg Value.bool (as7 hc1).symm)))
 ·
   refine cs hK2 ?_;refine au fun K5 dx=>?_;refine aR ?_;refine oe Yh ?_;refine go ?_
   simp only[Bool.or_eq_false_iff,decide_eq_false_iff_not,Bool.not_eq_false'] at hc1
   refine Iu (γ:=Int) (env:=fun i=>[(0,.v (.string s)),(19,eI (s.size:Int)),(20,eI i)]) (mem:=fun _=>[])
    (R:=fun i=>0≤i∧i≤s.size∧∀j,j<i.toNat→qW (bt s j)=true) (μ:=fun i=>(s.size-i).toNat) 0 ⟨by omega,by omega,fun j hj=>by simp at hj⟩ ⟨rfl,rfl,rfl,trivial⟩ (fun _ h=>h) ?_
   ·intro i hR KL hL
    obtain⟨hi0,hi1,hall⟩:=hR;refine go ?_;refine au fun K8 gP=>?_;refine yE rfl (fun hc=>?_) (fun hc=>?_)
    ·
      refine cs gP ?_;refine au fun K9 fH=>?_;refine go ?_;refine oe Yg ?_;refine bf (jh (fun w _=>ahM w _) ?_);refine go ?_;refine bY rfl Yg ?_;refine aer rfl (fun _ w _=>arP w _) ?_;refine go ?_;refine bY rfl Yg ?_;refine go ?_;refine xE rfl (fun hc2=>?_) (fun hc2=>?_)
      ·
        refine aJ ?_;refine aF (pq rfl rfl (fun w hm=>oG hm (congrArg Value.bool (as8 hi0 (by assumption) hc2).symm)))
      ·
        refine cs fH ?_;refine bg ?_;refine oe dP ?_;refine om ?_;refine bq (hL (i+1) _ _ ⟨by omega,by omega,fun j hj=>?_⟩ (by omega) ⟨rfl,rfl,rfl,trivial⟩ (fun _ h=>h))
        by_cases hji:j<i.toNat
        ·exact hall j hji
        ·obtain rfl:j=i.toNat:=by omega
         exact amH hc2
    ·
      refine cx dx ?_;refine aJ ?_;refine aF (pq rfl rfl (fun w hm=>oG hm (congrArg Value.bool (ata hc1 (by omega) hall).symm)))
structure mO where
 name:ByteArray
 len:Int
 lim:Int
 aco:Int
 afG:Int
def mO.cells(s:mO):List Value:=[.string s.name,vI s.len,vI s.lim,vI s.aco,vI s.afG]
structure fK where
 a:Int
 lg:Int
 b:Int
 mF:Int
 point:Int
 pos:Int
def fK.cells(k:fK):List Value:=[vI k.a,vI k.lg,vI k.b,vI k.mF,vI k.point,vI k.pos]
structure Lay where
 nN:List ByteArray
 points:List ByteArray
 sections:List mO
 links:List fK
def strCells(l:List ByteArray):List Value:=l.map .string
structure zC where
 a1:Option Addr
 c1:Nat
 a2:Option Addr
 c2:Nat
 a3:Option Addr
 c3:Nat
 a4:Option Addr
 c4:Nat
def zC.cells(v:zC)(l:Lay):List Value:=[.slice v.a1 l.nN.length v.c1,.slice v.a2 l.points.length v.c2,.slice v.a3 l.sections.length v.c3,.slice v.a4 l.links.length v.c4]
structure H9(lo hi:Nat)(w:World)(v:zC)(l:Lay):Prop where
 st:Sl lo hi w v.a1 (strCells l.nN)
 pt:Sl lo hi w v.a2 (strCells l.points)
 se:Sl lo hi w v.a3 (l.sections.flatMap mO.cells)
 li:Sl lo hi w v.a4 (l.links.flatMap fK.cells)
def ng(s:ByteArray)(seen:List ByteArray):Int:=if kW s=false then 3 else if s∈seen then 5 else 0
def M9(s:ByteArray)(seen:List ByteArray):List ByteArray:=if ng s seen=0 then seen++[s] else seen
def yh(sK:Nat)(s:mO):Bool:=((((((decide (1≤s.len)&&decide (s.len≤400))&&decide (1000≤s.lim))&&decide (s.lim≤100000))&&decide (-40≤s.aco))&&decide (s.aco≤40))&&decide (-1≤s.afG))&&decide (s.afG<(sK:Int))
theorem av6(w:World)(v:zC)(l:Lay)(s:mO):Calls Tryz.prog 97 #[.agg (v.cells l).toArray,.agg s.cells.toArray] w (bM w (.bool (yh l.nN.length s))):=by
 refine bF (args:=[_,_]) Tryz.func97 rfl (m0 w) rfl ?_;refine sr ?_;refine bf (Dh (k:=fun b2=>?_));refine bf (Dh (k:=fun b3=>?_));refine go ?_;refine aF (pq rfl rfl (fun w hm=>oG hm rfl))
theorem ne1{s:ByteArray}{S:List ByteArray}(h:(!kW s)=true):ng s S=3:=by simp at h;simp[ng,h]
theorem ne2{s:ByteArray}{S:List ByteArray}(h:(!kW s)=false)(h2:s∈S):ng s S=5:=by simp at h;simp[ng,h,h2]
theorem ne3{s:ByteArray}{S:List ByteArray}(h:(!kW s)=false)(h2:¬s∈S):ng s S=0:=by simp at h;simp[ng,h,h2]
theorem se1{s:ByteArray}{S:List ByteArray}(h:ng s S≠0):M9 s S=S:=by simp[M9,h]
theorem se2{s:ByteArray}{S:List ByteArray}(h:ng s S=0):M9 s S=S++[s]:=by simp[M9,h]
theorem agQ(w:World)(s:ByteArray)(b:Nat)(S:List ByteArray)(hφ:(zQ b S).φ (fun _=>False) w)(hb:∀k,(zQ b S).fp k→k<w.heap.size):
   Calls Tryz.prog 96 #[.string s,.map (some b)] w (Mut (zQ b S) (fun _:Unit=>vI (ng s S)) (fun _=>True) (fun _=>zQ b (M9 s S)) w):=by
 refine bF (args:=[_,_]) Tryz.func96 rfl (as5 hφ hb) rfl ?_;refine aJ ?_;refine au fun K2 hK2=>?_;refine go ?_;refine bf (jh (fun w hm=>as9 w _) ?_);refine go ?_;refine xE rfl (fun hc1=>?_) (fun hc1=>?_)
 ·
   refine aJ ?_;refine aF (pq rfl rfl (fun w hm=>⟨(),by rw[ne1 hc1],trivial,by rw[se1 (by rw[ne1 hc1];decide)];exact fun _=>Ud Has.head hm,fun k hk=>⟨.inl hk,Lc (c:=zQ b S) Has.head hm hk⟩,mFr hm⟩))
 ·
   refine go ?_;refine oe anl ?_;refine aN ?_;refine yE rfl (fun hc2=>?_) (fun hc2=>?_)
   ·
     refine aJ ?_;refine aF (pq rfl rfl (fun w hm=>⟨(),by rw[ne2 hc1 hc2],trivial,by rw[se1 (by rw[ne2 hc1 hc2];decide)];exact fun _=>Ud Has.head hm,fun k hk=>⟨.inl hk,Lc (c:=zQ b S) Has.head hm hk⟩,mFr hm⟩))
   ·
     refine cs hK2 ?_;refine go ?_;refine bf (aww hc2 .head ?_);refine go ?_;refine aF (pq rfl rfl (fun w hm=>⟨(),by rw[ne3 hc1 hc2],trivial,by rw[se2 (ne3 hc1 hc2)];exact fun _=>Ud Has.head hm,fun k hk=>⟨.inl hk,Lc (c:=zQ b (S++[s])) Has.head hm hk⟩,mFr hm⟩))
theorem H9.below{w w':World}{v:zC}{l:Lay}(h:H9 0 w.heap.size w v l)(hb:Below w.heap.size w w'):H9 0 w'.heap.size w' v l:=
 ⟨h.st.mono (Nat.le_refl _) hb.size (fun k _ hk=>hb.block k hk),h.pt.mono (Nat.le_refl _) hb.size (fun k _ hk=>hb.block k hk),h.se.mono (Nat.le_refl _) hb.size (fun k _ hk=>hb.block k hk),h.li.mono (Nat.le_refl _) hb.size (fun k _ hk=>hb.block k hk)⟩
def atEnd(done:List fK)(e:Int):List fK:=done.filter (fun k=>decide (2*k.a+k.lg=e)||decide (2*k.b+k.mF=e))
def LC(a ae b be:Int)(k:fK):Bool:=(decide (a=k.a∧ae=k.lg)&&decide (b=k.b∧be=k.mF))||(decide (a=k.b∧ae=k.mF)&&decide (b=k.a∧be=k.lg))
def yG(k:fK):List fK→Bool
 |[]=>true
 |[x]=>(decide (k.point≠ -1)&&decide (k.point=x.point))&&decide (k.pos≠x.pos)
 |_=>false
def oC(l:Lay)(k:fK):Bool:=
 (((((((decide (0≤k.a)&&decide (k.a<(l.sections.length:Int)))&&decide (0≤k.b))&&decide (k.b<(l.sections.length:Int)))&&(decide (k.lg=0)||decide (k.lg=1)))&&(decide (k.mF=0)||decide (k.mF=1)))&&decide (-1≤k.point))&&decide (k.point<(l.points.length:Int)))&&(decide (k.pos=0)||(decide (k.pos=1)&&decide (k.point≠ -1)))
def pz(l:Lay):List fK→List fK→Int
 |_,[]=>0
 |done,k::r=>
  if oC l k=false then 4 else if k.a=k.b∧k.lg=k.mF then 1 else
  if (atEnd done (2*k.a+k.lg)).any (LC k.a k.lg k.b k.mF)=true then 5 else
  if yG k (atEnd done (2*k.a+k.lg))=false∨yG k (atEnd done (2*k.b+k.mF))=false then 11 else pz l (done++[k]) r
theorem asM(w:World)(v:zC)(l:Lay)(k:fK):Calls Tryz.prog 147 #[.agg (v.cells l).toArray,.agg k.cells.toArray] w (bM w (.bool (oC l k))):=by
 refine bF (args:=[_,_]) Tryz.func147 rfl (m0 w) rfl ?_;refine sr ?_;refine bf (Dh (k:=fun b2=>?_));refine bf (Dh (k:=fun b3=>?_));refine go ?_;refine aF (pq rfl rfl (fun w hm=>oG hm rfl))
theorem ag4(w:World)(k:fK):Calls Tryz.prog 148 #[.agg k.cells.toArray] w (bM w (.tuple #[.agg #[vI k.a,vI k.lg],.agg #[vI k.b,vI k.mF]])):=by
 refine bF (args:=[_]) Tryz.func148 rfl (m0 w) rfl ?_;refine sr ?_;refine bf (Dh (k:=fun b1=>?_));refine oA rfl fun b2=>?_;refine oA rfl fun b3=>?_;refine on ?_;refine au fun K2 hK2=>?_;refine dS [own b1 183 k.cells] G6 ?_;refine fa 0 0 ?_;refine fa 2 1 ?_;refine ay 4 rfl ab7 ?_;refine fa 5 2 ?_;refine fa 7 3 ?_;refine ay 9 rfl ab7 ?_;refine bT 10 rfl (lH (k:=⟨rI,?_⟩));refine bT 11 rfl (lH (k:=⟨rI,?_⟩));refine bS (hK2 _ _ ?_);refine aF (qZ (fun w hm=>oG hm rfl))
theorem ag3(w:World)(s d:Int)(hs:0≤s∧s≤1000000)(hd:0≤d∧d≤1000000):Calls Tryz.prog 149 #[.agg #[vI s,vI d]] w (bM w (vI (2*s+d))):=by
 refine bF (args:=[_]) Tryz.func149 rfl (m0 w) rfl ?_;refine sr ?_;refine bf (Dh (k:=fun b1=>?_));refine go ?_;refine oe vw ?_;refine fo 1 ?_;refine oe dP ?_;refine aN ?_;refine aF (pq rfl rfl (fun w hm=>oG hm rfl))
def iZ:fK:=⟨0,0,0,0,0,0⟩
theorem ahj:∀(xs:List fK) (i j:Nat),j<6→(xs.flatMap fK.cells)[i*6+j]?=(xs[i]?).bind (fun x=>(fK.cells x)[j]?)
 |[],i,j,_=>by simp
 |x::xs,0,j,hj=>by
  simp only[List.flatMap_cons,Nat.zero_mul,Nat.zero_add]
  rw[List.getElem?_append_left (by show j<6;exact hj)]
  rfl
 |x::xs,i+1,j,hj=>by
  simp only[List.flatMap_cons]
  have h6:(fK.cells x).length=6:=rfl
  rw[List.getElem?_append_right (by rw[h6,Nat.add_mul];omega),h6]
  rw[show (i+1)*6+j-6=i*6+j by rw[Nat.add_mul];omega]
  rw[ahj xs i j hj]
  simp
theorem Zd{xs:List fK}{i j:Nat}{u:Value}(hi:i<xs.length)(hj:(fK.cells (xs.getD i iZ))[j]?=some u):(xs.flatMap fK.cells)[i*6+j]?=some u:=by
 have hjl:j<6:=by have:=(List.getElem?_eq_some_iff.1 hj).1;simpa [fK.cells] using this
 rw[ahj xs i j hjl]
 have:xs[i]?=some (xs.getD i iZ):=by simp[hi]
 rw[this]
 exact hj
theorem Ze(xs:List fK):(xs.flatMap fK.cells).length=xs.length*6:=by
 induction xs with
 |nil=>simp
 |cons x xs ih=>simp only[List.flatMap_cons,List.length_append,ih,List.length_cons,Nat.add_mul];simp[fK.cells];omega
theorem amk{ks:List fK}{p:fK→Bool}{i:Nat}(hi:i<ks.length)(h:p (ks.getD i iZ)=true):ks.any p=true:=by
 rw[List.any_eq_true]
 exact⟨ks[i],List.getElem_mem hi,by simpa [List.getD_eq_getElem?_getD,hi] using h⟩
theorem amj{ks:List fK}{p:fK→Bool}{i:Nat}(hi:ks.length≤i)(h:∀j,j<i→p (ks.getD j iZ)=false):ks.any p=false:=by
 rw[List.any_eq_false]
 intro x hx;obtain⟨j,hj,rfl⟩:=List.mem_iff_getElem.1 hx
 have:=h j (by omega)
 simpa [List.getD_eq_getElem?_getD,hj] using this
theorem ar3(w:World)(a:Option Addr)(cap:Nat)(ks:List fK)(x xe y ye:Int)(hs:Sl 0 w.heap.size w a (ks.flatMap fK.cells))(hlen:ks.length≤1000000):
   Calls Tryz.prog 150 #[.slice a ks.length cap,.agg #[vI x,vI xe],.agg #[vI y,vI ye]] w (bM w (.bool (ks.any (LC x xe y ye)))):=by
 refine bF (args:=[_,_,_]) Tryz.func150 rfl (m0 w) rfl ?_;refine sr ?_;refine bf (Dh (k:=fun b4=>?_));refine bf (Dh (k:=fun b5=>?_));refine aN ?_;refine au fun K2 hK2=>?_;refine go ?_
 refine Iu (γ:=Int) (env:=fun i=>[(4,eP b4),(5,eP b5),(11,.v (.slice a ks.length cap)),(12,eI (ks.length:Int)),(13,eI i)]) (mem:=fun i=>[own b5 209 [vI y,vI ye],own b4 209 [vI x,vI xe]]) (R:=fun i=>0≤i∧i≤ks.length∧∀j,j<i.toNat→LC x xe y ye (ks.getD j iZ)=false) (μ:=fun i=>(ks.length-i).toNat) (0) (⟨by omega,by omega,fun j hj=>by simp at hj⟩) ⟨rfl,rfl,rfl,rfl,rfl,trivial⟩ (fun _ h=>h) ?_;intro i NW eO hL1;obtain⟨hi0,hi1,hall⟩:=NW;refine go ?_;refine au fun K5 dx=>?_;refine yE rfl (fun hc1=>?_) (fun hc1=>?_)
 ·
   refine cs dx ?_;refine au fun K6 dG=>?_;refine go ?_;refine oe (IG 6 (fun _=>hs.addr (by rw[Ze];omega))) ?_;refine oe (ab9 (l:=(ks.getD i.toNat iZ).cells) (fun w hm q u hu=>by rw[Nat.add_assoc];exact NR hs (Zd (by omega) hu) (Nat.le_refl _) w hm)) ?_;refine oA rfl fun b8=>?_;refine bf (lH (k:=?_));refine go ?_;refine bf (jh (fun w hm=>ag4 w _) ?_);refine om ?_;refine oe bU ?_;refine oe bU ?_;refine oA rfl fun b9=>?_;refine oA rfl fun b10=>?_;refine bf (lH (k:=?_));refine bf (lH (k:=?_));refine go ?_;refine oe R7 ?_;refine go ?_;refine bY rfl R7 ?_;refine go ?_;refine bY rfl R7 ?_;refine go ?_;refine bY rfl R7 ?_;refine go ?_;refine xE rfl (fun hc2=>?_) (fun hc2=>?_)
   ·
     refine aJ ?_;refine aF (pq rfl rfl (fun w hm=>oG hm (congrArg Value.bool (amk (by omega) hc2).symm)))
   ·
     refine cs dG ?_;refine bg ?_;refine oe dP ?_;refine om ?_;refine bq (hL1 (i+1) _ _ (⟨by omega,by omega,fun j hj=>?_⟩) (by omega) sS (rI))
     by_cases hji:j<i.toNat
     ·exact hall j hji
     ·obtain rfl:j=i.toNat:=by omega
      exact hc2
 ·
   refine cx hK2 ?_;refine aJ ?_;refine aF (pq rfl rfl (fun w hm=>oG hm (congrArg Value.bool (amj (i:=i.toNat) (by omega) hall).symm)))
theorem anx{k:fK}{ks:List fK}(h:¬(ks.length:Int)=0):yG k ks=(((decide ((ks.length:Int)=1)&&decide (k.point≠ -1))&&decide (k.point=(ks.getD 0 iZ).point))&&decide (k.pos≠(ks.getD 0 iZ).pos)):=by
 match ks,h with
 |[],h=>simp at h
 |[x],_=>simp[yG]
 |x::y::r,_=>simp[yG];omega
theorem ahh(w:World)(k:fK)(a:Option Addr)(cap:Nat)(ks:List fK)(hs:Sl 0 w.heap.size w a (ks.flatMap fK.cells)):
   Calls Tryz.prog 151 #[.agg k.cells.toArray,.slice a ks.length cap] w (bM w (.bool (yG k ks))):=by
 refine bF (args:=[_,_]) Tryz.func151 rfl (m0 w) rfl ?_;refine sr ?_;refine bf (Dh (k:=fun b2=>?_));refine aN ?_;refine au fun K2 hK2=>?_;refine go ?_;refine yE rfl (fun hc1=>?_) (fun hc1=>?_)
 ·
   refine aJ ?_;refine aF (pq rfl rfl (fun w hm=>oG hm (by rw[show ks=[] from List.length_eq_zero_iff.1 (by omega)];rfl)))
 ·
   refine cs hK2 ?_;refine au fun K5 dx=>?_;refine dS [own b2 183 k.cells] G6 ?_;refine am 0 ?_;refine ay 1 rfl jq ?_;refine ay 2 rfl oK ?_;refine am 3 ?_;refine dX 4 rfl rfl (aY 4) ?_;refine dX 5 rfl rfl gZ ?_;refine dX 6 rfl rfl nQ ?_;refine ay 7 rfl rR ?_;refine am 8 ?_;refine dX 9 rfl rfl (aY 4) ?_;refine dX 10 rfl rfl gZ ?_;refine dX 11 rfl rfl dJ ?_;refine dX 12 rfl rfl (IG 6 (fun hg=>hs.addr (by rw[Ze];simp at hg;omega))) ?_;refine dX 13 rfl rfl (aY 4) ?_;refine dX 14 rfl rfl (II (v:=vI (ks.getD 0 iZ).point) (by first|exact .plain rfl|exact .cond rfl id) (by kernel_rfl) (fun hg w hm=>NR (j:=0*6+4) hs (Zd (j:=4) (by simp at hg;omega) rfl) (Nat.le_refl _) w hm)) ?_;refine dX 15 rfl rfl oK ?_;refine ay 16 rfl rR ?_;refine am 17 ?_;refine dX 18 rfl rfl (aY 5) ?_;refine dX 19 rfl rfl gZ ?_;refine dX 20 rfl rfl dJ ?_;refine dX 21 rfl rfl (IG 6 (fun hg=>hs.addr (by rw[Ze];simp at hg;omega))) ?_;refine dX 22 rfl rfl (aY 5) ?_;refine dX 23 rfl rfl (II (v:=vI (ks.getD 0 iZ).pos) (by first|exact .plain rfl|exact .cond rfl id) (by kernel_rfl) (fun hg w hm=>NR (j:=0*6+5) hs (Zd (j:=5) (by simp at hg;omega) rfl) (Nat.le_refl _) w hm)) ?_;refine dX 24 rfl rfl nQ ?_;refine ay 25 rfl rR ?_;refine ay 26 rfl eX ?_;refine bS (dx _ _ ?_);refine aF (pq rfl rfl (fun w hm=>oG hm (by rw[anx hc1])))
def Ic(done:List fK)(m:Nat)(rows:List Row):Prop:=
 rows.length=m∧∀(i:Nat) (r:Row),rows[i]?=some r→r.n=(atEnd done i).length∧r.xs=(atEnd done i).flatMap fK.cells
theorem Ic.get{done:List fK}{m:Nat}{rows:List Row}(h:Ic done m rows)(e:Int)(h0:0≤e)(h1:e.toNat<m):
  ∃aa ca,rows[e.toNat*1]?=some ⟨aa,(atEnd done e).length,ca,(atEnd done e).flatMap fK.cells⟩:=by
 rw[Nat.mul_one]
 have hlt:e.toNat<rows.length:=by rw[h.1];exact h1
 have hr:=h.2 e.toNat rows[e.toNat] (by simp[hlt])
 rw[show ((e.toNat:Nat):Int)=e by omega] at hr
 refine⟨rows[e.toNat].a,rows[e.toNat].cap,?_⟩
 rw[List.getElem?_eq_getElem hlt,←hr.1,←hr.2]
theorem agC(done:List fK)(e:Int):(atEnd done e).length≤done.length:=List.length_filter_le _ _
theorem amm(done:List fK)(k:fK)(e:Int):atEnd (done++[k]) e=atEnd done e++if 2*k.a+k.lg=e∨2*k.b+k.mF=e then [k] else []:=by
 unfold atEnd
 rw[List.filter_append]
 congr 1
 by_cases h1:2*k.a+k.lg=e<;>by_cases h2:2*k.b+k.mF=e<;>simp[h1,h2]
theorem Ic.step{done:List fK}{m:Nat}{rows:List Row}(h:Ic done m rows)(k:fK)(ea eb:Int)(ha:2*k.a+k.lg=ea)(hb:2*k.b+k.mF=eb)(hne:ea≠eb)(ha0:0≤ea)(hb0:0≤eb)
  (a1 a2:Option Addr)(c1 c2:Nat):
  Ic (done++[k]) m ((rows.set (ea.toNat*1) ⟨a1,(atEnd done ea).length+1,c1,(atEnd done ea).flatMap fK.cells++k.cells⟩).set (eb.toNat*1) ⟨a2,(atEnd done eb).length+1,c2,(atEnd done eb).flatMap fK.cells++k.cells⟩):=by
 rw[Nat.mul_one,Nat.mul_one]
 refine⟨by rw[List.length_set,List.length_set];exact h.1,fun i r hr=>?_⟩
 rw[amm,ha,hb]
 by_cases hib:i=eb.toNat
 ·have he:eb=(i:Int):=by omega
  rw[List.getElem?_set] at hr
  rw[if_pos hib.symm] at hr
  split at hr
  ·cases hr
   subst he
   simp
  ·cases hr
 ·rw[List.getElem?_set_ne (Ne.symm hib)] at hr
  by_cases hia:i=ea.toNat
  ·have he:ea=(i:Int):=by omega
   rw[List.getElem?_set,if_pos hia.symm] at hr
   split at hr
   ·cases hr
    subst he
    simp
   ·cases hr
  ·rw[List.getElem?_set_ne (Ne.symm hia)] at hr
   have h1:¬ea=(i:Int):=by omega
   have h2:¬eb=(i:Int):=by omega
   simp only[h1,h2,or_self,if_false,List.append_nil]
   exact h.2 i r hr
theorem asQ{l:Lay}{xs:List fK}{j:Nat}(hj:j<xs.length){E:Int}(h:pz l (xs.take j) (xs.drop j)=E):
  (oC l (xs.getD j iZ)=false→E=4)∧(oC l (xs.getD j iZ)=true→
   ((xs.getD j iZ).a=(xs.getD j iZ).b∧(xs.getD j iZ).lg=(xs.getD j iZ).mF→E=1)∧(¬((xs.getD j iZ).a=(xs.getD j iZ).b∧(xs.getD j iZ).lg=(xs.getD j iZ).mF)→
   ((atEnd (xs.take j) (2*(xs.getD j iZ).a+(xs.getD j iZ).lg)).any (LC (xs.getD j iZ).a (xs.getD j iZ).lg (xs.getD j iZ).b (xs.getD j iZ).mF)=true→E=5)∧
   ((atEnd (xs.take j) (2*(xs.getD j iZ).a+(xs.getD j iZ).lg)).any (LC (xs.getD j iZ).a (xs.getD j iZ).lg (xs.getD j iZ).b (xs.getD j iZ).mF)=false→
   ((!yG (xs.getD j iZ) (atEnd (xs.take j) (2*(xs.getD j iZ).a+(xs.getD j iZ).lg))|| !yG (xs.getD j iZ) (atEnd (xs.take j) (2*(xs.getD j iZ).b+(xs.getD j iZ).mF)))=true→E=11)∧
   ((!yG (xs.getD j iZ) (atEnd (xs.take j) (2*(xs.getD j iZ).a+(xs.getD j iZ).lg))|| !yG (xs.getD j iZ) (atEnd (xs.take j) (2*(xs.getD j iZ).b+(xs.getD j iZ).mF)))=false→
    pz l (xs.take (j+1)) (xs.drop (j+1))=E∧xs.take (j+1)=xs.take j++[xs.getD j iZ])))):=by
 have hd:xs.drop j=xs[j]::xs.drop (j+1):=List.drop_eq_getElem_cons hj
 have hg:xs.getD j iZ=xs[j]:=by simp[List.getD_eq_getElem?_getD,hj]
 have ht:xs.take (j+1)=xs.take j++[xs[j]]:=by rw[List.take_succ_eq_append_getElem hj]
 rw[hd,pz] at h
 rw[hg,ht]
 generalize xs[j]=k at*
 refine⟨fun h1=>?_,fun h1=>⟨fun h2=>?_,fun h2=>⟨fun h3=>?_,fun h3=>⟨fun h4=>?_,fun h4=>?_⟩⟩⟩⟩
 ·rw[if_pos h1] at h;exact h.symm
 ·rw[if_neg (by simp[h1]),if_pos h2] at h;exact h.symm
 ·rw[if_neg (by simp[h1]),if_neg h2,if_pos h3] at h;exact h.symm
 ·rw[if_neg (by simp[h1]),if_neg h2,if_neg (by simp[h3]),if_pos (by simpa using h4)] at h;exact h.symm
 ·rw[if_neg (by simp[h1]),if_neg h2,if_neg (by simp[h3]),if_neg (by simp only[Bool.or_eq_false_iff,Bool.not_eq_false'] at h4;simp[h4.1,h4.2])] at h;exact⟨h,rfl⟩
theorem asN{l:Lay}{xs:List fK}{j:Nat}(hj:xs.length≤j){E:Int}(h:pz l (xs.take j) (xs.drop j)=E):E=0:=by
 rw[←h,List.drop_eq_nil_of_le hj,pz]
theorem SN{rows:List Row}{i:Nat}{r:Row}(h:rows[i]?=some r):(rows.map Row.hdr)[i]?=some (.slice r.a r.n r.cap):=by simp[h,Row.hdr]
theorem asJ{l:Lay}{k:fK}(h:oC l k=true):(0≤k.a∧k.a<l.sections.length∧0≤k.b∧k.b<l.sections.length)∧(0≤k.lg∧k.lg≤1)∧(0≤k.mF∧k.mF≤1):=by
 simp only[oC,Bool.and_eq_true,Bool.or_eq_true,decide_eq_true_eq] at h
 omega
theorem avz{m:Nat}:Ic [] m (List.replicate m (⟨none,0,0,[]⟩:Row)):=by
 refine⟨by simp,fun i r hr=>?_⟩
 rw[List.getElem?_replicate] at hr
 split at hr
 ·cases hr;exact⟨rfl,rfl⟩
 ·cases hr
theorem amM(w:World)(v:zC)(l:Lay)(hl:H9 0 w.heap.size w v l)(hb:l.sections.length≤96∧l.links.length≤192):Calls Tryz.prog 98 #[.agg (v.cells l).toArray] w (bM w (vI (pz l [] l.links))):=by
 obtain⟨hb1,hb2⟩:=hb;refine bF (args:=[_]) Tryz.func98 rfl (m0 w) rfl ?_;refine sr ?_;refine bf (Dh (k:=fun b1=>?_));refine go ?_;refine oe vw ?_;refine bf (awv (m:=2*l.sections.length) (e:=24) (z:= .slice none 0 0) 24 (k:=fun a ha=>?_) (hb:=by omega) (hm':=by omega));refine z8 (H':=[row 24 1 a (2*l.sections.length) (2*l.sections.length) ((List.replicate (2*l.sections.length) (⟨none,0,0,[]⟩:Row)).map Row.hdr),uP (fun _=>True) 183 6 (List.replicate (2*l.sections.length) (⟨none,0,0,[]⟩:Row)),own b1 26 (v.cells l)]) (fun w hm=>by rw[List.map_replicate];exact (avA (e:=183) (sz:=6) (m:=2*l.sections.length) hm).perm (.swap _ _ _)) ?_;refine aN ?_;refine au fun K3 hK3=>?_;refine go ?_
 refine Iu (γ:=Int×List Row) (env:=fun g=>[(1,eP b1),(3,.v (.slice a (2*l.sections.length) (2*l.sections.length))),(16,.v (.slice v.a4 l.links.length v.c4)),(17,eI (l.links.length:Int)),(18,eI g.1)]) (mem:=fun g=>[row 24 1 a (2*l.sections.length) (2*l.sections.length) (g.2.map Row.hdr),uP (fun _=>True) 183 6 g.2,own b1 26 (v.cells l)]) (R:=fun g=>0≤g.1∧g.1≤l.links.length∧Ic (l.links.take g.1.toNat) (2*l.sections.length) g.2∧pz l (l.links.take g.1.toNat) (l.links.drop g.1.toNat)=pz l [] l.links) (μ:=fun g=>(l.links.length-g.1).toNat) ((0,List.replicate (2*l.sections.length) ⟨none,0,0,[]⟩)) (⟨by show (0:Int)≤0;omega,by show (0:Int)≤_;omega,avz,rfl⟩) ⟨rfl,rfl,rfl,rfl,rfl,trivial⟩ (fun _ h=>h) ?_;intro g NW eO hL1;obtain⟨j,rows⟩:=g
 dsimp only at NW ⊢
 obtain⟨hj0,hj1,hrows,hj2⟩:=NW;refine go ?_;refine au fun K6 dG=>?_;refine yE rfl (fun hc1=>?_) (fun hc1=>?_)
 ·
   refine cs dG ?_;refine au fun K7 gu=>?_;refine go ?_
   have hst:=asQ (l:=l) (j:=j.toNat) (by omega) hj2
   have hdl:(l.links.take j.toNat).length≤192:=by rw[List.length_take];omega
   generalize hdone:l.links.take j.toNat=done at*
   obtain⟨k,hk⟩:∃k,k=l.links.getD j.toNat iZ:=⟨_,rfl⟩
   rw[←hk] at hst
   refine oe (IG 6 (fun _=>hl.li.addr (by rw[Ze];omega))) ?_;refine oe (ab9 (l:=k.cells) (fun w hm q u hu=>by subst hk;rw[Nat.add_assoc];exact NR hl.li (Zd (by omega) hu) (Nat.le_refl _) w hm)) ?_;refine oA rfl fun b5=>?_;refine bf (lH (k:=?_));refine on ?_;refine au fun K9 fH=>?_;refine go ?_;refine bf (jh (fun w hm=>asM w v l k) ?_);refine go ?_;refine xE rfl (fun hc2=>?_) (fun hc2=>?_)
   ·
     refine aJ ?_;refine aF (pq rfl rfl (fun w hm=>oG hm (by rw[hst.1 (by simpa using hc2)])))
   ·
     have hlk:oC l k=true:=by simpa using hc2
     replace hst:=hst.2 hlk
     obtain⟨⟨ha0,ha1,axd,axe⟩,hae,hbe⟩:=asJ hlk;obtain⟨ea,acY⟩:∃e,e=2*k.a+k.lg:=⟨_,rfl⟩;obtain⟨eb,acZ⟩:∃e,e=2*k.b+k.mF:=⟨_,rfl⟩
     have hea:0≤ea∧ea<2*l.sections.length:=by omega
     have heb:0≤eb∧eb<2*l.sections.length:=by omega
     obtain⟨aA,cA,Ll⟩:=hrows.get ea hea.1 (by omega);obtain⟨aB,cB,YI⟩:=hrows.get eb heb.1 (by omega)
     have hlA:=agC done ea
     have hlB:=agC done eb
     rw[←acY,←acZ] at hst
     refine cs fH ?_;refine go ?_;refine bf (jh (fun w hm=>ag4 w k) ?_);refine om ?_;refine oe bU ?_;refine oe bU ?_;refine oA rfl fun b6=>?_;refine oA rfl fun b7=>?_;refine bf (lH (k:=?_));refine bf (lH (k:=?_));refine on ?_;refine au fun zA nR=>?_;refine dS [own b7 209 [vI k.b,vI k.mF],own b6 209 [vI k.a,vI k.lg],own b5 183 k.cells,row 24 1 a (2*l.sections.length) (2*l.sections.length) (rows.map Row.hdr),uP (fun _=>True) 183 6 rows,own b1 26 (v.cells l)] G6 ?_;refine am 0 ?_;refine ay 1 rfl fC ?_;refine am 4 ?_;refine ay 5 rfl fC ?_;refine bT 2 rfl (jh (fun w hm=>ag3 w k.a k.lg (by omega) (by omega)) ⟨rI,?_⟩)
     rw[←acY]
     refine ay 3 rfl (IG (ad:=a) 1 (fun _=>by rw[ha];rfl)) ?_;refine bT 6 rfl (jh (fun w hm=>ag3 w k.b k.mF (by omega) (by omega)) ⟨rI,?_⟩)
     rw[←acZ]
     refine ay 7 rfl (IG (ad:=a) 1 (fun _=>by rw[ha];rfl)) ?_;refine ay 8 rfl eX ?_;refine ay 9 rfl eX ?_;refine bS (nR _ _ ?_);refine au fun yu mX=>?_;refine go ?_;refine oe R7 ?_;refine aN ?_;refine yE rfl (fun hc3=>?_) (fun hc3=>?_)
     ·
       refine aJ ?_;refine aF (pq rfl rfl (fun w hm=>oG hm (by rw[hst.1 hc3])))
     ·
       replace hst:=hst.2 hc3
       have hne:ea≠eb:=by omega
       refine au fun Rb Dx=>?_;refine dS [own b7 209 [vI k.b,vI k.mF],own b6 209 [vI k.a,vI k.lg],own b5 183 k.cells,row 24 1 a (2*l.sections.length) (2*l.sections.length) (rows.map Row.hdr),uP (fun _=>True) 183 6 rows,own b1 26 (v.cells l)] G6 ?_;refine am 0 ?_;refine ay 1 rfl dF ?_;refine ay 2 rfl (NT (v:= .slice aA (atEnd done ea).length cA) (RH (SN Ll) hA)) ?_;refine ay 3 rfl fC ?_;refine ay 4 rfl fC ?_;refine bT 5 rfl (jh (fun w hm=>ar3 w aA cA (atEnd done ea) _ _ _ _ (afA Ll trivial hm hA) (by omega)) ⟨rI,?_⟩);refine ay 6 rfl eX ?_;refine bS (Dx _ _ ?_);refine xE rfl (fun hc4=>?_) (fun hc4=>?_)
       ·
         refine aJ ?_;refine aF (pq rfl rfl (fun w hm=>oG hm (by rw[hst.1 hc4])))
       ·
         replace hst:=hst.2 hc4
         refine X9 (γ:=Bool) (env:=fun q=>[(5,eP b5),(8,.v (.pointer (some ⟨sb a,so a+ea.toNat*1,none⟩))),(9,.v (.pointer (some ⟨sb a,so a+eb.toNat*1,none⟩))),(50,.v (.bool q)),(1,eP b1),(3,.v (.slice a (2*l.sections.length) (2*l.sections.length))),(16,.v (.slice v.a4 l.links.length v.c4)),(17,eI (l.links.length:Int)),(18,eI j)]) (mem:=fun q=>[own b7 209 [vI k.b,vI k.mF],own b6 209 [vI k.a,vI k.lg],own b5 183 k.cells,row 24 1 a (2*l.sections.length) (2*l.sections.length) (rows.map Row.hdr),uP (fun _=>True) 183 6 rows,own b1 26 (v.cells l)]) (R:=fun q=>q=(!yG k (atEnd done ea)|| !yG k (atEnd done eb))) ?_ ?_
         ·intro aw9 ahu
          refine au fun EC rV=>?_;refine dS [own b7 209 [vI k.b,vI k.mF],own b6 209 [vI k.a,vI k.lg],own b5 183 k.cells,row 24 1 a (2*l.sections.length) (2*l.sections.length) (rows.map Row.hdr),uP (fun _=>True) 183 6 rows,own b1 26 (v.cells l)] G6 ?_;refine ay 0 rfl fC ?_;refine am 1 ?_;refine ay 2 rfl dF ?_;refine ay 3 rfl (NT (v:= .slice aA (atEnd done ea).length cA) (RH (SN Ll) hA)) ?_;refine bT 4 rfl (jh (fun w hm=>ahh w k aA cA (atEnd done ea) (afA Ll trivial hm hA)) ⟨rI,?_⟩);refine ay 5 rfl iC ?_;refine ay 6 rfl eX ?_;refine bS (rV _ _ ?_);refine xE rfl (fun iH=>?_) (fun iH=>?_)
          ·
            refine gG (ahu (_) _ _ (by rw[iH];rfl) ⟨rfl,rfl,rfl,rfl,rfl,rfl,rfl,rfl,rfl,trivial⟩ (fun _ h=>h))
          ·
            refine dS [own b7 209 [vI k.b,vI k.mF],own b6 209 [vI k.a,vI k.lg],own b5 183 k.cells,row 24 1 a (2*l.sections.length) (2*l.sections.length) (rows.map Row.hdr),uP (fun _=>True) 183 6 rows,own b1 26 (v.cells l)] G6 ?_;refine ay 0 rfl fC ?_;refine am 1 ?_;refine ay 2 rfl dF ?_;refine ay 3 rfl (NT (v:= .slice aB (atEnd done eb).length cB) (RH (SN YI) hA)) ?_;refine bT 4 rfl (jh (fun w hm=>ahh w k aB cB (atEnd done eb) (afA YI trivial hm hA)) ⟨rI,?_⟩);refine ay 5 rfl iC ?_;refine ay 6 rfl eX ?_;refine bS (ahu (_) _ _ (by rw[iH];rfl) ⟨rfl,rfl,rfl,rfl,rfl,rfl,rfl,rfl,rfl,trivial⟩ (fun _ h=>h))
         ·intro q hR
          refine xE rfl (fun hc6=>?_) (fun hc6=>?_)
          ·
            refine aJ ?_;refine aF (pq rfl rfl (fun w hm=>oG hm (by rw[hst.1 (by rw[←hR,hc6])])))
          ·
            have ht:=hst.2 (by rw[←hR,hc6])
            refine cs mX ?_;refine au fun Rc Dy=>?_;refine Du [own b7 209 [vI k.b,vI k.mF],own b6 209 [vI k.a,vI k.lg],own b5 183 k.cells,row 24 1 a (2*l.sections.length) (2*l.sections.length) (rows.map Row.hdr),own b1 26 (v.cells l)] 8 ?_;refine zm 0 ?_;refine zm 1 ?_;refine aI 2 rfl dF ?_;refine aI 3 rfl (NT (v:= .slice aA (atEnd done ea).length cA) (RH (SN Ll) hA)) ?_;refine aI 4 rfl fC ?_;refine cK 5 rfl (akY 183 k.cells (k:=fun b68=>⟨rI,?_⟩));refine vg (fun w hm=>akl Ll trivial (front hm (c:=uP (fun _=>True) 183 6 rows) s1)) ?_;refine cK 6 rfl (akW 48 (k:=fun a' cap'=>⟨rI,?_⟩));refine aI 7 rfl dF ?_;refine iX rfl (ak4 (j:=ea.toNat*1) (hu:=by repeat (first|exact fq.head|apply fq.tail)) (hj:=by rw[List.length_map,hrows.1];omega) (h1:=rfl) (hx:= .plain rfl) (hy:= .plain rfl) (k:=?_));refine iW (Dy _ _ ?_);refine iP (H':=[row 24 1 a (2*l.sections.length) (2*l.sections.length) ((rows.set (ea.toNat*1) (⟨a',(atEnd done ea).length+1,cap',(atEnd done ea).flatMap fK.cells++k.cells⟩:Row)).map Row.hdr),uP (fun _=>True) 183 6 (rows.set (ea.toNat*1) (⟨a',(atEnd done ea).length+1,cap',(atEnd done ea).flatMap fK.cells++k.cells⟩:Row)),own b7 209 [vI k.b,vI k.mF],own b6 209 [vI k.a,vI k.lg],own b5 183 k.cells,own b1 26 (v.cells l)]) (fun w hm=>by rw[List.map_set];exact (front (akk (r:=⟨a',(atEnd done ea).length+1,cap',(atEnd done ea).flatMap fK.cells++k.cells⟩) (by rw[hrows.1];omega) hm) (c:=row 24 1 a (2*l.sections.length) (2*l.sections.length) ((rows.map Row.hdr).set (ea.toNat*1) (Row.hdr ⟨a',(atEnd done ea).length+1,cap',(atEnd done ea).flatMap fK.cells++k.cells⟩))) s1).sub G6) ?_
            have ahD:(rows.set (ea.toNat*1) ⟨a',(atEnd done ea).length+1,cap',(atEnd done ea).flatMap fK.cells++k.cells⟩)[eb.toNat*1]?=some ⟨aB,(atEnd done eb).length,cB,(atEnd done eb).flatMap fK.cells⟩:=by rw[List.getElem?_set_ne (by omega)];exact YI
            have hlen1:(rows.set (ea.toNat*1) ⟨a',(atEnd done ea).length+1,cap',(atEnd done ea).flatMap fK.cells++k.cells⟩).length=2*l.sections.length:=by rw[List.length_set];exact hrows.1
            clear Ll YI
            generalize aqT:rows.set (ea.toNat*1) ⟨a',(atEnd done ea).length+1,cap',(atEnd done ea).flatMap fK.cells++k.cells⟩=WA at*
            refine Du [row 24 1 a (2*l.sections.length) (2*l.sections.length) (WA.map Row.hdr),own b7 209 [vI k.b,vI k.mF],own b6 209 [vI k.a,vI k.lg],own b5 183 k.cells,own b1 26 (v.cells l)] 8 ?_;refine zm 0 ?_;refine zm 1 ?_;refine aI 2 rfl dF ?_;refine aI 3 rfl (NT (v:= .slice aB (atEnd done eb).length cB) (RH (SN ahD) hA)) ?_;refine aI 4 rfl fC ?_;refine cK 5 rfl (akY 183 k.cells (k:=fun b76=>⟨rI,?_⟩));refine vg (fun w hm=>akl ahD trivial (front hm (c:=uP (fun _=>True) 183 6 WA) s1)) ?_;refine cK 6 rfl (akW 48 (k:=fun a2 cap2=>⟨rI,?_⟩));refine aI 7 rfl dF ?_;refine iX rfl (ak4 (j:=eb.toNat*1) (hu:=by repeat (first|exact fq.head|apply fq.tail)) (hj:=by rw[List.length_map,hlen1];omega) (h1:=rfl) (hx:= .plain rfl) (hy:= .plain rfl) (k:=?_));refine iW (gu _ _ ?_);refine iP (H':=[row 24 1 a (2*l.sections.length) (2*l.sections.length) ((WA.set (eb.toNat*1) (⟨a2,(atEnd done eb).length+1,cap2,(atEnd done eb).flatMap fK.cells++k.cells⟩:Row)).map Row.hdr),uP (fun _=>True) 183 6 (WA.set (eb.toNat*1) (⟨a2,(atEnd done eb).length+1,cap2,(atEnd done eb).flatMap fK.cells++k.cells⟩:Row)),own b1 26 (v.cells l)]) (fun w hm=>by rw[List.map_set];exact (front (akk (r:=⟨a2,(atEnd done eb).length+1,cap2,(atEnd done eb).flatMap fK.cells++k.cells⟩) (by rw[hlen1];omega) hm) (c:=row 24 1 a (2*l.sections.length) (2*l.sections.length) ((WA.map Row.hdr).set (eb.toNat*1) (Row.hdr ⟨a2,(atEnd done eb).length+1,cap2,(atEnd done eb).flatMap fK.cells++k.cells⟩))) s1).sub G6) ?_
            subst aqT
            refine bg ?_;refine oe dP ?_;refine om ?_;refine bq (hL1 ((j+1,(rows.set (ea.toNat*1) (⟨a',(atEnd done ea).length+1,cap',(atEnd done ea).flatMap fK.cells++k.cells⟩:Row)).set (eb.toNat*1) (⟨a2,(atEnd done eb).length+1,cap2,(atEnd done eb).flatMap fK.cells++k.cells⟩:Row))) _ _ (⟨by show (0:Int)≤j+1;omega,by show j+1≤_;omega,by show Ic (l.links.take (j+1).toNat) _ _;rw[show (j+1).toNat=j.toNat+1 by omega,ht.2];exact hrows.step k ea eb acY.symm acZ.symm hne hea.1 heb.1 _ _ _ _,by show pz l (l.links.take (j+1).toNat) (l.links.drop (j+1).toNat)=_;rw[show (j+1).toNat=j.toNat+1 by omega];exact ht.1⟩) (by show (_-(j+1)).toNat<_;omega) sS (rI))
 ·
   refine cx hK3 ?_;refine aJ ?_;refine aF (pq rfl rfl (fun w hm=>oG hm (by rw[asN (by omega) hj2])))
def jN:List ByteArray→List ByteArray→Int
 |_,[]=>0
 |seen,s::r=>if ng s seen≠0 then ng s seen else jN (seen++[s]) r
def mh(sK:Nat):List ByteArray→List mO→Int
 |_,[]=>0
 |seen,s::r=>if ng s.name seen≠0 then ng s.name seen else if yh sK s=false then 4 else mh sK (seen++[s.name]) r
def wm(l:Lay):Bool:=decide (24<l.nN.length∨48<l.points.length∨96<l.sections.length∨192<l.links.length)
def jB(l:Lay):Int:=
 if wm l=true then 7 else if l.sections.length=0 then 1 else
 if jN [] l.nN≠0 then jN [] l.nN else if jN [] l.points≠0 then jN [] l.points else
 if mh l.nN.length [] l.sections≠0 then mh l.nN.length [] l.sections else pz l [] l.links
theorem atg{names:List ByteArray}{j:Nat}(hj:j<names.length)(h:jN (names.take j) (names.drop j)=jN [] names):
  (ng (names.getD j ByteArray.empty) (names.take j)≠0→jN [] names=ng (names.getD j ByteArray.empty) (names.take j))∧
  (ng (names.getD j ByteArray.empty) (names.take j)=0→jN (names.take (j+1)) (names.drop (j+1))=jN [] names∧M9 (names.getD j ByteArray.empty) (names.take j)=names.take (j+1)):=by
 have hd:names.drop j=names[j]::names.drop (j+1):=List.drop_eq_getElem_cons hj
 have hg:names.getD j ByteArray.empty=names[j]:=by simp[List.getD_eq_getElem?_getD,hj]
 have ht:names.take (j+1)=names.take j++[names[j]]:=by rw[List.take_succ_eq_append_getElem hj]
 rw[hd,jN] at h
 rw[hg]
 constructor
 ·intro hn;rw[if_pos hn] at h;exact h.symm
 ·intro hn
  rw[if_neg (by simp[hn])] at h
  rw[ht]
  exact⟨h,se2 hn⟩
theorem atd{names:List ByteArray}{j:Nat}(hj:names.length≤j)(h:jN (names.take j) (names.drop j)=jN [] names):jN [] names=0:=by
 rw[←h,List.drop_eq_nil_of_le hj,jN]
def uH(l:Lay)(i:Int):List ByteArray:=if i=0 then l.nN else l.points
def Rm(v:zC)(i:Int):Option Addr:=if i=0 then v.a1 else v.a2
def cpI(v:zC)(i:Int):Nat:=if i=0 then v.c1 else v.c2
theorem awC{names:List ByteArray}{j:Nat}(hj:j<names.length):(strCells names)[j]?=some (.string (names.getD j ByteArray.empty)):=by
 simp[strCells,hj]
theorem flat_get{α:Type}{enc:α→List Value}{sz:Nat}(he:∀x,(enc x).length=sz):∀(xs:List α) (i j:Nat),j<sz→(xs.flatMap enc)[i*sz+j]?=(xs[i]?).bind (fun x=>(enc x)[j]?)
 |[],i,j,_=>by simp
 |x::xs,0,j,hj=>by
  simp only[List.flatMap_cons,Nat.zero_mul,Nat.zero_add]
  rw[List.getElem?_append_left (by rw[he];exact hj)]
  rfl
 |x::xs,i+1,j,hj=>by
  simp only[List.flatMap_cons]
  rw[List.getElem?_append_right (by rw[he,Nat.add_mul];omega),he]
  rw[show (i+1)*sz+j-sz=i*sz+j by rw[Nat.add_mul];omega]
  rw[flat_get he xs i j hj]
  simp
theorem anB{α:Type}{enc:α→List Value}{sz:Nat}(he:∀x,(enc x).length=sz)(xs:List α):(xs.flatMap enc).length=xs.length*sz:=by
 induction xs with
 |nil=>simp
 |cons x xs ih=>simp only[List.flatMap_cons,List.length_append,he,ih,List.length_cons,Nat.add_mul];omega
def Er:mO:=⟨ByteArray.empty,0,0,0,0⟩
theorem av2{xs:List mO}{i j:Nat}{u:Value}(hi:i<xs.length)(hj:(mO.cells (xs.getD i Er))[j]?=some u):(xs.flatMap mO.cells)[i*5+j]?=some u:=by
 have hjl:j<5:=by have:=(List.getElem?_eq_some_iff.1 hj).1;simpa [mO.cells] using this
 rw[flat_get (enc:=mO.cells) (sz:=5) (fun _=>rfl) xs i j hjl]
 have:xs[i]?=some (xs.getD i Er):=by simp[hi]
 rw[this]
 exact hj
theorem av5{sK:Nat}{xs:List mO}{j:Nat}(hj:j<xs.length)(h:mh sK ((xs.take j).map mO.name) (xs.drop j)=mh sK [] xs):
  (ng (xs.getD j Er).name ((xs.take j).map mO.name)≠0→mh sK [] xs=ng (xs.getD j Er).name ((xs.take j).map mO.name))∧
  (ng (xs.getD j Er).name ((xs.take j).map mO.name)=0→M9 (xs.getD j Er).name ((xs.take j).map mO.name)=(xs.take (j+1)).map mO.name∧
   (yh sK (xs.getD j Er)=false→mh sK [] xs=4)∧(yh sK (xs.getD j Er)=true→mh sK ((xs.take (j+1)).map mO.name) (xs.drop (j+1))=mh sK [] xs)):=by
 have hd:xs.drop j=xs[j]::xs.drop (j+1):=List.drop_eq_getElem_cons hj
 have hg:xs.getD j Er=xs[j]:=by simp[List.getD_eq_getElem?_getD,hj]
 have ht:(xs.take (j+1)).map mO.name=(xs.take j).map mO.name++[xs[j].name]:=by rw[List.take_succ_eq_append_getElem hj,List.map_append];rfl
 rw[hd,mh] at h
 rw[hg]
 constructor
 ·intro hn;rw[if_pos hn] at h;exact h.symm
 ·intro hn
  rw[if_neg (fun h=>h hn)] at h
  rw[ht]
  refine⟨se2 hn,fun hb=>?_,fun hb=>?_⟩
  ·rw[if_pos hb] at h;exact h.symm
  ·rw[if_neg (by simp[hb])] at h;exact h
theorem av3{sK:Nat}{xs:List mO}{j:Nat}(hj:xs.length≤j)(h:mh sK ((xs.take j).map mO.name) (xs.drop j)=mh sK [] xs):mh sK [] xs=0:=by
 rw[←h,List.drop_eq_nil_of_le hj,mh]
theorem atl{v:zC}{l:Lay}{i:Int}(h0:0≤i)(h:i<2):([.slice v.a1 l.nN.length v.c1,.slice v.a2 l.points.length v.c2]:List Value)[i.toNat]?=some (.slice (Rm v i) (uH l i).length (cpI v i)):=by
 have:i=0∨i=1:=by omega
 rcases this with rfl|rfl<;>rfl
theorem ate{l:Lay}{i:Int}(h0:0≤i)(h2:i<2)(hst:1≤i→jN [] l.nN=0)(hn:jN [] (uH l i)=0):
  0≤i+1∧i+1≤2∧(1≤i+1→jN [] l.nN=0)∧(2≤i+1→jN [] l.points=0):=by
 have:i=0∨i=1:=by omega
 rcases this with rfl|rfl
 ·exact⟨by omega,by omega,fun _=>hn,by omega⟩
 ·exact⟨by omega,by omega,fun _=>hst (by omega),fun _=>hn⟩
theorem atf{l:Lay}{i e:Int}(h0:0≤i)(h2:i<2)(hf:wm l=false)(hs:¬l.sections.length=0)(hst:1≤i→jN [] l.nN=0)(he:jN [] (uH l i)=e)(hne:e≠0):jB l=e:=by
 have:i=0∨i=1:=by omega
 rcases this with rfl|rfl
 ·have he':jN [] l.nN=e:=he
  rw[jB,if_neg (by simp[hf]),if_neg hs,if_pos (by rw[he'];exact hne),he']
 ·have he':jN [] l.points=e:=he
  rw[jB,if_neg (by simp[hf]),if_neg hs,if_neg (by simp[hst (by omega)]),if_pos (by rw[he'];exact hne),he']
theorem akD{l:Lay}{e:Int}(hf:wm l=false)(hs:¬l.sections.length=0)(hst:jN [] l.nN=0)(hpt:jN [] l.points=0)(he:mh l.nN.length [] l.sections=e)(hne:e≠0):jB l=e:=by
 rw[jB,if_neg (by simp[hf]),if_neg hs,if_neg (by simp[hst]),if_neg (by simp[hpt]),if_pos (by rw[he];exact hne),he]
theorem asP{l:Lay}(hf:wm l=false)(hs:¬l.sections.length=0)(hst:jN [] l.nN=0)(hpt:jN [] l.points=0)(he:mh l.nN.length [] l.sections=0):jB l=pz l [] l.links:=by
 rw[jB,if_neg (by simp[hf]),if_neg hs,if_neg (by simp[hst]),if_neg (by simp[hpt]),if_neg (by simp[he])]
theorem amU(w:World)(v:zC)(l:Lay)(hl:H9 0 w.heap.size w v l)
  (hck:l.sections.length≤96∧l.links.length≤192→∀w':World,H9 0 w'.heap.size w' v l→Calls Tryz.prog 98 #[.agg (v.cells l).toArray] w' (bM w' (vI (pz l [] l.links)))):Calls Tryz.prog 44 #[.agg (v.cells l).toArray] w (bM w (vI (jB l))):=by
 refine bF (args:=[_]) Tryz.func44 rfl (m0 w) rfl ?_;refine sr ?_;refine bf (Dh (k:=fun b1=>?_));refine aN ?_;refine au fun K2 hK2=>?_;refine bI ?_;refine X9 (γ:=Bool) (env:=fun q=>[(1,eP b1),(13,.v (.bool q))]) (mem:=fun q=>[own b1 26 (v.cells l)]) (R:=fun q=>q=wm l) ?_ ?_
 ·intro FR hJ3
  refine go ?_;refine yE rfl (fun hc1=>?_) (fun hc1=>?_)
  ·
    refine gG (hJ3 (_) _ _ (by simp only[wm];congr 1;simp only[eq_iff_iff];omega) ⟨rfl,rfl,trivial⟩ (fun _ h=>h))
  ·
    refine go ?_;refine yE rfl (fun hc2=>?_) (fun hc2=>?_)
    ·
      refine gG (hJ3 (_) _ _ (by simp only[wm];congr 1;simp only[eq_iff_iff];omega) ⟨rfl,rfl,trivial⟩ (fun _ h=>h))
    ·
      refine go ?_;refine yE rfl (fun hc3=>?_) (fun hc3=>?_)
      ·
        refine gG (hJ3 (_) _ _ (by simp only[wm];congr 1;simp only[eq_iff_iff];omega) ⟨rfl,rfl,trivial⟩ (fun _ h=>h))
      ·
        refine bg ?_;refine go ?_;refine bq (hJ3 (_) _ _ (by simp only[wm];congr 1;simp only[eq_iff_iff];omega) ⟨rfl,rfl,trivial⟩ (fun _ h=>h))
 ·intro q hR
  refine xE rfl (fun hc4=>?_) (fun hc4=>?_)
  ·
    refine aJ ?_;refine aF (pq rfl rfl (fun w hm=>oG hm (by rw[jB,if_pos (by rw[←hR,hc4])])))
  ·
    have hfull:wm l=false:=by rw[←hR,hc4]
    have hb:l.nN.length≤24∧l.points.length≤48∧l.sections.length≤96∧l.links.length≤192:=by simp only[wm,decide_eq_false_iff_not] at hfull;omega
    obtain⟨hb1,hb2,hb3,hb4⟩:=hb;refine go ?_;refine yE rfl (fun iH=>?_) (fun iH=>?_)
    ·
      refine aJ ?_;refine aF (pq rfl rfl (fun w hm=>oG hm (by rw[jB,if_neg (by simp[hfull]),if_pos (by omega)])))
    ·
      refine cs hK2 ?_;refine au fun tC jC=>?_;refine go ?_;refine oe ab7 ?_;refine go ?_
      refine Iu (γ:=Int) (env:=fun i=>[(1,eP b1),(39,.v (.agg #[.slice v.a1 l.nN.length v.c1,.slice v.a2 l.points.length v.c2])),(40,eI i)]) (mem:=fun i=>[own b1 26 (v.cells l)]) (R:=fun i=>0≤i∧i≤2∧(1≤i→jN [] l.nN=0)∧(2≤i→jN [] l.points=0)) (μ:=fun i=>(2-i).toNat) (0) (⟨by omega,by omega,by omega,by omega⟩) ⟨rfl,rfl,rfl,trivial⟩ (fun _ h=>h) ?_;intro i NW eO hL1;obtain⟨hi0,hi2,SX,ac5⟩:=NW;refine go ?_;refine au fun zA nR=>?_;refine yE rfl (fun hc6=>?_) (fun hc6=>?_)
      ·
        refine cs nR ?_;refine au fun yu mX=>?_;refine go ?_;refine oe (ank (v:= .slice (Rm v i) (uH l i).length (cpI v i)) 2 (fun _=>by omega) (fun _=>atl hi0 hc6)) ?_;refine go ?_;refine bf (ak2 (k:=fun b5=>?_));refine go ?_
        have hnl:(uH l i).length≤48:=by unfold uH;split<;>omega
        have hns:Sl 0 w.heap.size w (Rm v i) (strCells (uH l i)):=by unfold Rm uH;split;exact hl.st;exact hl.pt
        refine go ?_
        refine Iu (γ:=Int) (env:=fun j=>[(1,eP b1),(39,.v (.agg #[.slice v.a1 l.nN.length v.c1,.slice v.a2 l.points.length v.c2])),(40,eI i),(5,.v (.map (some b5))),(44,.v (.slice (Rm v i) (uH l i).length (cpI v i))),(45,eI ((uH l i).length:Int)),(46,eI j)]) (mem:=fun j=>[zQ b5 ((uH l i).take j.toNat),own b1 26 (v.cells l)]) (R:=fun j=>0≤j∧j≤(uH l i).length∧jN ((uH l i).take j.toNat) ((uH l i).drop j.toNat)=jN [] (uH l i)) (μ:=fun j=>((uH l i).length-j).toNat) (0) (⟨by omega,by omega,rfl⟩) ⟨rfl,rfl,rfl,rfl,rfl,rfl,rfl,trivial⟩ (fun _ h=>h) ?_;intro j hR2 xA hL2;obtain⟨hj0,hj1,hj2⟩:=hR2;refine go ?_;refine au fun Ca pY=>?_;refine yE rfl (fun jr=>?_) (fun jr=>?_)
        ·
          refine cs pY ?_;refine au fun EC rV=>?_;refine go ?_;refine oe (IG 1 (fun _=>hns.addr (by simp[strCells];omega))) ?_;refine oe (NT (NR (j:=j.toNat*1) hns (by rw[Nat.mul_one];exact awC (by omega)) (Nat.le_refl _))) ?_;refine go ?_
          have hstep:=atg (names:=uH l i) (j:=j.toNat) (by omega) hj2
          refine bf (akZ (hc:=fun w hm hφ hfp=>agQ w _ b5 _ (hφ.elim fun _ h=>h) hfp) (k:=fun _ _=>?_));refine go ?_;refine yE rfl (fun hc8=>?_) (fun hc8=>?_)
          ·
            refine go ?_;refine aF (pq rfl rfl (fun w hm=>oG hm (by rw[atf hi0 hc6 hfull (by omega) SX (hstep.1 hc8) hc8])))
          ·
            refine cs rV ?_;refine bg ?_;refine oe dP ?_;refine om ?_
            have hz:ng ((uH l i).getD j.toNat ByteArray.empty) ((uH l i).take j.toNat)=0:=Decidable.of_not_not hc8
            refine bq (hL2 (j+1) _ _ (⟨by omega,by omega,by rw[show (j+1).toNat=j.toNat+1 by omega];exact (hstep.2 hz).1⟩) (by omega) sS (fun w hm=>by rw[show (j+1).toNat=j.toNat+1 by omega,←(hstep.2 hz).2];exact hm))
        ·
          refine cx mX ?_;refine bg ?_;refine oe dP ?_;refine om ?_;refine bq (hL1 (i+1) _ _ (ate hi0 hc6 SX (atd (by omega) hj2)) (by omega) sS (rI))
      ·
        refine cx jC ?_;refine sr ?_;refine bf (ak2 (k:=fun b9=>?_));refine aN ?_;refine au fun Rf Dz=>?_;refine go ?_
        refine Iu (γ:=Int) (env:=fun j=>[(1,eP b1),(9,.v (.map (some b9))),(60,.v (.slice v.a3 l.sections.length v.c3)),(61,eI (l.sections.length:Int)),(62,eI j)]) (mem:=fun j=>[zQ b9 ((l.sections.take j.toNat).map mO.name),own b1 26 (v.cells l)]) (R:=fun j=>0≤j∧j≤l.sections.length∧mh l.nN.length ((l.sections.take j.toNat).map mO.name) (l.sections.drop j.toNat)=mh l.nN.length [] l.sections) (μ:=fun j=>(l.sections.length-j).toNat) (0) (⟨by omega,by omega,rfl⟩) ⟨rfl,rfl,rfl,rfl,rfl,trivial⟩ (fun _ h=>h) ?_;intro j hR3 H8 hL3;obtain⟨hj0,hj1,hj2⟩:=hR3;refine go ?_;refine au fun NI Ay=>?_;refine yE rfl (fun qY=>?_) (fun qY=>?_)
        ·
          refine cs Ay ?_;refine au fun Rh DC=>?_;refine go ?_;refine oe (IG 5 (fun _=>hl.se.addr (by rw[anB (sz:=5) (fun _=>rfl)];omega))) ?_;refine oe (ab9 (l:=(l.sections.getD j.toNat Er).cells) (fun w hm q u hu=>by rw[Nat.add_assoc];exact NR hl.se (av2 (by omega) hu) (Nat.le_refl _) w hm)) ?_;refine oA rfl fun b11=>?_;refine bf (lH (k:=?_));refine on ?_;refine au fun K32 Si=>?_;refine go ?_
          have hstep:=av5 (sK:=l.nN.length) (xs:=l.sections) (j:=j.toNat) (by omega) hj2
          refine bf (akZ (hc:=fun w hm hφ hfp=>agQ w _ b9 _ (hφ.elim fun _ h=>h) hfp) (k:=fun _ _=>?_));refine go ?_;refine yE rfl (fun tH=>?_) (fun tH=>?_)
          ·
            refine go ?_;refine aF (pq rfl rfl (fun w hm=>oG hm (by rw[akD hfull (by omega) (SX (by omega)) (ac5 (by omega)) (hstep.1 tH) tH])))
          ·
            have hz:ng (l.sections.getD j.toNat Er).name ((l.sections.take j.toNat).map mO.name)=0:=Decidable.of_not_not tH
            refine cs Si ?_;refine go ?_;refine bf (jh (fun w hm=>av6 w v l _) ?_);refine go ?_;refine xE rfl (fun rY=>?_) (fun rY=>?_)
            ·
              refine aJ ?_;refine aF (pq rfl rfl (fun w hm=>oG hm (by rw[akD hfull (by omega) (SX (by omega)) (ac5 (by omega)) ((hstep.2 hz).2.1 (by simpa using rY)) (by decide)])))
            ·
              refine cs DC ?_;refine bg ?_;refine oe dP ?_;refine om ?_;refine bq (hL3 (j+1) _ _ (⟨by omega,by omega,by rw[show (j+1).toNat=j.toNat+1 by omega];exact (hstep.2 hz).2.2 (by simpa using rY)⟩) (by omega) sS (fun w hm=>by rw[show (j+1).toNat=j.toNat+1 by omega,←(hstep.2 hz).1];exact hm.sub G6))
        ·
          refine cx Dz ?_;refine go ?_;refine bf (jh (fun w hm=>hck (by omega) w (H9.below hl (agH hm))) ?_);refine aN ?_;refine aF (pq rfl rfl (fun w hm=>oG hm (by rw[asP hfull (by omega) (SX (by omega)) (ac5 (by omega)) (av3 (by omega) hj2)])))
theorem amV(w:World)(v:zC)(l:Lay)(hl:H9 0 w.heap.size w v l):Calls Tryz.prog 44 #[.agg (v.cells l).toArray] w (bM w (vI (jB l))):=
 amU w v l hl fun hb w' hl'=>amM w' v l hl' hb
end Go.Proofs.YtcalibhfgdncaaaGreatDoor
namespace Go.Proofs.YtcalibhfgdncaaaGreatDoor
open Go.Dc Go.RowKit
theorem aaH{α:Type}[ah α]{S:aW}{w:World}{r:SR (ah.R α)}{xs:List α}(f:α→List Value)(hf:∀(q:ah.R α) x,ah.enc q x=f x)(hS:∀k,S k→k<w.heap.size)(h:qU S w r xs):
  Go.Dc.oJ.Sl 0 w.heap.size w r.a (xs.flatMap f):=by
 have he:∀(l:List α) (i:Nat),l.flatMap f=gY r.es l i:=by
  intro l
  induction l with
  |nil=>intro i;rfl
  |cons x l ih=>intro i;rw[List.flatMap_cons,gY,hf,ih (i+1)]
 intro j v hv
 rw[he xs 0] at hv
 obtain⟨i,j',x,rfl,hj,hx,hv⟩:=Ye r.es hv
 obtain⟨h1,h2,h3,_⟩:=h.2.2 i x hx
 exact⟨h1,Nat.zero_le _,hS _ h2,h3 j' v hv⟩
def pF(s:Section):mO:=⟨s.Name.ba,s.Length,s.Limit,s.jM,s.nH⟩
def jG(k:Link):fK:=⟨k.A,k.dD,k.B,k.dN,k.Point,k.Pos⟩
def dZ(l:Layout):Lay:=⟨l.aT.map Str.ba,l.bE.map Str.ba,l.Sections.map pF,l.Links.map jG⟩
def Oy(l:Layout):Option Int:=some (jB (dZ l))
theorem ad8(S:aW)(w:World)(l0:Layout)(aD:ah.R Layout)(y:Int)(hM:Oy l0=some y)(hS:∀k,S k→k<w.heap.size)(dQ:ah.ok S w aD l0):
  Calls Tryz.prog 44 #[.agg #[.slice aD.1.a l0.aT.length aD.1.cap,.slice aD.2.1.a l0.bE.length aD.2.1.cap,.slice aD.2.2.1.a l0.Sections.length aD.2.2.1.cap,.slice aD.2.2.2.a l0.Links.length aD.2.2.2.cap]] w (bM w (.int .i64 y)):=by
 obtain rfl:=some_inj hM
 obtain⟨h1,h2,h3,h4⟩:=dQ
 have hstr:∀l:List Str,strCells (l.map Str.ba)=l.flatMap (fun s=>[.string s.ba]):=by
  intro l
  unfold strCells
  induction l with
  |nil=>rfl
  |cons x l ih=>simp only[List.map_cons,List.flatMap_cons,ih];rfl
 have:=amV w ⟨aD.1.a,aD.1.cap,aD.2.1.a,aD.2.1.cap,aD.2.2.1.a,aD.2.2.1.cap,aD.2.2.2.a,aD.2.2.2.cap⟩ (dZ l0)
  ⟨by show Go.Dc.oJ.Sl _ _ _ aD.1.a (strCells (l0.aT.map Str.ba));rw[hstr];exact aaH _ (fun _ _=>rfl) hS h1,
   by show Go.Dc.oJ.Sl _ _ _ aD.2.1.a (strCells (l0.bE.map Str.ba));rw[hstr];exact aaH _ (fun _ _=>rfl) hS h2,
   by show Go.Dc.oJ.Sl _ _ _ aD.2.2.1.a ((l0.Sections.map pF).flatMap mO.cells);rw[List.flatMap_map];exact aaH _ (fun _ _=>rfl) hS h3,
   by show Go.Dc.oJ.Sl _ _ _ aD.2.2.2.a ((l0.Links.map jG).flatMap fK.cells);rw[List.flatMap_map];exact aaH _ (fun _ _=>rfl) hS h4⟩
 have hc:(zC.cells ⟨aD.1.a,aD.1.cap,aD.2.1.a,aD.2.1.cap,aD.2.2.1.a,aD.2.2.1.cap,aD.2.2.2.a,aD.2.2.2.cap⟩ (dZ l0))=[.slice aD.1.a l0.aT.length aD.1.cap,.slice aD.2.1.a l0.bE.length aD.2.1.cap,.slice aD.2.2.1.a l0.Sections.length aD.2.2.1.cap,.slice aD.2.2.2.a l0.Links.length aD.2.2.2.cap]:=by
  simp[zC.cells,dZ]
 rw[hc] at this
 exact this
end Go.Proofs.YtcalibhfgdncaaaGreatDoor
