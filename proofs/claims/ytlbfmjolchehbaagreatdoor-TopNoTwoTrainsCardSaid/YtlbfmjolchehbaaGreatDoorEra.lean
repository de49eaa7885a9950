/- Several parts of the engine, one behind the other. -/
import Derived.OrdersHeld
import Derived.Tactics
import Derived.Below
import Derived.KernelRfl
import Derived.WalkKit
import Derived.Deep.LoopGhost
import Derived.StillTail
import Derived.Laws.OwnMore
import Derived.Laws.MakeOwn
import Derived.Laws.Tables
import Derived.TacticsIn
import Derived.OrdersIn
import Derived.Sort.LoopGhostIn
set_option linter.all false
namespace Go
theorem om{P:Prop}(h:P:=by first|omega):P:=h
theorem dc{P:Prop}(h:P:=by first|decide):P:=h
theorem sm{P:Prop}(h:P:=by first|simp):P:=h
end Go
namespace Go.Dc
open Go.RowKit
def I64(x:Int):Prop:= -9223372036854775808<=x/\x<=9223372036854775807
theorem JX{x:Int}(h1: -9223372036854775808<=x)(h2:x<=9223372036854775807):IntKind.i64.wrap x=x:=by simp only[IntKind.wrap,IntKind.signed,IntKind.bits];simp;omega
structure Str where
 l:List UInt8
 deriving DecidableEq,Inhabited
def Str.ba(s:Str):ByteArray:=⟨s.l.toArray⟩
def Str.of(s:ByteArray):Str:=⟨s.data.toList⟩
theorem Str.atc(s:ByteArray):(Str.of s).ba=s:=by apply ByteArray.ext;simp[Str.of,Str.ba]
theorem Str.WR{s t:Str}(h:s.ba=t.ba):s=t:=by obtain⟨s⟩:=s;obtain⟨t⟩:=t;have:=congrArg ByteArray.data h;simp[Str.ba] at this;rw[this]
theorem Str.Bd(s:Str):s.ba.size=s.l.length:=by simp[Str.ba,ByteArray.size]
def fq(s:Str)(i:Int):Option Int:=if 0<=i then (s.l[i.toNat]?).map (λb=>(b.toNat:Int)) else none
def idx{α:Type}(xs:List α)(i:Int):Option α:=if 0<=i then xs[i.toNat]? else none
theorem wX{α:Type}{xs:List α}{i:Int}{x:α}(h:idx xs i=some x):0<=i/\i<xs.length/\xs[i.toNat]?=some x:=by
 unfold idx at h;split at h;·rename_i h0;have:=(List.getElem?_eq_some_iff.1 h).1;exact⟨h0,om,h⟩
 ·cases h
theorem atj{s:Str}{i b:Int}(h:fq s i=some b):0<=i/\i<s.l.length/\∃u,s.l[i.toNat]?=some u/\b=(u.toNat:Int):=by
 unfold fq at h;split at h;·rename_i h0;cases a:s.l[i.toNat]? with|none=>rw[a] at h;cases h|some u=>rw[a] at h;have:=(List.getElem?_eq_some_iff.1 a).1;simp at h;exact⟨h0,om,u,rfl,h.symm⟩
 ·cases h
def mX(s:Str)(a b:Int):Option Str:=if 0<=a/\a<=b/\b<=s.l.length then some ⟨(s.l.take b.toNat).drop a.toNat⟩ else none
def DU(s t:Str):Option Str:=if s.l.length+t.l.length<=140737488355328 then some ⟨s.l++t.l⟩ else none
theorem bind_some{α β:Type}{o:Option α}{K:α->Option β}{r:β}(h:o.bind K=some r):∃x,o=some x/\K x=some r:=by cases o with|none=>cases h|some x=>exact⟨x,rfl,h⟩
def cnd{α:Type}(b:Bool)(x y:α):α:=if b then x else y
def ah{α:Type}(c:Bool)(k:Option α):Option α:=match c with|true=>k|false=>none
theorem jZ{α:Type}{c:Bool}{k:Option α}{r:α}(h:ah c k=some r):c=true/\k=some r:=by cases c with|true=>exact⟨rfl,h⟩|false=>cases h
theorem aB5{α:Type}{b:Bool}{x y:α}(h:b=true):(if b then x else y)=x:=by simp[h]
theorem aB4{α:Type}{b:Bool}{x y:α}(h:b=false):(if b then x else y)=y:=by simp[h]
def au{κ β:Type}(k:κ)(f:κ->β):β:=f k
theorem am0{κ β:Type}{k:κ}{f:κ->Option β}{r:β}(h:au k f=some r):∃a,a=k/\f a=some r:=⟨k,rfl,h⟩
def bC{α:Type}(g:Bool)(d:α)(o:Option α):Option α:=match g with|true=>o|false=>some d
def aj(x:Int):Bool:=decide (-9223372036854775808<=x/\x<=9223372036854775807)
theorem BX{x:Int}(h:aj x=true):I64 x:=by simpa [aj,I64] using h
noncomputable def iter{σ β:Type}(body:(σ->Option β)->σ->Option β)(n:Nat):σ->Option β:=Nat.rec (motive:=λ_=>σ->Option β) (λ_=>none) (λ_ a=>body a) n
def FUEL:Nat:=18446744073709551616
inductive Any where
 |s (s:Str)
 |i (i:Int)
 deriving DecidableEq,Inhabited
def pE(s:Str):List Str->Bool|[]=>false|r::l=>match decide (s=r) with|true=>true|false=>pE s l
def sQ(s:Int):List Int->Bool|[]=>false|r::l=>match decide (s=r) with|true=>true|false=>sQ s l
def aaV(s:Str)(l:List Str):List Str:=match pE s l with|true=>l|false=>l++[s]
def aaT(s:Int)(l:List Int):List Int:=match sQ s l with|true=>l|false=>l++[s]
end Go.Dc
namespace Go.Dc
open Go.RowKit
section
variable {P:Program}
def sb:Option Addr->Nat|some p=>p.block|none=>0
def so:Option Addr->Nat|some p=>p.off|none=>0
def wY(P:Program)(t:TypeId):Bool:=match P.underlying t with|some (.slice _)=>true|_=>false
def Ce(P:Program)(t:TypeId):Bool:=match P.underlying t with|some .string=>true|_=>false
theorem run_bind_ok{α β:Type}{x:Sem α}{f:α->Sem β}{w w':World}{a:α}(h:x.run P w= .ok a w'):(x >>= f).run P w=(f a).run P w':=by
 show (Sem.bind x f).run P w=_
 induction x generalizing w with
 |pure b=>simp only[Sem.run,Result.ok.injEq] at h;obtain⟨rfl,rfl⟩:=h;rfl
 |halt g=>simp[Sem.run] at h
 |load m p k d=>
  simp only[Sem.run] at h;simp only[Sem.bind,Sem.run];split at h;·exact d _ h
  ·split at h;·exact d _ h
   ·simp at h
 |store m p v k d=>
  cases v<;>simp only[Sem.run] at h<;>simp only[Sem.bind,Sem.run]<;>first
   |(simp at h;done)
   |(split at h
     ·split at h
      ·simp at h
      ·rename_i e;rw[if_neg e];exact d h
     ·split at h
      ·exact d h
      ·simp at h)
 |new o k d=>exact d _ h
 |shape r k d=>exact d _ h
 |freeze p m k d=>exact d h
 |frozen p k d=>exact d _ h
 |getObj r k d=>
  simp only[Sem.run] at h;simp only[Sem.bind,Sem.run];split at h;·simp at h
  ·exact d _ h
  ·simp at h
 |setObj r o k d=>
  simp only[Sem.run] at h;simp only[Sem.bind,Sem.run];split at h;·simp at h
  ·exact d h
  ·simp at h
 |choose q k d=>
  simp only[Sem.run] at h;simp only[Sem.bind,Sem.run];split at h;·rename_i e;rw[if_pos e];exact d _ h
  ·rename_i e;rw[if_neg e];exact d _ h
 |sys c k d=>exact d _ h
 |program k d=>exact d _ h
 |mark m k d=>exact d h
theorem fH{t:TypeId}{d:TypeDesc}(a:P.underlying t=some d)(w:World):(underlying t).run P w= .ok d w:=by show (Sem.bind (Sem.program .pure) _).run P w=_;simp only[Sem.bind,Sem.run,a];rfl
theorem Lp{t:TypeId}{d:TypeInfo}(a:P.info? t=some d)(w:World):(typeInfo t).run P w= .ok d w:=by show (Sem.bind (Sem.program .pure) _).run P w=_;simp only[Sem.bind,Sem.run,a];rfl
theorem Dn{t:TypeId}{d:TypeInfo}(a:P.info? t=some d)(w:World):(sizeOf t).run P w= .ok d.size w:=by unfold sizeOf;rw[run_bind_ok (Lp a w)];rfl
theorem bQ{s:Sem Value}{w w':World}{v:Value}(h:s.run P w= .ok v w'):(s >>= λv=>(pure (Next.value v):Sem Next)).run P w= .ok (.value v) w':=by rw[run_bind_ok h];rfl
theorem YO(ev:Operand->Value)(b:Builtin)(x:Operand)(ts:Array TypeId)(dst:Option Tmp)(ty:TypeId)(pos:String)(aM:Array Edge)(gd:Option (Nat×Bool)):∃cs,execOp ev ⟨dst,.call {callee:= .builtin b,args:= #[x],argTypes:=ts},ty,pos,aM,gd⟩=builtin b ts ty cs #[ev x]:=by refine⟨#[x].map λ| .const _=>true|_=>false,?_⟩;simp only[execOp,resolve,List.map_toArray,List.map_cons,List.map_nil];rfl
theorem BD(ev:Operand->Value)(b:Builtin)(x y:Operand)(ts:Array TypeId)(dst:Option Tmp)(ty:TypeId)(pos:String)(aM:Array Edge)(gd:Option (Nat×Bool)):∃cs,execOp ev ⟨dst,.call {callee:= .builtin b,args:= #[x,y],argTypes:=ts},ty,pos,aM,gd⟩=builtin b ts ty cs #[ev x,ev y]:=by refine⟨#[x,y].map λ| .const _=>true|_=>false,?_⟩;simp only[execOp,resolve,List.map_toArray,List.map_cons,List.map_nil];rfl
def Pp(P:Program)(s:TypeId)(i:Nat):Option Nat:=
 match P.underlying s with
 |some (.struct a)=>match a[i]? with
  |some f=>match P.info? f.type with
   |some ti=>if ti.size=0 then none else some f.offset
   |none=>none
  |none=>none
 |_=>none
def elemSize(P:Program)(t:TypeId):Option Nat:=
 match P.underlying t with
 |some (.slice e)=>(P.info? e).map (·.size)
 |_=>none
def lD(P:Program)(t:TypeId):Bool:=
 match P.underlying t with
 |some (.struct _)|some (.array _ _)|none=>false
 |_=>true
theorem apZ{t:TypeId}(h:lD P t=true)(w:World):(isAgg t).run P w= .ok false w:=by unfold lD at h;cases a:P.underlying t with|none=>rw[a] at h;cases h|some d=>rw[a] at h;unfold isAgg;rw[run_bind_ok (fH a w)];cases d<;>first|rfl|cases h
theorem Ui{t:TypeId}{p:Addr}{v:Value}{w:World}(b:lD P t=true)(a:w.cell? p=some v):(loadVar t p).run P w= .ok v w:=by unfold loadVar;rw[run_bind_ok (apZ b w)];show (load p).run P w=_;simp[load,Sem.run,a]
theorem KT{b T:Nat}{l:List Value}{w:World}{o:Nat}{v:Value}(h:w.heap[b]?=some (.cells l.toArray T (0,0)))(a:l[o]?=some v):w.cell? ⟨b,o,none⟩=some v:=by simp[World.cell?,h,a]
def IC(P:Program)(t:TypeId):Option Nat:=
 match P.underlying t with
 |some (.struct _)|some (.array _ _)=>(P.info? t).map (·.size)
 |_=>none
theorem run_loadCellsFrom{p:Addr}{w:World}:∀(m i:Nat) (a:Array Value) (l:List Value),l.length=m->(∀j v,l[j]?=some v->w.cell? (p.add (i+j))=some v)->(loadCellsFrom p i m a).run P w= .ok (a++l.toArray) w
 |0,i,a,l,b,_=>by
  have:l=[]:=List.length_eq_zero_iff.1 b
  subst this
  simp[loadCellsFrom,go_sem]
 |m+1,i,a,l,b,c=>by
  match l,b with
  |v::l,b=>
   have h0:=c 0 v sm
   have e:=run_loadCellsFrom m (i+1) (a.push v) l (by simpa using b) (λj u d=>by
    have:=c (j+1) u (by simpa using d)
    rw[show i+1+j=i+(j+1) by omega];exact this)
   simp only[Nat.add_zero] at h0
   show (Sem.load _ _ _).run P w=_
   simp only[Sem.run,h0]
   show (loadCellsFrom p (i+1) m (a.push v)).run P w=_
   rw[e]
   simp
theorem aDY{t m:Nat}{p:Addr}{l:List Value}{w:World}(b:IC P t=some m)(k:l.length=m)(h:∀j v,l[j]?=some v->w.cell? (p.add j)=some v):(loadVar t p).run P w= .ok (.agg l.toArray) w:=by
 unfold IC at b
 have e:∀d,P.underlying t=some d->(d matches .struct _| .array _ _)->(P.info? t).map (·.size)=some m->(loadVar t p).run P w= .ok (.agg l.toArray) w:=by
  intro d c i hs
  cases a:P.info? t with
  |none=>rw[a] at hs;cases hs
  |some ti=>
   rw[a] at hs;simp at hs;subst hs;have o:=run_loadCellsFrom (P:=P) (p:=p) (w:=w) ti.size 0 #[] l k (λj v n=>by rw[Nat.zero_add];exact h j v n);have g:(isAgg t).run P w= .ok true w:=by unfold isAgg;rw[run_bind_ok (fH c w)];cases d<;>first|rfl|(cases i;done)
   unfold loadVar;rw[run_bind_ok g];simp only[if_true];rw[run_bind_ok (Dn a w)];have f:(loadCells p ti.size).run P w= .ok l.toArray w:=by rw[loadCells,o];simp
   rw[run_bind_ok f];rfl
 split at b;·rename_i c;exact e _ c rfl b
 ·rename_i c;exact e _ c rfl b
 ·cases b
def rC(P:Program)(t:TypeId):Option (List Value):=((P.info? t).bind (·.zero)).map (·.cells.toList)
theorem axz{w:World}{b T o:Nat}{l:List Value}{v:Value}(h:w.heap[b]?=some (.cells l.toArray T (0,0))):(w.setCell ⟨b,o,none⟩ v).heap[b]?=some (.cells (l.set o v).toArray T (0,0)):=by simp[World.setCell,Array.getElem?_modify,h]
def fZ:List Value->Nat->List Value->List Value|l,_,[]=>l|l,o,v::vs=>fZ (l.set o v) (o+1) vs
def callable(P:Program)(f:FuncId):Bool:=
 match P.funcs[f]? with
 |some fn=>(fn.name != "runtime.NumGoroutine")&&fn.body.isSome
 |none=>false
theorem apV{f:FuncId}{vs:Array Value}{w:World}(hf:callable P f=true):(callFunc f vs).run P w= .ok (.enter f vs) w:=by
 unfold callable at hf
 cases hp:P.funcs[f]? with
 |none=>rw[hp] at hf;cases hf
 |some fn=>
  rw[hp] at hf;simp only[Bool.and_eq_true,bne_iff_ne,ne_eq] at hf;unfold callFunc;show (Sem.bind (Sem.program .pure) _).run P w=_;simp only[Sem.bind,Sem.run,hp];have h1:(fn.name== "runtime.NumGoroutine")=false:=by simpa using hf.1
  have h2:fn.body.isNone=false:=by cases hb:fn.body<;>simp_all
  rw[h1,h2];rfl
theorem Ls:∀(vs l:List Value) (o:Nat),(fZ l o vs).length=l.length|[],_,_=>rfl|v::vs,l,o=>by simp only[fZ];rw[Ls vs];simp
theorem Gz:∀(vs l:List Value) (o q:Nat),(q<o\/o+vs.length<=q)->(fZ l o vs)[q]?=l[q]?
 |[],_,_,_,_=>rfl
 |v::vs,l,o,q,h=>by
  simp only[fZ]
  rw[Gz vs _ _ _ (by simp at h;omega)]
  rw[List.getElem?_set_ne (by simp at h;omega)]
theorem Un:∀(vs l:List Value) (o q:Nat),q<vs.length→o+vs.length≤l.length→(fZ l o vs)[o+q]?=vs[q]?
 |[],_,_,_,h,_=>by simp at h
 |v::vs,l,o,0,_,hl=>by
  simp only[fZ,Nat.add_zero]
  rw[Gz vs _ _ _ (.inl (by omega))]
  rw[List.getElem?_set_self (by simp at hl;omega)]
  rfl
 |v::vs,l,o,q+1,h,hl=>by
  simp only[fZ]
  have:=Un vs (l.set o v) (o+1) q (by simpa using h) (by simp at hl ⊢;omega)
  rw[show o+(q+1)=o+1+q by omega,this]
  simp
theorem toList_inj{s r:ByteArray}(h:s.toList=r.toList):s=r:=by rw[ByteArray.toList_eq,ByteArray.toList_eq] at h;exact ByteArray.ext (Array.toList_inj.1 h)
theorem aej{s r:ByteArray}:(s.toList==r.toList)=decide (s=r):=by
 by_cases e:s=r;·simp[e]
 ·have:s.toList≠r.toList:=λh=>e (toList_inj h);simp[e,this]
theorem aqv{s r:Str}:decide (s.ba=r.ba)=decide (s=r):=by
 by_cases e:s=r;·simp[e]
 ·have:s.ba≠r.ba:=λh=>e (Str.WR h);simp[e,this]
theorem run_sliceBound{k:IntKind}{i:Int}{y:Nat}{c:BoundsCode}{w:World}(h:0<=i/\i<=(y:Int)):(Instr.sliceBound (.int k i) y c).run P w= .ok i.toNat w:=by unfold Instr.sliceBound;show (if 0<=i/\i<=(y:Int) then _ else _:Sem Nat).run P w=_;rw[if_pos h];rfl
theorem aIM(s:Str)(a b:Nat):s.ba.extract a b=(⟨(s.l.take b).drop a⟩:Str).ba:=by apply ByteArray.ext;simp[Str.ba,List.drop_take]
def oval(o:Option (IntKind×Int))(d:Int):Int:=match o with|some p=>p.2|none=>d
theorem apU{sl:Bool}{len cap:Nat}{lo hi:Option (IntKind×Int)}{w:World}(h:0<=oval lo 0/\oval lo 0<=oval hi len/\oval hi len<=cap):(Instr.sliceBounds sl len cap (lo.map (λp=>Value.int p.1 p.2)) (hi.map (λp=>Value.int p.1 p.2)) none).run P w= .ok ((oval lo 0).toNat,(oval hi len).toNat,cap) w:=by
 unfold Instr.sliceBounds
 cases hi with
 |none=>cases lo with|none=>simp[oval]|some l=>simp only[oval,Option.map] at h |-;show (Instr.sliceBound (.int l.1 l.2) len _ >>= _).run P w=_;rw[run_bind_ok (run_sliceBound ⟨h.1,h.2.1⟩)];simp
 |some u=>simp only[oval,Option.map] at h |-;show (Instr.sliceBound (.int u.1 u.2) cap _ >>= _).run P w=_;rw[run_bind_ok (run_sliceBound ⟨om,h.2.2⟩)];cases lo with|none=>simp|some l=>simp only[] at h |-;show (Instr.sliceBound (.int l.1 l.2) u.2.toNat _ >>= _).run P w=_;rw[run_bind_ok (run_sliceBound ⟨h.1,om⟩)];rfl
theorem Dl{w:World}{size m:Nat}{src:Option Addr}{len cap:Nat}{cs:List Value}(d:cs.length=m*size)(h:∀j v,cs[j]?=some v->src=some ⟨sb src,so src,none⟩/\w.cell? ⟨sb src,so src+j,none⟩=some v):(Builtin.firstCells size m (.slice src len cap)).run P w= .ok cs.toArray w:=by
 cases a:cs with
 |nil=>subst a;cases src with|none=>exact run_firstCells_none w size m len cap|some b=>exact run_firstCells_some w size m b len cap [] d (λj v c=>by simp at c)
 |cons e r=>have h0:=h 0 e (by rw[a];rfl);rw[h0.1];rw[<-a];refine run_firstCells_some w size m _ len cap cs d (λj v c=>?_);rw[Addr.add_lit];exact (h j v c).2
theorem adV{w:World}(t ty e:TypeId)(i:TypeInfo)(z:Value)(B:P.underlying t=some (.slice e))(hi:P.info? e=some i)(C:i.zero=some z)(a src:Option Addr)(m cap b c:Nat)(g f:List Value)(q:g.length=m*i.size)(y:f.length=b*i.size)(l:∀j v,g[j]?=some v->a=some ⟨sb a,so a,none⟩/\w.cell? ⟨sb a,so a+j,none⟩=some v)(k:∀j v,f[j]?=some v->src=some ⟨sb src,so src,none⟩/\w.cell? ⟨sb src,so src+j,none⟩=some v)(D:cap<m+b)(s:m+b<=9223372036854775807)(u:(m+b)*i.bytes<=140737488355328):∃d h,m+b<=d/\h=Builtin.zeroCells z.cells (d-(m+b))/\(Builtin.append_ #[t,t] ty #[.slice a m cap,.slice src b c]).run P w= .ok (.slice (some ⟨w.heap.size,0,none⟩) (m+b) d) (w.drew.alloc (.cells (g.toArray++f.toArray++h) e)):=by
 have A:¬(m+b<=cap):=by omega
 have o:¬(9223372036854775807<((m:Int)+(b:Int))):=by omega
 have r:Builtin.nextslicecap (m+b) cap*i.bytes<=281474976710656:=growslice_fits om u;have n:¬(281474976710656<Builtin.nextslicecap (m+b) cap*i.bytes):=by omega
 have x:=Dl (P:=P) (w:=w.drew) (size:=i.size) (m:=b) (src:=src) (len:=b) (cap:=c) y (by simpa using k);have p:=Dl (P:=P) (w:=w.drew) (size:=i.size) (m:=m) (src:=a) (len:=m) (cap:=cap) q (by simpa using l);refine⟨grownCap w (m+b) cap e,_,?_,rfl,?_⟩;·unfold grownCap Question.cut;exact Nat.le_add_right _ _
 ·simp[Builtin.append_,run_underlying B,sizeOf,typeInfo,zeroValue,hi,C,Builtin.lenOf,A,o,n,Question.forced,x,p,newRow,grownCap];congr 2;apply Array.ext';simp[List.append_assoc]
theorem adU{w:World}(t ty e:TypeId)(i:TypeInfo)(r:P.underlying t=some (.slice e))(hi:P.info? e=some i)(h o m cap:Nat)(T:TypeId)(b:Array Value)(p:w.heap[h]?=some (.cells b T (0,0)))(src:Option Addr)(g c:Nat)(a:List Value)(q:a.length=g*i.size)(d:∀j v,a[j]?=some v->src=some ⟨sb src,so src,none⟩/\w.cell? ⟨sb src,so src+j,none⟩=some v)(h1:∀u∈a,u.oneCell'=true)(f:m+g<=cap)(k:o+m*i.size+a.length<=b.size):(Builtin.append_ #[t,t] ty #[.slice (some ⟨h,o,none⟩) m cap,.slice src g c]).run P w= .ok (.slice (some ⟨h,o,none⟩) (m+g) cap) (w.setRow h (b.toList.take (o+m*i.size)++a++b.toList.drop (o+m*i.size+a.length)).toArray):=by have n:=Dl (P:=P) (w:=w) (size:=i.size) (m:=g) (src:=src) (len:=g) (cap:=c) q d;have l:=run_storeCells_at P h (o+m*i.size) T a 0 b w p (by simpa using k) h1;simp only[Nat.add_zero] at l;simp[Builtin.append_,run_underlying r,sizeOf,typeInfo,hi,Builtin.lenOf,f,n,Addr.add_lit,l]
theorem Ue{w:World}(t ty e:TypeId)(i:TypeInfo)(b:P.underlying t=some (.slice e))(hi:P.info? e=some i)(src:Option Addr)(c:Nat):(Builtin.append_ #[t,t] ty #[.slice none 0 0,.slice src 0 c]).run P w= .ok (.slice none 0 0) w:=by have a:=Dl (P:=P) (w:=w) (size:=i.size) (m:=0) (src:=src) (len:=0) (cap:=c) (cs:=[]) sm (λj v d=>by simp at d);simp[Builtin.append_,run_underlying b,sizeOf,typeInfo,hi,Builtin.lenOf,a]
def Ub(P:Program)(t e sz bJ:Nat):Bool:=
 (match P.underlying t with|some (.slice a)=>a==e|_=>false)&&
 match P.info? e with
 |some i=>i.size==sz&&i.bytes==bJ&&(match i.zero with|some z=>z.cells.size==sz|none=>false)&&decide (0<sz)
 |none=>false
theorem u7{t e sz bJ:Nat}(h:Ub P t e sz bJ=true):P.underlying t=some (.slice e)/\∃i z,P.info? e=some i/\i.size=sz/\i.bytes=bJ/\i.zero=some z/\z.cells.size=sz/\0<sz:=by
 unfold Ub at h;simp only[Bool.and_eq_true] at h;obtain⟨h1,h2⟩:=h;constructor
 ·split at h1;·rename_i k g;rw[g];simp at h1;rw[h1]
  ·cases h1
 ·split at h2
  ·rename_i i f;simp only[Bool.and_eq_true,beq_iff_eq,decide_eq_true_eq] at h2;obtain⟨⟨⟨b,c⟩,a⟩,d⟩:=h2;split at a;·rename_i z j;exact⟨i,z,f,b,c,j,by simpa using a,d⟩
   ·cases a
  ·cases h2
theorem U6(z:Array Value)(m:Nat):(Builtin.zeroCells z m).size=m*z.size:=by simp[Builtin.zeroCells]
theorem aoo{z:Array Value}{m i j:Nat}(c:j<z.size)(hi:i<m):(madeCells z (m*z.size)).toList[i*z.size+j]?=z[j]?:=by
 have b:i*z.size+j<m*z.size:=by
  have:i*z.size+z.size<=m*z.size:=by rw[<-Nat.succ_mul];exact Nat.mul_le_mul_right _ hi
  omega
 have a:(i*z.size+j) % z.size=j:=by rw[Nat.add_comm,Nat.add_mul_mod_self_right,Nat.mod_eq_of_lt c]
 simp[madeCells,b,a,c]
inductive PK where
 |int (k:IntKind)
 |bool
 |string
def PK.fit:PK->Value->Bool| .int k,.int a _=>k==a| .bool,.bool _=>true| .string,.string _=>true|_,_=>false
def fit:List PK->List Value->Bool|[],[]=>true|k::a,v::vs=>k.fit v&&fit a vs|_,_=>false
theorem YT:∀{a:List PK}{vs:List Value},fit a vs=true->vs.length=a.length|[],[],_=>rfl|_::a,_::vs,h=>by simp only[fit,Bool.and_eq_true] at h;simp[YT h.2]|[],_::_,h=>by simp[fit] at h|_::_,[],h=>by simp[fit] at h
theorem YS:∀{b a:List PK}{vs:List Value},fit (b++a) vs=true->fit b (vs.take b.length)=true/\fit a (vs.drop b.length)=true
 |[],a,vs,h=>by simpa [fit] using h
 |_::c,a,[],h=>by simp[fit] at h
 |k::c,a,v::vs,h=>by
  simp only[List.cons_append,fit,Bool.and_eq_true] at h
  have:=YS h.2
  simp[fit,h.1,this.1,this.2]
def Jo(rec:TypeId->Option (List PK)):List Field->Nat->Option (List PK)
 |[],_=>some []
 |f::fs,o=>if (f.name != "_" &&f.offset==o)=true then (match rec f.type with
  |some ks=>(match Jo rec fs (o+ks.length) with|some r=>some (ks++r)|none=>none)
  |none=>none) else none
def flat(P:Program):Nat->TypeId->Option (List PK)
 |0,_=>none
 |d+1,t=>match P.underlying t with
  |some (.int k)=>some [.int k]
  |some .bool=>some [.bool]
  |some .string=>some [.string]
  |some (.struct b)=>if P.stoodInHeld t=true then none else (match Jo (flat P d) b.toList 0 with
   |some a=>if P.cellsOf t=a.length/\(P.info? t).isSome=true then some a else none
   |none=>none)
  |_=>none
def EqA(P:Program)(D:Nat)(t:TypeId)(c:List PK):Prop:=∀(xs ys:Array Value) (o:Nat) (w:World),fit c ((xs.toList.drop o).take c.length)=true->fit c ((ys.toList.drop o).take c.length)=true->
 ∃a b r,(part t xs o).run P w= .ok a w/\(part t ys o).run P w= .ok b w/\(Op.equalIn D t a b).run P w= .ok r w/\(r=true↔(xs.toList.drop o).take c.length=(ys.toList.drop o).take c.length)
theorem Yl{D:Nat}{rec:TypeId->Option (List PK)}(z:∀t g,rec t=some g->EqA P D t g)(xs ys:Array Value)(w:World):∀(n:List Field) (o:Nat) (g:List PK),Jo rec n o=some g->fit g (xs.toList.drop o)=true->fit g (ys.toList.drop o)=true->∃r,(Op.eqFields D xs ys n).run P w= .ok r w/\(r=true↔xs.toList.drop o=ys.toList.drop o)
 |[],o,g,h,v,x=>by
  simp only[Jo,Option.some.injEq] at h
  subst h
  refine⟨true,rfl,?_⟩
  have k:=YT v
  have m:=YT x
  simp only[List.length_nil] at k m
  rw[List.length_eq_zero_iff.1 k,List.length_eq_zero_iff.1 m]
  simp
 |f::n,o,g,h,v,x=>by
  unfold Jo at h
  split at h
  ·rename_i p
   simp only[Bool.and_eq_true,bne_iff_ne,ne_eq,beq_iff_eq] at p
   obtain⟨p,rfl⟩:=p
   split at h
   ·rename_i i C
    split at h
    ·rename_i E u
     simp only[Option.some.injEq] at h
     subst h
     have A:=YS v
     have B:=YS x
     obtain⟨a,b,r,F,pb,pr,c⟩:=z _ _ C xs ys f.offset w A.1 B.1
     obtain⟨G,y,s⟩:=Yl z xs ys w n (f.offset+i.length) E u (by rw[<-List.drop_drop];exact A.2) (by rw[<-List.drop_drop];exact B.2)
     have d:∀l q:List Value,(l=q↔l.take i.length=q.take i.length/\l.drop i.length=q.drop i.length):=λl q=>⟨λe=>by rw[e];exact⟨rfl,rfl⟩,λ⟨k,m⟩=>by rw[<-List.take_append_drop i.length l,k,m,List.take_append_drop]⟩
     simp only[Op.eqFields,ne_eq,p,not_false_eq_true,if_true]
     rw[run_bind_ok F,run_bind_ok pb,run_bind_ok pr]
     cases j:r with
     |false=>
      refine⟨false,by simp[go_sem],?_⟩
      rw[d]
      rw[j] at c
      simp at c |-
      exact λe=>absurd e c
     |true=>
      refine⟨G,by simpa using y,?_⟩
      rw[d,s,List.drop_drop,List.drop_drop]
      rw[j] at c
      simp at c
      exact⟨λe=>⟨c,e⟩,λe=>e.2⟩
    ·cases h
   ·cases h
  ·cases h
theorem take1{xs:Array Value}{o:Nat}{v:Value}(h:(xs.toList.drop o).take 1=[v]):xs[o]?=some v:=by
 have:(xs.toList.drop o)[0]?=some v:=by cases b:xs.toList.drop o with|nil=>rw[b] at h;simp at h|cons a r=>rw[b] at h;simp at h;subst h;rfl
 simpa [List.getElem?_drop] using this
theorem Dm{t:TypeId}{cs:Array Value}{o:Nat}{v:Value}{w:World}(a:lD P t=true)(b:cs[o]?=some v):(part t cs o).run P w= .ok v w:=by unfold part;rw[run_bind_ok (apZ a w)];simp[b,go_sem]
theorem aiG:∀(d D:Nat) (t:TypeId) (j:List PK),d<=D->flat P d t=some j->EqA P D t j
 |0,D,t,j,_,h=>by simp[flat] at h
 |d+1,0,t,j,C,_=>by omega
 |d+1,D+1,t,j,C,h=>by
  intro xs ys o w u x
  unfold flat at h
  split at h
  ·rename_i k b
   simp only[Option.some.injEq] at h
   subst h
   have get:∀(zs:Array Value),fit [.int k] ((zs.toList.drop o).take 1)=true->∃n,(zs.toList.drop o).take 1=[.int k n]:=λzs a=>by
    match z:(zs.toList.drop o).take 1,a with
    |[v],a=>
     cases v<;>simp[fit,PK.fit] at a
     subst a
     exact⟨_,rfl⟩
    |[],a=>simp[fit] at a
    |_::_::_,a=>simp[fit] at a
   obtain⟨n,f⟩:=get xs u
   obtain⟨m,g⟩:=get ys x
   refine⟨_,_,_,Dm (by simp[lD,b]) (take1 f),Dm (by simp[lD,b]) (take1 g),run_equalIn_int w D t k k n m b,?_⟩
   show _↔(xs.toList.drop o).take 1=(ys.toList.drop o).take 1
   rw[f,g]
   simp
  ·rename_i b
   simp only[Option.some.injEq] at h
   subst h
   have get:∀(zs:Array Value),fit [.bool] ((zs.toList.drop o).take 1)=true->∃n,(zs.toList.drop o).take 1=[.bool n]:=λzs a=>by
    match z:(zs.toList.drop o).take 1,a with
    |[v],a=>
     cases v<;>simp[fit,PK.fit] at a
     exact⟨_,rfl⟩
    |[],a=>simp[fit] at a
    |_::_::_,a=>simp[fit] at a
   obtain⟨n,f⟩:=get xs u
   obtain⟨m,g⟩:=get ys x
   refine⟨_,_,_,Dm (by simp[lD,b]) (take1 f),Dm (by simp[lD,b]) (take1 g),run_equalIn_bool w D t n m b,?_⟩
   show _↔(xs.toList.drop o).take 1=(ys.toList.drop o).take 1
   rw[f,g]
   simp
  ·rename_i b
   simp only[Option.some.injEq] at h
   subst h
   have get:∀(zs:Array Value),fit [.string] ((zs.toList.drop o).take 1)=true->∃n,(zs.toList.drop o).take 1=[.string n]:=λzs a=>by
    match z:(zs.toList.drop o).take 1,a with
    |[v],a=>
     cases v<;>simp[fit,PK.fit] at a
     exact⟨_,rfl⟩
    |[],a=>simp[fit] at a
    |_::_::_,a=>simp[fit] at a
   obtain⟨n,f⟩:=get xs u
   obtain⟨m,g⟩:=get ys x
   refine⟨_,_,_,Dm (by simp[lD,b]) (take1 f),Dm (by simp[lD,b]) (take1 g),run_equalIn_string w D t n m b,?_⟩
   show _↔(xs.toList.drop o).take 1=(ys.toList.drop o).take 1
   rw[f,g]
   simp only[beq_iff_eq,List.cons.injEq,Value.string.injEq,and_true]
   exact⟨λe=>by rw[ByteArray.toList_eq,ByteArray.toList_eq] at e;cases n;cases m;simp at e;rw[e],λe=>by rw[e]⟩
  ·rename_i y b
   split at h
   ·cases h
   ·rename_i hs
    split at h
    ·rename_i c B
     split at h
     ·rename_i p
      obtain rfl:=Option.some.inj h
      cases s:P.info? t with
      |none=>rw[s] at p;simp at p
      |some i=>
       have p:i.size=c.length:=by have:=p.1;simpa [Program.cellsOf,s] using this
       have ext:∀(zs:Array Value),(zs.extract o (o+c.length)).toList=(zs.toList.drop o).take c.length:=λzs=>by
        rw[Array.toList_extract];simp[List.extract]
       have A:∀(zs:Array Value),(part t zs o).run P w= .ok (.agg (zs.extract o (o+c.length))) w:=λzs=>by
        simp[part,isAgg,run_underlying b,run_sizeOf w s,Program.cellsOf,s,p]
       have l:P.fieldsOf t=y:=by simp[Program.fieldsOf,b]
       obtain⟨r,E,q⟩:=Yl (rec:=flat P d) (D:=D) (λt j h=>aiG d D t j om h) (xs.extract o (o+c.length)) (ys.extract o (o+c.length)) w y.toList 0 c B (by rw[ext];exact u) (by rw[ext];exact x)
       refine⟨_,_,r,A xs,A ys,?_,?_⟩
       ·rw[run_equalIn_struct w D t _ _ (by rw[l];exact b) (by simpa using hs),l]
        exact E
       ·rw[q,ext,ext,List.drop_zero,List.drop_zero]
     ·cases h
    ·cases h
  ·cases h
def aek(P:Program)(t:TypeId):Bool:=match P.underlying t with|some (.struct _)=>true|_=>false
theorem awg{t:TypeId}{e:List PK}{l1 l2:List Value}{w:World}(h:flat P 11 t=some e)(a:aek P t=true)(h1:fit e l1=true)(h2:fit e l2=true):∃r,(Op.equalIn 10000 t (.agg l1.toArray) (.agg l2.toArray)).run P w= .ok r w/\(r=true↔l1=l2):=by
 unfold flat at h;unfold aek at a
 cases d:P.underlying t with
 |none=>rw[d] at a;cases a
 |some j=>
  cases j with
  |struct g=>
   simp only[d] at h;split at h;·cases h
   ·rename_i hs;split at h
    ·rename_i f i;split at h
     ·obtain rfl:=Option.some.inj h;have b:P.fieldsOf t=g:=by simp[Program.fieldsOf,d]
      obtain⟨r,k,c⟩:=Yl (rec:=flat P 10) (D:=9999) (λt e h=>aiG 10 9999 t e om h) l1.toArray l2.toArray w g.toList 0 f i (by simpa using h1) (by simpa using h2);refine⟨r,?_,by simpa using c⟩;rw[run_equalIn_struct w 9999 t _ _ (by rw[b];exact d) (by simpa using hs),b];exact k
     ·cases h
    ·cases h
  |_=>rw[d] at a;cases a
def gW(tmps:Array Value):ResultVar->Sem Value| .tmp t=>pure (tmps.getD t undef)| .cell a t=>do loadVar t (<-asAddr (tmps.getD a undef))
theorem aD0{fn:Func}{r:ResultVar}{tmps:Array Value}{v:Value}{w:World}(h:fn.results= #[r])(h1:(gW tmps r).run P w= .ok v w):(results fn tmps).run P w= .ok v w:=by
 have e:results fn tmps=(gW tmps r >>= λv=>pure v):=by unfold results;rw[h];cases r<;>simp[gW]
 rw[e,run_bind_ok h1];rfl
theorem aD1{fn:Func}{a b:ResultVar}{tmps:Array Value}{c d:Value}{w:World}(h:fn.results= #[a,b])(h1:(gW tmps a).run P w= .ok c w)(h2:(gW tmps b).run P w= .ok d w):(results fn tmps).run P w= .ok (.tuple #[c,d]) w:=by
 have e:results fn tmps=(gW tmps a >>= λc=>gW tmps b >>= λd=>pure (.tuple #[c,d])):=by unfold results;rw[h];cases a<;>cases b<;>simp[gW]
 rw[e,run_bind_ok h1,run_bind_ok h2];rfl
theorem aD2{fn:Func}{a b c:ResultVar}{tmps:Array Value}{d f g:Value}{w:World}(h:fn.results= #[a,b,c])(h1:(gW tmps a).run P w= .ok d w)(h2:(gW tmps b).run P w= .ok f w)(i:(gW tmps c).run P w= .ok g w):(results fn tmps).run P w= .ok (.tuple #[d,f,g]) w:=by
 have e:results fn tmps=(gW tmps a >>= λd=>gW tmps b >>= λf=>gW tmps c >>= λg=>pure (.tuple #[d,f,g])):=by unfold results;rw[h];cases a<;>cases b<;>cases c<;>simp[gW]
 rw[e,run_bind_ok h1,run_bind_ok h2,run_bind_ok i];rfl
theorem aD3{fn:Func}{a b c d:ResultVar}{tmps:Array Value}{f g i j:Value}{w:World}(h:fn.results= #[a,b,c,d])(h1:(gW tmps a).run P w= .ok f w)(h2:(gW tmps b).run P w= .ok g w)(k:(gW tmps c).run P w= .ok i w)(l:(gW tmps d).run P w= .ok j w):(results fn tmps).run P w= .ok (.tuple #[f,g,i,j]) w:=by
 have e:results fn tmps=(gW tmps a >>= λf=>gW tmps b >>= λg=>gW tmps c >>= λi=>gW tmps d >>= λj=>pure (.tuple #[f,g,i,j])):=by unfold results;rw[h];cases a<;>cases b<;>cases c<;>cases d<;>simp[gW]
 rw[e,run_bind_ok h1,run_bind_ok h2,run_bind_ok k,run_bind_ok l];rfl
theorem adW{w:World}(t ty e:TypeId)(i:TypeInfo)(r:P.underlying t=some (.slice e))(hi:P.info? e=some i)(l o k cd:Nat)(b:Array Value)(p:w.heap[l]?=some (.cells b e (0,0)))(src:Option Addr)(h c:Nat)(a:List Value)(q:a.length=Nat.min h k*i.size)(d:∀j v,a[j]?=some v->src=some ⟨sb src,so src,none⟩/\w.cell? ⟨sb src,so src+j,none⟩=some v)(h1:∀u∈a,u.oneCell'=true)(f:o+a.length<=b.size):(Builtin.copy_ #[t,t] ty #[.slice (some ⟨l,o,none⟩) k cd,.slice src h c]).run P w= .ok (.int .i64 (Nat.min h k:Nat)) (w.setRow l (b.toList.take o++a++b.toList.drop (o+a.length)).toArray):=by have n:=Dl (P:=P) (w:=w) (size:=i.size) (m:=Nat.min h k) (src:=src) (len:=h) (cap:=c) q d;have g:=run_storeCells_at P l o e a 0 b w p (by simpa using f) h1;simp only[Nat.add_zero] at g;simp[Builtin.copy_,run_underlying r,sizeOf,typeInfo,hi,Builtin.lenOf,n,g,goInt]
end
end Go.Dc
namespace Go.R
open Go.RowKit Go.Dc
inductive Cd where
 |int (k:IntKind)|bool|str|list (c:Cd)|st (i:Nat)|any
def Ca(k k':IntKind):Option (PLift (k=k')):=if h:k=k' then some ⟨h⟩ else none
def aCV(i j:Nat):Option (PLift (i=j)):=if h:i=j then some ⟨h⟩ else none
def Cd.eq:(c d:Cd)->Option (PLift (c=d))
 | .int k,.int a=>match Ca k a with|some ⟨h⟩=>some ⟨h▸rfl⟩|none=>none
 | .bool,.bool=>some ⟨rfl⟩
 | .str,.str=>some ⟨rfl⟩
 | .any,.any=>some ⟨rfl⟩
 | .st i,.st j=>match aCV i j with|some ⟨h⟩=>some ⟨h▸rfl⟩|none=>none
 | .list c,.list d=>match c.eq d with|some ⟨h⟩=>some ⟨h▸rfl⟩|none=>none
 |_,_=>none
@[reducible] def Cd.ty (S:Nat->Type):Cd->Type| .int _=>Int| .bool=>Bool| .str=>Str| .list c=>List (c.ty S)| .st i=>S i| .any=>Any
@[reducible] def aK (S:Nat->Type):List Cd->Type|[]=>Unit|[c]=>c.ty S|c::d::r=>c.ty S×aK S (d::r)
inductive SV (S:Nat->Type) where
 |i (k:IntKind) (p:Int)
 |b (x:Bool)
 |st (s:Str)
 |nl
 |z (x:Value)
 |l (c:Cd) (xs:List (c.ty S))
 |q (c:Cd) (x:c.ty S) (j:Nat)
 |o (m:Nat)
 |a (m n i k:Nat)
 |r (m o:Nat)
 |e (m n:Nat) (i:Int) (j:Nat)
 |f (g:FuncId) (xs:List (SV S))
 |n (T:TypeId) (v:SV S)
 |c (xs:List (SV S))
 |t (xs:List (SV S))
 |g (p:List (Nat×Bool)) (v:SV S)
 |y (z:Any)
 |x (h:Nat) (i:Int) (c:Cd) (xs:List (c.ty S))
 |m (m:Nat)
 |p (m:Nat)
 |u
def SV.cs{S:Nat->Type}:SV S->List (SV S)| .c xs=>xs|v=>[v]
structure Tb where
 S:Nat->Type
 cs:Nat->List Cd
 KG:∀i,aK S (cs i)->S i
 un:∀i,S i->aK S (cs i)
 um:∀i p,un i (KG i p)=p
 ts:TypeId
 ti:TypeId
 gm:Nat->Option (List Value)
 gx:Nat->Bool
 tb:TypeId
 t8:TypeId
def Tb.aC(τ:Tb):Cd->Nat| .st i=>(τ.cs i).length|_=>1
def E1(τ:Tb):(c:Cd)->c.ty τ.S->SV τ.S| .int k,p=> .i k p| .bool,x=> .b x| .str,s=> .st s| .list c,xs=> .l c xs| .any,z=> .y z| .st _,_=> .u
def EL(τ:Tb):(cs:List Cd)->aK τ.S cs->List (SV τ.S)|[],_=>[]|[c],x=>[E1 τ c x]|c::d::r,x=>E1 τ c x.1::EL τ (d::r) x.2
def E(τ:Tb):(c:Cd)->c.ty τ.S->SV τ.S| .st i,x=> .c (EL τ (τ.cs i) (τ.un i x))| .int k,p=> .i k p| .bool,x=> .b x| .str,s=> .st s| .list c,xs=> .l c xs| .any,x=>E1 τ .any x
def D1(τ:Tb):(c:Cd)->SV τ.S->Option (c.ty τ.S)
 | .int k,.i d p=>match Ca d k with|some _=>some p|none=>none
 | .bool,.b x=>some x
 | .str,.st s=>some s
 | .list _,.nl=>some []
 | .list c,.l a xs=>match Cd.eq a c with|some ⟨h⟩=>some (h▸xs)|none=>none
 | .any,.y z=>some z
 | .any,.n T (.st s)=>match Nat.beq T τ.ts with|true=>some (.s s)|false=>none
 | .any,.n T (.i .i64 p)=>match Nat.beq T τ.ti with|true=>some (.i p)|false=>none
 |_,_=>none
def DL(τ:Tb):(cs:List Cd)->List (SV τ.S)->Option (aK τ.S cs)
 |[],[]=>some ()
 |[c],[v]=>D1 τ c v
 |c::d::r,v::vs=>match D1 τ c v with
  |some x=>match DL τ (d::r) vs with
   |some y=>some (x,y)
   |none=>none
  |none=>none
 |_,_=>none
def dv1(τ:Tb):(c:Cd)->Option (c.ty τ.S)| .int _=>some 0| .bool=>some false| .str=>some ⟨[]⟩| .list _=>some []| .any=>some (.i 0)| .st _=>none
def dvL(τ:Tb):(cs:List Cd)->Option (aK τ.S cs)
 |[]=>some ()
 |[c]=>dv1 τ c
 |c::d::r=>match dv1 τ c with
  |some x=>match dvL τ (d::r) with|some y=>some (x,y)|none=>none
  |none=>none
def dv(τ:Tb):(c:Cd)->Option (c.ty τ.S)
 | .st i=>match dvL τ (τ.cs i) with|some p=>some (τ.KG i p)|none=>none
 | .int _=>some 0
 | .bool=>some false
 | .str=>some ⟨[]⟩
 | .list _=>some []
 | .any=>some (.i 0)
def D(τ:Tb):(c:Cd)->SV τ.S->Option (c.ty τ.S)
 | .st i,.c vs=>match DL τ (τ.cs i) vs with|some p=>some (τ.KG i p)|none=>none
 | .st _,_=>none
 |c,v=>D1 τ c v
abbrev Mem:=Nat->Nat->Option Value
def Mem.le(M M':Mem):Prop:=∀b j v,M b j=some v->M' b j=some v
theorem Mem.le.rfl{M:Mem}:M.le M:=λ_ _ _ h=>h
theorem Mem.le.trans{M a c:Mem}(h:M.le a)(d:a.le c):M.le c:=λb j v e=>d b j v (h b j v e)
structure Loc where
 b:Nat
 len:Nat
 cap:Nat
 nil:Bool
 hs:List Value
def Loc.sl(l:Loc):Value:=match l.nil with|true=> .slice none 0 0|false=> .slice (some ⟨l.b,0,none⟩) l.len l.cap
def flat:Value->Bool| .pointer none| .map none| .nilFunc| .nilIface=>true|_=>false
inductive RV (τ:Tb) (M:Mem) (ρ:List Loc):SV τ.S->Value->Prop
 |i {k:IntKind}{p:Int}:RV τ M ρ (.i k p) (.int k p)
 |b {x:Bool}:RV τ M ρ (.b x) (.bool x)
 |st {s:Str}:RV τ M ρ (.st s) (.string s.ba)
 |nl:RV τ M ρ .nl (.slice none 0 0)
 |z {x:Value}:flat x=true->RV τ M ρ (.z x) x
 |l {c:Cd}{xs:List (c.ty τ.S)}{b o cap:Nat}(vs:Nat->Nat->Value):0<τ.aC c->xs.length<=cap->xs.length<=140737488355328->
  (∀(i:Nat) x,xs[i]?=some x->∀j,j<τ.aC c->M b (o+i*τ.aC c+j)=some (vs i j))->
  (∀(i:Nat) x,xs[i]?=some x->∀(j:Nat) y,(E τ c x).cs[j]?=some y->RV τ M ρ y (vs i j))->RV τ M ρ (.l c xs) (.slice (some ⟨b,o,none⟩) xs.length cap)
 |le {c:Cd}{a:Option Addr}{cap:Nat}:RV τ M ρ (.l c []) (.slice a 0 cap)
 |q {c:Cd}{x:c.ty τ.S}{j b o:Nat}(vs:Nat->Value):(∀(k:Nat) y,(E τ c x).cs[k]?=some y->M b (o+k)=some (vs k))->(∀(k:Nat) y,(E τ c x).cs[k]?=some y->RV τ M ρ y (vs k))->
  RV τ M ρ (.q c x j) (.pointer (some ⟨b,o+j,none⟩))
 |o {m:Nat}{l:Loc}:ρ[m]?=some l->RV τ M ρ (.o m) l.sl
 |a {m n i k cap:Nat}{l:Loc}:ρ[m]?=some l->k<=cap->RV τ M ρ (.a m n i k) (.slice (some ⟨l.b,i*n,none⟩) k cap)
 |r {m o:Nat}{l:Loc}:ρ[m]?=some l->RV τ M ρ (.r m o) (.pointer (some ⟨l.b,o,none⟩))
 |e {m n j:Nat}{i:Int}{l:Loc}:ρ[m]?=some l->RV τ M ρ (.e m n i j) (.pointer (some ⟨l.b,i.toNat*n+j,none⟩))
 |f {g:FuncId}{xs:List (SV τ.S)}{vs:List Value}:vs.length=xs.length->(∀(i:Nat) x v,xs[i]?=some x->vs[i]?=some v->RV τ M ρ x v)->RV τ M ρ (.f g xs) (.func (.func g) #[] vs.toArray)
 |n {T:TypeId}{v:SV τ.S}{x:Value}:RV τ M ρ v x->RV τ M ρ (.n T v) (.iface T x)
 |ys {s:Str}:RV τ M ρ (.y (.s s)) (.iface τ.ts (.string s.ba))
 |yi {p:Int}:RV τ M ρ (.y (.i p)) (.iface τ.ti (.int .i64 p))
 |x {h:Nat}{i:Int}{c:Cd}{xs:List (c.ty τ.S)}{l:Loc}{v:Value}:ρ[h]?=some l->0<=i->l.hs[i.toNat]?=some v->RV τ M ρ (.l c xs) v->RV τ M ρ (.x h i c xs) v
 |m {m:Nat}{l:Loc}:ρ[m]?=some l->RV τ M ρ (.m m) (.map (some l.b))
 |p {m:Nat}{l:Loc}{a:Option Addr}:ρ[m]?=some l->(a=none\/a=some ⟨l.b,0,none⟩)->RV τ M ρ (.p m) (.pointer a)
theorem RV.mono{τ:Tb}{M M':Mem}{ρ ρ':List Loc}(h:M.le M')(c:∀(m:Nat) l,ρ[m]?=some l->ρ'[m]?=some l){v:SV τ.S}{x:Value}(t:RV τ M ρ v x):RV τ M' ρ' v x:=by induction t with|i=>exact .i|b=>exact .b|st=>exact .st|nl=>exact .nl|z h=>exact .z h|l vs h0 h1 h2 g _ d=>exact .l vs h0 h1 h2 (λi x u j s=>h _ _ _ (g i x u j s)) d|le=>exact .le|q vs h1 _ d=>exact .q vs (λk y w=>h _ _ _ (h1 k y w)) d|o h1=>exact .o (c _ _ h1)|a h1 h2=>exact .a (c _ _ h1) h2|r h1=>exact .r (c _ _ h1)|e h1=>exact .e (c _ _ h1)|f h1 _ d=>exact .f h1 d|n _ d=>exact .n d|ys=>exact .ys|yi=>exact .yi|x h1 h2 g _ d=>exact .x (c _ _ h1) h2 g d|m h1=>exact .m (c _ _ h1)|p h1 h2=>exact .p (c _ _ h1) h2
theorem RV.one{τ:Tb}{M:Mem}{ρ:List Loc}{v:SV τ.S}{x:Value}(a:RV τ M ρ v x):x.oneCell'=true:=by
 cases a with
 |z h=>cases x<;>first|rfl|cases h
 |o h=>unfold Loc.sl;split<;>rfl
 |x _ _ _ h=>cases h<;>rfl
 |_=>rfl
theorem aeZ{τ:Tb}:∀(cs:List Cd) (x:aK τ.S cs),(EL τ cs x).length=cs.length|[],_=>rfl|[_],_=>rfl|_::d::r,x=>by simp[EL,aeZ (d::r) x.2]
theorem jd{τ:Tb}:∀(c:Cd) (x:c.ty τ.S),(E τ c x).cs.length=τ.aC c| .st i,x=>aeZ (τ.cs i) (τ.un i x)| .int _,_| .bool,_| .str,_| .list _,_=>rfl| .any,_=>rfl
theorem Ho{τ:Tb}{M:Mem}{ρ:List Loc}{v:SV τ.S}{x:Value}:∀{c:Cd}{y:c.ty τ.S},D1 τ c v=some y->RV τ M ρ v x->RV τ M ρ (E1 τ c y) x:=by
 intro c y h a;unfold D1 at h;split at h
 ·split at h
  ·rename_i k f p _ d;cases h;unfold Ca at d;split at d;·rename_i e;subst e;exact a
   ·cases d
  ·cases h
 ·cases h;exact a
 ·cases h;exact a
 ·cases h;cases a;exact .le
 ·split at h;·rename_i e _;cases h;subst e;exact a
  ·cases h
 ·cases h;exact a
 ·split at h;·rename_i b;cases h;have:=Nat.eq_of_beq_eq_true b;subst this;cases a with|n a=>cases a;exact .ys
  ·cases h
 ·split at h;·rename_i b;cases h;have:=Nat.eq_of_beq_eq_true b;subst this;cases a with|n a=>cases a;exact .yi
  ·cases h
 ·cases h
inductive aZ (τ:Tb) (M:Mem) (ρ:List Loc):List (SV τ.S)->List Value->Prop
 |nil:aZ τ M ρ [] []
 |cons {v:SV τ.S}{x:Value}{vs:List (SV τ.S)}{xs:List Value}:RV τ M ρ v x->aZ τ M ρ vs xs->aZ τ M ρ (v::vs) (x::xs)
section
variable {τ:Tb}{M M':Mem}{ρ ρ':List Loc}
theorem aZ.mono(h:M.le M')(a:∀(m:Nat) l,ρ[m]?=some l->ρ'[m]?=some l):∀{vs:List (SV τ.S)}{xs:List Value},aZ τ M ρ vs xs->aZ τ M' ρ' vs xs|_,_,.nil=> .nil|_,_,.cons h1 h2=> .cons (h1.mono h a) (h2.mono h a)
theorem aZ.len:∀{vs:List (SV τ.S)}{xs:List Value},aZ τ M ρ vs xs->xs.length=vs.length|_,_,.nil=>rfl|_,_,.cons _ h=>by simp[h.len]
theorem aZ.get:∀{vs:List (SV τ.S)}{xs:List Value}{i:Nat}{v:SV τ.S},aZ τ M ρ vs xs->vs[i]?=some v->∃x,xs[i]?=some x/\RV τ M ρ v x
 |_,_,0,_,.cons h _,e=>by simp at e;subst e;exact⟨_,rfl,h⟩
 |_,_,i+1,_,.cons _ h,e=>by
  obtain⟨x,h1,h2⟩:=h.get (i:=i) (by simpa using e)
  exact⟨x,by simpa using h1,h2⟩
theorem aZ.at:∀{vs:List (SV τ.S)}{xs:List Value}{i:Nat}{v:SV τ.S}{x:Value},aZ τ M ρ vs xs->vs[i]?=some v->xs[i]?=some x->RV τ M ρ v x:=by intro vs xs i v x h h1 h2;obtain⟨y,a,b⟩:=h.get h1;rw[h2] at a;cases a;exact b
theorem aZ.of:∀{vs:List (SV τ.S)}{xs:List Value},xs.length=vs.length->(∀(i:Nat) v x,vs[i]?=some v->xs[i]?=some x->RV τ M ρ v x)->aZ τ M ρ vs xs|[],[],_,_=> .nil|[],_::_,h,_=>by simp at h|_::_,[],h,_=>by simp at h|v::vs,x::xs,h,a=> .cons (a 0 v x rfl rfl) (aZ.of (by simpa using h) λi u y h1 h2=>a (i+1) u y (by simpa using h1) (by simpa using h2))
theorem aZ.one:∀{vs:List (SV τ.S)}{xs:List Value},aZ τ M ρ vs xs->∀x∈xs,x.oneCell'=true
 |_,_,.nil,_,h=>by cases h
 |_,_,.cons h1 h2,x,h=>by
  rcases List.mem_cons.1 h with rfl|h
  ·exact h1.one
  ·exact h2.one x h
theorem aZ.take:∀{vs:List (SV τ.S)}{xs:List Value}(k:Nat),aZ τ M ρ vs xs->aZ τ M ρ (vs.take k) (xs.take k)|_,_,0,_=>by simpa using aZ.nil|_,_,_+1,.nil=> .nil|_,_,k+1,.cons h1 h2=> .cons h1 (h2.take k)
theorem aZ.drop:∀{vs:List (SV τ.S)}{xs:List Value}(k:Nat),aZ τ M ρ vs xs->aZ τ M ρ (vs.drop k) (xs.drop k)|_,_,0,h=>h|_,_,_+1,.nil=> .nil|_,_,k+1,.cons _ h2=>h2.drop k
theorem aZ.append:∀{vs us:List (SV τ.S)}{xs ys:List Value},aZ τ M ρ vs xs->aZ τ M ρ us ys->aZ τ M ρ (vs++us) (xs++ys)|_,_,_,_,.nil,h=>h|_,_,_,_,.cons h1 h2,h=> .cons h1 (h2.append h)
theorem Vb:∀{cs:List Cd}{vs:List (SV τ.S)}{p:aK τ.S cs}{xs:List Value},DL τ cs vs=some p->aZ τ M ρ vs xs->aZ τ M ρ (EL τ cs p) xs
 |[],[],_,_,_,.nil=> .nil
 |[],_::_,_,_,h,_=>by simp[DL] at h
 |[c],[],_,_,h,_=>by simp[DL] at h
 |[c],[v],p,_,h,.cons h1 .nil=> .cons (Ho (c:=c) h h1) .nil
 |[c],_::_::_,_,_,h,_=>by simp[DL] at h
 |_::_::_,[],_,_,h,_=>by simp[DL] at h
 |c::d::r,v::vs,p,_,h,.cons h1 h2=>by
  unfold DL at h
  split at h
  ·rename_i x a
   split at h
   ·rename_i y b
    cases h
    exact .cons (Ho a h1) (Vb b h2)
   ·cases h
  ·cases h
def look:List (Nat×Bool)->Nat->Option Bool|[],_=>none|x::r,j=>match Nat.beq x.1 j with|true=>some x.2|false=>look r j
def lit(x w:Bool):Bool:=match w with|true=>x|false=> !x
def dM(G:List (Nat×Bool)):List (Nat×Bool)->Option Bool
 |[]=>none
 |[x]=>match look G x.1 with|some b=>some (lit b x.2)|none=>none
 |x::y::r=>match look G x.1 with
  |some b=>match dM G (y::r) with
   |some e=>some (e&&lit b x.2)
   |none=>none
  |none=>none
end
inductive RA (τ:Tb) (M:Mem) (ρ:List Loc):SV τ.S->Value->Prop
 |v {v:SV τ.S}{x:Value}:RV τ M ρ v x->RA τ M ρ v x
 |c {vs:List (SV τ.S)}{xs:List Value}:aZ τ M ρ vs xs->RA τ M ρ (.c vs) (.agg xs.toArray)
theorem RA.mono{τ:Tb}{M M':Mem}{ρ ρ':List Loc}(h:M.le M')(b:∀(m:Nat) l,ρ[m]?=some l->ρ'[m]?=some l){v:SV τ.S}{x:Value}(a:RA τ M ρ v x):RA τ M' ρ' v x:=by cases a with|v a=>exact .v (a.mono h b)|c a=>exact .c (a.mono h b)
inductive RG (τ:Tb) (M:Mem) (ρ:List Loc) (G:List (Nat×Bool)):SV τ.S->Value->Prop
 |v {v:SV τ.S}{x:Value}:RV τ M ρ v x->RG τ M ρ G v x
 |c {vs:List (SV τ.S)}{xs:List Value}:aZ τ M ρ vs xs->RG τ M ρ G (.c vs) (.agg xs.toArray)
 |t {vs:List (SV τ.S)}{xs:List Value}:xs.length=vs.length->(∀(i:Nat) v x,vs[i]?=some v->xs[i]?=some x->RA τ M ρ v x)->RG τ M ρ G (.t vs) (.tuple xs.toArray)
 |g {p:List (Nat×Bool)}{v:SV τ.S}{x:Value}{e:Bool}:dM G p=some e->(e=true->RG τ M ρ G v x)->(e=false->x=undef)->RG τ M ρ G (.g p v) x
 |u {x:Value}:RG τ M ρ G .u x
section
variable {τ:Tb}{M M':Mem}{ρ ρ':List Loc}{G:List (Nat×Bool)}
theorem RG.mono(h:M.le M')(a:∀(m:Nat) l,ρ[m]?=some l->ρ'[m]?=some l){v:SV τ.S}{x:Value}(b:RG τ M ρ G v x):RG τ M' ρ' G v x:=by induction b with|v b=>exact .v (b.mono h a)|c b=>exact .c (b.mono h a)|t h1 h2=>exact .t h1 λi v x d e=>(h2 i v x d e).mono h a|g h0 h1 h2 f=>exact .g h0 f h2|u=>exact .u
theorem RA.g{v:SV τ.S}{x:Value}(h:RA τ M ρ v x):RG τ M ρ G v x:=by cases h with|v h=>exact .v h|c h=>exact .c h
theorem Ap{v:SV τ.S}{x:Value}:∀{c:Cd}{y:c.ty τ.S},D τ c v=some y->RG τ M ρ G v x->RG τ M ρ G (E τ c y) x:=by
 intro c y h a;have plain:∀{c:Cd}{y:c.ty τ.S},D1 τ c v=some y->RV τ M ρ (E1 τ c y) x:=by intro c y h;cases a with|v a=>exact Ho h a|c _=>cases c<;>simp[D1] at h|t _=>cases c<;>simp[D1] at h|g _ _ _=>cases c<;>simp[D1] at h|u=>cases c<;>simp[D1] at h
 match c,y,h with
 | .st i,y,h=>
  cases v with
  |c vs=>
   simp only[D] at h;split at h;·rename_i p hp;cases h;cases a with|v a=>cases a|c a=>simp only[E,τ.um];exact .c (Vb hp a)
   ·cases h
  |_=>simp[D] at h
 | .int k,y,h=>exact .v (plain (c:= .int k) h)
 | .bool,y,h=>exact .v (plain (c:= .bool) h)
 | .str,y,h=>exact .v (plain (c:= .str) h)
 | .list c,y,h=>exact .v (plain (c:= .list c) h)
 | .any,y,h=>exact .v (plain (c:= .any) h)
end
end Go.R
namespace Go.R
open Go.RowKit Go.Dc
inductive Wd:Fence->Prop
 |plain:Wd Fence.wide
 |round (l:Nat):Wd (Fence.wide.inRound l)
theorem Wd.fn{F:Fence}(h:Wd F)(f:FuncId):F.fn f:=by cases h<;>trivial
theorem Wd.depth{F:Fence}(h:Wd F):F.depth.isSome=true->False:=by cases h<;>(intro h;cases h)
theorem Wd.calls{F:Fence}{n:Nat}{P:Program}{f:FuncId}{a:Array Value}{w:World}{R:Ending->World->Prop}(h:Wd F)(b:Calls P f a w R):CallsIn F n P f a w R:=by cases h with|plain=>exact callsIn_wide.2 b|round l=>have h1:CallsIn Fence.wide n P f a w R:=callsIn_wide.2 b;exact h1
theorem Wd.rows{F:Fence}{n:Nat}{P:Program}{row:String}{a:Array Value}{w:World}{R:Value->World->Prop}(h:Wd F)(b:Rows P row a w R):RowsIn F n P row a w R:=by cases h with|plain=>exact λc cs _=>let ⟨v,w',r,s⟩:=b c cs;⟨v,w',r,stepsIn_wide.2 s⟩|round l=>exact λc cs _=>let ⟨v,w',r,s⟩:=b c cs;⟨v,w',r,stepsIn_wide.2 s⟩
def SX:Op->Bool| .defer _=>false|_=>true
def kR:List Oper->Bool|[]=>true|o::r=>match SX o.op with|true=>kR r|false=>false
theorem aC3{o:Op}(h:SX o=true):∀c,o≠ .defer c:=λc e=>by subst e;cases h
theorem acR:∀{l:List Oper},kR l=true->∀o∈l,SX o.op=true
 |[],_,o,ho=>by cases ho
 |x::r,h,o,ho=>by
  unfold kR at h
  split at h
  ·rename_i a
   rcases List.mem_cons.1 ho with rfl|ho
   ·exact a
   ·exact acR h o ho
  ·cases h
theorem Ma{F:Fence}{N:Nat}{P:Program}{o:Oper}{a:Act}{w:World}{K:Act->World->Prop}{Q:Exit->Act->World->Prop}(e:Wd F)(i:SX o.op=true)(h:o.wp P a w K Q):o.wpIn F N P a w K Q:=by
 refine⟨λf _=>e.fn f,?_⟩;rw[Oper.semAt_eq _ _ _ (aC3 i)];unfold Oper.wp at h;generalize (execOp a.eval o).run P w=r at h
 cases r with
 |ok x w'=>cases x with|value v=>exact h|skip=>exact h|defer d=>exact h|enter f c=>exact⟨λg=>(e.depth g).elim,e.calls h⟩|row row c=>exact⟨λg=>(e.depth g).elim,e.rows h⟩|round l f t a b=>exact h.elim|_=>exact h
 |halt x w'=>cases x<;>exact h
def jU(K:Act->World->Prop):Exit->Act->World->Prop:=λe a w=>e= .normal/\K a w
theorem KO{K:Act->World->Prop}(h:LetsOut (jU K)):False:=by obtain⟨a,w,h⟩:=h;cases h.1
theorem KD{F:Fence}{N:Nat}{P:Program}{ops:Array Oper}{K:Act->World->Prop}(c:Wd F):∀{l:List Oper}{a:Act}{w:World},kR l=true->wpList P ops (jU K) l a w->wpListIn F N P ops (jU K) l a w
 |[],_,_,_,h=>h
 |o::r,a,w,b,h=>by
  have d:kR r=true:=by unfold kR at b;split at b<;>first|exact b|cases b
  unfold wpList at h
  unfold wpListIn
  split at h
  ·rename_i hw
   rw[if_pos hw]
   rcases h with h|h
   ·exact Oper.wpIn_mono (λ_ _ h=>KD c d h) (Ma c (acR b o List.mem_cons_self) h)
   ·exact (KO h.2).elim
  ·rename_i hw
   rw[if_neg hw]
   exact⟨λf _=>c.fn f,KD c d h⟩
theorem NI{F:Fence}{N:Nat}{P:Program}{e:Region.Mode}{ops:Array Oper}{K:Act->World->Prop}(c:Wd F)(d:kR ops.toList=true):∀(b:Nat) {listed:Array Bool}{a:Act}{w:World},wpAny P e ops (jU K) b listed a w->wpAnyIn F N P e ops (jU K) b listed a w
 |0,_,_,_,h=>h
 |b+1,_,_,_,h=>by
  refine⟨h.1,λi g=>?_⟩
  have h2:=h.2 i g
  unfold wpOp at h2
  unfold wpOpIn
  cases ho:ops[i]? with
  |none=>rw[ho] at h2;exact NI c d b h2
  |some o=>
   rw[ho] at h2
   dsimp only at h2 |-
   split at h2
   ·rename_i hw
    rw[if_pos hw]
    rcases h2 with h2|h2
    ·exact Oper.wpIn_mono (λ_ _ h=>NI c d b h) (Ma c (acR d o (Array.mem_toList_iff.2 (Array.mem_of_getElem? ho))) h2)
    ·exact (KO h2.2).elim
   ·rename_i hw
    rw[if_neg hw]
    exact⟨λf _=>c.fn f,NI c d b h2⟩
abbrev Env(S:Nat->Type):=List (Nat×Nat×SV S)
section
variable {S:Nat->Type}
def lk:Env S->Nat->Nat->Option (SV S)
 |[],_,_=>none
 |p::r,a,b=>match Nat.beq p.1 a with
  |true=>match Nat.beq p.2.1 b with
   |true=>some p.2.2
   |false=>lk r a b
  |false=>lk r a b
theorem ED{a b:Nat}(h:a≠b):Nat.beq a b=false:=Bool.eq_false_iff.2 (λe=>h (Nat.eq_of_beq_eq_true e))
theorem jf{a b:Nat}{v:SV S}{r:Env S}:lk ((a,b,v)::r) a b=some v:=by simp[lk]
theorem bX{a b c d:Nat}{v:SV S}{r:Env S}(h:(c,d)≠(a,b)):lk ((a,b,v)::r) c d=lk r c d:=by
 by_cases h1:a=c;·have h2:b≠d:=λh2=>h (by rw[h1,h2]);simp[lk,h1,ED h2]
 ·simp[lk,ED h1]
theorem kN{a b c d:Nat}{v u:SV S}{r:Env S}(h:lk ((a,b,v)::r) c d=some u):(c=a/\d=b/\u=v)\/((c,d)≠(a,b)/\lk r c d=some u):=by
 by_cases e:(c,d)=(a,b);·cases e;rw[jf] at h;exact .inl ⟨rfl,rfl,(Option.some.inj h).symm⟩
 ·rw[bX e] at h;exact .inr ⟨e,h⟩
theorem cu{a b:Nat}:∀(Γ B:Env S),lk (Γ++B) a b=match lk Γ a b with|some v=>some v|none=>lk B a b
 |[],_=>rfl
 |p::r,B=>by
  simp only[List.cons_append,lk]
  split
  ·split
   ·rfl
   ·exact cu r B
  ·exact cu r B
inductive SO (S:Nat->Type) where
 |bx (T:TypeId) (n:Nat)
 |ls (c:Cd) (xs:List (c.ty S))
 |ar (c:Cd) (xs:List (c.ty S))
 |se (c:Cd) (xs:List (c.ty S))
 |rr (c:Cd) (j:Nat) (xs:List (c.ty S)) (h:Nat) (ho:Option Int)
abbrev Heap(S:Nat->Type):=List (Nat×SO S)
def bq:Heap S->Nat->Option (SO S)|[],_=>none|p::r,m=>match Nat.beq p.1 m with|true=>some p.2|false=>bq r m
theorem pz{m:Nat}{x:SO S}:∀{H:Heap S},bq H m=some x->(m,x)∈H
 |[],h=>by simp[bq] at h
 |p::r,h=>by
  unfold bq at h
  split at h
  ·rename_i e
   have:=Nat.eq_of_beq_eq_true e
   cases h
   subst this
   exact List.mem_cons_self
  ·exact List.mem_cons_of_mem _ (pz h)
end
structure Ext(O:List Nat)(M M':Mem)(w w':World):Prop where
 le:M.le M'
 heap:∀b∈O,w'.heap[b]?=w.heap[b]?
 mem:∀b∈O,M' b=M b
theorem Ext.sub{O O':List Nat}{M M':Mem}{w w':World}(h:Ext O M M' w w')(hs:∀b∈O',b∈O):Ext O' M M' w w':=⟨h.le,λb a=>h.heap b (hs b a),λb a=>h.mem b (hs b a)⟩
theorem Ext.refl{O:List Nat}{M:Mem}{w:World}:Ext O M M w w:=⟨.rfl,λ_ _=>rfl,λ_ _=>rfl⟩
def Row(τ:Tb)(M:Mem)(ρ:List Loc)(c:Cd)(xs:List (c.ty τ.S))(cell:Nat->Option Value):Prop:=∀(i:Nat) x,xs[i]?=some x->∀(j:Nat) y,(E τ c x).cs[j]?=some y->∃v,cell (i*τ.aC c+j)=some v/\RV τ M ρ y v
def pF(τ:Tb)(c:Cd)(T:Nat):Bool:=match c with| .int .u8=>Nat.beq T τ.t8|_=>true
def Pos(τ:Tb)(c:Cd)(T:Nat):Prop:=0<τ.aC c/\pF τ c T=true
theorem gM{a b:Bool}(h:(a&&b)=true):a=true/\b=true:=by simpa using h
inductive jY (τ:Tb) (M:Mem) (ρ:List Loc) (w:World) (c:Cd):List (c.ty τ.S)->Value->List Nat->Prop
 |nil:jY τ M ρ w c [] (.slice none 0 0) []
 |own {ys:List (c.ty τ.S)}{b T cap:Nat}{arr:Array Value}:Pos τ c T->ys.length<=cap->ys.length<=140737488355328->w.heap[b]?=some (.cells arr T (0,0))->cap*τ.aC c<=arr.size->Row τ M ρ c ys (λj=>arr[j]?)->
  RV τ M ρ (.l c ys) (.slice (some ⟨b,0,none⟩) ys.length cap)->(∀j,ys.length*τ.aC c<=j->M b j=none)->jY τ M ρ w c ys (.slice (some ⟨b,0,none⟩) ys.length cap) [b]
inductive dh (τ:Tb) (M:Mem) (ρ:List Loc) (w:World) (c:Cd) (jj:Nat) (ho:Option Int):Nat->List (c.ty τ.S)->List Value->List Nat->Prop
 |nil {i:Nat}:dh τ M ρ w c jj ho i [] [] []
 |own {i:Nat}{x:c.ty τ.S}{xs:List (c.ty τ.S)}{v:Value}{vs:List Value}{o os:List Nat}{d:Cd}{ys:List (d.ty τ.S)}:ho≠some (i:Int)->(E τ c x).cs[jj]?=some (.l d ys)->jY τ M ρ w d ys v o->dh τ M ρ w c jj ho (i+1) xs vs os->dh τ M ρ w c jj ho i (x::xs) (v::vs) (o++os)
 |hole {i:Nat}{x:c.ty τ.S}{xs:List (c.ty τ.S)}{v:Value}{vs:List Value}{os:List Nat}:ho=some (i:Int)->dh τ M ρ w c jj ho (i+1) xs vs os->dh τ M ρ w c jj ho i (x::xs) (v::vs) os
def kv{S:Nat->Type}:(c:Cd)->c.ty S->Value| .str,s=> .string s.ba| .int k,p=> .int k p|_,_=> .bool false
def VL(τ:Tb)(c:Cd)(xs:List (c.ty τ.S))(es:List MapEntry):Prop:=es.map (λe=>(e.key,e.val))=xs.map λx=>(kv c x,Value.bool true)
inductive RO (τ:Tb) (M:Mem) (ρ:List Loc) (w:World) (m:Nat):SO τ.S->List Nat->Prop
 |bx {T n:Nat}{l:Loc}{arr:Array Value}:ρ[m]?=some l->w.heap[l.b]?=some (.cells arr T (0,0))->arr.size=n->(∀j,M l.b j=none)->RO τ M ρ w m (.bx T n) [l.b]
 |iR {c:Cd}{l:Loc}:ρ[m]?=some l->l.nil=true->RO τ M ρ w m (.ls c []) []
 |ls {c:Cd}{xs:List (c.ty τ.S)}{T:Nat}{l:Loc}{arr:Array Value}:ρ[m]?=some l->l.nil=false->l.len=xs.length->Pos τ c T->xs.length<=l.cap->xs.length<=140737488355328->
  w.heap[l.b]?=some (.cells arr T (0,0))->l.cap*τ.aC c<=arr.size->Row τ M ρ c xs (λj=>arr[j]?)->RV τ M ρ (.l c xs) l.sl->(∀j,xs.length*τ.aC c<=j->M l.b j=none)->RO τ M ρ w m (.ls c xs) [l.b]
 |ig {c:Cd}{l:Loc}:ρ[m]?=some l->l.nil=true->RO τ M ρ w m (.ar c []) []
 |ar {c:Cd}{xs:List (c.ty τ.S)}{T:Nat}{l:Loc}{arr:Array Value}:ρ[m]?=some l->l.nil=false->l.len=xs.length->Pos τ c T->xs.length<=l.cap->xs.length<=140737488355328->
  w.heap[l.b]?=some (.cells arr T (0,0))->l.cap*τ.aC c<=arr.size->Row τ M ρ c xs (λj=>arr[j]?)->(∀j,M l.b j=none)->RO τ M ρ w m (.ar c xs) [l.b]
 |se {c:Cd}{xs:List (c.ty τ.S)}{l:Loc}{es:Array MapEntry}{clock:Nat}:ρ[m]?=some l->w.heap[l.b]?=some (.map es clock)->VL τ c xs es.toList->(∀j,M l.b j=none)->RO τ M ρ w m (.se c xs) [l.b]
 |rr {c:Cd}{jj:Nat}{xs:List (c.ty τ.S)}{h T:Nat}{ho:Option Int}{l lh:Loc}{arr:Array Value}{os:List Nat}:ρ[m]?=some l->l.nil=false->l.len=xs.length->Pos τ c T->xs.length<=l.cap->xs.length<=140737488355328->
  w.heap[l.b]?=some (.cells arr T (0,0))->l.cap*τ.aC c<=arr.size->Row τ M ρ c xs (λj=>arr[j]?)->(∀j,M l.b j=none)->ρ[h]?=some lh->(∀i v,lh.hs[i]?=some v->arr[i*τ.aC c+jj]?=some v)->dh τ M ρ w c jj ho 0 xs lh.hs os->RO τ M ρ w m (.rr c jj xs h ho) (l.b::os)
 |jg {c:Cd}{jj h:Nat}{l lh:Loc}:ρ[m]?=some l->l.nil=true->ρ[h]?=some lh->lh.hs=[]->RO τ M ρ w m (.rr c jj [] h none) []
inductive RH (τ:Tb) (M:Mem) (ρ:List Loc) (w:World):Heap τ.S->List Nat->Prop
 |nil:RH τ M ρ w [] []
 |cons {m:Nat}{x:SO τ.S}{o os:List Nat}{H:Heap τ.S}:RO τ M ρ w m x o->RH τ M ρ w H os->RH τ M ρ w ((m,x)::H) (o++os)
def GM(τ:Tb)(M:Mem):Prop:=∀g l,τ.gm g=some l->∀(j:Nat) v,l[j]?=some v->M g j=some v
theorem GM.mono{τ:Tb}{M M':Mem}(h:GM τ M)(a:M.le M'):GM τ M':=λg l b j v c=>a _ _ _ (h g l b j v c)
structure RE(τ:Tb)(M:Mem)(ρ:List Loc)(G:List (Nat×Bool))(H:Heap τ.S)(w:World)(a:Act)(Γ:Env τ.S):Prop where
 gm:GM τ M
 tm:∀t v,lk Γ 0 t=some v->∃x,a.tmps[t]?=some x/\RG τ M ρ G v x
 cl:∀m o v,lk Γ (m+1) o=some v->∀T n,(m,.bx T n)∈H->o<n->∃l x,ρ[m]?=some l/\w.cell? ⟨l.b,o,none⟩=some x/\(v= .u\/RV τ M ρ v x)
structure Frame(F:List Nat)(w w':World):Prop where
 os:w'.os=w.os
 tape:w'.tape=w.tape
 output:w'.output=w.output
 size:w.heap.size<=w'.heap.size
 block:∀k,k<w.heap.size->k∉F->w'.heap[k]?=w.heap[k]?
theorem Frame.refl(F:List Nat)(w:World):Frame F w w:=⟨rfl,rfl,rfl,Nat.le_refl _,λ_ _ _=>rfl⟩
theorem Frame.trans{F F1:List Nat}{w e f:World}(h:Frame F w e)(a:Frame F1 e f)(g:∀b∈F1,b∈F\/w.heap.size<=b):Frame F w f:=
 ⟨a.os.trans h.os,a.tape.trans h.tape,a.output.trans h.output,Nat.le_trans h.size a.size,λk c d=>(a.block k (Nat.lt_of_lt_of_le c h.size) (λi=>by
  rcases g k i with h|h
  ·exact d h
  ·omega)).trans (h.block k c d)⟩
def Sat(M:Mem)(w:World):Prop:=∀b j v,M b j=some v->w.cell? ⟨b,j,none⟩=some v
structure Ctx(τ:Tb) where
 w0:World
 F:List Nat
 M0:Mem
def WH(τ:Tb)(w:World)(F:List Nat):Prop:=(∀g l,τ.gm g=some l->g∉F/\∃T fz,w.heap[g]?=some (.cells l.toArray T fz))/\∀g,τ.gx g=true->g∉F/\∃m T fz,w.heap[g]?=some (.cells #[.int .i64 m] T fz)
structure SM{τ:Tb}(κ:Ctx τ)(M:Mem)(w:World)(O R:List Nat):Prop where
 tab:WH τ κ.w0 κ.F
 frame:Frame κ.F κ.w0 w
 sat:Sat M w
 le:κ.M0.le M
 new:∀b j v,M b j=some v->κ.M0 b j=some v\/b∈κ.F\/κ.w0.heap.size<=b
 nodup:(O++R).Nodup
 own:∀b∈O,b<w.heap.size/\(b∈κ.F\/κ.w0.heap.size<=b)
 red:∀b∈R,b<w.heap.size
theorem SM.tK{τ:Tb}{κ:Ctx τ}{M:Mem}{w:World}{O R F:List Nat}(h:SM κ M w O R)(hs:∀b∈F,b∈O):WH τ w F:=by
 have a:∀g (ob:Obj),g∉κ.F->κ.w0.heap[g]?=some ob->g∉F/\w.heap[g]?=some ob:=by
  intro g ob h1 h2;have d:g<κ.w0.heap.size:=(Array.getElem?_eq_some_iff.1 h2).1;refine⟨λf=>?_,by rw[h.frame.block g d h1];exact h2⟩;rcases (h.own g (hs g f)).2 with e|e;·exact h1 e
  ·omega
 refine⟨λg l c=>?_,λg c=>?_⟩;·obtain⟨h1,T,fz,h2⟩:=h.tab.1 g l c;exact⟨(a g _ h1 h2).1,T,fz,(a g _ h1 h2).2⟩
 ·obtain⟨h1,m,T,fz,h2⟩:=h.tab.2 g c;exact⟨(a g _ h1 h2).1,m,T,fz,(a g _ h1 h2).2⟩
def nX(τ:Tb)(w:World):Prop:=WH τ w []
theorem SM.gt{τ:Tb}{κ:Ctx τ}{M:Mem}{w:World}{O R:List Nat}(h:SM κ M w O R):nX τ w:=h.tK sm
structure SA(n:Nat)(a:Act):Prop where
 size:a.tmps.size=n
 zS:a.defers=[]
def Names(ρ ρ':List Loc):Prop:=∀(m:Nat) l,ρ[m]?=some l->ρ'[m]?=some l
def St(τ:Tb)(n:Nat)(κ:Ctx τ)(ρ0:List Loc)(G:List (Nat×Bool))(nx:Nat)(Γ:Env τ.S)(H R:Heap τ.S)(M:Mem)(w:World)(a:Act):Prop:=SA n a/\∃ρ O1 O2,Names ρ0 ρ/\ρ.length=nx/\RE τ M ρ G (H++R) w a Γ/\RH τ M ρ w H O1/\RH τ M ρ w R O2/\SM κ M w O1 O2
section
variable {τ:Tb}{M M':Mem}{ρ ρ':List Loc}{G:List (Nat×Bool)}{w w':World}{a:Act}{κ:Ctx τ}{n nx:Nat}{Γ:Env τ.S}{H R:Heap τ.S}{ρ0:List Loc}
theorem Row.mono(h:M.le M')(a:∀(m:Nat) l,ρ[m]?=some l->ρ'[m]?=some l){c:Cd}{xs:List (c.ty τ.S)}{cell:Nat->Option Value}(b:Row τ M ρ c xs cell):Row τ M' ρ' c xs cell:=λi x d j y e=>let ⟨v,h1,h2⟩:=b i x d j y e;⟨v,h1,h2.mono h a⟩
theorem jY.ext(a:∀(m:Nat) l,ρ[m]?=some l->ρ'[m]?=some l){c:Cd}{ys:List (c.ty τ.S)}{v:Value}{O:List Nat}(n:jY τ M ρ w c ys v O)(h:Ext O M M' w w'):jY τ M' ρ' w' c ys v O:=by cases n with|nil=>exact .nil|own h1 h2 b d e f g i=>exact .own h1 h2 b ((h.heap _ sm).trans d) e (f.mono h.le a) (g.mono h.le a) λj k=>by rw[h.mem _ sm];exact i j k
theorem dh.ext(d:∀(m:Nat) l,ρ[m]?=some l->ρ'[m]?=some l){c:Cd}{jj:Nat}{ho:Option Int}{i:Nat}{xs:List (c.ty τ.S)}{vs:List Value}{O:List Nat}(f:dh τ M ρ w c jj ho i xs vs O)(h:Ext O M M' w w'):dh τ M' ρ' w' c jj ho i xs vs O:=by induction f with|nil=>exact .nil|own h0 h1 h2 _ e=>exact .own h0 h1 (h2.ext d (h.sub λb a=>List.mem_append_left _ a)) (e (h.sub λb a=>List.mem_append_right _ a))|hole h1 _ e=>exact .hole h1 (e h)
theorem RO.ext(a:∀(m:Nat) l,ρ[m]?=some l->ρ'[m]?=some l){m:Nat}{x:SO τ.S}{O:List Nat}(s:RO τ M ρ w m x O)(h:Ext O M M' w w'):RO τ M' ρ' w' m x O:=by cases s with|bx h1 h2 d e=>exact .bx (a _ _ h1) ((h.heap _ sm).trans h2) d λj=>by rw[h.mem _ sm];exact e j|iR h1 h2=>exact .iR (a _ _ h1) h2|ls h1 h2 d e g i k n o f c=>exact .ls (a _ _ h1) h2 d e g i ((h.heap _ sm).trans k) n (o.mono h.le a) (f.mono h.le a) λj r=>by rw[h.mem _ sm];exact c j r|ig h1 h2=>exact .ig (a _ _ h1) h2|ar h1 h2 d e g i k n o c=>exact .ar (a _ _ h1) h2 d e g i ((h.heap _ sm).trans k) n (o.mono h.le a) λj=>by rw[h.mem _ sm];exact c j|se h1 h2 d e=>exact .se (a _ _ h1) ((h.heap _ sm).trans h2) d λj=>by rw[h.mem _ sm];exact e j|rr h1 h2 d e g i k n o f c p t=>exact .rr (a _ _ h1) h2 d e g i ((h.heap _ sm).trans k) n (o.mono h.le a) (λj=>by rw[h.mem _ sm];exact f j) (a _ _ c) p (t.ext a (h.sub λb q=>List.mem_cons_of_mem _ q))|jg h1 h2 d e=>exact .jg (a _ _ h1) h2 (a _ _ d) e
theorem RH.ext(a:∀(m:Nat) l,ρ[m]?=some l->ρ'[m]?=some l):∀{H:Heap τ.S}{O:List Nat},RH τ M ρ w H O->Ext O M M' w w'->RH τ M' ρ' w' H O|_,_,.nil,_=> .nil|_,_,.cons h1 h2,h=> .cons (h1.ext a (h.sub λ_ b=>List.mem_append_left _ b)) (h2.ext a (h.sub λ_ b=>List.mem_append_right _ b))
theorem RH.look:∀{H:Heap τ.S}{O:List Nat},RH τ M ρ w H O->∀{m:Nat}{x:SO τ.S},(m,x)∈H->∃o,RO τ M ρ w m x o/\∀b∈o,b∈O
 |_,_,.nil,_,_,h=>by cases h
 |_,_,.cons h1 h2,m,x,h=>by
  rcases List.mem_cons.1 h with e|h
  ·cases e;exact⟨_,h1,λb a=>List.mem_append_left _ a⟩
  ·obtain⟨o,c,d⟩:=h2.look h
   exact⟨o,c,λb a=>List.mem_append_right _ (d b a)⟩
theorem RH.app:∀{H a:Heap τ.S}{O b:List Nat},RH τ M ρ w H O->RH τ M ρ w a b->RH τ M ρ w (H++a) (O++b)|_,_,_,_,.nil,h=>h|_,_,_,_,.cons h1 h2,h=>by rw[List.append_assoc];exact .cons h1 (h2.app h)
theorem RH.split:∀{H a:Heap τ.S}{O:List Nat},RH τ M ρ w (H++a) O->∃O1 O2,RH τ M ρ w H O1/\RH τ M ρ w a O2/\O=O1++O2
 |[],_,O,h=>⟨[],O,.nil,h,rfl⟩
 |_::_,_,_,.cons (o:=o) h1 h2=>by
  obtain⟨O1,O2,b,c,rfl⟩:=h2.split
  exact⟨o++O1,O2,.cons h1 b,c,sm⟩
theorem RH.perm{H H':Heap τ.S}(hp:H.Perm H'):∀{O:List Nat},RH τ M ρ w H O->∃a,RH τ M ρ w H' a/\O.Perm a:=by
 induction hp with
 |nil=>exact λh=>⟨_,h,.rfl⟩
 |cons x _ i=>intro O h;cases h with|cons h1 h2=>obtain⟨a,b,c⟩:=i h2;exact⟨_,.cons h1 b,c.append_left _⟩
 |swap x y _=>
  intro O h
  cases h with
  |cons h1 h2=>cases h2 with
   |cons b c=>
    refine⟨_,.cons b (.cons h1 c),?_⟩
    simp only[<-List.append_assoc]
    exact List.Perm.append_right _ List.perm_append_comm
 |trans _ _ d e=>intro O h;obtain⟨O1,h1,f⟩:=d h;obtain⟨O2,h2,g⟩:=e h1;exact⟨O2,h2,f.trans g⟩
theorem RE.ext(b:∀(m:Nat) l,ρ[m]?=some l->ρ'[m]?=some l){O:List Nat}(h:RE τ M ρ G H w a Γ)(n:RH τ M ρ w H O)(c:Ext O M M' w w'):RE τ M' ρ' G H w' a Γ:=
 ⟨h.gm.mono c.le,λt v d=>let ⟨x,h1,h2⟩:=h.tm t v d;⟨x,h1,h2.mono c.le b⟩,λm o v d T k e ho=>by
  obtain⟨l,x,h1,h2,g⟩:=h.cl m o v d T k e ho
  refine⟨l,x,b _ _ h1,?_,g.imp id (·.mono c.le b)⟩
  obtain⟨os,i,j⟩:=n.look e
  cases i with
  |bx f p _ _=>
   rw[f] at h1;cases h1
   have:=c.heap _ (j _ (List.mem_singleton.2 rfl))
   unfold World.cell? at h2 |-
   rw[this]
   exact h2⟩
def KU(τ:Tb)(n:Nat)(κ:Ctx τ)(ρ0:List Loc)(K:Act->World->Prop)(nx:Nat)(Γ:Env τ.S)(H R:Heap τ.S):Prop:=∀M w a,St τ n κ ρ0 [] nx Γ H R M w a->K a w
def CU(b:Fence)(P:Program)(τ:Tb)(n:Nat)(κ:Ctx τ)(ρ0:List Loc)(c:Code)(Q:Exit->Act->World->Prop)(nx:Nat)(Γ:Env τ.S)(H R:Heap τ.S):Prop:=∀M w a,St τ n κ ρ0 [] nx Γ H R M w a->c.wpIn b 0 P Q a w
variable {Fe:Fence}{P:Program}{Q:Exit->Act->World->Prop}
theorem avu(h:KU τ n κ ρ0 (λa w=>Q .normal a w) nx Γ H R):CU Fe P τ n κ ρ0 .skip Q nx Γ H R:=λM w a hs=>wpIn_skip (h M w a hs)
theorem avr{l:Nat}(h:KU τ n κ ρ0 (λa w=>Q .normal a w) nx Γ H R):CU Fe P τ n κ ρ0 (.label l) Q nx Γ H R:=λM w a hs=>wpIn_label (h M w a hs)
theorem avs(h:KU τ n κ ρ0 (λa w=>Q .ret a w) nx Γ H R):CU Fe P τ n κ ρ0 .ret Q nx Γ H R:=λM w a hs=>wpIn_ret (h M w a hs)
theorem avq{id:Nat}(h:KU τ n κ ρ0 (λa w=>Q (.exit id) a w) nx Γ H R):CU Fe P τ n κ ρ0 (.exit id) Q nx Γ H R:=λM w a hs=>wpIn_exit (h M w a hs)
theorem avp{id:Nat}{c:Code}(h:CU Fe P τ n κ ρ0 c (Exit.inBlock id Q) nx Γ H R):CU Fe P τ n κ ρ0 (.block id c) Q nx Γ H R:=λM w a hs=>wpIn_block (h M w a hs)
theorem avt{x y:Code}(h:CU Fe P τ n κ ρ0 x (Exit.then (y.wpIn Fe 0 P Q) Q) nx Γ H R):CU Fe P τ n κ ρ0 (.seq x y) Q nx Γ H R:=λM w a hs=>wpIn_seq (h M w a hs)
end
end Go.R
