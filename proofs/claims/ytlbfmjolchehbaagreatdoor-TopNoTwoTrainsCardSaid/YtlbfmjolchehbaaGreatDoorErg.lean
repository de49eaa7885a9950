/- Several parts of the engine, one behind the other. -/
import Derived.Test.YtlbfmjolchehbaaGreatDoorErf
set_option linter.all false
namespace Go.R
open Go.RowKit Go.Dc
def ZF{β:Type}(x:β):β:=let a:=@wz;x
def Px{β:Type}:List Bool->(List Bool->β)->β|[],k=>ZF (k [])|true::r,k=>Px r λl=>k (true::l)|false::r,k=>Px r λl=>k (false::l)
def oK{β:Type}(a:Array Bool)(k:Array Bool->β):β:=Px a.toList λl=>k ⟨l⟩
theorem YW{β:Type}:∀(l:List Bool) (k:List Bool->β),Px l k=k l|[],_=>rfl|true::r,k=>YW r _|false::r,k=>YW r _
theorem awp{β:Type}(a:Array Bool)(k:Array Bool->β):oK a k=k a:=YW _ _
def lK(ops:Array Oper)(i:Nat):Nat->Nat->Bool
 |f,j=>match ops[j]? with
  |some o=>match o.after.toList.any λe=>Region.binds .any e&&Nat.beq e.on i with
   |true=>true
   |false=>match f with
    |0=>false
    |f+1=>o.after.toList.any λe=>Region.binds .any e&&(Nat.blt i e.on&&lK ops i f e.on)
  |none=>false
section
variable {β:Type}(C:Cf)(T:FuncId->Option (aN C.τ.S))(I:FuncId->Option (aL C.τ.S))(n:Nat)(wr:Bool)
def waits(ops:Array Oper)(i j:Nat):Bool:=lK ops i 14 j
def yO(ops:List Oper)(o:Oper):Bool:=match o.op,o.guard,o.dst with
 | .call ⟨.value (.tmp _),_,_⟩,none,some d=>match idxOf ops d with
  |some z=>(List.range ops.length).any λi=>match ops[i]? with
   |some a=> !nL a.op&&(!waits ⟨ops⟩ i z&& !waits ⟨ops⟩ z i)
   |none=>false
  |none=>false
 |_,_,_=>false
def jr(ops:List Oper)(o:Oper):Bool:=match o.op with
 | .box .. | .alloc .. | .buildSlice .. | .makeSlice .. =>false
 | .call ⟨.value (.func f),_,_⟩=>match I f with|none=>false|some i=> !i.ro
 |op=>nL op&& !yO ops o
def aDc:Op->List Operand| .buildSlice _ _ ⟨ps⟩=>ps.map (·.2)| .call ⟨.builtin .append,_,_⟩=>[]| .call ⟨_,⟨xs⟩,_⟩=>xs|_=>[]
def isIn(s:Sg C.τ.S)(o:Op):Bool:=match o with
 | .call ⟨.value (.func f),_,_⟩=>match I f with|none=>false|some _=>true
 | .call ⟨.value x,_,_⟩=>match s.gets [] x with
  |some (.f f _)=>match I f with|none=>false|some _=>true
  |_=>false
 |_=>false
def Gh(s:Sg C.τ.S)(o:Op):List Operand:=match aiD C T I s o||isIn C I s o with|true=>[]|false=>aDc o
def eY(t:Nat):List Nat->Bool|[]=>false|x::r=>match Nat.beq x t with|true=>true|false=>eY t r
def bxB{S:Nat->Type}:SO S->Bool| .bx _ _=>true|_=>false
def jq{S:Nat->Type}(X:List Nat):Heap S->Heap S|[]=>[]|q::r=>match eY q.1 X&&bxB q.2 with|true=>q::jq X r|false=>jq X r
def pG{S:Nat->Type}(X:List Nat):Heap S->Heap S|[]=>[]|q::r=>match eY q.1 X&&bxB q.2 with|true=>pG X r|false=>q::pG X r
def Sg.aside{S:Nat->Type}(s:Sg S)(X:List Nat):Sg S:=⟨s.B,s.T,pG X s.Th++s.Bh,jq X s.Th,s.nx⟩
def Sg.ret{S:Nat->Type}(s s':Sg S)(X:List Nat):Sg S:=⟨s'.B,s'.T,s.Bh,s'.Th++pG X s.Th,s'.nx⟩
def Sg.hid{S:Nat->Type}(s:Sg S)(X:List Nat):Sg S:=⟨s.B,s.T,s.Bh,pG X s.Th,s.nx⟩
def Ez{S:Nat->Type}(H:Heap S):List Nat->Bool|[]=>true|m::r=>match bq H m with|some (.bx _ _)=>Ez H r|_=>false
def mP(s:Sg C.τ.S):Nat->List Oper->List (Nat×Nat)
 |_,[]=>[]
 |i,o::r=>match o.op with
  | .store _ (.tmp t) _=>match s.lk 0 t with
   |some (.r m _)=>(i,m)::mP s (i+1) r
   |_=>mP s (i+1) r
  |_=>mP s (i+1) r
def NH(ops:Array Oper)(a:List Nat)(listed:Array Bool)(i:Nat):Bool:=(List.range ops.size).all λj=>match ops[j]? with|some o=> !jr C I ops.toList o||eY j a||listed.getD j true||Nat.beq j i||lK ops i 14 j|none=>true
def GH(ops:Array Oper)(a:List Nat)(listed:Array Bool)(i:Nat):Bool:=match ops[i]? with
 |some o=>match nL o.op with
  |false=>Region.free .any ops listed i&&NH C I ops a listed i
  |true=>false
 |none=>false
def Gl(ops:Array Oper)(a:List Nat)(listed:Array Bool):List Nat->Option Nat|[]=>none|i::r=>match GH C I ops a listed i with|true=>some i|false=>Gl ops a listed r
def Lr(d:Bool)(X:List Nat):List Nat:=match d with|true=>X|false=>[]
def one(X:List Nat)(xo:Bool)(ops:List Oper)(o:Oper)(G:List (Nat×Bool))(s:Sg C.τ.S)(K:List (Nat×Bool)->Sg C.τ.S->Option β):Option β:=match o.guard with
 |none=>match nL o.op with
  |false=>match o.dst with
   |some d=>match Nat.blt d n,jv G ops d with
    |true,true=>wz C s [] none G ops wr o.op λv=>K G (s.put d v)
    |_,_=>none
   |none=>none
  |true=>match jr C I ops o&& !xo with
   |true=>EO C T I s o.op λv s'=>match o.dst with
    |none=>K G s'
    |some d=>match v,Nat.blt d n,jv G ops d with
     |some v,true,true=>K G (s'.put d v)
     |_,_,_=>none
   |false=>EO C T I ((s.mE (Gh C T I s o.op)).aside (Lr (jr C I ops o) X)) o.op λv s'=>match o.dst,v with
    |none,none=>K G ((s.mE (Gh C T I s o.op)).ret s' (Lr (jr C I ops o) X))
    |some d,some v=>match Nat.blt d n,jv G ops d with
     |true,true=>K G (((s.mE (Gh C T I s o.op)).ret s' (Lr (jr C I ops o) X)).put d v)
     |_,_=>none
    |_,_=>none
 |some (j,w)=>match PO C G ops s j w with
  |some (a,p)=>match dM a p,o.dst with
   |some e,some d=>match Nat.blt d n,jv a ops d with
    |true,true=>match nL o.op with
     |false=>wz C s p (some e) a ops wr o.op λv=>K a (s.put d (.g p v))
     |true=>match FD C I s p o.op,xo with
      |true,true=>none
      |true,false=>cnd e (yQ C I s p o.op λv s'=>K a (s'.put d (.g p v))) (K a (s.put d (.g p (Jf C o.type))))
      |false,_=>EN C T s p e o.op λv=>K a (s.put d (.g p v))
    |_,_=>none
   |_,_=>none
  |none=>none
def fin(G:List (Nat×Bool))(s:Sg C.τ.S)(K:Sg C.τ.S->Option β):Option β:=match G with|[]=>K s|_=>K ⟨s.B,nT s.T,s.Bh,s.Th,s.nx⟩
def Cc:Operand->Bool| .const (.int _ _)=>true|_=>false
def aB2:Op->Bool| .alloc _=>true| .buildSlice _ _ ⟨ps⟩=>ps.all λp=>Cc p.2|_=>false
def uK(o:Oper):Bool:=match aB2 o.op,o.guard,o.dst with|true,none,some _=> !(o.after.toList.any λe=>Region.binds .any e)|_,_,_=>false
def G6(P:Program)(o:Op):Bool:=match o with
 | .alloc t=>(match rC P t with|some _=>true|none=>false)
 | .buildSlice t n ⟨ps⟩=>match qP P t,wh 0 ps with
  |some (_,sz,_),some xs=>Nat.beq sz 1&&(Nat.beq n xs.length&&(Nat.ble n 16777216&&xs.all Cc))
  |_,_=>false
 |_=>false
structure Ed where
 jb:Nat
 jx:Nat
 jl:Nat
 y:Nat
 xs:List Int
def cI:Operand->Option Int| .const (.int .i64 p)=>some p|_=>none
def Ja:List Operand->Option (List Int)|[]=>some []|x::r=>match cI x,Ja r with|some p,some l=>some (p::l)|_,_=>none
def JY(ops:List Oper)(p:Oper->Bool):Option Nat:=QU p 0 ops
 where QU (p:Oper->Bool):Nat->List Oper->Option Nat
  |_,[]=>none
  |k,o::r=>match p o with|true=>some k|false=>QU p (k+1) r
def Bw(o:Oper)(j:Nat):Bool:=o.after.toList.any λe=>Region.binds .any e&&Nat.beq e.on j
def an4(ops:Array Oper)(jx:Nat):Option Ed:=match ops[jx]? with
 |some o=>match o.op,o.guard,o.dst with
  | .indexAddr T (.tmp tb) (.tmp y),none,some tx=>match JY ops.toList (λo=>match o.dst with|some d=>Nat.beq d tb|none=>false),JY ops.toList (λo=>match o.op,o.guard,o.dst with| .load _ (.tmp u),none,some _=>Nat.beq u tx|_,_,_=>false) with
   |some jb,some jl=>match ops[jb]?,ops[jl]? with
    |some ob,some ol=>match ob.op,ol.op with
     | .buildSlice a _ ⟨ps⟩,.load T1 (.tmp u)=>match wh 0 ps,elemSize C.P T with
      |some os,some sz=>match Ja os with
       |some xs=>match uK ob&&(Nat.beq T a&&(Nat.beq sz 1&&(lD C.P T1&&(Nat.beq u tx&&(!(Nat.beq jx jl)&&(Bw o jb&&Bw ol jx)))))),IC C.P T1 with
        |true,none=>some ⟨jb,jx,jl,y,xs⟩
        |_,_=>none
       |none=>none
      |_,_=>none
     |_,_=>none
    |_,_=>none
   |_,_=>none
  |_,_,_=>none
 |none=>none
def Pt{α:Type}(f:Nat->Option α):List Nat->Option α|[]=>none|i::r=>match f i with|some x=>some x|none=>Pt f r
def iQ(ops:Array Oper):Option Ed:=match ops.toList.any (λo=>match o.op with| .buildSlice .. =>uK o|_=>false) with
 |false=>none
 |true=>Pt (λjx=>match an4 C ops jx with
  |some t=>match (List.range ops.size).any λz=>match ops[z]? with
    |some o=>match o.op,o.guard with
     | .call ⟨.value (.func f),_,_⟩,none=>(match I f with|some i=> !i.ro&&(!waits ops jx z&& !waits ops z jx)|none=>false)
     |_,_=>false
    |none=>false with
   |true=>some t
   |false=>none
  |none=>none) (List.range ops.size)
def gT(ops:Array Oper)(i:Nat):Bool:=match iQ C I ops with|some t=>Nat.beq i t.jx||Nat.beq i t.jl|none=>false
def y8(ops:Array Oper)(i:Nat):Bool:=match iQ C I ops with|some t=>Nat.beq i t.jb||Nat.beq i t.jx|none=>false
def KZ(ops:Array Oper):List Nat->Option Nat
 |[]=>none
 |i::r=>match ops[i]? with
  |some o=>match uK o||gT C I ops i with|true=>some i|false=>KZ ops r
  |none=>KZ ops r
def gq(listed:Array Bool):List Nat->Array Bool|[]=>listed|i::r=>(gq listed r).setIfInBounds i false
def Br(ops:Array Oper)(d:Nat):List Nat->Bool
 |[]=>true
 |i::r=>match ops[i]? with
  |some o=>match o.dst with
   |some a=>match Nat.beq d a with|true=>false|false=>Br ops d r
   |none=>Br ops d r
  |none=>Br ops d r
def ahx(ops:Array Oper)(d:Nat)(lim:List Nat):Bool:=match iQ C I ops with|some t=> !(eY t.jx lim&&Nat.beq d t.y)|none=>true
def nC(ops:Array Oper)(o:Oper)(lim:List Nat):Bool:=match o.dst with|some d=>Br ops d lim&&ahx C I ops d lim|none=>true
def ql(ops:Array Oper)(x:Option Nat)(G:List (Nat×Bool)):List Nat->Sg C.τ.S->(List Nat->Sg C.τ.S->Option β)->Option β
 |[],s,K=>K [] s
 |i::r,s,K=>match (match x with|some x=>lK ops i 14 x&& !y8 C I ops i|none=>true) with
  |true=>match y8 C I ops i with
   |true=>ql ops x G r s K
   |false=>match ops[i]? with
    |some o=>match o.op,o.dst with
     | .alloc t,some d=>match Nat.blt d n,jv G ops.toList d with
      |true,true=>EK C s t λv s'=>ql ops x G r (s'.put d v) K
      |_,_=>none
     | .buildSlice t m ⟨ps⟩,some d=>match Nat.blt d n,jv G ops.toList d with
      |true,true=>Ji C s t m ps λv s'=>ql ops x G r (s'.put d v) K
      |_,_=>none
     | .load _ _,some d=>match iQ C I ops with
      |some t=>match Nat.beq i t.jl,s.lk 0 t.y,Nat.blt d n&&jv G ops.toList d,eY t.jx r with
       |true,some (.i .i64 k),true,true=>(idx t.xs k).bind λc=>ql ops x G r (s.put d (.i .i64 c)) K
       |_,_,_,_=>none
      |none=>none
     |_,_=>none
    |none=>none
  |false=>ql ops x G r s λl s'=>K (i::l) s'
def aBY(ops:Array Oper)(t:Nat):Bool:=ops.toList.any λo=>match o.dst with|some d=>Nat.beq d t&&uK o|none=>false
def Me(ops:Array Oper):List Nat:=(List.range ops.size).filter λz=>match ops[z]? with
 |some o=>match o.op with
  | .store _ (.tmp t) _=>aBY ops t&&(List.range ops.size).any λi=>match ops[i]? with
   |some a=> !nL a.op&& !waits ops i z&& !waits ops z i
   |none=>false
  |_=>false
 |none=>false
def acQ(a:Nat)(s:Sg C.τ.S)(o:Oper):Option Nat:=match o.op with
 | .store _ (.tmp t) _=>match s.lk 0 t with
  |some (.r m _)=>match Nat.ble a m,bq s.Th m with|true,some (.bx _ _)=>some m|_,_=>none
  |_=>none
 |_=>none
def isApp(o:Oper):Bool:=match o.op,o.guard with| .call ⟨.builtin .append,_,_⟩,none=>true|_,_=>false
def al2(ops:Array Oper):Nat->Nat->Bool
 |0,_=>false
 |f+1,t=>ops.toList.any λo=>match o.dst,o.op with
  |some d,.indexAddr .. =>Nat.beq d t
  |some d,.fieldAddr _ (.tmp u) _=>Nat.beq d t&&al2 ops f u
  |_,_=>false
def al3(ops:Array Oper)(o:Oper):Bool:=match o.op,o.guard,o.dst with| .store _ (.tmp t) _,none,none=>al2 ops 4 t|_,_,_=>false
def WL(ops:Array Oper):List Nat:=(List.range ops.size).filter λz=>match ops[z]? with
 |some o=>(isApp o||al3 ops o)&&(List.range ops.size).any λi=>match ops[i]? with
  |some a=> !nL a.op&& !waits ops i z&& !waits ops z i
  |none=>false
 |none=>false
def J5(o:Oper):Bool:=match o.op,o.guard,o.dst with| .load _ (.tmp _),none,some _=>true|_,_,_=>false
def xI(ops:Array Oper):List Nat:=(List.range ops.size).filter λz=>match ops[z]? with
 |some o=>match o.op,o.guard with
  | .call ⟨.value (.func f),_,_⟩,none=>match I f with
   |some j=> !j.ro&&(List.range ops.size).any λi=>match ops[i]? with
    |some a=>J5 a&&(!waits ops i z&& !waits ops z i)
    |none=>false
   |none=>false
  |_,_=>false
 |none=>false
def TG(s:Sg C.τ.S)(ops:List Oper):Nat->Nat->Option (Nat×Nat)
 |0,_=>none
 |f+1,t=>match ops.find? λo=>(match o.dst with|some d=>Nat.beq d t|none=>false) with
  |some o=>match o.op with
   | .move (.tmp u)=>TG s ops f u
   | .nilCheck (.tmp u)=>TG s ops f u
   | .fieldAddr T (.tmp u) i=>match TG s ops f u,Pp C.P T i with|some q,some k=>some (q.1,q.2+k)|_,_=>none
   |_=>none
  |none=>match s.lk 0 t with|some (.r m o)=>some (m,o)|_=>none
def Jb(s:Sg C.τ.S)(ops:Array Oper):List (Nat×Nat×Nat):=match xI C I ops with
 |[]=>[]
 |_=>ops.toList.filterMap λo=>match J5 o,o.op with
  |true,.load _ (.tmp p)=>match TG C s ops.toList 8 p with
   |some (m,q)=>match s.lk (m+1) q,bq s.Th m with
    |some .nl,some (.bx _ _)=>some (m,q,0)
    |some (.o j),some (.bx _ k)=>match Nat.blt q k with|true=>some (m,q,j+1)|false=>none
    |_,_=>none
   |none=>none
  |_,_=>none
def clV{S:Nat->Type}:Nat->SV S|0=> .nl|j+1=> .o j
def CZ(s:Sg C.τ.S):List (Nat×Nat×Nat)->Bool
 |[]=>true
 |q::r=>match s.lk (q.1+1) q.2.1,bq s.Th q.1 with
  |some v,some (.bx _ n)=>match Nat.blt q.2.1 n,(match v,q.2.2 with| .nl,0=>true| .o j,k+1=>Nat.beq j k|_,_=>false) with
   |true,true=>CZ s r
   |_,_=>false
  |_,_=>false
def SC(ops:Array Oper)(a:List (Nat×Nat×Nat))(i:Nat)(s:Sg C.τ.S):Bool:=match eY i (xI C I ops) with|true=>CZ C s a|false=>true
def Sy(m o:Nat):List (Nat×Nat×Nat)->Option Nat|[]=>none|q::r=>match Nat.beq q.1 m,Nat.beq q.2.1 o with|true,true=>some q.2.2|_,_=>Sy m o r
def Sv(s:Sg C.τ.S)(a:List (Nat×Nat×Nat))(o:Oper):Option Nat:=match J5 o,o.op with
 |true,.load t (.tmp p)=>match IC C.P t,lD C.P t,s.lk 0 p with
  |none,true,some (.r m q)=>Sy m q a
  |_,_,_=>none
 |_,_=>none
def La(s:Sg C.τ.S)(ops:Array Oper)(a:List (Nat×Nat×Nat))(listed:Array Bool):List Nat->Option (Nat×Nat)
 |[]=>none
 |i::r=>match ops[i]? with
  |some o=>match Sv C s a o,Region.free .any ops listed i&&NH C I ops (xI C I ops) listed i with
   |some k,true=>some (i,k)
   |_,_=>La s ops a listed r
  |none=>La s ops a listed r
def vW{S:Nat->Type}:Heap S->List Nat|[]=>[]|q::r=>match bxB q.2 with|true=>q.1::vW r|false=>vW r
def Sg.bxs{S:Nat->Type}(s:Sg S)(X:List Nat):Sg S:=⟨s.B,s.T,[],jq X s.Th,s.nx⟩
def Sg.asB{S:Nat->Type}(s:Sg S)(X:List Nat):Sg S:=⟨s.B,s.T,jq X s.Th++s.Bh,pG X s.Th,s.nx⟩
def Sg.TS{S:Nat->Type}(s s':Sg S)(X:List Nat):Sg S:=⟨s'.B,s'.T,s.Bh,s'.Th++jq X s.Th,s'.nx⟩
def ac1(XB:List Nat)(ops:List Oper)(o:Oper)(G:List (Nat×Bool))(s:Sg C.τ.S)(K:List (Nat×Bool)->Sg C.τ.S->Option β):Option β:=match o.guard with
 |none=>EO C T I (s.asB XB) o.op λv s'=>match o.dst with
  |none=>K G (s.TS s' XB)
  |some d=>match v,Nat.blt d n,jv G ops d with
   |some v,true,true=>K G ((s.TS s' XB).put d v)
   |_,_,_=>none
 |some _=>none
def mf{S:Nat->Type}:SV S->Bool| .i .. | .b _| .st _| .nl| .o _| .a .. | .r .. | .e .. | .m _| .p _=>true|_=>false
def fm{S:Nat->Type}(v:SV S):SV S:=match v with
 | .g p u=>match mf u with|true=> .g p u|false=> .u
 |v=>match mf v with|true=>v|false=> .u
def Sg.vo{S:Nat->Type}(s:Sg S):Sg S:=⟨s.B.map λq=>(q.1,q.2.1,fm q.2.2),s.T.map λq=>(q.1,q.2.1,fm q.2.2),[],[],s.nx⟩
def BF(s:Sg C.τ.S):Operand->Bool
 | .tmp t=>match s.lk 0 t with|some v=>mf v|none=>false
 |_=>true
def Pv(s:Sg C.τ.S)(o:Oper):Bool:=match o.guard,o.dst with
 |none,some _=>match o.op with
  | .move x=>BF C s x
  | .assign x=>BF C s x
  | .binOp _ _ x y _=>BF C s x&&BF C s y
  | .fieldAddr _ x _=>BF C s x
  | .nilCheck x=>BF C s x
  | .convert _ _ x=>BF C s x
  |_=>false
 |_,_=>false
def Ti(s:Sg C.τ.S)(ops:Array Oper)(listed:Array Bool):List Nat->Option Nat
 |[]=>none
 |i::r=>match (match ops[i]? with|some o=>Pv C s o&&(!nL o.op&&Region.free .any ops listed i)|none=>false) with
  |true=>some i
  |false=>Ti s ops listed r
def iY{S:Nat->Type}(s:Sg S):Env S->Env S
 |[]=>[]
 |(a,b,v)::r=>match a with
  |0=>(0,b,fz s v)::iY s r
  |m+1=>(m+1,b,v)::iY s r
def Sg.uo{S:Nat->Type}(s:Sg S)(X:List Nat):Sg S:=⟨iY s s.B,iY s s.T,[],jq X s.Th,s.nx⟩
def thw(o:Oper):Option Nat:=match o.op,o.guard with| .indexAddr ..,none=>o.dst| .call ⟨.builtin .len,_,_⟩,none=>o.dst|_,_=>none
def neC:List (Nat×Nat×Nat)->Bool|[]=>false|_=>true
def IG(ops:Array Oper)(its:List (List Nat)):List Nat:=match its with|[]=>[]|l::_=>l.filter λz=>match ops[z]? with|some o=>jr C I ops.toList o|none=>false
def WX(s:Sg C.τ.S)(its:List (List Nat))(l:List Nat)(z:Nat):List Nat:=match its with
 |[]=>[]
 |l0::r=>match eY z l0 with
  |false=>l
  |true=>l.filter λm=>r.any λp=>match p with
   |[t]=>match s.lk 0 t with|some (.r a _)=>Nat.beq a m|_=>false
   |[b,t]=>match Nat.beq b z,s.lk 0 t with|true,some (.r a _)=>Nat.beq a m|_,_=>false
   |_=>false
def yb(ops:Array Oper)(a:List Nat)(XB:Nat->List Nat)(listed:Array Bool)(i:Nat):List Nat:=(XB ops.size).filter λm=>a.all λz=>listed.getD z true||(lK ops i 14 z||eY m (XB z))
def ad2(fr:Bool)(Z:List Nat):List Nat:=match fr with|true=>Z|false=>[]
def iE(ops:Array Oper)(X c e a:List Nat)(XB:Nat->List Nat)(b:List (Nat×Nat×Nat)):Nat->Array Bool->List Nat->Bool->List (Nat×Bool)->Sg C.τ.S->(Sg C.τ.S->Option β)->Option β
 |0,listed,lim,_,G,s,K=>match Region.ready .any ops listed with
  |[]=>ql C I n ops none G lim s λ_ s'=>fin C G s' K
  |_=>none
 |f+1,listed,lim,fr,G,s,K=>match Region.ready .any ops listed with
  |[]=>ql C I n ops none G lim s λ_ s'=>fin C G s' K
  |rd=>match KZ C I ops rd with
   |some i=>match ops[i]? with
    |some o=>match o.dst with
     |some d=>match nC C I ops o lim,Nat.blt d n,jv G ops.toList d with
      |true,true,true=>match gT C I ops i with
       |false=>match G6 C.P o.op with
        |true=>oK (listed.setIfInBounds i true) λl1=>iE ops X c e a XB b f l1 (i::lim) fr G (s.put d .u) K
        |false=>none
       |true=>match iQ C I ops with
        |some t=>match Nat.beq i t.jx with
         |true=>match eY t.jb lim,s.lk 0 t.y,Nat.beq d t.y with
          |true,some (.i .i64 k),false=>ah (decide (0<=k/\k<t.xs.length)) (oK (listed.setIfInBounds i true) λl1=>iE ops X c e a XB b f l1 (i::lim) fr G (s.put d .u) K)
          |_,_,_=>none
         |false=>match eY t.jx lim with
          |true=>oK (listed.setIfInBounds i true) λl1=>iE ops X c e a XB b f l1 (i::lim) fr G (s.put d .u) K
          |false=>none
        |none=>none
      |_,_,_=>none
     |none=>none
    |none=>none
   |none=>match rd with
    |[i]=>match ops[i]? with
     |some o=>ql C I n ops (some i) G lim s λg j=>match nC C I ops o g with
      |true=>match eY i e with
       |false=>match eY i a with
        |false=>one C T I n wr X (eY i c) ops.toList o G j λh s'=>match SC C I ops b i s' with|true=>oK (listed.setIfInBounds i true) λl1=>iE ops X c e a XB b f l1 g false h s' K|false=>none
        |true=>match eY i c,Ez j.Th (XB i),eY i (xI C I ops)&&neC b with
         |false,true,false=>ac1 C T I n (XB i) ops.toList o G j λh s'=>oK (listed.setIfInBounds i true) λl1=>iE ops X c e a XB b f l1 g false h s' K
         |_,_,_=>none
       |true=>match acQ C s.nx j o,eY i c,eY i (xI C I ops) with
        |some m,false,false=>one C T I n wr [m] true ops.toList o G j λh s'=>oK (listed.setIfInBounds i true) λl1=>iE ops X c e a XB b f l1 g false h s' K
        |_,_,_=>none
      |false=>none
     |none=>none
    |_=>match Gl C I ops (ad2 fr e) (gq listed lim) (Region.ready .any ops (gq listed lim)) with
     |some i=>match ops[i]? with
      |some o=>match nC C I ops o lim with
       |true=>one C T I n wr X false ops.toList o G s λh s'=>oK (listed.setIfInBounds i true) λl1=>iE ops X c e a XB b f l1 lim fr h s' K
       |false=>none
      |none=>none
     |none=>match Gl C I ops (ad2 fr (e++a)) (gq listed lim) (Region.ready .any ops (gq listed lim)),fr with
      |some i,true=>match ops[i]? with
       |some o=>match nC C I ops o lim with
        |true=>match thw o with
         |some d=>match Nat.blt d n,jv G ops.toList d with
          |true,true=>wz C (s.uo (yb ops a XB (gq listed lim) i)) [] none G ops.toList wr o.op λv=>oK (listed.setIfInBounds i true) λl1=>iE ops X c e a XB b f l1 lim fr G (s.put d v) K
          |_,_=>none
         |none=>one C T I n wr X false ops.toList o G (s.bxs (yb ops a XB (gq listed lim) i)) λh s'=>oK (listed.setIfInBounds i true) λl1=>iE ops X c e a XB b f l1 lim fr h ⟨s.B,s'.T,s.Bh,s.Th,s.nx⟩ K
        |false=>none
       |none=>none
      |_,_=>match Gl C I ops c (gq listed lim) (Region.ready .any ops (gq listed lim)),Ez s.Th X with
       |some i,true=>match ops[i]? with
        |some o=>match nC C I ops o lim with
         |true=>one C T I n wr X false ops.toList o G (s.hid X) λh s'=>oK (listed.setIfInBounds i true) λl1=>iE ops X c e a XB b f l1 lim fr h ⟨s.B,s'.T,s.Bh,s.Th,s.nx⟩ K
         |false=>none
        |none=>none
       |_,_=>match Ti C s ops (gq listed lim) (Region.ready .any ops (gq listed lim)) with
        |some i=>match ops[i]? with
         |some o=>match o.dst with
          |some d=>match nC C I ops o lim,Nat.blt d n,jv G ops.toList d with
           |true,true,true=>wz C s.vo [] none G ops.toList wr o.op λv=>oK (listed.setIfInBounds i true) λl1=>iE ops X c e a XB b f l1 lim fr G (s.put d v) K
           |_,_,_=>none
          |none=>none
         |none=>none
        |none=>match La C I s ops b (gq listed lim) (Region.ready .any ops (gq listed lim)),CZ C s b with
         |some (i,k),true=>match ops[i]? with
          |some o=>match o.dst with
           |some d=>match nC C I ops o lim,Nat.blt d n,jv G ops.toList d with
            |true,true,true=>oK (listed.setIfInBounds i true) λl1=>iE ops X c e a XB b f l1 lim fr G (s.put d (clV k)) K
            |_,_,_=>none
           |none=>none
          |none=>none
         |_,_=>none
end
end Go.R
namespace Go.R
open Go.RowKit Go.Dc
def dN(w w':World):Prop:=w.heap.size<=w'.heap.size/\∀b,b<w.heap.size->w'.heap[b]?=w.heap[b]?
def gJ(X:List Nat)(w w':World):Prop:=w.heap.size<=w'.heap.size/\∀b,b<w.heap.size->b∉X->w'.heap[b]?=w.heap[b]?
theorem gJ.refl{X:List Nat}{w:World}:gJ X w w:=⟨Nat.le_refl _,λ_ _ _=>rfl⟩
theorem gJ.trans{X:List Nat}{w e f:World}(h:gJ X w e)(a:gJ X e f):gJ X w f:=⟨Nat.le_trans h.1 a.1,λb c d=>(a.2 b (Nat.lt_of_lt_of_le c h.1) d).trans (h.2 b c d)⟩
theorem dN.refl{w:World}:dN w w:=⟨Nat.le_refl _,λ_ _=>rfl⟩
theorem dN.trans{w d e:World}(h:dN w d)(a:dN d e):dN w e:=⟨Nat.le_trans h.1 a.1,λb c=>(a.2 b (Nat.lt_of_lt_of_le c h.1)).trans (h.2 b c)⟩
theorem dN.x{X:List Nat}{w w':World}(h:dN w w'):gJ X w w':=⟨h.1,λb a _=>h.2 b a⟩
section
variable {P:Program}{ops:Array Oper}{Q:Exit->Act->World->Prop}{D:Nat->World->World->Prop}
def xX(P:Program)(ops:Array Oper)(Q:Exit->Act->World->Prop)(D:Nat->World->World->Prop):Nat->Array Bool->Act->World->Prop
 |0,listed,a,w=>Region.ready .any ops listed=[]/\Q .normal a w
 |b+1,listed,a,w=>
  (Region.ready .any ops listed=[]->Q .normal a w)/\
  ∀i∈Region.ready .any ops listed,wpOp P ops Q i (λc w'=>D i w w'/\xX P ops Q D b (listed.setIfInBounds i true) c w') a w
theorem ard:∀(b:Nat) (listed:Array Bool) (a:Act) (w:World),xX P ops Q D b listed a w->wpAny P .any ops Q b listed a w|0,_,_,_,h=>h|b+1,_,_,_,h=>⟨h.1,λi e=>wpOp_mono (λc w' d=>ard b _ c w' d.2) (h.2 i e)⟩
theorem aJX{listed:Array Bool}{i:Nat}(inv:HeadInv .any ops ops.size listed)(hi:listed.getD i false=false):∀(f j:Nat),lK ops i f j=true->∃k e,ops[j]?=some k/\e∈k.after/\Region.binds .any e=true/\listed.getD e.on false=false:=by
 intro f
 induction f with
 |zero=>
  intro j h;unfold lK at h;split at h
  ·rename_i o ho;split at h;·rename_i h1;obtain⟨e,a,h2⟩:=List.any_eq_true.1 h1;simp only[Bool.and_eq_true] at h2;have:=Nat.eq_of_beq_eq_true h2.2;exact⟨o,e,ho,by simpa using a,h2.1,by rw[this];exact hi⟩
   ·simp at h
  ·cases h
 |succ f n=>
  intro j h;unfold lK at h;split at h
  ·rename_i o ho;split at h;·rename_i h1;obtain⟨e,a,h2⟩:=List.any_eq_true.1 h1;simp only[Bool.and_eq_true] at h2;have:=Nat.eq_of_beq_eq_true h2.2;exact⟨o,e,ho,by simpa using a,h2.1,by rw[this];exact hi⟩
   ·simp only at h;obtain⟨e,a,h2⟩:=List.any_eq_true.1 h;simp only[Bool.and_eq_true] at h2;obtain⟨ok,l,b,c,d,g⟩:=n e.on h2.2.2;refine⟨o,e,ho,by simpa using a,h2.1,?_⟩;cases m:listed.getD e.on false with|false=>rfl|true=>have:=inv.closed e.on ok b m l c d;rw[g] at this;cases this
  ·cases h
theorem aq1{listed:Array Bool}{i j f:Nat}(inv:HeadInv .any ops ops.size listed)(hi:listed.getD i false=false)(h:lK ops i f j=true):j∉Region.ready .any ops listed:=by intro d;obtain⟨g,e,h1,h2,b,c⟩:=aJX inv hi f j h;obtain⟨_,o,ho,a⟩:=mem_ready.1 d;rw[h1] at ho;cases ho;have:=a e h2 b;rw[c] at this;cases this
theorem DZ{Rel:World->World->Prop}(E:∀w,Rel w w)(O:∀{w U V},Rel w U->Rel U V->Rel w V){i:Nat}{x:Oper}{v:Value}(z:∀w,D i w w)(hi:ops[i]?=some x)(p:∀(j:Nat) (o:Oper) cs b,ops[j]?=some o->o.op≠ .select cs b)(Z:∀c a w,Q (.panic c) (a.put x.dst v) w->Q (.panic c) a w):∀(g:Nat) (listed:Array Bool) (a:Act) (w:World),HeadInv .any ops ops.size listed->(∀j t,ops[j]?=some t->j≠i->listed.getD j true=false->(∀e∈t.after,Region.binds .any e=true->e.on≠i)->x.apart ops t=true)->(∀j,j≠i->j<ops.size->listed.getD j true=false->(∀w w',D j w w'->Rel w w')\/∃f,lK ops i f j=true)->i∈Region.ready .any ops listed->YieldsIf P ops (Rel w) x v a->xX P ops Q D g (listed.setIfInBounds i true) (a.put x.dst v) w->xX P ops Q D (g+1) listed a w:=by
 intro g
 induction g with
 |zero=>
  intro listed a w _ _ _ s I H;refine⟨λh=>(by rw[h] at s;cases s),λj u=>?_⟩;by_cases d:j=i;·subst d;exact I.wpOp hi (E _) ⟨z _,H⟩
  ·have:=ready_mono u d;rw[H.1] at this;cases this
 |succ g ih=>
  intro listed a w inv l T s I H;have F:=(mem_ready.1 s).1;refine⟨λh=>(by rw[h] at s;cases s),λj u=>?_⟩;by_cases d:j=i;·subst d;exact I.wpOp hi (E _) ⟨z _,H⟩
  ·have h1:=H.2 j (ready_mono u d);obtain⟨m,t,n,A⟩:=mem_ready.1 u;have y:j<ops.size:=(Array.getElem?_eq_some_iff.1 n).1
   have L:∀w w',D j w w'->Rel w w':=by
    rcases T j d y m with h|⟨f,hf⟩;·exact h
    ·exact absurd u (aq1 inv (getD_both F) hf)
   have C:∀e∈t.after,Region.binds .any e=true->e.on≠i:=λe he hb K=>by have h1:=A e he hb;rw[K,getD_both F] at h1;cases h1
   have h2:=wpOp_putIf n (l j t n d m C) (λcs b=>p i x cs b hi) (λcs b=>p j t cs b n) Z I h1
   have q:∀{k},(listed.setIfInBounds j true).getD k true=false->listed.getD k true=false:=λ{k} h=>by
    by_cases B:j=k;·subst B;exact m
    ·rw[getD_set_ne true B] at h;exact h
   refine wpOp_mono (λW w' G=>⟨G.2.1,ih (listed.setIfInBounds j true) W w' (inv.set u y) (λk ok hk r R N=>l k ok hk r (q R) N) (λk r M R=>T k r M (q R)) (ready_mono s (Ne.symm d)) ?_ ?_⟩) h2
   ·rcases G.1 with ⟨X,Y⟩|h;·exact .inl ⟨X,λS J=>Y S (O (L _ _ G.2.1) J)⟩
    ·exact .inr h
   ·rw[Array.setIfInBounds_comm _ _ d];exact G.2.2
end
end Go.R
namespace Go.R
open Go.RowKit Go.Dc
inductive Sh where
 |v (c:Cd)|o (c:Cd)|n (c:Cd)|k (c:Cd)|w (c:Cd) (jj:Nat)|g (c:Cd) (jj:Nat)|s (c:Cd)
@[reducible] def Sh.cd:Sh->Cd| .v c=>c| .o c| .n c| .k c| .w c _| .g c _| .s c=> .list c
structure Item where
 path:List Nat
 sh:Sh
structure aY where
 a:Nat
 b:Nat
 m:Nat
 sh:Sh
@[reducible] def HL (S:Nat->Type):List aY->Type|[]=>Unit|i::r=>i.sh.cd.ty S×HL S r
def pR(S:Nat->Type):(cs:List aY)->HL S cs->aK S (cs.map (·.sh.cd))|[],_=>()|[_],x=>x.1|_::d::r,x=>(x.1,pR S (d::r) x.2)
def bD(S:Nat->Type):(cs:List aY)->aK S (cs.map (·.sh.cd))->HL S cs|[],_=>()|[_],x=>(x,())|_::d::r,x=>(x.1,bD S (d::r) x.2)
theorem xW{S:Nat->Type}:∀(cs:List aY) (x:HL S cs),bD S cs (pR S cs x)=x
 |[],_=>rfl
 |[_],_=>rfl
 |_::d::r,x=>by
  show (x.1,bD S (d::r) (pR S (d::r) x.2))=x
  rw[xW (d::r) x.2]
section
variable {S:Nat->Type}
def iN(t:Nat):List Nat->Bool|[]=>false|x::r=>match Nat.beq x t with|true=>true|false=>iN t r
def Ud(s:Sg S):Nat×Nat->List Nat->Option (Nat×Nat)
 |q,[]=>some q
 |q,o::r=>match s.lk q.1 q.2 with
  |some (.r m a)=>Ud s (m+1,a+o) r
  |some (.f g us)=>match r with
   |b::c=>match Nat.beq (o / 4096) (g+1) with
    |true=>match us[o % 4096]? with
     |some (.r m a)=>Ud s (m+1,a+b) c
     |_=>none
    |false=>none
   |[]=>none
  |_=>none
def skp:List Nat->Bool|_::o::_=>Nat.ble 4096 o|_=>false
def QV(s:Sg S)(a b:Nat):Bool:=match a with
 |0=>match s.lk 0 b with|some _=>true|none=>false
 |m+1=>match bq s.Th m with|some (.bx _ k)=>Nat.blt b k|_=>false
def adT(s:Sg S)(i:Item):Option aY:=match i.path with
 |[]=>none
 |t::r=>match Ud s (0,t) r with
  |some q=>match QV s q.1 q.2 with
   |true=>match i.sh with
    | .k c=>match s.lk q.1 q.2 with
     |some (.o m)=>some ⟨q.1,q.2,m,.k c⟩
     |some (.e m _ (.ofNat 0) 0)=>some ⟨q.1,q.2,m,.k c⟩
     |_=>none
    | .w c jj=>match s.lk q.1 q.2 with
     |some (.o m)=>some ⟨q.1,q.2,m,.w c jj⟩
     |_=>none
    | .s c=>match s.lk q.1 q.2 with
     |some (.m m)=>some ⟨q.1,q.2,m,.s c⟩
     |_=>none
    |sh=>some ⟨q.1,q.2,0,sh⟩
   |false=>none
  |none=>none
def qQ(s:Sg S):List Item->Option (List aY)
 |[]=>some []
 |i::r=>match adT s i with
  |some x=>match qQ s r with|some y=>some (x::y)|none=>none
  |none=>match skp i.path with|true=>qQ s r|false=>none
def xL(s:Sg S)(i:Item):Sg S:=match i.sh with
 | .w c jj=>match i.path with
  |[]=>s
  |t::r=>match Ud s (0,t) r with
   |some q=>match q.1 with
    |0=>s
    |m+1=>match QV s (m+1) q.2 with
     |true=>match s.lk (m+1) q.2 with
      |some .nl=>⟨s.B,(m+1,q.2,.o s.nx)::s.T,s.Bh,(s.nx,.rr c jj [] (s.nx+1) none)::s.Th,s.nx+2⟩
      |_=>s
     |false=>s
   |none=>s
 |_=>s
def uZ:Sg S->List Item->Sg S|s,[]=>s|s,i::r=>uZ (xL s i) r
def afE:List Item->Bool|[]=>false|i::r=>match i.sh with| .w _ _=>true|_=>afE r
def bR(s:Sg S):List aY->List Nat
 |[]=>[]
 |i::r=>match i.sh with
  | .v (.list _)=>match s.lk i.a i.b with
   |some (.o m)=>match bq s.Th m with|some (.ar _ _)=>m::bR s r|_=>bR s r
   |_=>bR s r
  | .v _=>bR s r
  | .k _=>i.m::bR s r
  | .w _ _=>i.m::bR s r
  | .s _=>i.m::bR s r
  |_=>match s.lk i.a i.b with|some (.o m)=>m::bR s r|_=>bR s r
def FC:SO S->Bool| .bx _ _=>true|_=>false
def lZ(l:List Nat):Heap S->Heap S|[]=>[]|q::r=>match FC q.2,iN q.1 l with|false,false=>lZ l r|_,_=>q::lZ l r
def bT(l:List Nat):Heap S->Heap S|[]=>[]|q::r=>match FC q.2,iN q.1 l with|false,false=>q::bT l r|_,_=>bT l r
def boxes:Heap S->Heap S|[]=>[]|q::r=>match FC q.2 with|true=>q::boxes r|false=>boxes r
def takeB:Heap S->Heap S->Option (Heap S)
 |[],a=>some a
 |q::r,a=>match q.2 with
  | .bx T k=>match bq a q.1 with
   |some (.bx b c)=>match Nat.beq T b,Nat.beq k c with|true,true=>takeB r (dK q.1 a)|_,_=>none
   |_=>none
  |_=>takeB r a
def fA:Sh->Bool| .k _=>true| .w _ _=>true| .s _=>true|_=>false
def dX(a b:Nat):List aY->Bool|[]=>false|i::r=>match fA i.sh,Nat.beq i.a a,Nat.beq i.b b with|false,true,true=>true|_,_,_=>dX a b r
def F7(A:List Nat)(its:List aY)(nx:Nat):Env S->Bool
 |[]=>true
 |q::r=>match q.1 with
  |0=>match iN q.2.1 A with|false=>false|true=>F7 A its nx r
  |m+1=>match Nat.ble nx m,dX (m+1) q.2.1 its with|false,false=>false|_,_=>F7 A its nx r
def zN(s:Sg S):List Nat->Env S|[]=>[]|t::r=>match s.lk 0 t with|some _=>(0,t,.u)::zN s r|none=>zN s r
def sO:List aY->Env S
 |[]=>[]
 |i::r=>match fA i.sh,i.a with
  |false,_+1=>(i.a,i.b,.u)::sO r
  |_,_=>sO r
def kill(s:Sg S)(A:List Nat)(its:List aY):Env S:=zN s A++sO its
def gF:Code->List Nat| .region _ ops _=>ops.toList.filterMap (·.dst)| .seq a b=>gF a++gF b| .cond _ a b=>gF a++gF b| .block _ b=>gF b| .loop b=>gF b| .scope b=>gF b|_=>[]
def lead:Code->Option Nat| .region i _ _=>some i| .seq a _=>lead a| .block _ b=>lead b| .loop b=>lead b|_=>none
end
section
variable (τ:Tb)(s:Sg τ.S)
def qj(a b m:Nat)(H:Heap τ.S):(sh:Sh)->Option (sh.cd.ty τ.S×Heap τ.S)
 | .v c=>match s.lk a b with
  |some v=>match D τ c (gG s v) with|some x=>some (x,H)|none=>none
  |none=>none
 | .o c=>match s.lk a b with
  |some (.o m)=>match bq H m with
   |some (.ls d xs)=>match Cd.eq d c with|some ⟨h⟩=>some (h▸xs,dK m H)|none=>none
   |_=>none
  |some .nl=>some ([],H)
  |_=>none
 | .n c=>match s.lk a b with
  |some (.o m)=>match bq H m with
   |some (.ar d xs)=>match Cd.eq d c with|some ⟨h⟩=>some (h▸xs,dK m H)|none=>none
   |_=>none
  |some .nl=>some ([],H)
  |_=>none
 | .k c=>match bq H m with
  |some (.ar d xs)=>match Cd.eq d c with|some ⟨h⟩=>some (h▸xs,dK m H)|none=>none
  |_=>none
 | .w c jj=>match bq H m with
  |some (.rr d e xs _ none)=>match Cd.eq d c,Nat.beq e jj with|some ⟨h⟩,true=>some (h▸xs,dK m H)|_,_=>none
  |_=>none
 | .g c jj=>match s.lk a b with
  |some (.o m)=>match bq H m with
   |some (.rr d e xs _ none)=>match Cd.eq d c,Nat.beq e jj with|some ⟨h⟩,true=>some (h▸xs,dK m H)|_,_=>none
   |_=>none
  |some .nl=>some ([],H)
  |_=>none
 | .s c=>match bq H m with
  |some (.se d xs)=>match Cd.eq d c with|some ⟨h⟩=>some (h▸xs,dK m H)|none=>none
  |_=>none
def decs:(its:List aY)->Heap τ.S->Option (HL τ.S its×Heap τ.S)
 |[],H=>some ((),H)
 |i::r,H=>match qj τ s i.a i.b i.m H i.sh with
  |some x=>match decs r x.2 with|some y=>some ((x.1,y.1),y.2)|none=>none
  |none=>none
def ER(a b nx:Nat):(sh:Sh)->sh.cd.ty τ.S->Env τ.S->Env τ.S| .v c,x,Γ=>(a,b,E τ c x)::Γ| .o _,_,Γ=>(a,b,.o nx)::Γ| .n _,_,Γ=>(a,b,.o nx)::Γ| .g _ _,_,Γ=>(a,b,.o nx)::Γ| .k _,_,Γ=>Γ| .w _ _,_,Γ=>Γ| .s _,_,Γ=>Γ
def aii(m nx:Nat):(sh:Sh)->sh.cd.ty τ.S->Heap τ.S->Heap τ.S| .v _,_,H=>H| .o c,x,H=>(nx,.ls c x)::H| .n c,x,H=>(nx,.ar c x)::H| .k c,x,H=>(m,.ar c x)::H| .w c jj,x,H=>(m,.rr c jj x nx none)::H| .g c jj,x,H=>(nx,.rr c jj x (nx+1) none)::H| .s c,x,H=>(m,.se c x)::H
def Jj(nx:Nat):Sh->Nat| .v _| .k _| .s _=>nx| .o _| .n _| .w _ _=>nx+1| .g _ _=>nx+2
def dI:(its:List aY)->HL τ.S its->Nat->Env τ.S->Env τ.S|[],_,_,Γ=>Γ|i::r,x,nx,Γ=>ER τ i.a i.b nx i.sh x.1 (dI r x.2 (Jj nx i.sh) Γ)
def fG:(its:List aY)->HL τ.S its->Nat->Heap τ.S->Heap τ.S|[],_,_,H=>H|i::r,x,nx,H=>aii τ i.m nx i.sh x.1 (fG r x.2 (Jj nx i.sh) H)
def lQ:List aY->Nat->Nat|[],nx=>nx|i::r,nx=>lQ r (Jj nx i.sh)
end
structure Fn(C:Cf) where
 n:Nat
 wr:Bool
 T:FuncId->Option (aN C.τ.S)
 I:FuncId->Option (aL C.τ.S)
 sp:Nat->Option (List Item)
def wC{S:Nat->Type}(s:Sg S):List aY->Sg S
 |[]=>s
 |i::r=>match i.sh with
  | .v (.list _)=>match s.lk i.a i.b with
   |some (.o m)=>(wC s r).kg m
   |_=>wC s r
  |_=>wC s r
section
variable {β:Type}(C:Cf)(F:Fn C)
abbrev KK(β:Type)(S:Nat->Type):=Exit->Env S->Heap S->Nat->Option β
def meet(A:List Nat)(its:List aY)(nx:Nat)(Th:Heap C.τ.S)(s':Sg C.τ.S)(K:aK C.τ.S (its.map (·.sh.cd))->Option β):Option β:=match F7 A its nx s'.T with
 |true=>match decs C.τ s' its s'.Th with
  |some σ=>match takeB Th σ.2 with
   |some _=>K (pR C.τ.S its σ.1)
   |none=>none
  |none=>none
 |false=>none
def isU:List Item->Option Nat|⟨[],_⟩::r=>some (r.length+1)|_=>none
def UH(a:Sg C.τ.S->KK β C.τ.S->Option β):Nat->Sg C.τ.S->KK β C.τ.S->Option β|0,_,_=>none|m+1,s,k=>a s λe T Th nx=>match e with| .normal=>UH a m ⟨s.B,T,s.Bh,Th,nx⟩ k|e=>k e T Th nx
def Pk{S:Nat->Type}{β:Type}:Env S->(Env S->β)->β|[],k=>ZF (k [])|(a,b,v)::r,k=>Pk r λl=>k ((a,b,v)::l)
def Pm{S:Nat->Type}{β:Type}:Heap S->(Heap S->β)->β|[],k=>ZF (k [])|(m,o)::r,k=>Pm r λl=>k ((m,o)::l)
def rT{S:Nat->Type}{β:Type}(B T:Env S)(Bh Th:Heap S)(nx:Nat)(k:Sg S->β):β:=Pk B λB=>Pk T λT=>Pm Bh λBh=>Pm Th λTh=>k ⟨B,T,Bh,Th,nx⟩
theorem aix{S:Nat->Type}{β:Type}:∀(l:Env S) (k:Env S->β),Pk l k=k l|[],_=>rfl|(_,_,_)::r,_=>aix r _
theorem aiy{S:Nat->Type}{β:Type}:∀(l:Heap S) (k:Heap S->β),Pm l k=k l|[],_=>rfl|(_,_)::r,_=>aiy r _
theorem Pn{S:Nat->Type}{β:Type}(B T:Env S)(Bh Th:Heap S)(nx:Nat)(k:Sg S->β):rT B T Bh Th nx k=k ⟨B,T,Bh,Th,nx⟩:=by simp only[rT,aix,aiy]
def Db{S:Nat->Type}{β:Type}(s:Sg S)(its:List Item)(k:Sg S->β):β:=match afE its with|false=>k s|true=>rT (uZ s its).B (uZ s its).T (uZ s its).Bh (uZ s its).Th (uZ s its).nx k
noncomputable def run:Code->Sg C.τ.S->KK β C.τ.S->Option β:=
 Code.rec (motive:=λ_=>Sg C.τ.S->KK β C.τ.S->Option β)
  (λs k=>k .normal s.T s.Th s.nx)
  (λi ops d s k=>match kR ops.toList with
   |false=>none
   |true=>match d with
   |false=>ord C F.T F.I F.n F.wr ops.toList ops.toList [] s λs'=>k .normal s'.T s'.Th s'.nx
   |true=>match C.P.follows .mixedOrders&&Region.noSelect ops with
     |true=>match F.sp (100000+i) with
      |none=>iE C F.T F.I F.n F.wr ops ((mP C s 0 ops.toList).map (·.2)) ((mP C s 0 ops.toList).map (·.1)) (Me ops) (WL ops) (λ_=>vW s.Th) (Jb C F.I s ops) ops.size (Array.replicate ops.size false) [] true [] s λs'=>k .normal s'.T s'.Th s'.nx
      |some its=>iE C F.T F.I F.n F.wr ops ((mP C s 0 ops.toList).map (·.2)) (((mP C s 0 ops.toList).map (·.1)).filter λz=> !eY z (IG C F.I ops (its.map (·.path)))) (Me ops) (IG C F.I ops (its.map (·.path))) (WX C s (its.map (·.path)) (vW s.Th)) [] ops.size (Array.replicate ops.size false) [] true [] s λs'=>k .normal s'.T s'.Th s'.nx
     |false=>none)
  (λa b ra g s k=>match (match lead b with|some i=>F.sp (2*i)|none=>none) with
   |none=>ra s λe T Th nx=>match e with| .normal=>g ⟨s.B,T,s.Bh,Th,nx⟩ k|e=>k e T Th nx
   |some its=>Db s its λs=>match qQ s its with
     |some ri=>
      let A:=gF a
      let l:=bR s ri
      let f:=bT l s.Th
      au (λ(x:aK C.τ.S (ri.map (·.sh.cd)))=>rT s.B (dI C.τ ri (bD C.τ.S ri x) s.nx (kill s A ri++s.T)) s.Bh (fG C.τ ri (bD C.τ.S ri x) s.nx (boxes s.Th++f)) (lQ ri s.nx) λs'=>g s' k)
       λh=>rT (s.T++s.B) [] (f++s.Bh) (lZ l s.Th) s.nx λs'=>ra s' λe T Th nx=>match e with
        | .normal=>meet C A ri s.nx s.Th (wC ⟨s.T++s.B,T,f++s.Bh,Th,nx⟩ ri) h
        |e=>k e (T++s.T) (Th++f) nx
     |none=>none)
  (λc _ _ o p s k=>match s.sW c with
   |some (.b x)=>cnd x (o s k) (p s k)
   |_=>none)
  (λi _ g s k=>g s λe T Th nx=>match e with
   | .exit j=>match Nat.beq j i with|true=>k .normal T Th nx|false=>k (.exit j) T Th nx
   |e=>k e T Th nx)
  (λb g s k=>match (match lead b with|some i=>F.sp (2*i+1)|none=>none) with
   |none=>none
   |some its=>match isU its with
    |some m=>UH C g m s k
    |none=>Db s its λs=>match qQ s its with
     |some ri=>
      let A:=gF b
      let l:=bR s ri
      let f:=bT l s.Th
      meet C A ri s.nx s.Th ⟨s.T++s.B,[],f++s.Bh,lZ l s.Th,s.nx⟩
       (iter (λK (x:aK C.τ.S (ri.map (·.sh.cd)))=>rT (kill s A ri++(s.T++s.B)) (dI C.τ ri (bD C.τ.S ri x) s.nx []) (f++s.Bh) (fG C.τ ri (bD C.τ.S ri x) s.nx (boxes s.Th)) (lQ ri s.nx) λs'=>g s' λe T Th nx=>match e with
        | .normal=>meet C A ri s.nx s.Th ⟨kill s A ri++(s.T++s.B),T,f++s.Bh,Th,nx⟩ K
        |e=>k e (T++(kill s A ri++s.T)) (Th++f) nx) FUEL)
     |none=>none)
  (λ_ _ _ _ _ _ _ _=>none)
  (λi s k=>k (.exit i) s.T s.Th s.nx)
  (λ_ _ _ _=>none)
  (λ_ s k=>k .normal s.T s.Th s.nx)
  (λ_ _ _=>none)
  (λs k=>k .ret s.T s.Th s.nx)
  (λ_ _ _=>none)
def dx{S:Nat->Type}:Nat->List (SV S)->Env S|_,[]=>[]|i,v::r=>(0,i,v)::dx (i+1) r
end
end Go.R
namespace Go.R
open Go.RowKit Go.Dc
section
variable {β:Type}{C:Cf}{τ:Tb}{s s':Sg τ.S}{G p:List (Nat×Bool)}{M M' M0:Mem}{ρ ρ' ρ0 ρe:List Loc}{H H' R:Heap τ.S}{w w' w0:World}{a a' a0:Act}{O O' O1 O2:List Nat}{y:β}{n nx:Nat}{κ:Ctx C.τ}{Γ Γ0:Env τ.S}{Q:Exit->Act->World->Prop}
def Dh(ρ:List Loc)(w:World)(a:Act):Nat->Nat->Value->Prop|0,t,x=>a.tmps[t]?=some x|m+1,o,x=>∃l,ρ[m]?=some l/\w.cell? ⟨l.b,o,none⟩=some x
def S1(τ:Tb)(M:Mem)(w:World)(q:Nat)(lk:Option Loc)(x:Value)(O:List Nat):(sh:Sh)->sh.cd.ty τ.S->Prop| .v c,z=>RA τ M [] (E τ c z) x/\(q≠0->RV τ M [] (E τ c z) x)/\O=[]| .o c,z=>∃l,x=l.sl/\RO τ M [l] w 0 (.ls c z) O| .n c,z=>∃l,x=l.sl/\RO τ M [l] w 0 (.ar c z) O| .k c,z=>∃l,lk=some l/\RO τ M [l] w 0 (.ar c z) O| .w c jj,z=>∃l lh,lk=some l/\RO τ M [l,lh] w 0 (.rr c jj z 1 none) O| .g c jj,z=>∃l lh,x=l.sl/\RO τ M [l,lh] w 0 (.rr c jj z 1 none) O| .s c,z=>∃l,lk=some l/\RO τ M [l] w 0 (.se c z) O
inductive DR (τ:Tb) (M:Mem) (ρ:List Loc) (w:World) (a:Act):(its:List aY)->HL τ.S its->List Nat->Prop
 |nil:DR τ M ρ w a [] () []
 |cons {i:aY}{r:List aY}{z:i.sh.cd.ty τ.S}{zs:HL τ.S r}{x:Value}{O Os:List Nat}:(fA i.sh=false->Dh ρ w a i.a i.b x)->S1 τ M w i.a (ρ[i.m]?) x O i.sh z->DR τ M ρ w a r zs Os->DR τ M ρ w a (i::r) (z,zs) (O++Os)
theorem EJ{S:Nat->Type}{m:Nat}{x:SO S}:∀{H:Heap S},bq H m=some x->H.Perm ((m,x)::dK m H)
 |[],h=>by simp[bq] at h
 |q::r,h=>by
  unfold bq at h
  split at h
  ·rename_i e
   have a:=Nat.eq_of_beq_eq_true e
   cases h
   subst a
   rw[dK,e]
  ·rename_i e
   rw[dK,e]
   exact ((EJ h).cons q).trans (.swap _ _ _)
theorem RH.Ad{m:Nat}{x:SO τ.S}(h:RH τ M ρ w H O)(e:bq H m=some x):∃b a,RO τ M ρ w m x b/\RH τ M ρ w (dK m H) a/\O.Perm (b++a):=by obtain⟨a,h1,h2⟩:=h.perm (EJ e);cases h1 with|cons c d=>exact⟨_,_,c,d,h2⟩
end
section
variable {β:Type}{C:Cf}{s s':Sg C.τ.S}{G p:List (Nat×Bool)}{M M' M0:Mem}{ρ ρ' ρ0 ρe:List Loc}{H H' Hf R:Heap C.τ.S}{w w' w0:World}{a a' a0:Act}{O O' O1 O2:List Nat}{y:β}{n nx:Nat}{κ:Ctx C.τ}{Γ Γ0:Env C.τ.S}{Q:Exit->Act->World->Prop}
theorem avv(X:Rd C s [] [] M ρ Hf w a O)(aa:∀{q b},s.lk q b=s.lk q b){q b m:Nat}{sh:Sh}{z:sh.cd.ty C.τ.S}{H2:Heap C.τ.S}{Q:List Nat}(h:qj C.τ s q b m H sh=some (z,H2))(J:RH C.τ M ρ w H Q)(hq:∀K,q=K+1->∃T k,(K,SO.bx T k)∈Hf/\b<k):∃x r j,(fA sh=false->Dh ρ w a q b x)/\S1 C.τ M w q (ρ[m]?) x r sh z/\RH C.τ M ρ w H2 j/\Q.Perm (r++j):=by
 have f:∀{v:SV C.τ.S},s.lk q b=some v->∃x,Dh ρ w a q b x/\RG C.τ M ρ [] v x/\(q≠0->v= .u\/RV C.τ M ρ v x):=by
  intro v d;rw[Sg.bS] at d
  cases q with
  |zero=>obtain⟨x,h1,h2⟩:=X.env.tm b v d;exact⟨x,h1,h2,λh=>absurd rfl h⟩
  |succ K=>
   obtain⟨T,k,h1,h2⟩:=hq K rfl;obtain⟨l,x,t,y,A⟩:=X.env.cl K b v d T k h1 h2;refine⟨x,⟨l,t,y⟩,?_,λ_=>A⟩;rcases A with rfl|A;·exact .u
   ·exact .v A
 cases sh with
 |v c=>
  simp only[qj] at h;split at h
  ·rename_i v d;split at h
   ·rename_i z' U;cases h;obtain⟨x,h1,h2,Y⟩:=f d;refine⟨x,[],Q,λ_=>h1,⟨(Ap U (wE X h2)).plain,λZ=>?_,rfl⟩,J,sm⟩;have:=(Ap U (wE X h2)).plain (ρ':=[]);rcases Y Z with rfl|Y;·exfalso;have:gG s (.u:SV C.τ.S)= .u:=rfl;rw[this] at U;cases c<;>simp[D,D1] at U
    ·have P:RV C.τ M ρ (gG s v) x:=by
      have:gG s v=R.fz s v:=by cases Y<;>rfl
      rw[this];exact BH X Y
     by_cases W:∃i,c= .st i;·obtain⟨i,rfl⟩:=W;obtain⟨vs,p,e,_,_⟩:=aeY U;rw[e] at P;cases P
     ·have W:∀i,c≠ .st i:=λi e=>W ⟨i,e⟩;have e:E C.τ c z=E1 C.τ c z:=by cases c with|st i=>exact absurd rfl (W i)|_=>rfl
      rw[e];exact (Ho (Mg W U) P).free (Fr.E1 _ _)
   ·cases h
  ·cases h
 |o c=>
  simp only[qj] at h;split at h
  ·rename_i K d;split at h
   ·rename_i V xs I;split at h;·rename_i e _;cases h;subst e;obtain⟨x,h1,h2,_⟩:=f d;obtain⟨r,j,B,F,G⟩:=J.Ad I;obtain⟨l,t,y⟩:=B.ren;refine⟨x,r,j,λ_=>h1,⟨l,?_,y [l] 0 rfl (λi L=>by cases L)⟩,F,G⟩;cases h2 with|v h2=>cases h2 with|o A=>rw[t] at A;cases A;rfl
    ·cases h
   ·cases h
  ·rename_i d;cases h;obtain⟨x,h1,h2,_⟩:=f d;refine⟨x,[],Q,λ_=>h1,⟨⟨0,0,0,true,[]⟩,?_,.iR rfl rfl⟩,J,sm⟩;cases h2 with|v h2=>cases h2;rfl
  ·cases h
 |n c=>
  simp only[qj] at h;split at h
  ·rename_i K d;split at h
   ·rename_i V xs I;split at h;·rename_i e _;cases h;subst e;obtain⟨x,h1,h2,_⟩:=f d;obtain⟨r,j,B,F,G⟩:=J.Ad I;obtain⟨l,t,y⟩:=B.ren;refine⟨x,r,j,λ_=>h1,⟨l,?_,y [l] 0 rfl (λi L=>by cases L)⟩,F,G⟩;cases h2 with|v h2=>cases h2 with|o A=>rw[t] at A;cases A;rfl
    ·cases h
   ·cases h
  ·rename_i d;cases h;obtain⟨x,h1,h2,_⟩:=f d;refine⟨x,[],Q,λ_=>h1,⟨⟨0,0,0,true,[]⟩,?_,.ig rfl rfl⟩,J,sm⟩;cases h2 with|v h2=>cases h2;rfl
  ·cases h
 |g c jj=>
  simp only[qj] at h;split at h
  ·rename_i K d;split at h
   ·rename_i V zy xs hh I;split at h;·rename_i e _ N;cases h;subst e;have N:=Nat.eq_of_beq_eq_true N;subst N;obtain⟨x,h1,h2,_⟩:=f d;obtain⟨r,j,B,F,G⟩:=J.Ad I;obtain⟨l,lh,t,_,y⟩:=B.TN;refine⟨x,r,j,λ_=>h1,⟨l,lh,?_,y [l,lh] 0 1 rfl rfl⟩,F,G⟩;cases h2 with|v h2=>cases h2 with|o A=>rw[t] at A;cases A;rfl
    ·cases h
   ·cases h
  ·rename_i d;cases h;obtain⟨x,h1,h2,_⟩:=f d;refine⟨x,[],Q,λ_=>h1,⟨⟨0,0,0,true,[]⟩,⟨0,0,0,true,[]⟩,?_,.jg rfl rfl rfl rfl⟩,J,sm⟩;cases h2 with|v h2=>cases h2;rfl
  ·cases h
 |k c=>
  simp only[qj] at h;split at h
  ·rename_i V xs I;split at h;·rename_i e _;cases h;subst e;obtain⟨r,j,B,F,G⟩:=J.Ad I;obtain⟨l,t,y⟩:=B.ren;exact⟨undef,r,j,λh=>by simp[fA] at h,⟨l,t,y [l] 0 rfl (λi L=>by cases L)⟩,F,G⟩
   ·cases h
  ·cases h
 |s c=>
  simp only[qj] at h;split at h
  ·rename_i V xs I;split at h;·rename_i e _;cases h;subst e;obtain⟨r,j,B,F,G⟩:=J.Ad I;obtain⟨l,t,y⟩:=B.ren;exact⟨undef,r,j,λh=>by simp[fA] at h,⟨l,t,y [l] 0 rfl (λi L=>by cases L)⟩,F,G⟩
   ·cases h
  ·cases h
 |w c jj=>
  simp only[qj] at h;split at h
  ·rename_i V zy xs hh I;split at h;·rename_i e _ N;cases h;subst e;have N:=Nat.eq_of_beq_eq_true N;subst N;obtain⟨r,j,B,F,G⟩:=J.Ad I;obtain⟨l,lh,t,_,y⟩:=B.TN;exact⟨undef,r,j,λh=>by simp[fA] at h,⟨l,lh,t,y [l,lh] 0 1 rfl rfl⟩,F,G⟩
   ·cases h
  ·cases h
theorem OQ(p:Rd C s [] [] M ρ Hf w a O):∀{its:List aY}{H d:Heap C.τ.S}{σ:HL C.τ.S its}{c:List Nat},decs C.τ s its H=some (σ,d)->RH C.τ M ρ w H c->(∀i∈its,∀q,i.a=q+1->∃T k,(q,SO.bx T k)∈Hf/\i.b<k)->∃Os e,DR C.τ M ρ w a its σ Os/\RH C.τ M ρ w d e/\c.Perm (Os++e)
 |[],H,d,σ,c,h,g,_=>by
  simp only[decs] at h
  cases h
  exact⟨[],c,.nil,g,sm⟩
 |i::r,H,d,σ,c,h,g,o=>by
  unfold decs at h
  split at h
  ·rename_i F l
   split at h
   ·rename_i G m
    cases h
    obtain⟨z,I⟩:=F
    obtain⟨x,n,e,t,u,v,y⟩:=avv p rfl l g (o i List.mem_cons_self)
    obtain⟨zs,J⟩:=G
    obtain⟨Os,f,B,D,E⟩:=OQ p m v λj A=>o j (List.mem_cons_of_mem _ A)
    refine⟨n++Os,f,.cons t u B,D,?_⟩
    rw[List.append_assoc]
    exact y.trans (E.append_left n)
   ·cases h
  ·cases h
end
end Go.R
namespace Go.R
open Go.RowKit Go.Dc
section
variable {β:Type}{C:Cf}{s s':Sg C.τ.S}{G p:List (Nat×Bool)}{M M' M0:Mem}{ρ ρ' ρ0 ρe:List Loc}{H H' Hb Hl H0 Hf R:Heap C.τ.S}{w w' w0:World}{a a' a0:Act}{O O' O1 O2:List Nat}{y:β}{n nx:Nat}{κ:Ctx C.τ}{Γ Γ0 Bl T':Env C.τ.S}{Q:Exit->Act->World->Prop}{its:List aY}{A:List Nat}
theorem LG{S:Nat->Type}:∀{Th a R:Heap S},takeB Th a=some R->a.Perm (boxes Th++R)
 |[],a,R,h=>by simp[takeB] at h;subst h;exact .rfl
 |(m,x)::r,a,R,h=>by
  unfold takeB at h
  split at h
  ·rename_i T k b
   simp only at b
   subst b
   split at h
   ·rename_i f g e
    split at h
    ·rename_i c d
     have c:=Nat.eq_of_beq_eq_true c
     have d:=Nat.eq_of_beq_eq_true d
     subst c d
     exact (EJ e).trans ((LG h).cons _)
    ·cases h
   ·cases h
  ·rename_i b
   have:boxes ((m,x)::r)=boxes r:=by
    cases x with
    |bx T k=>exact absurd rfl (b T k)
    |_=>rfl
   rw[this]
   exact LG h
theorem Gj{S:Nat->Type}(l:List Nat):∀(H:Heap S),H.Perm (lZ l H++bT l H)
 |[]=> .rfl
 |q::r=>by
  unfold lZ bT
  split
  ·exact ((Gj l r).cons q).trans List.perm_middle.symm
  ·exact (Gj l r).cons q
theorem IZ{S:Nat->Type}{q:Nat×SO S}:∀{H:Heap S},q∈boxes H->q∈H/\FC q.2=true
 |[],h=>by cases h
 |x::r,h=>by
  unfold boxes at h
  split at h
  ·rename_i e
   rcases List.mem_cons.1 h with rfl|h
   ·exact⟨List.mem_cons_self,e⟩
   ·exact⟨List.mem_cons_of_mem _ (IZ h).1,(IZ h).2⟩
  ·exact⟨List.mem_cons_of_mem _ (IZ h).1,(IZ h).2⟩
theorem ac4{S:Nat->Type}{l:List Nat}{q:Nat×SO S}:∀{H:Heap S},q∈bT l H->FC q.2=false
 |[],h=>by cases h
 |x::r,h=>by
  unfold bT at h
  split at h
  ·rename_i e _
   rcases List.mem_cons.1 h with rfl|h
   ·exact e
   ·exact ac4 h
  ·exact ac4 h
theorem Kt:∀{T:Env C.τ.S},F7 A its nx T=true->(∀t,iN t A=false->lk T 0 t=none)/\∀m o,m<nx->dX (m+1) o its=false->lk T (m+1) o=none
 |[],_=>⟨λ_ _=>rfl,λ_ _ _ _=>rfl⟩
 |(i,f,v)::r,h=>by
  unfold F7 at h
  cases i with
  |zero=>
   simp only at h
   split at h
   ·cases h
   ·rename_i a
    obtain⟨h1,h2⟩:=Kt h
    refine⟨λt c=>?_,λm o d b=>?_⟩
    ·have:t≠f:=λe=>by subst e;rw[c] at a;cases a
     rw[bX (by simp[this])];exact h1 t c
    ·rw[bX sm];exact h2 m o d b
  |succ g=>
   simp only at h
   split at h
   ·cases h
   ·rename_i a
    obtain⟨h1,h2⟩:=Kt h
    refine⟨λt c=>?_,λm o d b=>?_⟩
    ·rw[bX sm];exact h1 t c
    ·have:¬((m+1,o)=(g+1,f)):=λe=>by
      simp at e
      obtain⟨rfl,rfl⟩:=e
      refine a ?_ b
      cases h:Nat.ble nx m with
      |false=>rfl
      |true=>exact absurd (Nat.le_of_ble_eq_true h) om
     rw[bX this];exact h2 m o d b
theorem F8{t:Nat}:∀{A:List Nat},(lk (zN s A) 0 t=some .u/\iN t A=true/\(s.lk 0 t).isSome=true)\/(lk (zN s A) 0 t=none/\(iN t A=true->s.lk 0 t=none))
 |[]=> .inr ⟨rfl,λh=>by simp[iN] at h⟩
 |x::r=>by
  unfold zN iN
  by_cases e:x=t
  ·subst e
   simp only[Nat.beq_refl]
   split
   ·rename_i v a
    exact .inl ⟨jf,trivial,by rw[a];rfl⟩
   ·rename_i a
    rcases F8 (t:=x) (A:=r) with ⟨_,_,h⟩|⟨h1,h2⟩
    ·rw[a] at h;cases h
    ·exact .inr ⟨h1,λ_=>a⟩
  ·simp only[ED e]
   split
   ·rw[bX (by simp;exact λh=>e h.symm)]
    exact F8
   ·exact F8
theorem R8{m o:Nat}:∀{A:List Nat},lk (zN s A) (m+1) o=none
 |[]=>rfl
 |x::r=>by
  unfold zN
  split
  ·rw[bX sm];exact R8
  ·exact R8
theorem CW{S:Nat->Type}{t:Nat}:∀{its:List aY},lk (sO its:Env S) 0 t=none
 |[]=>rfl
 |i::r=>by
  unfold sO
  split
  ·rename_i q _ a
   rw[bX (by rw[a];simp)];exact CW
  ·exact CW
theorem P7{a b:Nat}{i:aY}{r:List aY}(h:fA i.sh=true\/i.a≠a\/i.b≠b):dX a b (i::r)=dX a b r:=by
 conv=>lhs;unfold dX
 split
 ·rename_i e c d;have c:=Nat.eq_of_beq_eq_true c;have d:=Nat.eq_of_beq_eq_true d;rcases h with h|h|h;·rw[e] at h;cases h
  ·exact absurd c h
  ·exact absurd d h
 ·rfl
theorem Zw{i:aY}{r:List aY}(h:fA i.sh=false):dX i.a i.b (i::r)=true:=by
 unfold dX;split;·rfl
 ·rename_i c;exact absurd (Nat.beq_refl i.b) (λe=>c h (Nat.beq_refl i.a) e)
theorem Ku{S:Nat->Type}{m o:Nat}:∀{its:List aY},(lk (sO its:Env S) (m+1) o=some .u/\dX (m+1) o its=true)\/(lk (sO its:Env S) (m+1) o=none/\dX (m+1) o its=false)
 |[]=> .inr ⟨rfl,rfl⟩
 |i::r=>by
  unfold sO
  split
  ·rename_i q c j
   by_cases e:i.a=m+1/\i.b=o
   ·obtain⟨f,g⟩:=e
    refine .inl ⟨?_,?_⟩
    ·rw[f,g];exact jf
    ·have:=Zw (r:=r) c
     rwa [f,g] at this
   ·rw[bX (λh=>e (by simp at h;exact⟨h.1.symm,h.2.symm⟩)),P7 (by
     by_cases h1:i.a=m+1
     ·exact .inr (.inr λh2=>e ⟨h1,h2⟩)
     ·exact .inr (.inl h1))]
    exact Ku
  ·rename_i d
   rw[P7 (by
    cases c:fA i.sh with
    |true=>exact .inl rfl
    |false=>
     cases j:i.a with
     |zero=>exact .inr (.inl sm)
     |succ q=>exact absurd j (λh=>d q c h))]
   exact Ku
theorem ate(y:Names ρe ρ')(g:ρe.length=nx)(E:RE C.τ M0 ρe [] H0 w0 a0 (s.T++s.B))(r:RH C.τ M0 ρe w0 H0 O)(F:RE C.τ M' ρ' [] Hl w' a' (T'++Bl))(w:RH C.τ M' ρ' w' Hl O')(D:SA n a0)(z:SA n a')(R:F7 A its nx T'=true)(P:∀t,iN t A=false->lk Bl 0 t=lk (s.T++s.B) 0 t)(N:∀m o,m<nx->dX (m+1) o its=false->lk Bl (m+1) o=lk (s.T++s.B) (m+1) o)(Q:∀m T k,(m,SO.bx T k)∈Hb->(m,SO.bx T k)∈H0/\(m,SO.bx T k)∈Hl):RE C.τ M' ρe [] Hb w' a' (kill s A its++(s.T++s.B)):=by
 obtain⟨V,W⟩:=Kt R;refine⟨F.gm,λt v a=>?_,λm o v a T k U ho=>?_⟩
 ·unfold kill at a;rw[List.append_assoc,cu] at a;rcases F8 (s:=s) (t:=t) (A:=A) with ⟨b,I,q⟩|⟨b,I⟩
  ·rw[b] at a;cases a;rw[Sg.bS] at q
   cases K:lk (s.T++s.B) 0 t with
   |none=>rw[K] at q;cases q
   |some Y=>
    obtain⟨x,c,_⟩:=E.tm t Y K;have:t<a'.tmps.size:=by rw[z.size,<-D.size];exact (Array.getElem?_eq_some_iff.1 c).1
    exact⟨a'.tmps[t],by simp[this],.u⟩
  ·rw[b] at a;simp only at a;rw[cu,CW] at a;simp only at a;have L:iN t A=false:=by cases h:iN t A with|false=>rfl|true=>have:=I h;rw[Sg.bS] at this;rw[this] at a;cases a
   obtain⟨x,c,f⟩:=F.tm t v (by rw[cu,V t L];simp only;rw[P t L];exact a);obtain⟨Z,_,M⟩:=E.tm t v a;exact⟨x,c,M.back y f⟩
 ·obtain⟨j,p⟩:=Q m T k U;obtain⟨o0,G,_⟩:=r.look j;obtain⟨ol,H,_⟩:=w.look p;cases G with| @bx _ _ l _ b _ _ _=>
  have i:m<nx:=by rw[<-g];exact (List.getElem?_eq_some_iff.1 b).1
  have J:=y _ _ b;unfold kill at a;rw[List.append_assoc,cu,R8] at a;simp only at a;rw[cu] at a;rcases Ku (S:=C.τ.S) (m:=m) (o:=o) (its:=its) with ⟨c,f⟩|⟨c,f⟩
  ·rw[c] at a;cases a
   cases H with
   | @bx _ _ X arr f1 f2 d e=>
    rw[J] at f1;cases f1;have:o<arr.size:=by omega
    exact⟨l,arr[o],b,by simp[World.cell?,f2,this],.inl rfl⟩
  ·rw[c] at a;simp only at a;obtain⟨X,x,f1,f2,d⟩:=F.cl m o v (by rw[cu,W m o i f];simp only;rw[N m o i f];exact a) T k p ho;rw[J] at f1;cases f1;obtain⟨l0,Z,_,_,e⟩:=E.cl m o v a T k j ho;refine⟨l,x,b,f2,?_⟩;rcases d with d|d;·exact .inl d
   ·rcases e with e|e;·exact .inl e
    ·exact .inr (e.back y d)
theorem RE.add{τ:Tb}{H:Heap τ.S}{Γ:Env τ.S}{q b:Nat}{v:SV τ.S}{x:Value}(h:RE τ M ρ [] H w a Γ)(d:Dh ρ w a q b x)(i:RG τ M ρ [] v x)(j:q≠0->RV τ M ρ v x):RE τ M ρ [] H w a ((q,b,v)::Γ):=by
 refine⟨h.gm,λt u c=>?_,λm o u c T k g ho=>?_⟩
 ·rcases kN c with ⟨rfl,rfl,rfl⟩|⟨_,c⟩;·exact⟨x,d,i⟩
  ·exact h.tm t u c
 ·rcases kN c with ⟨rfl,rfl,rfl⟩|⟨_,c⟩;·obtain⟨l,e,f⟩:=d;exact⟨l,x,e,f,.inr (j sm)⟩
  ·exact h.cl m o u c T k g ho
theorem TL(e:Names ρ ρ'){q b:Nat}{x:Value}(h:Dh ρ w a q b x):Dh ρ' w a q b x:=by cases q with|zero=>exact h|succ m=>obtain⟨l,c,d⟩:=h;exact⟨l,e _ _ c,d⟩
theorem RA.plain{τ:Tb}{c:Cd}{z:c.ty τ.S}{x:Value}(h:RA τ M ρ (E τ c z) x):RG τ M ρ' [] (E τ c z) x:=(RG.plain (G:=[]) h.g).g
theorem uw{Γ:Env C.τ.S}:∀{its:List aY}{σ:HL C.τ.S its}{Os:List Nat}{ρ:List Loc}{nx:Nat},DR C.τ M ρe w a its σ Os->Names ρe ρ->ρ.length=nx->RE C.τ M ρ [] Hb w a Γ->∃b,Names ρ b/\b.length=lQ its nx/\RE C.τ M b [] (fG C.τ its σ nx Hb) w a (dI C.τ its σ nx Γ)/\RH C.τ M b w (fG C.τ its σ nx []) Os
 |[],_,_,ρ,nx,.nil,_,p,B=>⟨ρ,Names.rfl,p,B,.nil⟩
 |i::r,_,_,ρ,nx,.cons (z:=z) (zs:=zs) (x:=x) (O:=Ox) (Os:=Os) h1 h2 h3,hN,p,B=>by
  obtain⟨P,Q,H,I⟩:=i
  cases I with
  |v c=>
   obtain⟨q,K,rfl⟩:=h2
   obtain⟨b,f,t,u,y⟩:=uw h3 hN p B
   refine⟨b,f,t,?_,y⟩
   exact u.add (TL (hN.trans f) (h1 rfl)) q.plain (λL=>(K L).mono .rfl λm l h=>by simp at h)
  |o c=>
   obtain⟨l,rfl,q⟩:=h2
   have d:Names ρ (ρ++[l]):=fF
   obtain⟨b,f,t,u,y⟩:=uw (ρ:=ρ++[l]) (nx:=nx+1) h3 (hN.trans d) (by simp[p]) (B.names d)
   have e:b[nx]?=some l:=f _ _ (by rw[<-p];simp)
   obtain⟨F,j,A⟩:=q.ren
   simp at j;subst j
   refine⟨b,d.trans f,t,?_,.cons (A b nx e (λi D=>by cases D)) y⟩
   exact (u.more (x:= .ls c z) (λ_ _ h=>by cases h)).add (TL (hN.trans (d.trans f)) (h1 rfl)) (.v (.o e)) λ_=> .o e
  |n c=>
   obtain⟨l,rfl,q⟩:=h2
   have d:Names ρ (ρ++[l]):=fF
   obtain⟨b,f,t,u,y⟩:=uw (ρ:=ρ++[l]) (nx:=nx+1) h3 (hN.trans d) (by simp[p]) (B.names d)
   have e:b[nx]?=some l:=f _ _ (by rw[<-p];simp)
   obtain⟨F,j,A⟩:=q.ren
   simp at j;subst j
   refine⟨b,d.trans f,t,?_,.cons (A b nx e (λi D=>by cases D)) y⟩
   exact (u.more (x:= .ar c z) (λ_ _ h=>by cases h)).add (TL (hN.trans (d.trans f)) (h1 rfl)) (.v (.o e)) λ_=> .o e
  |g c jj=>
   obtain⟨l,lh,rfl,q⟩:=h2
   have d:Names ρ (ρ++[l,lh]):=λm x h=>by rw[List.getElem?_append_left (List.getElem?_eq_some_iff.1 h).1];exact h
   obtain⟨b,f,t,u,y⟩:=uw (ρ:=ρ++[l,lh]) (nx:=nx+2) h3 (hN.trans d) (by simp[p]) (B.names d)
   have e:b[nx]?=some l:=f _ _ (by rw[<-p];simp)
   have J:b[nx+1]?=some lh:=f _ _ (by rw[<-p];simp)
   obtain⟨F,N,j,G,A⟩:=q.TN
   simp at j;subst j
   simp at G;subst G
   refine⟨b,d.trans f,t,?_,.cons (A b nx (nx+1) e J) y⟩
   exact (u.more (x:= .rr c jj z (nx+1) none) (λ_ _ h=>by cases h)).add (TL (hN.trans (d.trans f)) (h1 rfl)) (.v (.o e)) λ_=> .o e
  |k c=>
   obtain⟨l,E,q⟩:=h2
   obtain⟨b,f,t,u,y⟩:=uw h3 hN p B
   obtain⟨F,j,A⟩:=q.ren
   simp at j;subst j
   refine⟨b,f,t,?_,.cons (A b H (f _ _ (hN _ _ E)) (λi D=>by cases D)) y⟩
   exact u.more (x:= .ar c z) (λ_ _ h=>by cases h)
  |s c=>
   obtain⟨l,E,q⟩:=h2
   obtain⟨b,f,t,u,y⟩:=uw h3 hN p B
   obtain⟨F,j,A⟩:=q.ren
   simp at j;subst j
   refine⟨b,f,t,?_,.cons (A b H (f _ _ (hN _ _ E)) (λi D=>by cases D)) y⟩
   exact u.more (x:= .se c z) (λ_ _ h=>by cases h)
  |w c jj=>
   obtain⟨l,lh,E,q⟩:=h2
   have d:Names ρ (ρ++[lh]):=fF
   obtain⟨b,f,t,u,y⟩:=uw (ρ:=ρ++[lh]) (nx:=nx+1) h3 (hN.trans d) (by simp[p]) (B.names d)
   have e:b[nx]?=some lh:=f _ _ (by rw[<-p];simp)
   obtain⟨F,N,j,G,A⟩:=q.TN
   simp at j;subst j
   simp at G;subst G
   refine⟨b,d.trans f,t,?_,.cons (A b H nx (f _ _ (d _ _ (hN _ _ E))) e) y⟩
   exact u.more (x:= .rr c jj z nx none) (λ_ _ h=>by cases h)
theorem kL:∀{its:List aY}{σ:HL C.τ.S its}{nx:Nat}{H:Heap C.τ.S},fG C.τ its σ nx H=fG C.τ its σ nx []++H
 |[],_,_,_=>rfl
 |i::r,x,nx,H=>by
  obtain⟨b,c,d,a⟩:=i
  cases a<;>simp only[fG,aii,List.cons_append]<;>rw[kL]
theorem yS:∀{its:List aY}{σ:HL C.τ.S its}{nx:Nat}{Γ B:Env C.τ.S},dI C.τ its σ nx Γ++B=dI C.τ its σ nx (Γ++B)
 |[],_,_,_,_=>rfl
 |i::r,x,nx,Γ,B=>by
  obtain⟨b,c,d,a⟩:=i
  cases a<;>simp only[dI,ER,List.cons_append]<;>rw[yS]
end
end Go.R
