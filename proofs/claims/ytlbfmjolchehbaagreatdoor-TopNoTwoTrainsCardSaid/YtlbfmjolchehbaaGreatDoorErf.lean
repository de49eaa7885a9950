/- Several parts of the engine, one behind the other. -/
import Derived.Lib.AppendStr
import Derived.Test.YtlbfmjolchehbaaGreatDoorEre
set_option linter.all false
namespace Go.R
open Go.RowKit Go.Dc
section
variable {P:Program}
theorem aDU{w:World}(t u ty e:TypeId)(i:TypeInfo)(z:Value)(x:P.underlying t=some (.slice e))(y:P.underlying u=some .string)(hi:P.info? e=some i)(A:i.zero=some z)(a:Option Addr)(m cap:Nat)(s:ByteArray)(c:List Value)(l:c.length=m*i.size)(f:∀j v,c[j]?=some v->a=some ⟨sb a,so a,none⟩/\w.cell? ⟨sb a,so a+j,none⟩=some v)(B:cap<m+s.size)(o:m+s.size<=9223372036854775807)(p:(m+s.size)*i.bytes<=140737488355328):∃b d,m+s.size<=b/\d=Builtin.zeroCells z.cells (b-(m+s.size))/\(Builtin.append_ #[t,u] ty #[.slice a m cap,.string s]).run P w= .ok (.slice (some ⟨w.heap.size,0,none⟩) (m+s.size) b) (w.drew.alloc (.cells (c.toArray++(Lib.strCells s).toArray++d) e)):=by
 have r:¬(m+s.size<=cap):=by omega
 have h:¬(9223372036854775807<((m:Int)+(s.size:Int))):=by omega
 have n:Builtin.nextslicecap (m+s.size) cap*i.bytes<=281474976710656:=growslice_fits om p;have g:¬(281474976710656<Builtin.nextslicecap (m+s.size) cap*i.bytes):=by omega
 have q:=Lib.run_firstCells_string (P:=P) w.drew i.size s;have k:=Dl (P:=P) (w:=w.drew) (size:=i.size) (m:=m) (src:=a) (len:=m) (cap:=cap) l (by simpa using f);refine⟨grownCap w (m+s.size) cap e,_,?_,rfl,?_⟩;·unfold grownCap Question.cut;exact Nat.le_add_right _ _
 ·simp[Builtin.append_,run_underlying x,run_underlying y,sizeOf,typeInfo,zeroValue,hi,A,Builtin.lenOf,r,h,g,Question.forced,q,k,newRow,grownCap];congr 2;apply Array.ext';simp[List.append_assoc]
theorem aDT{w:World}(t u ty e:TypeId)(i:TypeInfo)(k:P.underlying t=some (.slice e))(l:P.underlying u=some .string)(hi:P.info? e=some i)(g:i.size=1)(c o m cap:Nat)(T:TypeId)(a:Array Value)(j:w.heap[c]?=some (.cells a T (0,0)))(s:ByteArray)(b:m+s.size<=cap)(d:o+m+s.size<=a.size):(Builtin.append_ #[t,u] ty #[.slice (some ⟨c,o,none⟩) m cap,.string s]).run P w= .ok (.slice (some ⟨c,o,none⟩) (m+s.size) cap) (w.setRow c (a.toList.take (o+m)++Lib.strCells s++a.toList.drop (o+m+s.size)).toArray):=by have h:=Lib.run_firstCells_string (P:=P) w 1 s;have f:=run_storeCells_at P c (o+m) T (Lib.strCells s) 0 a w j (by simpa [Lib.strCells_length] using d) (Lib.strCells_oneCell s);simp only[Nat.add_zero,Lib.strCells_length] at f;simp[Builtin.append_,run_underlying k,run_underlying l,sizeOf,typeInfo,hi,g,Builtin.lenOf,b,h,Addr.add_lit,f]
theorem apS{w:World}(t u ty e:TypeId)(i:TypeInfo)(b:P.underlying t=some (.slice e))(c:P.underlying u=some .string)(hi:P.info? e=some i):(Builtin.append_ #[t,u] ty #[.slice none 0 0,.string ⟨#[]⟩]).run P w= .ok (.slice none 0 0) w:=by have a:=Lib.run_firstCells_string (P:=P) w i.size ⟨#[]⟩;have h0:(⟨#[]⟩:ByteArray).size=0:=rfl;rw[h0] at a;simp[Builtin.append_,run_underlying b,run_underlying c,sizeOf,typeInfo,hi,Builtin.lenOf,h0,a]
end
def bI(q:Str):List Int:=q.l.map λb=>(b.toNat:Int)
theorem aIL(q:Str):Lib.strCells q.ba=bU 1 (bI q).length (λi _=> .int .u8 ((bI q).getD i 0)):=by
 have c:Lib.strCells q.ba=q.l.map λb=>Value.int .u8 (b.toNat:Int):=by rw[Lib.strCells_eq];simp[Str.ba,Lib.byteCells]
 rw[c];apply List.ext_getElem?;intro i;rcases Nat.lt_or_ge i q.l.length with a|a
 ·have h2:i<(bI q).length:=by simpa [bI] using a
  have:=apP (n:=1) (m:=(bI q).length) (i:=i) (j:=0) (vs:=λi _=>Value.int .u8 ((bI q).getD i 0)) h2 om;rw[Nat.mul_one,Nat.add_zero] at this;rw[this];simp[bI,List.getD_eq_getElem?_getD,a]
 ·rw[List.getElem?_eq_none (by simpa using a),List.getElem?_eq_none (by rw[gI];simpa [bI] using a)]
section
variable {β:Type}(C:Cf)(s:Sg C.τ.S)
def X9(t u:TypeId)(x y:Operand)(K:SV C.τ.S->Sg C.τ.S->Option β):Option β:=match qP C.P t,s.gets [] x,s.gets [] y,Ce C.P u with
 |some (e,sz,bJ),some a,some (.st q),true=>match Nat.beq sz (C.τ.aC (.int .u8))&&pF C.τ (.int .u8) e,a with
  |true,.nl=>ah (aS bJ (bI q).length) (K (.o s.nx) (s.newL C none (.int .u8) (bI q)))
  |true,.o m=>match bq s.Th m with
   |some q'=>match rowOf C q' (.int .u8) with
    |some xs=>ah (aS bJ (List.length (α:=Int) (xs++bI q))) (K (.o s.nx) (s.newL C (some m) (.int .u8) (xs++bI q)))
    |none=>none
   |none=>none
  |_,_=>none
 |_,_,_,_=>none
end
section
variable {β:Type}{C:Cf}{s s':Sg C.τ.S}{G p:List (Nat×Bool)}{g:Option Bool}{M M':Mem}{ρ ρ' ρ0:List Loc}{H R:Heap C.τ.S}{w w':World}{a:Act}{O O' O1 O2:List Nat}{y:β}{n nx:Nat}{κ:Ctx C.τ}{Γ:Env C.τ.S}{Q:Exit->Act->World->Prop}
theorem aIx{t u:TypeId}{x z:Operand}{K:SV C.τ.S→Sg C.τ.S→Option β}(h:X9 C s t u x z K=some y):∃v s',K v s'=some y∧Keep s s'∧Step C n κ ρ0 G s (.call ⟨.builtin .append, #[x,z], #[t,u]⟩) (some v) s':=by
 unfold X9 at h
 split at h
 ·rename_i e sz bJ vx q dz hx hz hst
  have dn:C.P.underlying u=some .string:=by
   unfold Ce at hst
   split at hst
   ·assumption
   ·cases hst
  obtain⟨dz,hby⟩:=u6 dz
  obtain⟨hut,i,zv,hi',hisz,mH,hzz,hzs,hpos⟩:=u7 dz
  ·
   have main:∀(c:Cd) (ys xs:List (c.ty C.τ.S)) (us:Nat→Nat→Value),C.τ.aC c=1→q.ba.size=ys.length→Lib.strCells q.ba=bU (C.τ.aC c) ys.length us→(∀M ρ,∀(i:Nat) z,ys[i]?=some z→∀(j:Nat) u,(E C.τ c z).cs[j]?=some u→RV C.τ M ρ u (us i j))→∀(m:Option Nat) (hsz:sz=C.τ.aC c),pF C.τ c e=true→aS bJ (xs++ys).length=true→(vx= .nl∧xs=[]∧m=none∨∃m',m=some m'∧vx= .o m'∧(bq s.Th m'=some (.ls c xs)∨bq s.Th m'=some (.ar c xs)))→Step C n κ ρ0 G s (.call ⟨.builtin .append, #[x,z], #[t,u]⟩) (some (.o s.nx)) (s.newL C m c (xs++ys)):=by
    intro c ys xs us h1c wK hcell hyp m hsz hoe hok hcase K Q M w a dst ty pos aM gd ⟨h0,ρ,O1,O2,hn,hl,he,h1,h2,h3⟩ hk
    subst hsz
    have hok:(xs.length+ys.length)*bJ≤140737488355328:=by simpa [aS] using hok
    have hle1:(xs.length+ys.length)*1≤(xs.length+ys.length)*bJ:=Nat.mul_le_mul_left _ hby
    have h47:(xs++ys).length≤140737488355328:=by rw[List.length_append];omega
    have hrd:=fQ he h1 h2 h3
    obtain⟨cs,hcs⟩:=BD a.eval .append x z #[t,u] dst ty pos aM gd
    have ey:a.eval z= .string q.ba:=hrd.st hz
    have hyp:=hyp M ρ
    have fin:∀(w':World) (l:Loc) (M':Mem) (Oa Ob:List Nat),(builtin .append #[t,u] ty cs #[a.eval x,a.eval z]).run C.P w= .ok (.value l.sl) w'→M.le M'→
      RE C.τ M' (ρ++[l]) G ((rQ m s.Th)++s.Bh) w' a (s.T++s.B)→RO C.τ M' (ρ++[l]) w' s.nx (.ls c (xs++ys)) Oa→RH C.τ M' (ρ++[l]) w' (rQ m s.Th) Ob→RH C.τ M' (ρ++[l]) w' s.Bh O2→SM κ M' w' (Oa++Ob) O2→
      Oper.wp C.P ⟨dst,.call ⟨.builtin .append, #[x,z], #[t,u]⟩,ty,pos,aM,gd⟩ a w K Q:=by
     intro w' l M' Oa Ob hrun _ g1 g2 g3 g4 g5
     unfold Oper.wp
     rw[hcs,hrun]
     have hnew:(ρ++[l])[s.nx]?=some l:=by rw[←hl];simp
     exact hk M' w' l.sl (ρ++[l]) (Oa++Ob) O2 (hn.trans fF) (by simp[hl,Sg.newL]) (g1.more (x:= .ls c (xs++ys)) fun _ _ h=>by cases h) (.cons g2 g3) g4 g5 fun u e=>by cases e;exact .v (.o hnew)
    obtain⟨Hr,rW⟩:∃Hr,Hr=(rQ m s.Th):=⟨_,rfl⟩
    rw[←rW] at fin
    have take:∃Ox Or,O1.Perm (Ox++Or)∧RH C.τ M ρ w Hr Or∧(∀q∈Hr,q∈s.Th)∧((vx= .nl∧xs=[]∧Ox=[])∨∃m',vx= .o m'∧(RO C.τ M ρ w m' (.ls c xs) Ox∨RO C.τ M ρ w m' (.ar c xs) Ox)):=by
     rcases hcase with ⟨e1,e2,e3⟩|⟨m',e1,e2,e3⟩
     ·subst e3;subst rW
      exact⟨[],O1,.rfl,h1,fun q hq=>hq,.inl ⟨e1,e2,rfl⟩⟩
     ·subst e1;subst rW
      rcases e3 with e3|e3
      ·have hp:=vZ e3
       obtain⟨O',g1,g2⟩:=h1.perm hp
       cases g1 with
       |cons g3 g4=>exact⟨_,_,g2,g4,fun q hq=>hp.mem_iff.2 (List.mem_cons_of_mem _ hq),.inr ⟨m',e2,.inl g3⟩⟩
      ·have hp:=vZ e3
       obtain⟨O',g1,g2⟩:=h1.perm hp
       cases g1 with
       |cons g3 g4=>exact⟨_,_,g2,g4,fun q hq=>hp.mem_iff.2 (List.mem_cons_of_mem _ hq),.inr ⟨m',e2,.inr g3⟩⟩
    obtain⟨Ox,Or,BR,iM,BO,hcx⟩:=take
    have h3:=h3.perm BR
    have he':RE C.τ M ρ G (Hr++s.Bh) w a (s.T++s.B):=he.perm fun q hq=>by
     rcases List.mem_append.1 hq with hq|hq
     ·exact List.mem_append_left _ (BO q hq)
     ·exact List.mem_append_right _ hq
    have new:∀(base:Option Addr) (cap:Nat) (olds:List Value),a.eval x= .slice base xs.length cap→cap<xs.length+ys.length→olds.length=xs.length*C.τ.aC c→
      (∀j v,olds[j]?=some v→base=some ⟨sb base,so base,none⟩∧w.cell? ⟨sb base,so base+j,none⟩=some v)→Row C.τ M ρ c xs (fun j=>olds[j]?)→
      Oper.wp C.P ⟨dst,.call ⟨.builtin .append, #[x,z], #[t,u]⟩,ty,pos,aM,gd⟩ a w K Q:=by
     intro base cap olds hxe hg hol holds hrow
     obtain⟨cap',rest,hcap,hrest,hrun⟩:=aDU (P:=C.P) (w:=w) t u ty e i zv hut dn hi' hzz base xs.length cap q.ba olds (by rw[hol,hisz]) holds (by rw[wK];exact hg) (by rw[wK];omega) (by rw[mH,wK];exact hok)
     rw[wK] at hcap hrest hrun
     rw[hcell] at hrun
     let l:Loc:=⟨w.heap.size,(xs++ys).length,cap',false,[]⟩
     have wM:SM κ M w.drew (Ox++Or) O2:=⟨h3.tab,h3.frame.trans (F1:=[]) ⟨rfl,rfl,rfl,Nat.le_refl _,fun _ _ _=>rfl⟩ (fun _ h=>(by cases h)),h3.sat,h3.le,h3.new,h3.nodup,h3.own,h3.red⟩
     obtain⟨hsm,hext⟩:=wM.alloc (.cells (olds.toArray++(bU (C.τ.aC c) ys.length us).toArray++rest) e)
     have hnm:Names ρ (ρ++[l]):=fF
     have wL:SM κ M (w.drew.alloc (.cells (olds.toArray++(bU (C.τ.aC c) ys.length us).toArray++rest) e)) (w.heap.size::Or) O2:=by
      have hp:(w.heap.size::(Ox++Or)).Perm ((w.heap.size::Or)++Ox):=by
       rw[List.cons_append];exact List.Perm.cons _ List.perm_append_comm
      have:=SM.perm hsm hp
      refine⟨this.tab,this.frame,this.sat,this.le,this.new,?_,fun b hb=>this.own b (List.mem_append_left _ hb),this.red⟩
      have hq:((w.heap.size::Or)++Ox++O2).Perm (((w.heap.size::Or)++O2)++Ox):=by
       simp only[List.append_assoc];exact List.Perm.append_left _ List.perm_append_comm
      exact (List.nodup_append.1 (hq.nodup_iff.1 this.nodup)).1
     have hrow2:Row C.τ M (ρ++[l]) c (xs++ys) (fun j=>(olds.toArray++(bU (C.τ.aC c) ys.length us).toArray++rest)[j]?):=by
      refine Row.cat ((hrow.mono .rfl hnm).congr fun q hq=>?_) (((Row.of hyp).mono .rfl hnm).congr fun q hq=>?_)
      ·rw[Array.append_assoc,Array.getElem?_append_left (by simpa [hol] using hq)]
       simp
      ·rw[Array.getElem?_append_left (by simp[gI,hol];exact hq),Array.getElem?_append_right (by simp[hol])]
       simp[hol]
     obtain⟨M',g1,g2,g3⟩:=yM (m:=s.nx) (hs:=[]) (cap:=cap') wL (b:=w.heap.size) (T:=e) (by show (w.heap.push _)[w.heap.size]?=_;simp) ⟨hpos,hoe⟩ (by rw[List.length_append];exact hcap) h47 (by
      simp only[Array.size_append,List.size_toArray,hrest,U6,gI,hzs,hol]
      rw[←Nat.add_mul,←Nat.add_mul]
      have:xs.length+ys.length+(cap'-(xs.length+ys.length))=cap':=by omega
      rw[this];exact Nat.le_refl _) hrow2 (fun j _=>h3.sat.kE (Nat.le_refl _)) (by rw[←hl];simp[l])
     have hx2:Ext (Or++O2) M M' w (w.drew.alloc (.cells (olds.toArray++(bU (C.τ.aC c) ys.length us).toArray++rest) e)):=⟨g2.le,fun b hb=>hext.heap b (by simp only[List.append_assoc];exact List.mem_append_right _ hb),fun b hb=>g2.mem b hb⟩
     refine fin _ l M' [w.heap.size] Or ?_ g2.le (he'.ext hnm (iM.app h2) hx2) g3 (iM.ext hnm (hx2.sub fun b hb=>List.mem_append_left _ hb)) (h2.ext hnm (hx2.sub fun b hb=>List.mem_append_right _ hb)) g1
     rw[hxe,ey]
     have e2:l.sl= .slice (some ⟨w.heap.size,0,none⟩) (xs.length+ys.length) cap':=by simp[l,Loc.sl]
     rw[e2]
     exact bQ hrun
    rcases hcx with ⟨rfl,rfl,rfl⟩|⟨m',rfl,hro⟩
    ·
     have hxv:RV C.τ M ρ (.nl) (a.eval x):=hrd.rv hx
     generalize hax:a.eval x=ax at hxv
     cases hxv
     by_cases hys:ys=[]
     ·subst hys
      let l:Loc:=⟨0,0,0,true,[]⟩
      have hnm:Names ρ (ρ++[l]):=fF
      refine fin w l M [] Or ?_ .rfl (he'.names' hnm) (.iR (l:=l) (by rw[←hl];simp) rfl) (iM.ext hnm Ext.refl) (h2.ext hnm Ext.refl) (by simpa using h3)
      rw[hax,ey]
      have hq0:q.ba=⟨#[]⟩:=by
       apply ByteArray.ext
       exact Array.eq_empty_of_size_eq_zero wK
      rw[hq0]
      have:=apS (P:=C.P) (w:=w) t u ty e i hut dn hi'
      exact bQ this
     ·have:0<ys.length:=List.length_pos_iff.2 hys
      exact new none 0 [] (by rw[hax];rfl) (by simpa using this) (by simp) (fun j v h=>by simp at h) (fun i z h=>by simp at h)
    ·have hxv:=hrd.rv hx
     generalize hax:a.eval x=ax at hxv
     cases hxv with
     | @o _ l0 e1=>
     rcases adR hro with ⟨l1,e2,e3,rfl,rfl⟩|⟨T,l1,arr,e2,k1,k2,kp,k4,k6,k7,k8,k10,rfl⟩
     ·rw[e1] at e2;cases e2
      have hsl:l0.sl= .slice none 0 0:=by simp[Loc.sl,e3]
      by_cases hys:ys=[]
      ·subst hys
       let l:Loc:=⟨0,0,0,true,[]⟩
       have hnm:Names ρ (ρ++[l]):=fF
       refine fin w l M [] Or ?_ .rfl (he'.names' hnm) (.iR (l:=l) (by rw[←hl];simp) rfl) (iM.ext hnm Ext.refl) (h2.ext hnm Ext.refl) (by simpa using h3)
       rw[hax,ey,hsl]
       have hq0:q.ba=⟨#[]⟩:=by
        apply ByteArray.ext
        exact Array.eq_empty_of_size_eq_zero wK
       rw[hq0]
       have:=apS (P:=C.P) (w:=w) t u ty e i hut dn hi'
       exact bQ this
      ·have:0<ys.length:=List.length_pos_iff.2 hys
       exact new none 0 [] (by rw[hax,hsl];rfl) (by simpa using this) (by simp) (fun j v h=>by simp at h) (fun i z h=>by simp at h)
     ·rw[e1] at e2;cases e2
      have hsl:l0.sl= .slice (some ⟨l0.b,0,none⟩) xs.length l0.cap:=by simp[Loc.sl,k1,k2]
      have aaq:xs.length*C.τ.aC c≤arr.size:=Nat.le_trans (Nat.mul_le_mul_right _ k4) k7
      have hrow:Row C.τ M ρ c xs (fun j=>(arr.toList.take (xs.length*C.τ.aC c))[j]?):=k8.congr fun q hq=>by
       rw[List.getElem?_take_of_lt hq];simp
      by_cases hg:xs.length+ys.length≤l0.cap
      ·have hone:∀u∈bU (C.τ.aC c) ys.length us,u.oneCell'=true:=fun u hu=>by
        obtain⟨q,hq⟩:=List.getElem?_of_mem hu
        obtain⟨a1,a2,a3,a4,rfl⟩:=Dk hq hpos
        have hz:=List.getElem?_eq_getElem a2
        have hj':q % C.τ.aC c<(E C.τ c ys[q / C.τ.aC c]).cs.length:=by rw[jd];exact a3
        exact (hyp _ _ hz _ _ (List.getElem?_eq_getElem hj')).one
       have hfit:0+xs.length*C.τ.aC c+ys.length*C.τ.aC c≤arr.size:=by
        have:(xs.length+ys.length)*C.τ.aC c≤l0.cap*C.τ.aC c:=Nat.mul_le_mul_right _ hg
        rw[Nat.add_mul] at this;omega
       have hrun:(Builtin.append_ #[t,u] ty #[.slice (some ⟨l0.b,0,none⟩) xs.length l0.cap,.string q.ba]).run C.P w= .ok (.slice (some ⟨l0.b,0,none⟩) (xs.length+ys.length) l0.cap) (w.setRow l0.b (arr.toList.take (xs.length*C.τ.aC c)++bU (C.τ.aC c) ys.length us++arr.toList.drop (xs.length*C.τ.aC c+ys.length*C.τ.aC c)).toArray):=by
        have:=aDT (P:=C.P) (w:=w) t u ty e i hut dn hi' (by rw[hisz,h1c]) l0.b 0 xs.length l0.cap T arr k6 q.ba (by rw[wK];exact hg) (by rw[wK];have:=hfit;rw[h1c] at this;omega)
        rw[wK,hcell,Nat.zero_add] at this
        rw[h1c] at this ⊢
        rw[Nat.mul_one,Nat.mul_one]
        exact this
       obtain⟨arr',harr⟩:∃arr',arr'=(arr.toList.take (xs.length*C.τ.aC c)++bU (C.τ.aC c) ys.length us++arr.toList.drop (xs.length*C.τ.aC c+ys.length*C.τ.aC c)).toArray:=⟨_,rfl⟩
       rw[←harr] at hrun
       have hsize:arr'.size=arr.size:=by
        rw[harr];simp[gI];omega
       have hlo:∀j,j<xs.length*C.τ.aC c→arr'[j]?=arr[j]?:=fun j hj=>by
        rw[harr]
        simp only[List.getElem?_toArray]
        rw[List.append_assoc,List.getElem?_append_left (by simp;omega),List.getElem?_take_of_lt hj]
        simp
       have hhi:∀j,j<ys.length*C.τ.aC c→arr'[xs.length*C.τ.aC c+j]?=(bU (C.τ.aC c) ys.length us)[j]?:=fun j hj=>by
        rw[harr]
        simp only[List.getElem?_toArray]
        rw[List.append_assoc,List.getElem?_append_right (by simp;omega),List.getElem?_append_left (by rw[gI];simp;omega)]
        congr 1
        simp;omega
       have hb':(w.setRow l0.b arr').heap[l0.b]?=some (.cells arr' T (0,0)):=Uq k6
       let l:Loc:=⟨l0.b,(xs++ys).length,l0.cap,false,[]⟩
       have hnm:Names ρ (ρ++[l]):=fF
       obtain⟨hsm,hext⟩:=SM.change (b:=l0.b) (w':=w.setRow l0.b arr') h3 (fun j v e1=>by
         have hj:j<xs.length*C.τ.aC c:=by
          rcases Nat.lt_or_ge j (xs.length*C.τ.aC c) with h|h
          ·exact h
          ·rw[k10 j h] at e1;cases e1
         have:=h3.sat l0.b j v e1
         simp only[World.cell?,k6,hb',Option.isSome_none,Bool.false_eq_true,if_false] at this ⊢
         rw[hlo j hj];exact this)
        ⟨rfl,rfl,rfl,by simp,fun c _ hc=>setRow_other w l0.b c arr' (by simpa using hc)⟩ (fun c hc=>setRow_other w l0.b c arr' hc)
       have hrow2:Row C.τ M (ρ++[l]) c (xs++ys) (fun j=>arr'[j]?):=
        Row.cat ((k8.mono .rfl hnm).congr fun q hq=>(hlo q hq).symm) (((Row.of hyp).mono .rfl hnm).congr fun q hq=>(hhi q hq).symm)
       obtain⟨M',g1,g2,g3⟩:=yM (m:=s.nx) (hs:=[]) (cap:=l0.cap) hsm hb' kp (by rw[List.length_append];exact hg) h47 (by rw[hsize];exact k7) hrow2 (fun j hj=>k10 j (by rw[List.length_append,Nat.add_mul] at hj;omega)) (by rw[←hl];simp[l])
       have hx2:Ext (Or++O2) M M' w (w.setRow l0.b arr'):=⟨g2.le,hext.heap,g2.mem⟩
       refine fin _ l M' [l0.b] Or ?_ g2.le (he'.ext hnm (iM.app h2) hx2) g3 (iM.ext hnm (hx2.sub fun b hb=>List.mem_append_left _ hb)) (h2.ext hnm (hx2.sub fun b hb=>List.mem_append_right _ hb)) g1
       rw[hax,ey,hsl]
       have e2:l.sl= .slice (some ⟨l0.b,0,none⟩) (xs.length+ys.length) l0.cap:=by simp[l,Loc.sl]
       rw[e2]
       exact bQ hrun
      ·refine new (some ⟨l0.b,0,none⟩) l0.cap (arr.toList.take (xs.length*C.τ.aC c)) (by rw[hax,hsl]) (by omega) (by simp;omega) (fun j v hv=>⟨rfl,?_⟩) hrow
       have hj:j<xs.length*C.τ.aC c:=by
        have:=(List.getElem?_eq_some_iff.1 hv).1
        simp at this;omega
       rw[List.getElem?_take_of_lt hj] at hv
       simpa [World.cell?,k6,sb,so] using hv
   have keep:∀(m:Option Nat) (zs:List Int),Keep s (s.newL C m (.int .u8) zs):=fun m zs=>⟨rfl,rfl,fun t=>rfl⟩
   have aop:=fun xs=>main (.int .u8) (bI q) xs (fun i _=> .int .u8 ((bI q).getD i 0)) rfl (by rw[Str.Bd];exact (List.length_map _).symm) (aIL q) (fun M ρ i z hz j u hu=>by
    have hj:j=0:=by
     have:=(List.getElem?_eq_some_iff.1 hu).1
     have:j<1:=this
     omega
    subst hj
    have hu:some (SV.i .u8 z)=some u:=hu
    cases hu
    have:(bI q).getD i 0=z:=by simp[List.getD_eq_getElem?_getD,hz]
    rw[this]
    exact .i)
   split at h
   ·rename_i hsz
    obtain⟨hok,h⟩:=jZ h
    exact⟨_,_,h,keep _ _,aop [] none (Nat.eq_of_beq_eq_true (gM hsz).1) (gM hsz).2 hok (.inl ⟨rfl,rfl,rfl⟩)⟩
   ·rename_i m hsz
    split at h
    ·rename_i q' hm
     split at h
     ·rename_i xs hxs
      obtain⟨hok,h⟩:=jZ h
      refine⟨_,_,h,keep _ _,aop xs (some m) (Nat.eq_of_beq_eq_true (gM hsz).1) (gM hsz).2 hok (.inr ⟨m,rfl,rfl,?_⟩)⟩
      rcases adQ hxs with rfl|rfl
      ·exact .inl hm
      ·exact .inr hm
     ·cases h
    ·cases h
   ·cases h
 ·cases h
end
end Go.R
namespace Go.R
open Go.RowKit Go.Dc
def u8(c:Int):UInt8:=UInt8.ofNat c.toNat
def u8b(c:Int):Bool:=decide (0<=c/\c<=255)
theorem aqI{c:Int}(h:u8b c=true):((u8 c).toNat:Int)=c:=by
 simp only[u8b,decide_eq_true_eq] at h;have:(UInt8.ofNat c.toNat).toNat=c.toNat:=by rw[UInt8.toNat_ofNat'];omega
 show (((UInt8.ofNat c.toNat).toNat:Nat):Int)=c;rw[this];omega
def sB(xs:List Int):Str:=⟨xs.map u8⟩
def Um(n:Int)(xs:List Int):Bool:=decide (n=xs.length)&&(!xs.isEmpty)&&xs.all u8b
section
variable {β:Type}(C:Cf)(s:Sg C.τ.S)
def usT(t:TypeId):Bool:=match C.P.underlying t with|some (.pointer e)=>Nat.beq e C.τ.t8&&Nat.beq (C.P.cellsOf e) 1|_=>false
def Yj(t:TypeId)(x y:Operand)(K:SV C.τ.S->Sg C.τ.S->Option β):Option β:=match s.gets [] x,s.gets [] y,usT C t with
 |some (.e m 1 (.ofNat 0) 0),some (.i .i64 n),true=>match bq s.Th m with
  |some (.ls (.int .u8) xs)=>ah (Um n xs) (K (.st (sB xs)) ⟨s.B,s.T,s.Bh,dK m s.Th,s.nx⟩)
  |_=>none
 |_,_,_=>none
end
theorem awq{w:World}{a p:Addr}{n:Nat}:(w.freeze a n).cell? p=w.cell? p:=by
 unfold World.freeze;split;·rfl
 ·by_cases e:a.block=p.block;·cases h:w.heap[p.block]? with|none=>simp[World.cell?,Array.getElem?_modify,e,h]|some o=>cases o<;>simp[World.cell?,Array.getElem?_modify,e,h]
  ·simp[World.cell?,Array.getElem?_modify,e]
theorem aiJ{w:World}{a:Addr}{n k:Nat}(h:k≠a.block):(w.freeze a n).heap[k]?=w.heap[k]?:=by
 unfold World.freeze;split;·rfl
 ·simp only[Array.getElem?_modify];rw[if_neg (λe=>h e.symm)]
theorem awt{w:World}{a:Addr}{n:Nat}:(w.freeze a n).heap.size=w.heap.size:=by
 unfold World.freeze;split;·rfl
 ·simp
theorem awr{w:World}{a:Addr}{n:Nat}:Frame [a.block] w (w.freeze a n):=by refine⟨?_,?_,?_,by rw[awt];exact Nat.le_refl _,λk _ b=>aiJ (by simpa using b)⟩<;>(unfold World.freeze;split<;>rfl)
theorem Bu{S:Nat->Type}{m:Nat}{q:Nat×SO S}:∀{H:Heap S},q∈dK m H->q∈H
 |[],h=>by cases h
 |x::r,h=>by
  unfold dK at h
  split at h
  ·exact List.mem_cons_of_mem _ h
  ·rcases List.mem_cons.1 h with rfl|h
   ·exact List.mem_cons_self
   ·exact List.mem_cons_of_mem _ (Bu h)
section
variable {β:Type}{C:Cf}{s s':Sg C.τ.S}{G p:List (Nat×Bool)}{g:Option Bool}{M M':Mem}{ρ ρ' ρ0:List Loc}{H R:Heap C.τ.S}{w w':World}{a:Act}{O O' O1 O2:List Nat}{y:β}{n nx:Nat}{κ:Ctx C.τ}{Γ:Env C.τ.S}{Q:Exit->Act->World->Prop}
theorem aII{t u:TypeId}{x z:Operand}{K:SV C.τ.S->Sg C.τ.S->Option β}(h:Yj C s t x z K=some y):∃v s',K v s'=some y/\Keep s s'/\Step C n κ ρ0 G s (.call ⟨.builtin .unsafeString, #[x,z], #[t,u]⟩) (some v) s':=by
 unfold Yj at h;split at h
 ·rename_i m nn hx hz I;split at h
  ·rename_i xs hm;obtain⟨r,h⟩:=jZ h;simp only[Um,Bool.and_eq_true,decide_eq_true_eq,Bool.not_eq_true',List.all_eq_true] at r;obtain⟨⟨p,d⟩,k⟩:=r;have d:xs≠[]:=λe=>by rw[e] at d;cases d
   refine⟨_,_,h,⟨rfl,rfl,λt=>rfl⟩,λK Q M w a dst ty pos aM gd ⟨h0,ρ,O1,O2,hn,hl,he,h1,h2,O⟩ hk=>?_⟩;have B:=fQ he h1 h2 O;have E:=B.rv hx;have F:=B.rv hz;obtain⟨O',g1,g2⟩:=h1.perm (vZ hm);cases g1 with|cons g3 g4=>
   rename_i H;cases g3 with|iR _ _=>exact absurd rfl d| @ls _ _ T l arr e2 k1 k2 k3 k4 k5 k6 k7 k8 k9 aa=>
   have hT:T=C.τ.t8:=Nat.eq_of_beq_eq_true k3.2;subst hT;obtain⟨cs,W⟩:=BD a.eval .unsafeString x z #[t,u] dst ty pos aM gd;generalize R:a.eval x=ax at E;generalize U:a.eval z=az at F;cases E with| @e _ _ _ _ l' e1=>
   rw[e2] at e1;cases e1;cases F;have g:=O.perm g2;have g:SM κ M w (l.b::H) O2:=g;have X:∀c,c≠l.b->(w.freeze ⟨l.b,0,none⟩ (xs.map u8).length).heap[c]?=w.heap[c]?:=λc hc=>aiJ hc;obtain⟨q1,q2⟩:=SM.change (b:=l.b) (O1:=H) (w':=w.freeze ⟨l.b,0,none⟩ (xs.map u8).length) g (λj v e=>by rw[awq];exact O.sat _ _ _ e) (awr (a:=⟨l.b,0,none⟩)) X;have q3:SM κ M (w.freeze ⟨l.b,0,none⟩ (xs.map u8).length) H O2:=q1.GD (List.sublist_cons_self _ _)
   have J:C.P.underlying t=some (.pointer C.τ.t8)/\C.P.cellsOf C.τ.t8=1:=by
    unfold usT at I;split at I;·rename_i e J;obtain⟨L,a2⟩:=gM I;have L:=Nat.eq_of_beq_eq_true L;subst L;exact⟨J,Nat.eq_of_beq_eq_true a2⟩
    ·cases I
   have Y:xs.length<=arr.size:=by have h7:l.cap*1<=arr.size:=k7;omega
   have D:=Lib.run_unsafeString_row (P:=C.P) w t u ty C.τ.t8 J.1 J.2 l.b arr.size (by simp[World.shape?,k6]) (xs.map u8) (by simpa using d) (by rw[List.length_map];exact Y) (by rw[List.length_map];omega) (λj b o=>by
    rw[List.getElem?_map] at o
    cases f:xs[j]? with
    |none=>rw[f] at o;cases o
    |some z=>
     rw[f] at o;cases o;obtain⟨v,f1,f2⟩:=k8 j z f 0 (.i .u8 z) rfl;cases f2;have f1:arr[j*1+0]?=some (.int .u8 z):=f1;rw[Nat.mul_one,Nat.add_zero] at f1;have Z:=k z (List.mem_of_getElem? f);have e8:(Value.int .u8 ((u8 z).toNat:Int))= .int .u8 z:=by rw[aqI Z]
     show w.cell? ((⟨l.b,0,none⟩:Addr).add j)=some (Value.int .u8 ((u8 z).toNat:Int));rw[e8];have ea:(⟨l.b,0,none⟩:Addr).add j=⟨l.b,0+j,none⟩:=Addr.add_lit _ _ _;rw[ea,Nat.zero_add];simp only[World.cell?,k6];simpa using f1)
   unfold Oper.wp;rw[W,R,U];have e3:(.int .i64 nn:Value)= .int .i64 ((xs.map u8).length:Int):=by rw[List.length_map,p]
   rw[e3];have N:(builtin .unsafeString #[t,u] ty cs #[.pointer (some ⟨l.b,0*1+0,none⟩),.int .i64 ((xs.map u8).length:Int)]).run C.P w= .ok (.value (.string ⟨(xs.map u8).toArray⟩)) (w.freeze ⟨l.b,0,none⟩ (xs.map u8).length):=bQ D;have e4:(Int.ofNat 0).toNat*1+0=0*1+0:=rfl;rw[e4,N];refine hk M _ (.string (sB xs).ba) ρ H O2 hn hl ((he.perm λq A=>?_).ext (λ_ _ h=>h) (g4.app h2) q2) (g4.ext (λ_ _ h=>h) (q2.sub λb V=>List.mem_append_left _ V)) (h2.ext (λ_ _ h=>h) (q2.sub λb V=>List.mem_append_right _ V)) q3 λv e=>by cases e;exact .v .st
   rcases List.mem_append.1 A with A|A;·exact List.mem_append_left _ (Bu A)
   ·exact List.mem_append_right _ A
  ·cases h
 ·cases h
end
end Go.R
namespace Go.R
open Go.RowKit Go.Dc
section
variable {β:Type}(C:Cf)(s:Sg C.τ.S)
def adS(t:TypeId)(ps:List (Nat×Operand)):Option (Nat×Operand):=match C.am,C.P.underlying t,ps with
 |true,some (.slice e),[(0,x)]=>match C.cd e with
  |some (.st i)=>match C.rj i,s.gets [] x with
   |some jj,some (.c cs)=>match cs[jj]? with|some .nl=>some (jj,x)|_=>none
   |_,_=>none
  |_=>none
 |_,_,_=>none
def Yb(t:TypeId)(n jj:Nat)(x:Operand)(K:SV C.τ.S->Sg C.τ.S->Option β):Option β:=match qP C.P t,s.gets [] x with
 |some (e,sz,_),some (.c cs)=>match C.cd e,cs[jj]? with
  |some c,some .nl=>match EP C s c [x] with
   |some [z]=>match (E C.τ c z).cs[jj]? with
    |some (.l d [])=>match Nat.beq sz (C.τ.aC c)&&pF C.τ c e,Nat.beq n 1,Nat.ble sz 16777216 with
     |true,true,true=>K (.o s.nx) ⟨s.B,s.T,s.Bh,(s.nx,.rr c jj [z] (s.nx+1) none)::s.Th,s.nx+2⟩
     |_,_,_=>none
    |_=>none
   |_=>none
  |_,_=>none
 |_,_=>none
def aif(t:TypeId)(n:Nat)(ps:List (Nat×Operand))(K:SV C.τ.S->Sg C.τ.S->Option β):Option β:=match adS C s t ps with|some q=>Yb C s t n q.1 q.2 K|none=>Ji C (s.mE (ps.map (·.2))) t n ps K
def X8(t:TypeId)(x:Operand)(k:Nat)(K:SV C.τ.S->Sg C.τ.S->Option β):Option β:=match qP C.P t,s.gets [] x,bq s.Th k with
 |some (e,sz,bJ),some b,some (.rr c jj ys _ none)=>match (Nat.beq sz (C.τ.aC c)&&pF C.τ c e)&&Nat.blt 0 ys.length,b with
  |true,.nl=>ah (aS bJ ys.length) (K (.o s.nx) ⟨s.B,s.T,s.Bh,(s.nx,.rr c jj ys (s.nx+1) none)::dK k s.Th,s.nx+2⟩)
  |true,.o m=>match bq (dK k s.Th) m with
   |some (.rr a d xs _ none)=>match Cd.eq a c,Nat.beq d jj with
    |some ⟨h⟩,true=>ah (aS bJ ((h▸xs:List (c.ty C.τ.S))++ys).length) (K (.o s.nx) ⟨s.B,s.T,s.Bh,(s.nx,.rr c jj ((h▸xs:List (c.ty C.τ.S))++ys) (s.nx+1) none)::dK m (dK k s.Th),s.nx+2⟩)
    |_,_=>none
   |_=>none
  |_,_=>none
 |_,_,_=>none
def aeP(y:Operand):Option Nat:=match C.am with
 |false=>none
 |true=>match s.gets [] y with
  |some (.o k)=>match bq s.Th k with|some (.rr _ _ _ _ none)=>some k|_=>none
  |_=>none
end
section
variable {β:Type}{C:Cf}{s s':Sg C.τ.S}{G p:List (Nat×Bool)}{g:Option Bool}{M M':Mem}{ρ ρ' ρ0:List Loc}{H R:Heap C.τ.S}{w w':World}{a:Act}{O O' O1 O2:List Nat}{y:β}{n nx:Nat}{κ:Ctx C.τ}{Γ:Env C.τ.S}{Q:Exit->Act->World->Prop}
theorem aC2{c:Cd}{jj:Nat}{zs:List (c.ty C.τ.S)}{arr:Array Value}{e cap:Nat}{vs:List Value}(H:Names ρ0 ρ)(r:ρ.length=s.nx)(F:RE C.τ M ρ G (s.Th++s.Bh) w a (s.T++s.B))(h1:RH C.τ M ρ w s.Th O1)(h2:RH C.τ M ρ w s.Bh O2)(z:SM κ M w O1 O2)(h0:Pos C.τ c e)(E:zs.length<=cap)(p:zs.length<=140737488355328)(t:cap*C.τ.aC c<=arr.size)(I:Row C.τ M ρ c zs (λj=>arr[j]?))(K:∀(i:Nat) v,vs[i]?=some v->arr[i*C.τ.aC c+jj]?=some v)(J:dh C.τ M ρ w c jj none 0 zs vs []):∃f y,Names ρ0 f/\f.length=s.nx+2/\RE C.τ M f G (((s.nx,SO.rr c jj zs (s.nx+1) none)::s.Th)++s.Bh) (w.alloc (.cells arr e)) a (s.T++s.B)/\RH C.τ M f (w.alloc (.cells arr e)) ((s.nx,.rr c jj zs (s.nx+1) none)::s.Th) y/\RH C.τ M f (w.alloc (.cells arr e)) s.Bh O2/\SM κ M (w.alloc (.cells arr e)) y O2/\f[s.nx]?=some ⟨w.heap.size,zs.length,cap,false,[]⟩:=by
 obtain⟨D,o⟩:=z.alloc (.cells arr e);let l:Loc:=⟨w.heap.size,zs.length,cap,false,[]⟩;let lh:Loc:=⟨0,0,0,true,vs⟩;have d:Names ρ (ρ++[l,lh]):=λm q A=>by rw[List.getElem?_append_left (List.getElem?_eq_some_iff.1 A).1];exact A
 have g:(ρ++[l,lh])[s.nx]?=some l:=by rw[<-r];simp
 have k:(ρ++[l,lh])[s.nx+1]?=some lh:=by rw[<-r];simp
 have u:Ext [] M M w (w.alloc (.cells arr e)):=o.sub λb n=>by cases n
 exact⟨ρ++[l,lh],w.heap.size::O1,H.trans d,by simp[r],(F.ext d (h1.app h2) o).more (x:= .rr c jj zs (s.nx+1) none) (λ_ _ h=>by cases h),.cons (.rr (l:=l) (lh:=lh) g rfl rfl h0 E p (heap_alloc_new w _) t (I.mono .rfl d) (λj=>z.sat.kE (Nat.le_refl _)) k K (J.ext d u)) (h1.ext d (o.sub λb n=>List.mem_append_left _ n)),h2.ext d (o.sub λb n=>List.mem_append_right _ n),D,g⟩
theorem aIA{t:TypeId}{m jj:Nat}{x:Operand}{K:SV C.τ.S->Sg C.τ.S->Option β}(h:Yb C s t m jj x K=some y):∃v s',K v s'=some y/\Keep s s'/\Step C n κ ρ0 G s (.buildSlice t m #[(0,x)]) (some v) s':=by
 unfold Yb at h;split at h
 ·rename_i e sz bJ cs A I;obtain⟨A,aa⟩:=u6 A;obtain⟨H,i,zv,D,f,mH,J,ab,j⟩:=u7 A;split at h
  ·rename_i c hc E;split at h
   ·rename_i z p;split at h
    ·rename_i d B;split at h
     ·rename_i r L N;obtain⟨r,F⟩:=gM r;have r:=Nat.eq_of_beq_eq_true r;have L:=Nat.eq_of_beq_eq_true L;have N:=Nat.le_of_ble_eq_true N;subst r L;refine⟨_,_,h,⟨rfl,rfl,λt=>rfl⟩,λK Q M w a dst ty pos aM gd ⟨h0,ρ,O1,O2,hn,hl,T,h1,h2,R⟩ hk=>?_⟩;have k:=fQ T h1 h2 R;obtain⟨e1,W,X,Y⟩:=O9 k p;have b:(a.eval x).cells.toList[jj]?=some (.slice none 0 0):=by have U:=k.gets I;generalize a.eval x=ax at U;cases U with|v g=>cases g|c g=>obtain⟨q,f1,f2⟩:=g.get E;cases f2;simpa [Value.cells] using f1
      have b:(([x].map a.eval).flatMap λv=>v.cells.toList)[jj]?=some (.slice none 0 0):=by simpa using b
      obtain⟨O,V,g1,g2,g3,g4,g5,g6,g7⟩:=aC2 (c:=c) (jj:=jj) (zs:=[z]) (cap:=1) (s:=s) (e:=e) (vs:=[.slice none 0 0]) (arr:=(([x].map a.eval).flatMap λv=>v.cells.toList).toArray) hn hl T h1 h2 R ⟨j,F⟩ (Nat.le_refl _) sm (by rw[List.size_toArray,X];simp) (by simpa using Y)
       (λi v g=>by
        cases i with
        |zero=>simp at g;subst g;simpa using b
        |succ i=>simp at g)
       (.own (o:=[]) (os:=[]) sm B .nil .nil)
      have l:(execOp a.eval ⟨dst,.buildSlice t 1 #[(0,x)],ty,pos,aM,gd⟩).run C.P w=
        .ok (.value (.slice (some ⟨w.heap.size,0,none⟩) 1 1)) (w.alloc (.cells (([x].map a.eval).flatMap λv=>v.cells.toList).toArray e)):=by
       show (Instr.buildSlice t 1 (#[(0,x)].map λ(i,x)=>(i,a.eval x)) >>= λv=>pure (Next.value v)).run C.P w=_
       have Z:(#[(0,x)].map λ(i,x)=>(i,a.eval x))=(nH 0 ([x].map a.eval)).toArray:=by simp[nH]
       rw[Z]
       exact bQ (run_buildSlice (xs:=[x].map a.eval) H D J (by rw[f];exact W) (by rw[f];simpa using N) w)
      unfold Oper.wp;rw[l];exact hk M _ _ O V O2 g1 g2 g3 g4 g5 g6 λu e=>by cases e;exact .v (.o g7)
     ·cases h
    ·cases h
   ·cases h
  ·cases h
 ·cases h
theorem dh.at{τ:Tb}{c:Cd}{jj k k':Nat}{xs:List (c.ty τ.S)}{vs:List Value}{O:List Nat}(h:dh τ M ρ w c jj none k xs vs O):dh τ M ρ w c jj none k' xs vs O:=by generalize a:(none:Option Int)=ho at h;induction h generalizing k' with|nil=>exact .nil|own _ h1 h2 _ b=>subst a;exact .own sm h1 h2 b|hole h1 _ _=>subst a;cases h1
theorem dh.app{τ:Tb}{c:Cd}{jj k:Nat}{xs ys:List (c.ty τ.S)}{vs us:List Value}{O O':List Nat}(h:dh τ M ρ w c jj none k xs vs O)(b:dh τ M ρ w c jj none 0 ys us O'):dh τ M ρ w c jj none k (xs++ys) (vs++us) (O++O'):=by generalize a:(none:Option Int)=ho at h;induction h with|nil=>subst a;exact b.at|own _ h1 h2 _ d=>subst a;rw[List.append_assoc];exact .own sm h1 h2 d|hole h1 _ _=>subst a;cases h1
theorem RH.aqF{m:Nat}{x:SO C.τ.S}(h:RH C.τ M ρ w H O)(e:bq H m=some x):∃b a,RO C.τ M ρ w m x b/\RH C.τ M ρ w (dK m H) a/\O.Perm (b++a):=by obtain⟨a,h1,h2⟩:=h.perm (vZ e);cases h1 with|cons c d=>exact⟨_,_,c,d,h2⟩
theorem aDN{n m i j:Nat}{us:Nat->Nat->Value}(hi:i<m)(a:j<n):(bU n m us)[i*n+j]?=some (us i j):=by
 have h1:i*n+j<m*n:=by have:(i+1)*n<=m*n:=Nat.mul_le_mul_right _ hi;rw[Nat.add_mul] at this;omega
 have d:0<n:=by omega
 have b:(i*n+j) / n=i:=by rw[Nat.mul_comm,Nat.mul_add_div d,Nat.div_eq_of_lt a];rfl
 have c:(i*n+j) % n=j:=by rw[Nat.mul_comm,Nat.mul_add_mod,Nat.mod_eq_of_lt a]
 simp[bU,h1,b,c]
theorem aIw{t:TypeId}{x z:Operand}{k:Nat}{K:SV C.τ.S->Sg C.τ.S->Option β}(hz:s.gets [] z=some (.o k))(h:X8 C s t x k K=some y):∃v s',K v s'=some y/\Keep s s'/\Step C n κ ρ0 G s (.call ⟨.builtin .append, #[x,z], #[t,t]⟩) (some v) s':=by
 unfold X8 at h;split at h
 ·rename_i e sz bJ vx c jj ys hk dz hx ci;obtain⟨dz,b9⟩:=u6 dz;obtain⟨b1,i,zv,bw,ae,mH,cq,cp,aw⟩:=u7 dz
  have bh:∀(xs:List (c.ty C.τ.S)) (Hr:Heap C.τ.S),sz=C.τ.aC c->pF C.τ c e=true->0<ys.length->aS bJ (xs++ys).length=true->(∀q∈Hr,q∈s.Th)->(vx= .nl/\xs=[]/\Hr=dK k s.Th\/∃m' bz,vx= .o m'/\bq (dK k s.Th) m'=some (.rr c jj xs bz none)/\Hr=dK m' (dK k s.Th))->
    Step C n κ ρ0 G s (.call ⟨.builtin .append, #[x,z], #[t,t]⟩) (some (.o s.nx)) ⟨s.B,s.T,s.Bh,(s.nx,.rr c jj (xs++ys) (s.nx+1) none)::Hr,s.nx+2⟩:=by
   intro xs Hr N ck an Z BO bi K Q M w a dst ty pos aM gd ⟨h0,ρ,O1,O2,hn,hl,he,h1,h2,h3⟩ hk
   subst N
   have Z:(xs.length+ys.length)*bJ<=140737488355328:=by simpa [aS] using Z
   have cx:(xs.length+ys.length)*1<=(xs.length+ys.length)*bJ:=Nat.mul_le_mul_left _ b9
   have b7:(xs++ys).length<=140737488355328:=by rw[List.length_append];omega
   have a9:=fQ he h1 h2 h3
   obtain⟨cs,cb⟩:=BD a.eval .append x z #[t,t] dst ty pos aM gd
   obtain⟨Ok,Ow,bL,b2,bm⟩:=h1.aqF ci
   cases bL with
   |jg=>simp at an
   | @rr _ _ _ _ Tk _ lk Sw EB nS f1 q1 q2 q3 q4 q5 q6 q7 q8 q9 lG ct Lb=>
   have ez:a.eval z= .slice (some ⟨lk.b,0,none⟩) ys.length lk.cap:=by
    have H:=a9.gets hz
    generalize a.eval z=az at H
    cases H with
    |v H=>cases H with
     |o O=>rw[f1] at O;cases O;simp[Loc.sl,q1,q2]
   let us:Nat->Nat->Value:=λi j=>(EB[i*C.τ.aC c+j]?).getD undef
   have b3:∀(i:Nat) z,ys[i]?=some z->∀(j:Nat) u,(E C.τ c z).cs[j]?=some u->EB[i*C.τ.aC c+j]?=some (us i j)/\RV C.τ M ρ u (us i j):=λi z hz j u hu=>by
    obtain⟨v,g1,g2⟩:=q8 i z hz j u hu
    have g1:EB[i*C.τ.aC c+j]?=some v:=g1
    simp only[us,g1,Option.getD_some]
    exact⟨trivial,g2⟩
   have bH:(bU (C.τ.aC c) ys.length us).length=ys.length*i.size:=by rw[gI,ae]
   have cf:∀q,q<ys.length*C.τ.aC c->q<EB.size:=λq r=>Nat.lt_of_lt_of_le r (Nat.le_trans (Nat.mul_le_mul_right _ q4) q7)
   have dn:∀q v,(bU (C.τ.aC c) ys.length us)[q]?=some v->EB[q]?=some v:=λq v J=>by
    obtain⟨a1,a2,a3,a4,rfl⟩:=Dk J aw
    simp only[us]
    rw[<-a4,Array.getElem?_eq_getElem (cf q a1)]
    rfl
   have aq:∀j v,(bU (C.τ.aC c) ys.length us)[j]?=some v->(some ⟨lk.b,0,none⟩:Option Addr)=some ⟨sb (some ⟨lk.b,0,none⟩),so (some ⟨lk.b,0,none⟩),none⟩/\w.cell? ⟨sb (some ⟨lk.b,0,none⟩),so (some ⟨lk.b,0,none⟩)+j,none⟩=some v:=λj v J=>by
    refine⟨rfl,?_⟩
    simpa [World.cell?,q6,sb,so] using dn j v J
   have take:∃(Ef R W:List Nat) (nW:List Value),O1.Perm (Ef++(lk.b::(R++nS++W)))/\RH C.τ M ρ w Hr W/\dh C.τ M ρ w c jj none 0 xs nW R/\nW.length=xs.length/\((a.eval x= .slice none 0 0/\xs=[]/\Ef=[])\/
     ∃(F:Loc) (Y:Array Value) (Tx:Nat),Ef=[F.b]/\a.eval x= .slice (some ⟨F.b,0,none⟩) xs.length F.cap/\Pos C.τ c Tx/\xs.length<=F.cap/\w.heap[F.b]?=some (.cells Y Tx (0,0))/\F.cap*C.τ.aC c<=Y.size/\Row C.τ M ρ c xs (λj=>Y[j]?)/\(∀j,M F.b j=none)/\∀(i:Nat) v,nW[i]?=some v->Y[i*C.τ.aC c+jj]?=some v):=by
    rcases bi with ⟨O,e2,e3⟩|⟨m',bz,O,e2,e3⟩
    ·subst O e2 e3
     refine⟨[],[],Ow,[],by simpa using bm,b2,.nil,rfl,.inl ⟨?_,rfl,rfl⟩⟩
     have H:=a9.gets hx
     generalize a.eval x=ax at H
     cases H with
     |v H=>cases H;rfl
    ·subst O e3
     obtain⟨Om,W,cm,b0,bY⟩:=b2.aqF e2
     cases cm with
     |jg yV r1=>
      refine⟨[],[],W,[],by simpa using bm.trans (bY.append_left _),b0,.nil,rfl,.inl ⟨?_,rfl,rfl⟩⟩
      have H:=a9.gets hx
      generalize a.eval x=ax at H
      cases H with
      |v H=>cases H with
       |o O=>rw[yV] at O;cases O;simp[Loc.sl,r1]
     | @rr _ _ _ _ Tx _ F cr Y R yV r1 r2 r3 r4 r5 r6 r7 r8 r9 cE cw b6=>
     refine⟨[F.b],R,W,cr.hs,?_,b0,b6,b6.len,.inr ⟨F,Y,Tx,rfl,?_,r3,r4,r6,r7,r8,r9,cw⟩⟩
     ·refine bm.trans ?_
      have O:((lk.b::nS)++Ow).Perm ((lk.b::nS)++((F.b::R)++W)):=bY.append_left _
      refine O.trans ?_
      refine List.perm_iff_count.2 λb=>?_
      simp only[List.count_append,List.count_cons,List.count_nil]
      omega
     ·have H:=a9.gets hx
      generalize a.eval x=ax at H
      cases H with
      |v H=>cases H with
       |o O=>rw[yV] at O;cases O;simp[Loc.sl,r1,r2]
   obtain⟨Ef,R,W,nW,BR,iM,bp,br,cc⟩:=take
   have h3:=h3.perm BR
   have ce:RE C.τ M ρ G (Hr++s.Bh) w a (s.T++s.B):=he.perm λq r=>by
    rcases List.mem_append.1 r with r|r
    ·exact List.mem_append_left _ (BO q r)
    ·exact List.mem_append_right _ r
   have cy:∀{w':World}{X:List Nat},SM κ M w' (X++(lk.b::(R++nS++W))) O2->SM κ M w' (X++(R++nS++W)) O2:=λ{w' X} h=>by
    refine⟨h.tab,h.frame,h.sat,h.le,h.new,?_,λb A=>h.own b ?_,h.red⟩
    ·refine h.nodup.sublist (List.Sublist.append_right (List.Sublist.append_left (List.sublist_cons_self _ _) _) _)
    ·rcases List.mem_append.1 A with A|A
     ·exact List.mem_append_left _ A
     ·exact List.mem_append_right _ (List.mem_cons_of_mem _ A)
   have fin:∀(w':World) (lb cap T':Nat) (g:Array Value),(builtin .append #[t,t] ty cs #[a.eval x,a.eval z]).run C.P w= .ok (.value (.slice (some ⟨lb,0,none⟩) (xs++ys).length cap)) w'->Pos C.τ c T'->(xs++ys).length<=cap->
     w'.heap[lb]?=some (.cells g T' (0,0))->cap*C.τ.aC c<=g.size->Row C.τ M ρ c (xs++ys) (λj=>g[j]?)->(∀(i:Nat) v,(nW++Sw.hs)[i]?=some v->g[i*C.τ.aC c+jj]?=some v)->(∀j,M lb j=none)->
     Ext ((R++nS++W)++O2) M M w w'->SM κ M w' (lb::(R++nS++W)) O2->
     Oper.wp C.P ⟨dst,.call ⟨.builtin .append, #[x,z], #[t,t]⟩,ty,pos,aM,gd⟩ a w K Q:=by
    intro w' lb cap T' g L g0 g1 g2 g3 g4 g5 g6 bb I
    unfold Oper.wp
    rw[cb,L]
    let l:Loc:=⟨lb,(xs++ys).length,cap,false,[]⟩
    let lh:Loc:=⟨0,0,0,true,nW++Sw.hs⟩
    have af:Names ρ (ρ++[l,lh]):=λm q r=>by rw[List.getElem?_append_left (List.getElem?_eq_some_iff.1 r).1];exact r
    have be:(ρ++[l,lh])[s.nx]?=some l:=by rw[<-hl];simp
    have bj:(ρ++[l,lh])[s.nx+1]?=some lh:=by rw[<-hl];simp
    have ht:dh C.τ M (ρ++[l,lh]) w' c jj none 0 (xs++ys) (nW++Sw.hs) (R++nS):=(bp.app Lb).ext af (bb.sub λb A=>List.mem_append_left _ (List.mem_append_left _ A))
    refine hk M w' l.sl (ρ++[l,lh]) (lb::(R++nS)++W) O2 (hn.trans af) (by simp[hl]) ((ce.ext af (iM.app h2) (bb.sub λb A=>?_)).more (x:= .rr c jj (xs++ys) (s.nx+1) none) λ_ _ h=>by cases h)
     (.cons (o:=lb::(R++nS)) (.rr (l:=l) (lh:=lh) be rfl rfl g0 g1 b7 g2 g3 (g4.mono .rfl af) g6 bj g5 ht) (iM.ext af (bb.sub λb A=>List.mem_append_left _ (List.mem_append_right _ A)))) (h2.ext af (bb.sub λb A=>List.mem_append_right _ A)) I λu e=>by cases e;exact .v (.o be)
    rcases List.mem_append.1 A with A|A
    ·exact List.mem_append_left _ (List.mem_append_right _ A)
    ·exact List.mem_append_right _ A
   have ab:∀(f:Nat->Option Value),(∀q,q<xs.length*C.τ.aC c->∀(i:Nat) v,nW[i]?=some v->q=i*C.τ.aC c+jj->f q=some v)->(∀q,q<ys.length*C.τ.aC c->f (xs.length*C.τ.aC c+q)=(bU (C.τ.aC c) ys.length us)[q]?)->
     ∀(i:Nat) v,(nW++Sw.hs)[i]?=some v->f (i*C.τ.aC c+jj)=some v:=by
    intro f a8 a6 i v J
    have kY:∀{X:List (c.ty C.τ.S)}{V:List Value}{o:List Nat},dh C.τ M ρ w c jj none 0 X V o->∀(i:Nat) v,V[i]?=some v->jj<C.τ.aC c/\i<X.length:=λ{X V o} ht i v J=>by
     have hi:i<X.length:=by rw[<-ht.len];exact (List.getElem?_eq_some_iff.1 J).1
     obtain⟨d,_,_,_,g1,_⟩:=ht.out (List.getElem?_eq_getElem hi) J
     exact⟨by rw[<-jd c X[i]];exact (List.getElem?_eq_some_iff.1 g1).1,hi⟩
    rcases Nat.lt_or_ge i nW.length with hi|hi
    ·rw[List.getElem?_append_left hi] at J
     obtain⟨g1,g2⟩:=kY bp i v J
     refine a8 _ ?_ i v J rfl
     have:(i+1)*C.τ.aC c<=xs.length*C.τ.aC c:=Nat.mul_le_mul_right _ g2
     rw[Nat.add_mul] at this
     omega
    ·rw[List.getElem?_append_right hi] at J
     obtain⟨g1,g2⟩:=kY Lb _ v J
     have O:i*C.τ.aC c+jj=xs.length*C.τ.aC c+((i-nW.length)*C.τ.aC c+jj):=by
      rw[<-Nat.add_assoc,<-Nat.add_mul,br]
      congr 2
      omega
     have g3:(i-nW.length)*C.τ.aC c+jj<ys.length*C.τ.aC c:=by
      have:(i-nW.length+1)*C.τ.aC c<=ys.length*C.τ.aC c:=Nat.mul_le_mul_right _ g2
      rw[Nat.add_mul] at this
      omega
     rw[O,a6 _ g3,aDN g2 g1]
     have:=ct _ v J
     simp only[us,this,Option.getD_some]
   have bt:Row C.τ M ρ c ys (λq=>(bU (C.τ.aC c) ys.length us)[q]?):=Row.of λi z hz j u hu=>(b3 i z hz j u hu).2
   have new:∀(D:Option Addr) (cap:Nat) (p:List Value),a.eval x= .slice D xs.length cap->cap<xs.length+ys.length->p.length=xs.length*C.τ.aC c->
     (∀j v,p[j]?=some v->D=some ⟨sb D,so D,none⟩/\w.cell? ⟨sb D,so D+j,none⟩=some v)->Row C.τ M ρ c xs (λj=>p[j]?)->(∀(i:Nat) v,nW[i]?=some v->p[i*C.τ.aC c+jj]?=some v)->
     Oper.wp C.P ⟨dst,.call ⟨.builtin .append, #[x,z], #[t,t]⟩,ty,pos,aM,gd⟩ a w K Q:=by
    intro D cap p co H ag bk aE cn
    obtain⟨ao,U,bu,bn,L⟩:=adV (P:=C.P) (w:=w) t ty e i zv b1 bw cq D (some ⟨lk.b,0,none⟩) xs.length cap ys.length lk.cap p (bU (C.τ.aC c) ys.length us) (by rw[ag,ae]) bH bk aq H om (by rw[mH];exact Z)
    have wM:SM κ M w.drew (Ef++(lk.b::(R++nS++W))) O2:=⟨h3.tab,h3.frame.trans (F1:=[]) ⟨rfl,rfl,rfl,Nat.le_refl _,λ_ _ _=>rfl⟩ (λ_ h=>(by cases h)),h3.sat,h3.le,h3.new,h3.nodup,h3.own,h3.red⟩
    obtain⟨I,ap⟩:=wM.alloc (.cells (p.toArray++(bU (C.τ.aC c) ys.length us).toArray++U) e)
    have wL:SM κ M (w.drew.alloc (.cells (p.toArray++(bU (C.τ.aC c) ys.length us).toArray++U) e)) (w.heap.size::(R++nS++W)) O2:=by
     have hs:(w.heap.size::(R++nS++W)).Sublist (w.heap.size::(Ef++(lk.b::(R++nS++W)))):=((List.sublist_cons_self _ _).trans (List.sublist_append_right _ _)).cons₂ _
     exact⟨I.tab,I.frame,I.sat,I.le,I.new,I.nodup.sublist (hs.append (List.Sublist.refl _)),λb A=>I.own b (hs.subset A),I.red⟩
    have hA:∀q,q<xs.length*C.τ.aC c->(p.toArray++(bU (C.τ.aC c) ys.length us).toArray++U)[q]?=p[q]?:=λq r=>by
     rw[Array.append_assoc,Array.getElem?_append_left (by simpa [ag] using r)]
     simp
    have hB:∀q,q<ys.length*C.τ.aC c->(p.toArray++(bU (C.τ.aC c) ys.length us).toArray++U)[xs.length*C.τ.aC c+q]?=(bU (C.τ.aC c) ys.length us)[q]?:=λq r=>by
     rw[Array.getElem?_append_left (by simp[gI,ag];exact r),Array.getElem?_append_right (by simp[ag])]
     simp[ag]
    refine fin _ w.heap.size ao e (p.toArray++(bU (C.τ.aC c) ys.length us).toArray++U) ?_ ⟨aw,ck⟩ (by rw[List.length_append];exact bu) (by show (w.heap.push _)[w.heap.size]?=_;simp) ?_ (Row.cat (aE.congr λq r=>(hA q r).symm) (bt.congr λq r=>(hB q r).symm))
     (ab _ (λq r i v J e=>by subst e;rw[hA _ r];exact cn i v J) hB) (λj=>h3.sat.kE (Nat.le_refl _)) ⟨.rfl,λb A=>ap.heap b (by
      rcases List.mem_append.1 A with A|A
      ·exact List.mem_append_left _ (List.mem_append_right _ (List.mem_cons_of_mem _ A))
      ·exact List.mem_append_right _ A),λ_ _=>rfl⟩ wL
    ·rw[co,ez,List.length_append]
     exact bQ L
    ·simp only[Array.size_append,List.size_toArray,bn,U6,gI,cp,ag]
     rw[<-Nat.add_mul,<-Nat.add_mul]
     have:xs.length+ys.length+(ao-(xs.length+ys.length))=ao:=by omega
     rw[this];exact Nat.le_refl _
   rcases cc with ⟨a5,rfl,rfl⟩|⟨F,Y,Tx,rfl,a5,kp,k4,k6,k7,k8,b4,b5⟩
   ·exact new none 0 [] (by rw[a5];rfl) (by simpa using an) sm (λj v h=>by simp at h) (λi z h=>by simp at h) (λi v h=>by rw[List.length_eq_zero_iff.1 br] at h;simp at h)
   ·have cz:xs.length*C.τ.aC c<=Y.size:=Nat.le_trans (Nat.mul_le_mul_right _ k4) k7
    have aE:Row C.τ M ρ c xs (λj=>(Y.toList.take (xs.length*C.τ.aC c))[j]?):=k8.congr λq r=>by
     rw[List.getElem?_take_of_lt r];simp
    by_cases H:xs.length+ys.length<=F.cap
    ·have bN:∀u∈bU (C.τ.aC c) ys.length us,u.oneCell'=true:=λu hu=>by
      obtain⟨q,r⟩:=List.getElem?_of_mem hu
      obtain⟨a1,a2,a3,a4,rfl⟩:=Dk r aw
      have hz:=List.getElem?_eq_getElem a2
      have cg:q % C.τ.aC c<(E C.τ c ys[q / C.τ.aC c]).cs.length:=by rw[jd];exact a3
      exact (b3 _ _ hz _ _ (List.getElem?_eq_getElem cg)).2.one
     have bv:0+xs.length*C.τ.aC c+ys.length*C.τ.aC c<=Y.size:=by
      have:(xs.length+ys.length)*C.τ.aC c<=F.cap*C.τ.aC c:=Nat.mul_le_mul_right _ H
      rw[Nat.add_mul] at this;omega
     have L:=adU (P:=C.P) (w:=w) t ty e i b1 bw F.b 0 xs.length F.cap Tx Y k6 (some ⟨lk.b,0,none⟩) ys.length lk.cap (bU (C.τ.aC c) ys.length us) bH aq bN H (by rw[ae,gI];exact bv)
     rw[ae,gI,Nat.zero_add] at L
     obtain⟨g,aa⟩:∃g,g=(Y.toList.take (xs.length*C.τ.aC c)++bU (C.τ.aC c) ys.length us++Y.toList.drop (xs.length*C.τ.aC c+ys.length*C.τ.aC c)).toArray:=⟨_,rfl⟩
     rw[<-aa] at L
     have bo:g.size=Y.size:=by
      rw[aa];simp[gI];omega
     have a8:∀j,j<xs.length*C.τ.aC c->g[j]?=Y[j]?:=λj hj=>by
      rw[aa]
      simp only[List.getElem?_toArray]
      rw[List.append_assoc,List.getElem?_append_left (by simp;omega),List.getElem?_take_of_lt hj]
      simp
     have a6:∀j,j<ys.length*C.τ.aC c->g[xs.length*C.τ.aC c+j]?=(bU (C.τ.aC c) ys.length us)[j]?:=λj hj=>by
      rw[aa]
      simp only[List.getElem?_toArray]
      rw[List.append_assoc,List.getElem?_append_right (by simp;omega),List.getElem?_append_left (by rw[gI];simp;omega)]
      congr 1
      simp;omega
     have b8:(w.setRow F.b g).heap[F.b]?=some (.cells g Tx (0,0)):=Uq k6
     obtain⟨I,ap⟩:=SM.change (b:=F.b) (w':=w.setRow F.b g) h3 (λj v O=>by rw[b4 j] at O;cases O)
      ⟨rfl,rfl,rfl,sm,λc _ hc=>setRow_other w F.b c g (by simpa using hc)⟩ (λc hc=>setRow_other w F.b c g hc)
     refine fin _ F.b F.cap Tx g ?_ kp (by rw[List.length_append];exact H) b8 (by rw[bo];exact k7) (Row.cat (k8.congr λq r=>(a8 q r).symm) (bt.congr λq r=>(a6 q r).symm))
      (ab _ (λq r i v J e=>by subst e;rw[a8 _ r];exact b5 i v J) a6) b4 ⟨.rfl,λb A=>ap.heap b (by
       rcases List.mem_append.1 A with A|A
       ·exact List.mem_append_left _ (List.mem_cons_of_mem _ A)
       ·exact List.mem_append_right _ A),λ_ _=>rfl⟩ ?_
     ·rw[a5,ez,List.length_append]
      exact bQ L
     ·refine I.GD ?_
      exact (List.sublist_cons_self _ _).cons₂ _
    ·refine new (some ⟨F.b,0,none⟩) F.cap (Y.toList.take (xs.length*C.τ.aC c)) a5 om (by simp;omega) (λj v J=>⟨rfl,?_⟩) aE (λi v J=>?_)
     ·have hj:j<xs.length*C.τ.aC c:=by
       have:=(List.getElem?_eq_some_iff.1 J).1
       simp at this;omega
      rw[List.getElem?_take_of_lt hj] at J
      simpa [World.cell?,k6,sb,so] using J
     ·have hi:i<xs.length:=by rw[<-br];exact (List.getElem?_eq_some_iff.1 J).1
      obtain⟨d,_,_,_,g1,_⟩:=bp.out (List.getElem?_eq_getElem hi) J
      have a7:jj<C.τ.aC c:=by rw[<-jd c xs[i]];exact (List.getElem?_eq_some_iff.1 g1).1
      have:(i+1)*C.τ.aC c<=xs.length*C.τ.aC c:=Nat.mul_le_mul_right _ hi
      rw[Nat.add_mul] at this
      rw[List.getElem?_take_of_lt om]
      simpa using b5 i v J
  have keep:∀(xs:List (c.ty C.τ.S)) (Hr:Heap C.τ.S),Keep s ⟨s.B,s.T,s.Bh,(s.nx,.rr c jj xs (s.nx+1) none)::Hr,s.nx+2⟩:=λxs Hr=>⟨rfl,rfl,λt=>rfl⟩;split at h;·rename_i N;obtain⟨Z,h⟩:=jZ h;obtain⟨N,an⟩:=gM N;exact⟨_,_,h,keep _ _,bh [] _ (Nat.eq_of_beq_eq_true (gM N).1) (gM N).2 (by simpa [Nat.blt_eq] using an) Z (λq r=>Bu r) (.inl ⟨rfl,rfl,rfl⟩)⟩
  ·rename_i m N;obtain⟨N,an⟩:=gM N;split at h
   ·rename_i c' zy gu cj hm;split at h;·rename_i ca _ a7;have a7:=Nat.eq_of_beq_eq_true a7;subst ca a7;obtain⟨Z,h⟩:=jZ h;exact⟨_,_,h,keep _ _,bh gu _ (Nat.eq_of_beq_eq_true (gM N).1) (gM N).2 (by simpa [Nat.blt_eq] using an) Z (λq r=>Bu (Bu r)) (.inr ⟨m,cj,rfl,hm,rfl⟩)⟩
    ·cases h
   ·cases h
  ·cases h
 ·cases h
theorem aDR{t:TypeId}{ps:List (Nat×Operand)}{q:Nat×Operand}(h:adS C s t ps=some q):ps=[(0,q.2)]:=by
 unfold adS at h;split at h
 ·split at h
  ·split at h
   ·split at h;·cases h;rfl
    ·cases h
   ·cases h
  ·cases h
 ·cases h
theorem aJZ{y:Operand}{k:Nat}(h:aeP C s y=some k):s.gets [] y=some (.o k):=by
 unfold aeP at h;split at h;·cases h
 ·split at h
  ·rename_i b a;split at h;·cases h;exact a
   ·cases h
  ·cases h
end
end Go.R
namespace Go.R
open Go.RowKit Go.Dc
section
variable {β:Type}(C:Cf)(T:FuncId->Option (aN C.τ.S))(I:FuncId->Option (aL C.τ.S))(n:Nat)(wr:Bool)
def EO(s:Sg C.τ.S)(o:Op)(K:Option (SV C.τ.S)->Sg C.τ.S->Option β):Option β:=match o with
 | .box t x=>Ya C s t x λv s'=>K (some v) s'
 | .alloc t=>X4 C s t λv s'=>K (some v) s'
 | .store t x y=>Yi C s t x y λs'=>K none s'
 | .buildSlice t m ⟨ps⟩=>aif C s t m ps λv s'=>K (some v) s'
 | .makeSlice t x y=>Yf C s t x y λv s'=>K (some v) s'
 | .makeMap t none=>Yg C s t λv s'=>K (some v) s'
 | .mapUpdate t x y z=>Yh C s t x y z λs'=>K none s'
 | .call ⟨.builtin .append,⟨[x,y]⟩,⟨[t,u]⟩⟩=>match Nat.beq t u with
  |true=>match aeP C s y with
   |some k=>X8 C s t x k λv s'=>K (some v) s'
   |none=>X6 C (s.mE [y]) t x y λv s'=>K (some v) s'
  |false=>X9 C s t u x y λv s'=>K (some v) s'
 | .call ⟨.builtin .unsafeString,⟨[x,y]⟩,⟨[t,_]⟩⟩=>Yj C s t x y λv s'=>K (some v) s'
 | .call ⟨.value x,⟨xs⟩,_⟩=>match (match s.gets [] x with|some (.f f _)=>I f|_=>none) with
  |none=>match aiD C T I s (.call ⟨.value x,⟨xs⟩, #[]⟩) with
   |true=>Yd C T s x xs λv=>K (some v) s
   |false=>Yc C T (s.mE xs) [] x xs λv s'=>K (some v) s'
  |some _=>O6 C I s [] x xs λv s'=>K (some v) s'
 |_=>none
def dvS(τ:Tb):(cs:List Cd)->Option (aK τ.S cs)
 |[]=>some ()
 |[c]=>dv τ c
 |c::d::r=>match dv τ c with
  |some x=>match dvS τ (d::r) with|some y=>some (x,y)|none=>none
  |none=>none
def EN(s:Sg C.τ.S)(p:List (Nat×Bool))(e:Bool)(o:Op)(K:SV C.τ.S->Option β):Option β:=match o with
 | .call ⟨.value x,⟨xs⟩,_⟩=>match s.gets p x with
  |some (.f f b)=>match T f,callable C.P f,EA C s p xs with
   |some a,true,some vs=>match DS C.τ a.ins (vs++yZ s b),dvS C.τ a.outs with
    |some ps,some d=>(bC e d (a.sP ps)).bind λr=>K (gV (ES C.τ a.outs r))
    |_,_=>none
   |_,_,_=>none
  |_=>none
 |_=>none
def Jf(t:TypeId):SV C.τ.S:=match C.cd t with|some (.int k)=> .i k 0|some .bool=> .b false|some .str=> .st ⟨[]⟩|some (.list _)=> .nl|_=> .u
def FD(s:Sg C.τ.S)(p:List (Nat×Bool))(o:Op):Bool:=match o with
 | .call ⟨.value x,⟨_⟩,_⟩=>match s.gets p x with
  |some (.f f _)=>match I f with|some i=> !i.ro|none=>false
  |_=>false
 |_=>false
def yQ(s:Sg C.τ.S)(p:List (Nat×Bool))(o:Op)(K:SV C.τ.S->Sg C.τ.S->Option β):Option β:=match o with| .call ⟨.value x,⟨xs⟩,_⟩=>O6 C I s p x xs K|_=>none
def xK{S:Nat->Type}(s:Sg S):Op->Sg S| .slice _ x (some _) _ _=>s.mE [x]|_=>s
def ord(ops:List Oper):List Oper->List (Nat×Bool)->Sg C.τ.S->(Sg C.τ.S->Option β)->Option β
 |[],G,s,K=>match G with
  |[]=>K s
  |_=>K ⟨s.B,nT s.T,s.Bh,s.Th,s.nx⟩
 |o::r,G,s,K=>match o.guard with
  |none=>match nL o.op with
   |false=>match o.dst with
    |some d=>match Nat.blt d n,jv G ops d with
     |true,true=>wz C (xK s o.op) [] none G ops wr o.op λv=>ord ops r G ((xK s o.op).put d v) K
     |_,_=>none
    |none=>none
   |true=>EO C T I s o.op λv s'=>match o.dst with
    |none=>ord ops r G s' K
    |some d=>match v,Nat.blt d n,jv G ops d with
     |some v,true,true=>ord ops r G (s'.put d v) K
     |_,_,_=>none
  |some (j,w)=>match PO C G ops s j w with
   |some (a,p)=>match dM a p,o.dst with
    |some e,some d=>match Nat.blt d n,jv a ops d with
     |true,true=>match nL o.op with
      |false=>wz C s p (some e) a ops wr o.op λv=>ord ops r a (s.put d (.g p v)) K
      |true=>match FD C I s p o.op with
       |true=>cnd e (yQ C I s p o.op λv s'=>ord ops r a (s'.put d (.g p v)) K) (ord ops r a (s.put d (.g p (Jf C o.type))) K)
       |false=>EN C T s p e o.op λv=>ord ops r a (s.put d (.g p v)) K
     |_,_=>none
    |_,_=>none
   |none=>none
end
def jh{S:Nat->Type}(B:Env S):Prop:=∀t v,lk B 0 t=some v->∀p u,v≠ .g p u
def OU(C:Cf)(n:Nat)(κ:Ctx C.τ)(ρ0:List Loc)(ops:List Oper)(Q:Exit->Act->World->Prop)(G:List (Nat×Bool))(l:List Oper)(s:Sg C.τ.S):Prop:=∀M w a,SS C n κ ρ0 G s M w a->wpList C.P ops.toArray Q l a w
section
variable {β:Type}{C:Cf}{T:FuncId->Option (aN C.τ.S)}{I:FuncId->Option (aL C.τ.S)}{s s':Sg C.τ.S}{G p:List (Nat×Bool)}{M M':Mem}{ρ ρ' ρ0:List Loc}{H R:Heap C.τ.S}{w w':World}{a:Act}{O O' O1 O2:List Nat}{y:β}{n nx:Nat}{κ:Ctx C.τ}{Q:Exit->Act->World->Prop}{ops r:List Oper}{wr:Bool}
theorem O7{o:Op}{K:Option (SV C.τ.S)->Sg C.τ.S->Option β}(l:∀f c,T f=some c->FZ C.P C.τ f c)(m:∀f i,I f=some i->aF C f i)(h:EO C T I s o K=some y):tY C n κ ρ0 G s o K y:=by
 unfold EO at h;split at h;·obtain⟨v,s',h1,h2,b⟩:=aIy (n:=n) (κ:=κ) (ρ0:=ρ0) (G:=G) h;exact b.k h1 h2
 ·obtain⟨v,s',h1,h2,b⟩:=aIu (n:=n) (κ:=κ) (ρ0:=ρ0) (G:=G) h;exact b.k h1 h2
 ·obtain⟨s',h1,h2,b⟩:=aIH (n:=n) (κ:=κ) (ρ0:=ρ0) (G:=G) h;exact b.k h1 h2
 ·unfold aif at h;split at h;·rename_i q p;obtain⟨v,s',h1,h2,b⟩:=aIA (n:=n) (κ:=κ) (ρ0:=ρ0) (G:=G) h;have e:=aDR p;subst e;exact b.k h1 h2
  ·obtain⟨v,s',h1,h2,b⟩:=aIz (n:=n) (κ:=κ) (ρ0:=ρ0) (G:=G) h;exact (b.k h1 h2).kg
 ·obtain⟨v,s',h1,h2,b⟩:=aIE (n:=n) (κ:=κ) (ρ0:=ρ0) (G:=G) h;exact b.k h1 h2
 ·obtain⟨v,s',h1,h2,b⟩:=aIF (n:=n) (κ:=κ) (ρ0:=ρ0) (G:=G) h;exact b.k h1 h2
 ·obtain⟨s',h1,h2,b⟩:=aIG (n:=n) (κ:=κ) (ρ0:=ρ0) (G:=G) h;exact b.k h1 h2
 ·split at h
  ·rename_i e;have e:=Nat.eq_of_beq_eq_true e;subst e;split at h;·rename_i k d;obtain⟨v,s',h1,h2,b⟩:=aIw (n:=n) (κ:=κ) (ρ0:=ρ0) (G:=G) (aJZ d) h;exact b.k h1 h2
   intro g Q M w a dst ty pos aM j hs d;refine (aIJ h).kg g Q M w a dst ty pos aM j hs λv s' M' w' x ρ O1 O2 e=>?_;cases v with|none=>cases e|some v=>exact d (some v) s' M' w' x ρ O1 O2 e
  ·obtain⟨v,s',h1,h2,b⟩:=aIx (n:=n) (κ:=κ) (ρ0:=ρ0) (G:=G) h;exact b.k h1 h2
 ·obtain⟨v,s',h1,h2,b⟩:=aII (n:=n) (κ:=κ) (ρ0:=ρ0) (G:=G) h;exact b.k h1 h2
 ·split at h
  ·split at h;·obtain⟨v,h1,b⟩:=aIC (n:=n) (κ:=κ) (ρ0:=ρ0) (G:=G) l h;exact b.k h1 Keep.rfl
   ·obtain⟨v,s',h1,h2,b⟩:=aIB (n:=n) (κ:=κ) (ρ0:=ρ0) (G:=G) l h;exact (b.k h1 h2).kg
  ·intro g Q M w a dst ty pos aM j hs d;refine aei m (λh=>absurd rfl h) h g Q M w a dst ty pos aM j hs λv s' M' w' x ρ O1 O2 e=>?_;cases v with|none=>cases e|some v=>exact d (some v) s' M' w' x ρ O1 O2 e
 ·cases h
end
end Go.R
namespace Go.R
open Go.RowKit Go.Dc
section
variable {β:Type}{C:Cf}{T:FuncId->Option (aN C.τ.S)}{I:FuncId->Option (aL C.τ.S)}{s s':Sg C.τ.S}{G G' p:List (Nat×Bool)}{M M':Mem}{ρ ρ' ρ0:List Loc}{H R:Heap C.τ.S}{w w':World}{a:Act}{O O' O1 O2:List Nat}{y:β}{n nx:Nat}{κ:Ctx C.τ}{Q:Exit->Act->World->Prop}{ops r:List Oper}{wr:Bool}
theorem eG.keep(f:eG (C:=C) ops G s)(h:Keep s s'):eG (C:=C) ops G s':=λj b g=>by
 obtain⟨o,d,a,c,e⟩:=f j b g
 exact⟨o,d,a,c,by rw[h.tm];exact e⟩
theorem Like.refl(h:Sat M w):Like M O w w:=⟨h,λ_ _=>rfl⟩
theorem aDh{o:Oper}{d:Nat}{v:SV C.τ.S}(i:o.guard=none)(f:o.dst=some d)(e:d<n)(c:Ev C s G [] o.op v)(k:OU C n κ ρ0 ops Q G r (s.put d v)):OU C n κ ρ0 ops Q G (o::r) s:=by intro M w a ⟨h0,ρ,O1,O2,l,j,g,h1,h2,b⟩;refine wpList_plain i λK h=>?_;obtain⟨x,p,m⟩:=c M ρ _ w a _ (fQ g h1 h2 b);obtain⟨dst,op,ty,pos,aM,q⟩:=o;simp only at f;subst f;unfold Oper.wp;rw[m w (Like.refl b.sat)];exact h _ _ (k M w _ (SS.put h0 l j g h1 h2 b e p))
theorem aDi{o:Oper}{d j:Nat}{wt e:Bool}{v:SV C.τ.S}(D:o.guard=some (j,wt))(hw:∀{M ρ H w a},RE C.τ M ρ G H w a (s.T++s.B)->Region.wanted o (yielded ops.toArray a.tmps)=e)(hp:dM G p=some e)(u:p≠[])(m:o.dst=some d)(b:d<n)(i:Ev C s G p o.op v)(k:OU C n κ ρ0 ops Q G r (s.put d (.g p v))):OU C n κ ρ0 ops Q G (o::r) s:=by intro M w a ⟨h0,ρ,O1,O2,t,q,f,h1,h2,c⟩;refine wpList_step λK l=>?_;rw[hw f];obtain⟨dst,op,ty,pos,aM,A⟩:=o;simp only at m;subst m;cases e with|false=>exact l _ _ (k M w _ (SS.put h0 t q f h1 h2 c b (.g hp (λh=>by cases h) λ_=>rfl)))|true=>obtain⟨x,z,y⟩:=i M ρ _ w a _ (Rd.of f h1 h2 c.sat λ_=>hp);show Oper.wp _ _ _ _ _ _;unfold Oper.wp;rw[y w (Like.refl c.sat)];exact l _ _ (k M w _ (SS.put h0 t q f h1 h2 c b (.g hp (λ_=>z) λh=>by cases h)))
theorem aDd{o:Oper}{d:Nat}{K':Option (SV C.τ.S)->Sg C.τ.S->Option β}(A:o.guard=none)(b:o.dst=some d)(c:∀v s',K' v s'=some y->∃u,v=some u/\d<n)(e:tY C n κ ρ0 G s o.op K' y)(k:∀v s',K' (some v) s'=some y->Keep s s'->OU C n κ ρ0 ops Q G r (s'.put d v)):OU C n κ ρ0 ops Q G (o::r) s:=by intro M w a hs;refine wpList_plain A λK z=>?_;obtain⟨dst,op,ty,pos,aM,q⟩:=o;simp only at b;subst b;refine e K Q M w a _ ty pos aM q hs λv s' M' w' x ρ O1 O2 f t g h i j l m p=>?_;obtain⟨u,rfl,b⟩:=c v s' f;exact z _ _ (k u s' f t M' w' _ (SS.put hs.1 g h i j l m b (p u rfl)))
theorem aDe{o:Oper}{K':Option (SV C.τ.S)->Sg C.τ.S->Option β}(q:o.guard=none)(c:o.dst=none)(b:tY C n κ ρ0 G s o.op K' y)(k:∀v s',K' v s'=some y->Keep s s'->OU C n κ ρ0 ops Q G r s'):OU C n κ ρ0 ops Q G (o::r) s:=by intro M w a hs;refine wpList_plain q λK p=>?_;obtain⟨dst,op,ty,pos,aM,l⟩:=o;simp only at c;subst c;exact b K Q M w a _ ty pos aM l hs λv s' M' w' x ρ O1 O2 d m e f g h i j t=>p _ _ (k v s' d m M' w' _ ⟨hs.1,ρ,O1,O2,e,f,g,h,i,j⟩)
theorem apG{cs:List Cd}{q:aK C.τ.S cs}{p:List (Nat×Bool)}{u:SV C.τ.S}:gV (ES C.τ cs q)≠ .g p u:=by
 intro e
 match cs,q,e with
 |[],_,e=>cases e
 |[c],q,e=>have e:E C.τ c q= .g p u:=e;cases c with|any=>cases e|_=>cases e
 |_::_::[],_,e=>cases e
 |_::_::_::[],_,e=>cases e
 |_::_::_::_::_,_,e=>cases e
theorem aDf{o:Oper}{d j:Nat}{wt e:Bool}{K:SV C.τ.S->Option β}(hT:∀f c,T f=some c->FZ C.P C.τ f c)(hg:o.guard=some (j,wt))(hw:∀{M ρ H w a},RE C.τ M ρ G H w a (s.T++s.B)->Region.wanted o (yielded ops.toArray a.tmps)=e)(hp:dM G p=some e)(ae:p≠[])(hd:o.dst=some d)(L:d<n)(h:EN C T s p e o.op K=some y)(k:∀v,K v=some y->OU C n κ ρ0 ops Q G r (s.put d (.g p v))):OU C n κ ρ0 ops Q G (o::r) s:=by
 unfold EN at h;split at h
 ·rename_i x xs ts N;split at h
  ·rename_i f D hx;split at h
   ·rename_i c vs F hf aa;split at h
    ·rename_i ps dd Y ab;obtain⟨rr,Z,h⟩:=bind_some h;have k:=k _ h;intro M w a ⟨h0,ρ,O1,O2,hn,hl,I,h1,h2,E⟩;refine wpList_step λK' hK=>?_;rw[hw I];obtain⟨dst,op,ty,pos,aM,gd⟩:=o;simp only at hd N;subst hd N
     cases e with
     |false=>exact hK _ _ (k M w _ (SS.put h0 hn hl I h1 h2 E L (.g hp (λh=>by cases h) λ_=>rfl)))
     |true=>
      have Z:c.sP ps=some rr:=Z;have t:=Rd.of I h1 h2 E.sat λ(_:p≠[])=>hp;have J:=t.rv hx;generalize V:a.eval x=ax at J;cases J with| @f _ _ nE e1 e2=>
      obtain⟨g1,g2⟩:=NK t aa;have hc:aZ C.τ M ρ (yZ s D) nE:=Ju t (aZ.of e1 e2);show Oper.wp _ _ _ _ _ _;unfold Oper.wp;have O:=Lm (P:=C.P) (xs:=xs) (ts:=ts) (dst:=some d) (ty:=ty) (pos:=pos) (aM:=aM) (gd:=gd) V rfl hf w;rw[show (⟨.value x,⟨xs⟩,ts⟩:Call)={callee:= .value x,args:=xs.toArray,argTypes:=ts} from rfl,O]
      have q:og C.τ M [] (ES C.τ c.ins ps) (xs.map a.eval++nE):=D9 (G:=G) Y (by simp[g1,hc.len]) λi v z R A=>by
       rw[List.getElem?_append] at R A;simp only[List.length_map] at A;rw[g1] at R;split at R;·rename_i X;rw[if_pos X] at A;exact g2 i v z R A
       ·rename_i X;rw[if_neg X] at A;exact .v (hc.at R A)
      refine (hT f c F ps rr Z w M _ q E.sat I.gm E.gt).mono ?_;rintro e w' ⟨z,M',rfl,i1,i2,i3,i4,i5⟩;obtain⟨h4,U⟩:=E.call i2 i3 i4 i5;refine hK _ _ (k M' w' _ (SS.put h0 hn hl (I.ext Names.rfl (h1.app h2) U) (h1.ext Names.rfl (U.sub λb W=>List.mem_append_left _ W)) (h2.ext Names.rfl (U.sub λb W=>List.mem_append_right _ W)) h4 L (.g hp (λ_=>?_) λh=>by cases h)));have:RG C.τ M' ρ [] (gV (ES C.τ c.outs rr)) z:=i1.mono .rfl λm l h=>by simp at h
      exact this.weak λp u e=>apG e
    ·cases h
   ·cases h
  ·cases h
 ·cases h
theorem aDg{u:SV C.τ.S}{o:Oper}{d j:Nat}{wt e:Bool}{K:SV C.τ.S->Sg C.τ.S->Option β}{z:Option β}(Y:∀f i,I f=some i->aF C f i)(hg:o.guard=some (j,wt))(hw:∀{M ρ H w a},RE C.τ M ρ G H w a (s.T++s.B)->Region.wanted o (yielded ops.toArray a.tmps)=e)(hp:dM G p=some e)(Z:p≠[])(q:o.dst=some d)(l:d<n)(h:cnd e (yQ C I s p o.op K) z=some y)(F:z=some y->OU C n κ ρ0 ops Q G r (s.put d (.g p u)))(k:∀v s',K v s'=some y->Keep s s'->OU C n κ ρ0 ops Q G r (s'.put d (.g p v))):OU C n κ ρ0 ops Q G (o::r) s:=by
 cases e with
 |false=>have F:=F h;intro M w a ⟨h0,ρ,O1,O2,E,D,c,h1,h2,t⟩;refine wpList_step λN A=>?_;rw[hw c];obtain⟨dst,op,ty,pos,aM,J⟩:=o;simp only at q;subst q;exact A _ _ (F M w _ (SS.put h0 E D c h1 h2 t l (.g (x:=undef) hp (λh=>by cases h) λ_=>rfl)))
 |true=>
  have h:yQ C I s p o.op K=some y:=h;unfold yQ at h;split at h;·rename_i x xs ts m;intro M w a hs;refine wpList_step λN A=>?_;obtain⟨h0,ρ,O1,O2,E,D,c,h1,h2,t⟩:=hs;rw[hw c];obtain⟨dst,op,ty,pos,aM,J⟩:=o;simp only at q m;subst q m;show Oper.wp _ _ _ _ _ _;refine aei (n:=n) (κ:=κ) (ρ0:=ρ0) Y (λ_=>hp) h _ _ M w a (some d) ty pos aM J ⟨h0,ρ,O1,O2,E,D,c,h1,h2,t⟩ λv s' M' w' x aa bN gB L b O P R U V W X=>?_;cases v with|none=>cases L|some v=>exact A _ _ (k v s' L b M' w' _ (SS.put h0 O P R U V W l (.g hp (λ_=>X v rfl) λh=>by cases h)))
  ·cases h
theorem aCt{s:Sg C.τ.S}{o:Op}:Keep s (xK s o):=by
 unfold xK;split;·exact Kr
 ·exact .rfl
theorem aDu{s:Sg C.τ.S}{M:Mem}{w:World}{a:Act}{o:Op}(hs:SS C n κ ρ0 G s M w a):∃M',SS C n κ ρ0 G (xK s o) M' w a:=by
 unfold xK;split;·exact Jq hs
 ·exact⟨M,hs⟩
theorem sZ(E:∀f O,T f=some O->FZ C.P C.τ f O)(A:∀f i,I f=some i->aF C f i){K:Sg C.τ.S->Option β}:∀(l:List Oper) (G:List (Nat×Bool)) (s:Sg C.τ.S),ord C T I n wr ops l G s K=some y->eG (C:=C) ops G s->jh s.B->(∀s',K s'=some y->s'.B=s.B->s'.Bh=s.Bh->KU C.τ n κ ρ0 (λa w=>Q .normal a w) s'.nx (s'.T++s'.B) s'.Th s'.Bh)->OU C n κ ρ0 ops Q G l s
 |[],G,s,h,L,z,D=>by
  intro M w a hs
  unfold ord at h
  split at h
  ·exact D s h rfl rfl M w a hs
  ·obtain⟨h0,ρ,O1,O2,hn,hl,F,h1,h2,Y⟩:=hs
   exact D _ h rfl rfl M w a ⟨h0,ρ,O1,O2,hn,hl,F.nT z,h1,h2,Y⟩
 |o::r,G,s,h,L,z,D=>by
  unfold ord at h
  split at h
  ·rename_i x
   split at h
   ·split at h
    ·rename_i d u
     split at h
     ·rename_i c k
      have X:Keep s (xK s o.op):=aCt
      obtain⟨v,h1,h2⟩:=yU (.inl ⟨rfl,rfl⟩) (L.keep X) h
      have ab:=aDh x u (by simpa [Nat.blt_eq] using c) h2 (sZ E A r G ((xK s o.op).put d v) h1 ((L.keep X).put k) (by show jh (xK s o.op).B;rw[X.B];exact z) λb R U V=>D b R (U.trans X.B) (V.trans X.Bh))
      intro M w a hs
      obtain⟨M1,aa⟩:=aDu (o:=o.op) hs
      exact ab M1 w a aa
     ·cases h
    ·cases h
   ·have J:=O7 (n:=n) (κ:=κ) (ρ0:=ρ0) (G:=G) E A h
    have W:∀s',Keep s s'->∀b,K b=some y->b.B=s'.B->b.Bh=s'.Bh->KU C.τ n κ ρ0 (λa w=>Q .normal a w) b.nx (b.T++b.B) b.Th b.Bh:=λs' h2 b R U V=>D b R (U.trans h2.B) (V.trans h2.Bh)
    cases u:o.dst with
    |none=>
     rw[u] at J
     exact aDe x u J λv s' h1 h2=>sZ E A r G s' h1 (L.keep h2) (by rw[h2.B];exact z) (W s' h2)
    |some d=>
     rw[u] at J
     refine aDd x u (λv s' h1=>?_) J λv s' h1 h2=>?_
     ·simp only at h1
      split at h1
      ·rename_i v c k
       exact⟨v,rfl,by simpa [Nat.blt_eq] using c⟩
      ·cases h1
     ·simp only at h1
      split at h1
      ·rename_i v' hv c k
       cases hv
       exact sZ E A r G (s'.put d v) h1 ((L.keep h2).put k) (by show jh s'.B;rw[h2.B];exact z) (W s' h2)
      ·cases h1
  ·rename_i j wt x
   split at h
   ·rename_i N p Z
    obtain⟨t,hG,H,hw⟩:=Zb L Z
    split at h
    ·rename_i e d F u
     split at h
     ·rename_i c k
      have c:=(by simpa [Nat.blt_eq] using c:d<n)
      have q:∀{l:List Oper},OU C n κ ρ0 ops Q N l s->OU C n κ ρ0 ops Q G l s:=λhh M w a ⟨h0,ρ,O1,O2,hn,hl,m,h1,h2,Y⟩=>hh M w a ⟨h0,ρ,O1,O2,hn,hl,hG m,h1,h2,Y⟩
      split at h
      ·obtain⟨v,h1,h2⟩:=yU (.inr ⟨H,e,rfl,F⟩) t h
       exact q (aDi x (λm=>hw e F m o x) F H u c h2 (sZ E A r N (s.put d (.g p v)) h1 (t.put k) z D))
      ·split at h
       ·exact q (aDg A x (λm=>hw e F m o x) F H u c h (λh1=>sZ E A r N (s.put d (.g p (Jf C o.type))) h1 (t.put k) z D) λv s' h1 h2=>sZ E A r N (s'.put d (.g p v)) h1 ((t.keep h2).put k) (by show jh s'.B;rw[h2.B];exact z) λb R U V=>D b R (U.trans h2.B) (V.trans h2.Bh))
       ·exact q (aDf E x (λm=>hw e F m o x) F H u c h λv h1=>sZ E A r N (s.put d (.g p v)) h1 (t.put k) z D)
     ·cases h
    ·cases h
   ·cases h
end
end Go.R
