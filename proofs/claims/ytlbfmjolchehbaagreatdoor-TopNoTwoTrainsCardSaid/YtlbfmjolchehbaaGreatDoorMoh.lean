/- Several parts of the engine, one behind the other. -/
import Derived.Lib.Builder
import Derived.Test.YtlbfmjolchehbaaGreatDoorM22
set_option linter.all false
namespace Go.Z
open Go Go.Proofs Go.Dc Go.R
def pO(i:Int):Option Str:=if-9223372036854775808<=i/\i<=9223372036854775807 then some ⟨Lib.itoa i⟩ else none
noncomputable def I7:aN Zτ.S:=⟨[.int .i64],[.str],pO⟩
theorem aIR{w:World}{g:Nat}{a:String}{k:IntKind}{zs:List Int}(h:nX Zτ w)(d:Zgm g=some (zs.map λz=>Value.int k z))(c:Z.P.globalNamed a=some g):Lib.TabIs Z.P w a k zs:=by obtain⟨_,T,fz,b⟩:=h.1 g _ d;unfold Lib.TabIs World.var?;rw[c];simp[b]
theorem Ou:FZ Z.P Zτ 62 I7:=by
 intro ps r c w M xs a p m d;have c:pO ps=some r:=c;unfold pO at c;split at c
 ·rename_i l;cases c;have i:xs=[.int .i64 ps]:=by match xs,a with|_,.cons h1 .nil=>cases h1 with|v h1=>cases h1;rfl
  subst i;refine (Tryz.strconv_Itoa ps l.1 l.2 w (aIR d (g:=1) (by rfl) (by kernel_rfl))).mono ?_;rintro e w' ⟨rfl,k,os,rfl⟩;refine⟨_,M,rfl,.v .st,λb j v e=>?_,.rfl,⟨rfl,rfl,rfl,?_,λj n _=>?_⟩,λb j v e=> .inl e⟩
  ·have h1:=p b j v e
   have f:b<w.heap.size:=by
    rcases Nat.lt_or_ge b w.heap.size with h|h;·exact h
    ·simp[World.cell?,Array.getElem?_eq_none h] at h1
   have o:(Go.Sort.grow (w.drewN k) os).heap[b]?=w.heap[b]?:=Array.getElem?_append_left f;simp only[World.cell?] at h1 |-;rw[o];exact h1
  ·show w.heap.size<=(w.heap++os).size;simp
  ·show (w.heap++os)[j]?=w.heap[j]?;exact Array.getElem?_append_left n
 ·cases c
end Go.Z
namespace Go.Z
open Go Go.Proofs Go.Dc Go.R
set_option maxRecDepth 100000
noncomputable section
abbrev MJ:=Option (List Str)
def aEJ:Nat->Option (List R.Item):=λi=>match i with|7=>some [⟨[3],.o .str⟩,⟨[10],.v (.int .i64)⟩]|24=>some [⟨[3],.o .str⟩]|26=>some [⟨[3],.o .str⟩]|_=>none
def apx(p:List Any)(f:List Str->MJ)(d:List Str×Int->MJ)(s4:List Str×Int):MJ:=if decide (s4.2<(p.length:Int)) then au (λ(e:List Str)=>ah (aj (s4.2+1))<|d (e,s4.2+1)) λb=>(idx p s4.2).bind λa=>if Bb a then ah (aS 16 (s4.1++[anyS a]).length)<|b (s4.1++[anyS a]) else if !Bb a then (pO (anyI a)).bind λc=>ah (aS 16 (s4.1++[c]).length)<|b (s4.1++[c]) else b s4.1 else f s4.1
def qN(p:List Any):MJ:=au (λ(a:List Str)=>some a) λb=>iter (apx p b) FUEL ([],0)
def c139:aN Zτ.S:=⟨[.list .any],[.list .str],qN⟩
theorem atB:FZ Z.P Zτ 139 c139:=aT (C:=Z) (wr:=false) (T:=(aI [(62,I7)])) (I:=(aJ [])) (sp:=aEJ) (aG.get (.cons Ou .nil)) (aH.get .nil) λp=>by kernel_rfl
def aHK:Nat->Option (List R.Item):=λ_=>none
def i58:aL Zτ.S:=inl Z false (aI [(139,c139)]) (aJ []) aHK 58
theorem aBz:aF Z 58 i58:=bf (aG.get (.cons atB .nil)) (aH.get .nil)
def aHL:Nat->Option (List R.Item):=λi=>match i with|7=>some [⟨[6],.o .str⟩,⟨[14],.v (.int .i64)⟩]|16=>some [⟨[9],.v .str⟩]|18=>some [⟨[6],.o .str⟩]|20=>some [⟨[6],.o .str⟩]|24=>some [⟨[6],.o .str⟩]|_=>none
def i59:aL Zτ.S:=inl Z false (aI [(62,I7)]) (aJ []) aHL 59
theorem aBA:aF Z 59 i59:=bf (aG.get (.cons Ou .nil)) (aH.get .nil)
def aHM:Nat->Option (List R.Item):=λ_=>none
def Gp(p:Int×Int):Option Str:=(pO p.1).bind λa=>(DU a (Str.mk [46,46])).bind λb=>(pO p.2).bind λc=>(DU b c).bind λd=>some d
def c60:aN Zτ.S:=⟨[.int .i64,.int .i64],[.str],Gp⟩
theorem auU:FZ Z.P Zτ 60 c60:=aT (C:=Z) (wr:=false) (T:=(aI [(62,I7)])) (I:=(aJ [])) (sp:=aHM) (aG.get (.cons Ou .nil)) (aH.get .nil) λp=>by kernel_rfl
def aFZ:Nat->Option (List R.Item):=λi=>match i with|20=>some []|_=>none
def rz(p:Int):Option Int:=au (λ(b:Unit)=>some 0) λa=>if decide (p=32) then if decide (p=32) then some 1 else if decide (p=10) then some 2 else if decide (p=35) then some 3 else if decide (33<=p)&&decide (p<=126) then some 4 else a PUnit.unit else if decide (p=9) then some 1 else if decide (p=10) then some 2 else if decide (p=35) then some 3 else if decide (33<=p)&&decide (p<=126) then some 4 else a PUnit.unit
def Xp:aN Zτ.S:=⟨[.int .u8],[.int .i64],rz⟩
theorem agA:FZ Z.P Zτ 216 Xp:=aT (C:=Z) (wr:=false) (T:=(aI [])) (I:=(aJ [])) (sp:=aFZ) (aG.get .nil) (aH.get .nil) λp=>by kernel_rfl
def aEL:Nat->Option (List R.Item):=λi=>match i with|5=>some [⟨[6],.v (.int .i64)⟩]|14=>some []|_=>none
def ara(p:Str)(b:Unit->Option Bool)(a:Int->Option (Bool))(s4:Int):Option (Bool):=if decide (s4<(p.1.length:Int)) then (fq p s4).bind λc=>(rz c).bind λd=>if !decide (d=4) then some false else ah (aj (s4+1))<|a (s4+1) else b PUnit.unit
def U3(p:Str):Option Bool:=au (λ(b:Unit)=>some (!decide (p=Str.mk []))) λa=>iter (ara p a) FUEL 0
def agh:aN Zτ.S:=⟨[.str],[.bool],U3⟩
theorem atC:FZ Z.P Zτ 140 agh:=aT (C:=Z) (wr:=false) (T:=(aI [(216,Xp)])) (I:=(aJ [])) (sp:=aEL) (aG.get (.cons agA .nil)) (aH.get .nil) λp=>by kernel_rfl
end
end Go.Z
namespace Go.Proofs
open Go.Dc
set_option maxHeartbeats 1000000 in
set_option maxRecDepth 100000 in
theorem Tryz.copyCheck_used(b:Nat)(w:World)(h0:w.cell? ⟨b,0,none⟩=some (.pointer (some ⟨b,0,none⟩))):Calls Tryz.prog 217 #[.pointer (some ⟨b,0,none⟩)] w λe w'=>e= .returned (.tuple #[])/\w'=w:=by obtain⟨j,a,_⟩:=Option.map_eq_some_iff.1 (show (Tryz.prog.info? 278).map (·.size)=some 2 by kernel_rfl);go_enter Tryz.func217,Tryz.ntmps217;go_wp2;rw[Lib.run_neq_ptr_same w _ Tryz.underlying275 a];go_wp2;go_end0;exact⟨rfl,rfl⟩
set_option maxHeartbeats 1000000 in
set_option maxRecDepth 100000 in
theorem Tryz.copyCheck_fresh(b:Nat)(w:World)(h0:w.cell? ⟨b,0,none⟩=some (.pointer none))(a:w.shape? b=some (278,2))(f:w.frozen? ⟨b,0,none⟩=false):Calls Tryz.prog 217 #[.pointer (some ⟨b,0,none⟩)] w λe w'=>e= .returned (.tuple #[])/\w'=w.setCell ⟨b,0,none⟩ (.pointer (some ⟨b,0,none⟩)):=by obtain⟨j,d,c⟩:=Option.map_eq_some_iff.1 (show (Tryz.prog.info? 278).map (·.size)=some 2 by kernel_rfl);go_enter Tryz.func217,Tryz.ntmps217;go_wp2;rw[Lib.run_to_unsafe w ⟨b,0,none⟩ Tryz.underlying275 Tryz.underlying399 d (by rw[c];decide) a (Nat.zero_lt_succ 1)];simp only[Result.andThen];rw[Oper.upon_value];go_wp2;rw[run_callFunc_extern Tryz.func260 (by kernel_rfl) (by kernel_rfl) (by kernel_rfl) (e:=Extern.AbiNoEscape.same) (by kernel_rfl)];rw[Lib.run_noEscape];simp only[Result.andThen];rw[Oper.upon_value];go_wp2;rw[Lib.run_from_unsafe w ⟨b,0,none⟩ Tryz.underlying399 Tryz.underlying275 d a (by kernel_rfl)];simp only[Result.andThen];rw[Oper.upon_value];go_wp2;go_end0;exact⟨rfl,rfl⟩
end Go.Proofs
namespace Go.Z
open Go Go.Proofs Go.Dc Go.R
def QS:aL Zτ.S:=⟨λvs s K=>match vs with
 |[.r m 0]=>match bq s.Th m with
  |some (.bx 278 2)=>match s.lk (m+1) 0 with
   |some (.p a)=>match Nat.beq a m with|true=>K (.t []) s|false=>none
   |_=>none
  |_=>none
 |_=>none,false⟩
theorem alm:aF Z 217 QS:=by
 intro β y vs s K h κ M w ρ xs a n;unfold QS at h;simp only at h;split at h
 ·rename_i m;split at h
  ·rename_i I;obtain⟨x,rfl⟩:∃x,xs=[x]:=by match xs,n.1 with|[x],_=>exact⟨x,rfl⟩
   have D:=n.2 0 (.r m 0) x rfl rfl;obtain⟨O1,O2,h1,h2,X⟩:=a.mem;have c:(m,SO.bx 278 2)∈s.Th++s.Bh:=List.mem_append_left _ (pz I);obtain⟨ob,S,_⟩:=(h1.app h2).look c;have h0:RG Zτ M ρ [] (.t []) (.tuple #[]):= .t (vs:=[]) (xs:=[]) rfl λi v x h=>by simp at h
   cases D with
   |v D=>cases D with
    | @r _ _ l H=>
    cases S with
    |bx f1 f2 N W=>
    rw[f1] at H;cases H
    split at h
    ·rename_i d P
     split at h
     ·rename_i A
      have A:=Nat.eq_of_beq_eq_true A
      subst A
      have j:lk (s.T++s.B) (d+1) 0=some (.p d):=by rw[<-Sg.bS];exact P
      obtain⟨Y,z,E,F,f⟩:=a.cl d 0 _ j 278 2 c dc
      rw[f1] at E;cases E
      obtain⟨q,R,Q⟩:∃q,z= .pointer q/\(q=none\/q=some ⟨l.b,0,none⟩):=by
       rcases f with f|f
       ·cases f
       ·cases f with
        |p e L=>rw[f1] at e;cases e;exact⟨_,rfl,L⟩
      subst R
      rcases Q with rfl|rfl
      ·obtain⟨l2,J,G,U,V,g⟩:=avm (C:=Z) a I (o:=0) dc (v:= .p d) (x:= .pointer (some ⟨l.b,0,none⟩)) (.p f1 (.inr rfl))
       rw[f1] at G;cases G
       refine (Tryz.copyCheck_fresh _ w F (by simp[World.shape?,f2,N]) (by simp[World.frozen?,f2])).mono ?_
       rintro e w' ⟨rfl,rfl⟩
       refine⟨_,_,s,M,ρ,rfl,h,⟨rfl,rfl,λt=>rfl⟩,.rfl,⟨g.names,g.len,g.gm,λm o v u T k O ho=>g.cl m o v ?_ T k O ho,g.mem⟩,h0⟩
       show lk ((d+1,0,SV.p d)::(s.T++s.B)) (m+1) o=some v
       by_cases e:(m+1,o)=(d+1,0)
       ·cases e
        rw[jf]
        have u:lk (s.T++s.B) (d+1) 0=some v:=u
        rw[j] at u
        exact u
       ·rw[bX e];exact u
      ·refine (Tryz.copyCheck_used _ w F).mono ?_
       rintro e w' ⟨rfl,rfl⟩
       exact⟨_,_,s,M,ρ,rfl,h,⟨rfl,rfl,λt=>rfl⟩,.rfl,a,h0⟩
     ·cases h
    ·cases h
  ·cases h
 ·cases h
end Go.Z
namespace Go.Z
open Go Go.Proofs Go.Dc Go.R
set_option maxRecDepth 100000
noncomputable section
def aEM:Nat->Option (List R.Item):=λ_=>none
def i141:aL Zτ.S:=inl Z false (aI []) (aJ [(217,QS)]) aEM 141
theorem aAx:aF Z 141 i141:=bf (aG.get .nil) (aH.get (.cons alm .nil))
def aEN:Nat->Option (List R.Item):=λ_=>none
def ak0:aL Zτ.S:=inl Z false (aI []) (aJ [(217,QS)]) aEN 142
theorem aAy:aF Z 142 ak0:=bf (aG.get .nil) (aH.get (.cons alm .nil))
def aEO:Nat->Option (List R.Item):=λ_=>none
def i143:aL Zτ.S:=aL.rd<|inl Z false (aI []) (aJ []) aEO 143
theorem aAz:aF Z 143 i143:=aF.rd (C:=Z)<|bf (aG.get .nil) (aH.get .nil)
def aHN:Nat->Option (List R.Item):=λi=>match i with|7=>some [⟨[10],.v (.int .i64)⟩,⟨[3,1],.o (.int .u8)⟩]|17=>some [⟨[24],.v (.int .i64)⟩,⟨[3,1],.o (.int .u8)⟩]|28=>some [⟨[3,1],.o (.int .u8)⟩]|30=>some [⟨[3,1],.o (.int .u8)⟩]|32=>some [⟨[3,1],.o (.int .u8)⟩]|34=>some [⟨[3,1],.o (.int .u8)⟩]|36=>some [⟨[3,1],.o (.int .u8)⟩]|_=>none
def aq7(g:List Str)(i:List Int->Option Str)(h:Int×List Int->Option (Str))(s12:Int×List Int):Option (Str):=if decide (s12.1<(g.length:Int)) then au (λ(c:List Int)=>ah (aj (s12.1+1))<|h (s12.1+1,c)) λd=>(idx g s12.1).bind λa=>(U3 a).bind λe=>if !e then some (Str.mk []) else au (λ(f:List Int)=>ah (aS 1 (f++bI a).length)<|d (f++bI a)) λb=>if decide (0<s12.1) then ah (aS 1 (s12.2++[32]).length)<|b (s12.2++[32]) else b s12.2 else i s12.2
def aq6(p:List (List Str))(e:List Int->Option Str)(c:Int×List Int->Option (Str))(s4:Int×List Int):Option (Str):=if decide (s4.1<(p.length:Int)) then au (λ(d:List Int)=>ah (aj (s4.1+1))<|c (s4.1+1,d)) λf=>(idx p s4.1).bind λa=>if decide ((a.length:Int)=0)||decide (64<(a.length:Int)) then some (Str.mk []) else au (λ(b:List Int)=>ah (aS 1 (b++[10]).length)<|f (b++[10])) λg=>iter (aq7 a g) FUEL (0,s4.2) else e s4.2
def L8(p:List (List Str)):Option Str:=
 au (λ(a:List Int)=>(ah (!match a with
 |[]=>true
 |b::tail=>false)<|ah (Um (a.length:Int) a)<|some (sB a):Option Str)) λc=>iter (aq6 p c) FUEL (0,[])
def XD:aN Zτ.S:=⟨[.list (.list .str)],[.str],L8⟩
theorem ahl:FZ Z.P Zτ 61 XD:=aT (C:=Z) (wr:=false) (T:=(aI [(140,agh)])) (I:=(aJ [(141,i141),(142,ak0),(143,i143)])) (sp:=aHN) (aG.get (.cons atC .nil)) (aH.get (.cons aAx (.cons aAy (.cons aAz .nil)))) λp=>by kernel_rfl
abbrev yt:=Int×List (List Str)->Option (Str×Int)
abbrev yA:=List (List Str)->Option (Str×Int)
abbrev yC:=Int×List (List Str)
abbrev qd:=Option (Str×Int)
abbrev vP:=List (List Str)
def aGc:Nat->Option (List R.Item):=λi=>match i with|13=>some [⟨[39],.v (.int .i64)⟩,⟨[28,0],.o (.list .str)⟩]|20=>some [⟨[28,0],.o (.list .str)⟩]|23=>some [⟨[66],.v (.int .i64)⟩,⟨[28,0],.o (.list .str)⟩]|30=>some [⟨[28,0],.o (.list .str)⟩]|33=>some [⟨[78],.v (.int .i64)⟩,⟨[28,0],.o (.list .str)⟩]|41=>some [⟨[103],.v (.int .i64)⟩,⟨[28,0],.o (.list .str)⟩]|50=>some [⟨[28,0],.o (.list .str)⟩]|52=>some [⟨[28,0],.o (.list .str)⟩]|54=>some [⟨[28,0],.o (.list .str)⟩]|57=>some [⟨[141],.v (.int .i64)⟩,⟨[28,0],.o (.list .str)⟩]|64=>some [⟨[28,0],.o (.list .str)⟩]|67=>some [⟨[184],.v (.int .i64)⟩,⟨[28,0],.o (.list .str)⟩]|74=>some [⟨[28,0],.o (.list .str)⟩]|77=>some [⟨[218],.v (.int .i64)⟩,⟨[28,0],.o (.list .str)⟩]|84=>some [⟨[28,0],.o (.list .str)⟩]|87=>some [⟨[255],.v (.int .i64)⟩,⟨[28,0],.o (.list .str)⟩]|94=>some [⟨[28,0],.o (.list .str)⟩]|_=>none
def ac8(p:Layout×Plan)(c:yA)(f:yt)(s13:yC):qd:=if decide (s13.1<(p.2.8.length:Int)) then (idx p.2.8 s13.1).bind λa=>(idx p.1.1 a.1).bind λd=>(idx p.1.1 a.2).bind λe=>(qN [Any.s (Str.mk [100,101,109,97,110,100]),Any.s d,Any.s e,Any.i a.3]).bind λb=>ah (aS 24 (s13.2++[b]).length)<|ah (aj (s13.1+1))<|f (s13.1+1,s13.2++[b]) else c s13.2
def ac9(p:Layout×Plan)(d:yA)(g:yt)(b:yC):qd:=if decide (b.1<(p.2.7.length:Int)) then (idx p.2.7 b.1).bind λa=>(idx p.2.4 a.1).bind λe=>(idx p.2.4 a.3).bind λf=>(qN [Any.s (Str.mk [115,121,110,99]),Any.s e.1,Any.i a.2,Any.s f.1,Any.i a.4,Any.i a.5]).bind λc=>ah (aS 24 (b.2++[c]).length)<|ah (aj (b.1+1))<|g (b.1+1,b.2++[c]) else d b.2
def ada(p:Layout×Plan)(c:yA)(g:yt)(bP:yC):qd:=if decide (bP.1<(p.2.6.length:Int)) then (idx p.2.6 bP.1).bind λa=>(idx p.2.4 a.1).bind λd=>(idx p.2.4 a.2).bind λe=>(Gp (a.3,a.4)).bind λf=>(qN [Any.s (Str.mk [116,117,114,110]),Any.s d.1,Any.s e.1,Any.s f]).bind λb=>ah (aS 24 (bP.2++[b]).length)<|ah (aj (bP.1+1))<|g (bP.1+1,bP.2++[b]) else c bP.2
def adb(p:Layout×Plan)(g:yA)(c:yt)(Aa:yC):qd:=if decide (Aa.1<(p.2.5.length:Int)) then (idx p.2.5 Aa.1).bind λa=>(idx p.2.4 a.1).bind λd=>(idx p.2.4 a.3).bind λe=>(Gp (a.5,a.6)).bind λf=>(qN [Any.s (Str.mk [99,104,97,110,103,101]),Any.s d.1,Any.i a.2,Any.s e.1,Any.i a.4,Any.s f,Any.i a.7]).bind λb=>ah (aS 24 (Aa.2++[b]).length)<|ah (aj (Aa.1+1))<|c (Aa.1+1,Aa.2++[b]) else g Aa.2
def apg(j:yA)(b:Line)(h:yt)(gX:yC):qd:=if decide (gX.1<(b.4.length:Int)) then au (λ(e:vP)=>ah (aj (gX.1+1))<|h (gX.1+1,e)) λg=>(idx b.4 gX.1).bind λa=>if !decide (a.4=0) then (Gp (a.3,a.4)).bind λf=>(qN [Any.s (Str.mk [114,105,100,101]),Any.i a.1,Any.i a.2,Any.s f]).bind λc=>ah (aS 24 (gX.2++[c]).length)<|g (gX.2++[c]) else (qN [Any.s (Str.mk [114,105,100,101]),Any.i a.1,Any.i a.2]).bind λd=>ah (aS 24 (gX.2++[d]).length)<|g (gX.2++[d]) else j gX.2
def ade(p:Layout×Plan)(g:yA)(e:yt)(lJ:yC):qd:=if decide (lJ.1<(p.2.4.length:Int)) then au (λ(d:vP)=>ah (aj (lJ.1+1))<|e (lJ.1+1,d)) λf=>(idx p.2.4 lJ.1).bind λa=>(idx p.2.2 a.2).bind λc=>(qN [Any.s (Str.mk [108,105,110,101]),Any.s a.1,Any.s c.1,Any.i a.3]).bind λb=>ah (aS 24 (lJ.2++[b]).length)<|iter (apg f a) FUEL (0,lJ.2++[b]) else g lJ.2
def aph(p:Layout×Plan)(d:bg)(j:List Str->qd)(g:List Str×Int->qd)(a:List Str×Int):qd:=if decide (a.2<(d.1.length:Int)) then au (λ(i:List Str)=>ah (aj (a.2+1))<|g (i,a.2+1)) λh=>(idx d.1 a.2).bind λe=>au (λ(b:Str)=>(idx p.1.3 e.1).bind λf=>ah (aS 16 (a.1++[f.1,b]).length)<|h (a.1++[f.1,b])) λc=>if decide (e.2=1) then c (Str.mk [100,111,119,110]) else c (Str.mk [117,112]) else j a.1
def adf(p:Layout×Plan)(g:yA)(h:yt)(a:yC):qd:=if decide (a.1<(p.2.3.length:Int)) then (idx p.2.3 a.1).bind λb=>au (λ(d:List Str)=>au (λ(f:List Str)=>ah (aS 24 (a.2++[f]).length)<|ah (aj (a.1+1))<|h (a.1+1,a.2++[f])) λe=>if !decide (b.2=0) then (pO b.2).bind λc=>ah (aS 16 (d++[Str.mk [111,118,101,114,108,97,112],c]).length)<|e (d++[Str.mk [111,118,101,114,108,97,112],c]) else e d) λi=>iter (aph p b i) FUEL ([Str.mk [114,111,117,116,101]],0) else g a.2
def adg(p:Layout×Plan)(e:yA)(d:yt)(b:yC):qd:=if decide (b.1<(p.2.2.length:Int)) then (idx p.2.2 b.1).bind λa=>(qN [Any.s (Str.mk [115,116,111,99,107]),Any.s a.1,Any.i a.2,Any.i a.3,Any.i a.4,Any.i a.5]).bind λc=>ah (aS 24 (b.2++[c]).length)<|ah (aj (b.1+1))<|d (b.1+1,b.2++[c]) else e b.2
def Tj(p:Layout×Plan):qd:=(C8 (p.1,p.2)).bind λo=>if !decide (o=0) then some (Str.mk [],1) else (qN [Any.s (Str.mk [112,101,114,105,111,100]),Any.i p.2.1]).bind λq=>ah (aS 24 1)<|au (λ(f:vP)=>au (λ(g:vP)=>au (λ(h:vP)=>au (λ(j:vP)=>au (λ(k:vP)=>au (λ(l:vP)=>au (λ(m:vP)=>(L8 m).bind λr=>some (r,0)) λa=>iter (ac8 p a) FUEL (0,l)) λb=>iter (ac9 p b) FUEL (0,k)) λc=>iter (ada p c) FUEL (0,j)) λe=>iter (adb p e) FUEL (0,h)) λn=>iter (ade p n) FUEL (0,g)) λd=>iter (adf p d) FUEL (0,f)) λt=>iter (adg p t) FUEL (0,[q])
def c23:aN Zτ.S:=⟨[.st 2,.st 12],[.str,.int .i64],Tj⟩
theorem at5:FZ Z.P Zτ 23 c23:=aT (C:=Z) (wr:=false) (T:=(aI [(57,I6),(60,c60),(61,XD)])) (I:=(aJ [(58,i58),(59,i59)])) (sp:=aGc) (aG.get (.cons Ot (.cons auU (.cons ahl .nil)))) (aH.get (.cons aBz (.cons aBA .nil))) λp=>by kernel_rfl
abbrev MR:=List (List Str)×Int->Option (Str)
abbrev Ng:=List (List Str)->Option Str
abbrev Ni:=List (List Str)×Int
abbrev Et:=List (List Str)
def aGo:Nat->Option (List R.Item):=λi=>match i with|11=>some [⟨[3],.o (.list .str)⟩,⟨[20],.v (.int .i64)⟩]|18=>some [⟨[3],.o (.list .str)⟩]|21=>some [⟨[3],.o (.list .str)⟩,⟨[33],.v (.int .i64)⟩]|28=>some [⟨[3],.o (.list .str)⟩]|31=>some [⟨[3],.o (.list .str)⟩,⟨[46],.v (.int .i64)⟩]|40=>some [⟨[10],.o .str⟩]|42=>some [⟨[3],.o (.list .str)⟩]|44=>some [⟨[3],.o (.list .str)⟩]|47=>some [⟨[3],.o (.list .str)⟩,⟨[82],.v (.int .i64)⟩]|56=>some [⟨[13],.o .str⟩]|58=>some [⟨[3],.o (.list .str)⟩]|60=>some [⟨[3],.o (.list .str)⟩]|_=>none
def an8(p:Layout)(n:Ng)(m:MR)(b:Ni):Option (Str):=if decide (b.2<(p.4.length:Int)) then au (λ(j:Et)=>ah (aj (b.2+1))<|m (j,b.2+1)) λk=>(idx p.4 b.2).bind λa=>(idx p.3 a.1).bind λc=>ah (decide (0<=a.2/\a.2<(↑2:Int)))<|(idx [Str.mk [65],Str.mk [66]] a.2).bind λd=>(idx p.3 a.3).bind λe=>ah (decide (0<=a.4/\a.4<(↑2:Int)))<|(idx [Str.mk [65],Str.mk [66]] a.4).bind λf=>au (λ(l:List Str)=>ah (aS 24 (b.1++[l]).length)<|k (b.1++[l])) λg=>if !decide (a.5= -1) then (idx p.2 a.5).bind λh=>(pO a.6).bind λi=>ah (aS 16 ([Str.mk [108,105,110,107],c.1,d,e.1,f]++[h,i]).length)<|g ([Str.mk [108,105,110,107],c.1,d,e.1,f]++[h,i]) else g ([Str.mk [108,105,110,107],c.1,d,e.1,f]) else n b.1
def an5(p:Layout)(f:Ng)(j:MR)(s24:Ni):Option (Str):=if decide (s24.2<(p.3.length:Int)) then au (λ(k:Et)=>ah (aj (s24.2+1))<|j (k,s24.2+1)) λg=>(idx p.3 s24.2).bind λa=>(pO a.2).bind λb=>(pO a.3).bind λc=>(pO a.4).bind λd=>au (λ(i:List Str)=>ah (aS 24 (s24.1++[i]).length)<|g (s24.1++[i])) λh=>if !decide (a.5= -1) then (idx p.1 a.5).bind λe=>ah (aS 16 ([Str.mk [115,101,99,116,105,111,110],a.1,b,c,d]++[Str.mk [97,116],e]).length)<|h ([Str.mk [115,101,99,116,105,111,110],a.1,b,c,d]++[Str.mk [97,116],e]) else h ([Str.mk [115,101,99,116,105,111,110],a.1,b,c,d]) else f s24.1
def an6(p:Layout)(d:Ng)(c:MR)(a:Ni):Option (Str):=if decide (a.2<(p.2.length:Int)) then (idx p.2 a.2).bind λb=>ah (aS 24 (a.1++[[Str.mk [112,111,105,110,116],b]]).length)<|ah (aj (a.2+1))<|c (a.1++[[Str.mk [112,111,105,110,116],b]],a.2+1) else d a.1
def an7(p:Layout)(c:Ng)(b:MR)(mU:Ni):Option (Str):=if decide (mU.2<(p.1.length:Int)) then (idx p.1 mU.2).bind λa=>ah (aS 24 (mU.1++[[Str.mk [115,116,97,116,105,111,110],a]]).length)<|ah (aj (mU.2+1))<|b (mU.1++[[Str.mk [115,116,97,116,105,111,110],a]],mU.2+1) else c mU.1
def Sd(p:Layout):Option Str:=(uW p).bind λh=>if !decide (h=0) then some (Str.mk []) else au (λ(b:Et)=>au (λ(c:Et)=>au (λ(d:Et)=>au (λ(e:Et)=>(L8 e).bind λi=>some i) λf=>iter (an8 p f) FUEL (d,0)) λa=>iter (an5 p a) FUEL (c,0)) λg=>iter (an6 p g) FUEL (b,0)) λj=>iter (an7 p j) FUEL ([],0)
def c24:aN Zτ.S:=⟨[.st 2],[.str],Sd⟩
theorem aue:FZ Z.P Zτ 24 c24:=aT (C:=Z) (wr:=false) (T:=(aI [(17,c17),(62,I7),(61,XD)])) (I:=(aJ [])) (sp:=aGo) (aG.get (.cons Bo (.cons Ou (.cons ahl .nil)))) (aH.get .nil) λp=>by kernel_rfl
def aEd:Nat->Option (List R.Item):=λ_=>none
def TK(p:List Int):Option (Str×Str):=(TH p).bind λa=>(Tj (a.1,a.2)).bind λb=>(Sd a.1).bind λc=>some (c,b.1)
def c10:aN Zτ.S:=⟨[.list (.int .i64)],[.str,.str],TK⟩
theorem atn:FZ Z.P Zτ 10 c10:=aT (C:=Z) (wr:=false) (T:=(aI [(22,c22),(23,c23),(24,c24)])) (I:=(aJ [])) (sp:=aEd) (aG.get (.cons atY (.cons at5 (.cons aue .nil)))) (aH.get .nil) λp=>by kernel_rfl
def aG0:Nat->Option (List R.Item):=λ_=>none
def aqJ(p:Str):Option (Int×Int):=if decide ((p.1.length:Int)<1) then some (65533,0) else (fq p 0).bind λa=>none
def ag0:aN Zτ.S:=⟨[.str],[.int .i32,.int .i64],aqJ⟩
theorem aur:FZ Z.P Zτ 294 ag0:=aT (C:=Z) (wr:=false) (T:=(aI [])) (I:=(aJ [])) (sp:=aG0) (aG.get .nil) (aH.get .nil) λp=>by kernel_rfl
def aGD:Nat->Option (List R.Item):=λ_=>none
def aI0(p:Str):Option (Int×Int):=(bC (!decide (p=Str.mk [])) 0 (fq p 0)).bind λb=>if !decide (p=Str.mk [])&&decide (b<128) then (fq p 0).bind λc=>some (IntKind.i32.wrap c,1) else (aqJ p).bind λa=>some (a.1,a.2)
def agQ:aN Zτ.S:=⟨[.str],[.int .i32,.int .i64],aI0⟩
theorem auh:FZ Z.P Zτ 266 agQ:=aT (C:=Z) (wr:=false) (T:=(aI [(294,ag0)])) (I:=(aJ [])) (sp:=aGD) (aG.get (.cons aur .nil)) (aH.get .nil) λp=>by kernel_rfl
end
def aaX(p:Str×Int):Option Int:=some (Lib.indexByte p.1.l p.2.toNat.toUInt8)
def aha:aN Zτ.S:=⟨[.str,.int .u8],[.int .i64],aaX⟩
theorem auE:FZ Z.P Zτ 313 aha:=by
 intro ps r c w M xs a h f g;have c:aaX ps=some r:=c;cases c
 have d:xs=[.string ps.1.ba,.int .u8 ps.2]:=by
  match xs,a with
  |_,.cons h1 (.cons h2 .nil)=>
   cases h1 with
   |v h1=>cases h2 with
    |v h2=>cases h1;cases h2;rfl
 subst d;refine (Tryz.stringslite_IndexByte ps.1.ba ps.2 w).mono ?_;rintro e w' ⟨rfl,rfl⟩;exact⟨_,M,rfl,.v .i,h,.rfl,Frame.refl _ _,λb j v e=> .inl e⟩
end Go.Z
namespace Go.Z
open Go Go.Proofs Go.Dc Go.R
set_option maxRecDepth 100000
noncomputable section
def aHh:Nat->Option (List R.Item):=λ_=>none
def aBR(p:Int):Option Int:=ah (aj (p+16))<|ah (!decide (8=0))<|some (IntKind.i64.wrap ((p+16).tdiv 8))
def ahb:aN Zτ.S:=⟨[.int .i64],[.int .i64],aBR⟩
theorem auF:FZ Z.P Zτ 315 ahb:=aT (C:=Z) (wr:=false) (T:=(aI [])) (I:=(aJ [])) (sp:=aHh) (aG.get .nil) (aH.get .nil) λp=>by kernel_rfl
abbrev afm:=Int->Option (Int×Int)
abbrev Ik:=Option (Int×Int)
def aHm:Nat->Option (List R.Item):=λi=>match i with|7=>some [⟨[4],.v (.int .u32)⟩,⟨[5],.v (.int .i64)⟩]|12=>some [⟨[4],.v (.int .u32)⟩]|17=>some [⟨[6],.v (.int .u32)⟩,⟨[7],.v (.int .u32)⟩,⟨[8],.v (.int .i64)⟩]|18=>some [⟨[6],.v (.int .u32)⟩,⟨[7],.v (.int .u32)⟩]|24=>some [⟨[6],.v (.int .u32)⟩]|26=>some [⟨[6],.v (.int .u32)⟩]|_=>none
def aBW(e:afm)(c:Int×Int×Int->Ik)(a:Int×Int×Int):Ik:=if decide (0<a.2.2) then au (λ(b:Int×Int)=>c (b.1,b.2,Int.fdiv a.2.2 2)) λf=>au (λ(d:Int)=>f (d,IntKind.u32.wrap (a.2.1*a.2.1))) λg=>none else e a.1
def aBV(p:Str)(a:afm)(c:Int×Int->Ik)(s13:Int×Int):Ik:=if decide (s13.2<(p.1.length:Int)) then (fq p s13.2).bind λb=>ah (aj (s13.2+1))<|c (IntKind.u32.wrap (IntKind.u32.wrap (s13.1*16777619)+IntKind.u32.wrap b),s13.2+1) else a s13.1
def al0(p:Str):Ik:=au (λ(b:Int)=>au (λ(c:Int)=>some (b,c)) λd=>iter (aBW d) FUEL (1,16777619,(p.1.length:Int))) λa=>iter (aBV p a) FUEL (0,0)
def ahf:aN Zτ.S:=⟨[.str],[.int .u32,.int .u32],al0⟩
theorem auK:FZ Z.P Zτ 324 ahf:=aT (C:=Z) (wr:=false) (T:=(aI [])) (I:=(aJ [])) (sp:=aHm) (aG.get .nil) (aH.get .nil) λp=>by kernel_rfl
def aHi:Nat->Option (List R.Item):=λi=>match i with|11=>some [⟨[8],.v (.int .u32)⟩,⟨[9],.v (.int .i64)⟩]|16=>some [⟨[8],.v (.int .u32)⟩]|23=>some [⟨[8],.v (.int .u32)⟩,⟨[10],.v (.int .i64)⟩]|36=>some []|_=>none
def aBU(p:Str×Str)(b:Int×Int)(g:Unit->Option Int)(f:Int×Int->Option (Int))(a:Int×Int):Option (Int):=if decide (a.2<(p.1.1.length:Int)) then (fq p.1 a.2).bind λc=>ah (aj (a.2-(p.2.1.length:Int)))<|(fq p.1 (a.2-(p.2.1.length:Int))).bind λd=>ah (aj (a.2+1))<|ah (!decide (IntKind.u32.wrap (IntKind.u32.wrap (IntKind.u32.wrap (a.1*16777619)+IntKind.u32.wrap c)-IntKind.u32.wrap (b.2*IntKind.u32.wrap d))=b.1)||aj (a.2+1-(p.2.1.length:Int)))<|(bC (decide (IntKind.u32.wrap (IntKind.u32.wrap (IntKind.u32.wrap (a.1*16777619)+IntKind.u32.wrap c)-IntKind.u32.wrap (b.2*IntKind.u32.wrap d))=b.1)) (Str.mk []) (mX p.1 (a.2+1-(p.2.1.length:Int)) (a.2+1))).bind λe=>if decide (IntKind.u32.wrap (IntKind.u32.wrap (IntKind.u32.wrap (a.1*16777619)+IntKind.u32.wrap c)-IntKind.u32.wrap (b.2*IntKind.u32.wrap d))=b.1)&&decide (e=p.2) then ah (aj (a.2+1-(p.2.1.length:Int)))<|some (a.2+1-(p.2.1.length:Int)) else f (IntKind.u32.wrap (IntKind.u32.wrap (IntKind.u32.wrap (a.1*16777619)+IntKind.u32.wrap c)-IntKind.u32.wrap (b.2*IntKind.u32.wrap d)),a.2+1) else g PUnit.unit
def aBT(p:Str×Str)(a:Int->Option Int)(c:Int×Int->Option (Int))(bH:Int×Int):Option (Int):=if decide (bH.2<(p.2.1.length:Int)) then (fq p.1 bH.2).bind λb=>ah (aj (bH.2+1))<|c (IntKind.u32.wrap (IntKind.u32.wrap (bH.1*16777619)+IntKind.u32.wrap b),bH.2+1) else a bH.1
def aBS(p:Str×Str):Option Int:=(al0 p.2).bind λc=>au (λ(a:Int)=>(bC (decide (a=c.1)) (Str.mk []) (mX p.1 0 (p.2.1.length:Int))).bind λe=>if decide (a=c.1)&&decide (e=p.2) then some 0 else au (λ(f:Unit)=>some (-1)) λd=>iter (aBU p c d) FUEL (a,(p.2.1.length:Int))) λb=>iter (aBT p b) FUEL (0,0)
def ahc:aN Zτ.S:=⟨[.str,.str],[.int .i64],aBS⟩
theorem auG:FZ Z.P Zτ 316 ahc:=aT (C:=Z) (wr:=false) (T:=(aI [(324,ahf)])) (I:=(aJ [])) (sp:=aHi) (aG.get (.cons auK .nil)) (aH.get .nil) λp=>by kernel_rfl
def aG1:Nat->Option (List R.Item):=λi=>match i with|31=>some [⟨[8],.v (.int .i64)⟩,⟨[10],.v (.int .i64)⟩]|42=>some [⟨[8],.v (.int .i64)⟩]|70=>some []|_=>none
def J4(p:Str×Str):Option Int:=if decide ((p.2.1.length:Int)=0)||decide (p.2=p.1) then some 0 else if decide ((p.2.1.length:Int)=1) then (fq p.2 0).bind λa=>(aaX (p.1,a)).bind λb=>some b else if decide ((p.1.1.length:Int)<=(p.2.1.length:Int)) then some (-1) else none
def ag1:aN Zτ.S:=⟨[.str,.str],[.int .i64],J4⟩
theorem aus:FZ Z.P Zτ 295 ag1:=aT (C:=Z) (wr:=false) (T:=(aI [(313,aha),(315,ahb),(316,ahc)])) (I:=(aJ [])) (sp:=aG1) (aG.get (.cons auE (.cons auF (.cons auG .nil)))) (aH.get .nil) λp=>by kernel_rfl
def aGE:Nat->Option (List R.Item):=λ_=>none
def Uy(p:Str×Str):Option Int:=(J4 (p.1,p.2)).bind λa=>some a
def Xu:aN Zτ.S:=⟨[.str,.str],[.int .i64],Uy⟩
theorem agR:FZ Z.P Zτ 267 Xu:=aT (C:=Z) (wr:=false) (T:=(aI [(295,ag1)])) (I:=(aJ [])) (sp:=aGE) (aG.get (.cons aus .nil)) (aH.get .nil) λp=>by kernel_rfl
def aGC:Nat->Option (List R.Item):=λi=>match i with|3=>some [⟨[2,0],.v .str⟩]|10=>some [⟨[2,0],.v .str⟩]|11=>some [⟨[2,0],.v .str⟩]|20=>some [⟨[2,0],.v .str⟩]|_=>none
def alD:aL Zτ.S:=inl Z false (aI [(266,agQ),(267,Xu)]) (aJ []) aGC 265
theorem aA9:aF Z 265 alD:=bf (aG.get (.cons auh (.cons agR .nil))) (aH.get .nil)
def aF0:Nat->Option (List R.Item):=λ_=>none
def aln:aL Zτ.S:=aL.rd<|inl Z false (aI []) (aJ [(265,alD)]) aF0 219
theorem aAV:aF Z 219 aln:=aF.rd (C:=Z)<|bf (aG.get .nil) (aH.get (.cons aA9 .nil))
def aEP:Nat->Option (List R.Item):=λ_=>none
def i145:aL Zτ.S:=aL.rd<|inl Z false (aI []) (aJ [(219,aln)]) aEP 145
theorem aAA:aF Z 145 i145:=aF.rd (C:=Z)<|bf (aG.get .nil) (aH.get (.cons aAV .nil))
end
def DV(p:Str×Str):Option (Str×Str×Bool):=if p.1.l.length<4294967281 then some (⟨(Lib.cut p.1.l p.2.l).1⟩,⟨(Lib.cut p.1.l p.2.l).2.1⟩,(Lib.cut p.1.l p.2.l).2.2) else none
def Xq:aN Zτ.S:=⟨[.str,.str],[.str,.str,.bool],DV⟩
theorem agB:FZ Z.P Zτ 220 Xq:=by
 intro ps r c w M xs a q o d;have c:DV ps=some r:=c;unfold DV at c;split at c
 ·rename_i k;cases c
  have f:xs=[.string ps.1.ba,.string ps.2.ba]:=by
   match xs,a with
   |_,.cons h1 (.cons h2 .nil)=>
    cases h1 with
    |v h1=>cases h2 with
     |v h2=>cases h1;cases h2;rfl
  subst f;obtain⟨_,m,T,fz,p⟩:=d.2 4 rfl;refine (Tryz.strings_Cut ps.1.ba ps.2.ba m w (by rw[Str.Bd];exact k) (by simp[World.cell?,p])).mono ?_;rintro e w' ⟨rfl,n,rfl⟩;have g:ps.1.ba.data.toList=ps.1.l:=by simp[Str.ba]
  have h:ps.2.ba.data.toList=ps.2.l:=by simp[Str.ba]
  rw[g,h];refine⟨_,M,rfl,.t (xs:=[_,_,_]) rfl λi v x h1 h2=>?_,q,.rfl,⟨rfl,rfl,rfl,Nat.le_refl _,λ_ _ _=>rfl⟩,λb j v e=> .inl e⟩;match i,h1,h2 with|0,h1,h2=>cases h1;cases h2;exact .v .st|1,h1,h2=>cases h1;cases h2;exact .v .st|2,h1,h2=>cases h1;cases h2;exact .v .b
 ·cases c
end Go.Z
namespace Go.Z
open Go Go.Proofs Go.Dc Go.R
set_option maxRecDepth 100000
noncomputable section
def aF2:Nat->Option (List R.Item):=λ_=>none
def alo:aL Zτ.S:=inl Z false (aI []) (aJ []) aF2 221
theorem aAX:aF Z 221 alo:=bf (aG.get .nil) (aH.get .nil)
end
end Go.Z
