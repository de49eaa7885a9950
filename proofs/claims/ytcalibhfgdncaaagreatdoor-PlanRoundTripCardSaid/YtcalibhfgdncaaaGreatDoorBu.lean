/- strings.Builder: copyCheck, WriteByte, WriteString, String over the engine's chunks. -/
import Derived.Test.YtcalibhfgdncaaaGreatDoorTypes
import Derived.Test.YtcalibhfgdncaaaGreatDoorDn
set_option linter.all false
namespace Go.Proofs
open Go.Dc
set_option maxHeartbeats 1000000 in
set_option maxRecDepth 100000 in
theorem Tryz.copyCheck_used(b:Nat)(w:World)(h0:w.cell? ⟨b,0,none⟩=some (.pointer (some ⟨b,0,none⟩))):
  Calls Tryz.prog 164 #[.pointer (some ⟨b,0,none⟩)] w fun e w'=>e= .returned (.tuple #[])∧w'=w:=by
 obtain⟨j,hj,_⟩:=Option.map_eq_some_iff.1 (show (Tryz.prog.info? 176).map (·.size)=some 2 by kernel_rfl)
 go_enter Tryz.func164,Tryz.ntmps164
 go_wp2
 rw[Lib.run_neq_ptr_same w _ Tryz.underlying173 hj]
 go_wp2
 go_end0
 exact⟨rfl,rfl⟩
set_option maxHeartbeats 1000000 in
set_option maxRecDepth 100000 in
theorem Tryz.copyCheck_fresh(b:Nat)(w:World)(h0:w.cell? ⟨b,0,none⟩=some (.pointer none))(hsh:w.shape? b=some (176,2))(hfz:w.frozen? ⟨b,0,none⟩=false):
  Calls Tryz.prog 164 #[.pointer (some ⟨b,0,none⟩)] w fun e w'=>e= .returned (.tuple #[])∧w'=w.setCell ⟨b,0,none⟩ (.pointer (some ⟨b,0,none⟩)):=by
 obtain⟨j,hj,hjs⟩:=Option.map_eq_some_iff.1 (show (Tryz.prog.info? 176).map (·.size)=some 2 by kernel_rfl)
 go_enter Tryz.func164,Tryz.ntmps164
 go_wp2
 rw[Lib.run_to_unsafe w ⟨b,0,none⟩ Tryz.underlying173 Tryz.underlying251 hj (by rw[hjs];decide) hsh (Nat.zero_lt_succ 1)]
 simp only[Result.andThen]
 rw[Oper.upon_value]
 go_wp2
 rw[run_callFunc_extern Tryz.func190 (by kernel_rfl) (by kernel_rfl) (by kernel_rfl) (e:=Extern.AbiNoEscape.same) (by kernel_rfl)]
 rw[Lib.run_noEscape]
 simp only[Result.andThen]
 rw[Oper.upon_value]
 go_wp2
 rw[Lib.run_from_unsafe w ⟨b,0,none⟩ Tryz.underlying251 Tryz.underlying173 hj hsh (by kernel_rfl)]
 simp only[Result.andThen]
 rw[Oper.upon_value]
 go_wp2
 go_end0
 exact⟨rfl,rfl⟩
end Go.Proofs
namespace Go.Proofs.YtcalibhfgdncaaaGreatDoor
open Go.Dc Go.RowKit
set_option maxRecDepth 10000
theorem acD(S:bB)(w:World)(b:Nat)(u:Bool)(s:Value)(hP:Pre S [own b 176 [qm u b,s]] w):
  Calls Tryz.prog 164 #[.pointer (some ⟨b,0,none⟩)] w (Post (β:=Unit) S [own b 176 [qm u b,s]] (fun _=> .tuple #[]) (fun _=>[own b 176 [qm true b,s]]) w):=by
 have hm:=hP.start
 have hbk:w.heap[b]?=some (.cells #[qm u b,s] 176 (0,0)):=(Has.head:Has _ (own b _ _)).own hm
 cases u with
 |true=>
  refine (Tryz.copyCheck_used b w (by simp[World.cell?,hbk,qm])).mono ?_
  rintro e w' ⟨rfl,rfl⟩
  exact dO () hm rfl
 |false=>
  refine (Tryz.copyCheck_fresh b w (by simp[World.cell?,hbk,qm]) (by simp[World.shape?,hbk]) (by simp[World.frozen?,hbk])).mono ?_
  rintro e w' ⟨rfl,rfl⟩
  obtain⟨S',hs⟩:=hm
  have hin:=(hs.all _ List.mem_cons_self).2
  have hm2:Mem (rC w S [own b 176 [qm false b,s]]) [own b 176 [qm true b,s]] (w.setCell ⟨b,0,none⟩ (.pointer (some ⟨b,0,none⟩))):=by
   refine⟨S',hs.upd .head ?_ (fun _ h=>h) (fun _ h=> .inl h) (fun k hk=>?_) ?_ (fun k hk=>?_)⟩
   ·refine⟨rfl,rfl,rfl,by simp[World.setCell],fun k _ hn=>?_⟩
    have hne:b≠k:=fun h=>hn h.symm
    simp[World.setCell,Array.getElem?_modify,hne]
   ·have:=hs.lt k hk
    simpa [World.setCell] using this
   ·show (World.setCell _ _ _).heap[b]?=_
    simp[World.setCell,Array.getElem?_modify,hbk,qm]
   ·have:k=b:=hk
    subst this
    exact⟨.inl rfl,by simpa [World.setCell] using (hin k rfl).1,(hin k rfl).2.1⟩
  exact dO () hm2 rfl
theorem abM(S:bB)(w:World)(b:Nat)(u:Bool)(r:SR Unit)(l:List UInt8)(c:Int)(hb:decide ((l.length+1)*1≤140737488355328)=true)(hc:u8b c=true)
  (hP:Pre S [own b 176 [qm u b,.slice r.a l.length r.cap],ah (α:=UInt8) 5 r l] w):
  Calls Tryz.prog 114 #[.pointer (some ⟨b,0,none⟩),.int .u8 c] w (Post (β:=SR Unit) S [own b 176 [qm u b,.slice r.a l.length r.cap],ah (α:=UInt8) 5 r l] (fun _=> .nilIface)
   (fun g=>[own b 176 [qm true b,.slice g.a (l++[u8 c]).length g.cap],ah (α:=UInt8) 5 g (l++[u8 c])]) w):=by
 have hce:c=((u8 c).toNat:Int):=(ap8 hc).symm
 clear hc
 generalize u8 c=x at*
 subst hce
 refine bP (args:=[_,_]) Tryz.func114 rfl (hP.start) rfl ?_
 refine aG fun K1 hK1=>?_
 refine aZ ?_
 refine aT dx ?_
 refine bf (hK1 _ _ ?_);clear hK1
 refine aG fun K2 hK2=>?_
 refine aZ ?_
 refine aT aH ?_
 refine bn (eU (jw.cons .head .nil) (fun S w hs hP=>acD _ w b u _ hP) (by intro r c hc;simp only[List.mem_cons,List.not_mem_nil,or_false] at hc;rcases hc with rfl;exact EG) (fun r1=>?_))
 dsimp only[List.cons_append,List.nil_append]
 refine bf (hK2 _ _ ?_);clear hK2
 refine aG fun K3 hK3=>?_
 refine aZ ?_
 refine aT aH ?_
 refine aT aH ?_
 refine aT bY ?_
 refine aT (aD 1) ?_
 refine aT (aJ (b:=b)) ?_
 refine aT aH ?_
 refine bn (eX (α:=UInt8) 5 (fun _=>()) ([x]:List UInt8) (jr.flat (fun _ _ _ _=>trivial)) (fun r5=>?_))
 refine bn (iP (r:=r) (r2:=r5) (by intro r';repeat (first|exact dQ.head|apply dQ.tail)) (Kn.ah (e:=5) (r:=r5) (by repeat (first|exact Has.head|apply Has.tail))) (jr.flat (fun _ _ _ _=>trivial)) (of_decide_eq_true hb) (fun r7=>?_))
 refine aT bY ?_
 refine aT (aD 1) ?_
 refine bn (fP (b:=b) (l':=[qm true b,.slice r7.a (l++[x]).length r7.cap]) (k:=?_))
 refine bf (hK3 _ _ ?_);clear hK3
 refine aG fun K4 hK4=>?_
 refine aZ ?_
 refine aT dx ?_
 refine bf (hK4 _ _ ?_);clear hK4
 refine aW (jE (fun w hm=>dO r7 hm rfl))
theorem ahk(S:bB)(w:World)(b:Nat)(u:Bool)(r:SR Unit)(l:List UInt8)(s:Str)(hb:decide (l.length+s.l.length≤140737488355328)=true)
  (hP:Pre S [own b 176 [qm u b,.slice r.a l.length r.cap],ah (α:=UInt8) 5 r l] w):
  Calls Tryz.prog 115 #[.pointer (some ⟨b,0,none⟩),.string s.ba] w (Post (β:=SR Unit) S [own b 176 [qm u b,.slice r.a l.length r.cap],ah (α:=UInt8) 5 r l] (fun _=> .tuple #[.int .i64 (s.l.length:Int),.nilIface])
   (fun g=>[own b 176 [qm true b,.slice g.a (l++s.l).length g.cap],ah (α:=UInt8) 5 g (l++s.l)]) w):=by
 refine bP (args:=[_,_]) Tryz.func115 rfl (hP.start) rfl ?_
 refine aG fun K1 hK1=>?_
 refine aZ ?_
 refine aT dx ?_
 refine aT dx ?_
 refine bf (hK1 _ _ ?_);clear hK1
 refine aG fun K2 hK2=>?_
 refine aZ ?_
 refine aT aH ?_
 refine bn (eU (jw.cons .head .nil) (fun S w hs hP=>acD _ w b u _ hP) (by intro r c hc;simp only[List.mem_cons,List.not_mem_nil,or_false] at hc;rcases hc with rfl;exact EG) (fun r1=>?_))
 dsimp only[List.cons_append,List.nil_append]
 refine bf (hK2 _ _ ?_);clear hK2
 refine aG fun K3 hK3=>?_
 refine aZ ?_
 refine aT aH ?_
 refine aT aH ?_
 refine aT bY ?_
 refine aT (aD 1) ?_
 refine aT (aJ (b:=b)) ?_
 refine aT aH ?_
 refine bn (apy (r:=r) (s:=s) (by intro r';repeat (first|exact dQ.head|apply dQ.tail)) (of_decide_eq_true hb) (fun r7=>?_))
 refine aT bY ?_
 refine aT (aD 1) ?_
 refine bn (fP (b:=b) (l':=[qm true b,.slice r7.a (l++s.l).length r7.cap]) (k:=?_))
 refine bf (hK3 _ _ ?_);clear hK3
 refine aG fun K4 hK4=>?_
 refine aZ ?_
 refine aT aH ?_
 refine aT mZ ?_
 refine aT dx ?_
 refine aT dx ?_
 refine bf (hK4 _ _ ?_);clear hK4
 refine aW (qO (fun w hm=>dO r7 hm rfl))
theorem ahj(S:bB)(w:World)(b:Nat)(u:Bool)(r:SR Unit)(l:List UInt8)
  (hP:Pre S [own b 176 [qm u b,.slice r.a l.length r.cap],ah (α:=UInt8) 5 r l] w):
  Calls Tryz.prog 116 #[.pointer (some ⟨b,0,none⟩)] w (Post (β:=Unit) S [own b 176 [qm u b,.slice r.a l.length r.cap],ah (α:=UInt8) 5 r l] (fun _=> .string (⟨l⟩:Str).ba) (fun _=>[]) w):=by
 refine bP (args:=[_]) Tryz.func116 rfl (hP.start) rfl ?_
 refine aG fun K1 hK1=>?_
 refine aZ ?_
 refine aT dx ?_
 refine bf (hK1 _ _ ?_);clear hK1
 refine aG fun K2 hK2=>?_
 refine iD [own b 176 [qm u b,.slice r.a l.length r.cap]] (by repeat (first|exact List.Sublist.refl _|apply List.Sublist.cons_cons|apply List.Sublist.cons)) ?_
 refine ay 0 rfl aH ?_
 refine ay 1 rfl bY ?_
 refine ay 2 rfl (aD 1) ?_
 refine ay 3 rfl (aJ (b:=b)) ?_
 refine ay 5 rfl aH ?_
 refine ay 6 rfl bY ?_
 refine ay 7 rfl (aD 1) ?_
 refine ay 8 rfl (aJ (b:=b)) ?_
 refine ay 9 rfl bJ ?_
 refine eD 4 rfl (apE (r:=r) (xs:=l) (e:=5) (by repeat (first|exact Has.head|apply Has.tail)) (fun q hq=>⟨fun w hm=>hm.sub (by repeat (first|exact List.Sublist.refl _|apply List.Sublist.cons_cons|apply List.Sublist.cons)),?_⟩))
 refine eD 10 rfl (apF (r:=r) (l:=l) (e:=5) (by repeat (first|exact jv.head|apply jv.tail)) hq ⟨fun w hm=>hm.sub (by repeat (first|exact List.Sublist.refl _|apply List.Sublist.cons_cons|apply List.Sublist.cons)),?_⟩)
 refine eD 11 rfl (CG dx ⟨fun w hm=>hm.sub (by repeat (first|exact List.Sublist.refl _|apply List.Sublist.cons_cons|apply List.Sublist.cons)),?_⟩)
 refine dY (hK2 _ _ ?_);clear hK2
 refine aW (jE (fun w hm=>dO () hm rfl))
end Go.Proofs.YtcalibhfgdncaaaGreatDoor
