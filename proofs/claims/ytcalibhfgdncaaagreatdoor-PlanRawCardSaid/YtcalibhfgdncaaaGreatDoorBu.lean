/- strings.Builder: copyCheck, WriteByte, WriteString, String over the engine's chunks. -/
import Derived.Test.YtcalibhfgdncaaaGreatDoorTypes
import Derived.Test.YtcalibhfgdncaaaGreatDoorDn
set_option linter.all false
namespace Go.Proofs
open Go.Dc
set_option maxHeartbeats 1000000 in
set_option maxRecDepth 100000 in
theorem Tryz.copyCheck_used (b : Nat) (w : World) (h0 : w.cell? ⟨b, 0, none⟩ = some (.pointer (some ⟨b, 0, none⟩))) :
  Calls Tryz.prog 164 #[.pointer (some ⟨b, 0, none⟩)] w fun e w' => e = .returned (.tuple #[]) ∧ w' = w := by
 obtain ⟨j, hj, _⟩ := Option.map_eq_some_iff.1 (show (Tryz.prog.info? 176).map (·.size) = some 2 by kernel_rfl)
 go_enter Tryz.func164, Tryz.ntmps164
 go_wp2
 rw [Lib.run_neq_ptr_same w _ Tryz.underlying173 hj]
 go_wp2
 go_end0
 exact ⟨rfl, rfl⟩
set_option maxHeartbeats 1000000 in
set_option maxRecDepth 100000 in
theorem Tryz.copyCheck_fresh (b : Nat) (w : World) (h0 : w.cell? ⟨b, 0, none⟩ = some (.pointer none)) (hsh : w.shape? b = some (176, 2)) (hfz : w.frozen? ⟨b, 0, none⟩ = false) :
  Calls Tryz.prog 164 #[.pointer (some ⟨b, 0, none⟩)] w fun e w' => e = .returned (.tuple #[]) ∧ w' = w.setCell ⟨b, 0, none⟩ (.pointer (some ⟨b, 0, none⟩)) := by
 obtain ⟨j, hj, hjs⟩ := Option.map_eq_some_iff.1 (show (Tryz.prog.info? 176).map (·.size) = some 2 by kernel_rfl)
 go_enter Tryz.func164, Tryz.ntmps164
 go_wp2
 rw [Lib.run_to_unsafe w ⟨b, 0, none⟩ Tryz.underlying173 Tryz.underlying251 hj (by rw [hjs]; decide) hsh (Nat.zero_lt_succ 1)]
 simp only [Result.andThen]
 rw [Oper.upon_value]
 go_wp2
 rw [run_callFunc_extern Tryz.func190 (by kernel_rfl) (by kernel_rfl) (by kernel_rfl) (e := Extern.AbiNoEscape.same) (by kernel_rfl)]
 rw [Lib.run_noEscape]
 simp only [Result.andThen]
 rw [Oper.upon_value]
 go_wp2
 rw [Lib.run_from_unsafe w ⟨b, 0, none⟩ Tryz.underlying251 Tryz.underlying173 hj hsh (by kernel_rfl)]
 simp only [Result.andThen]
 rw [Oper.upon_value]
 go_wp2
 go_end0
 exact ⟨rfl, rfl⟩
end Go.Proofs
namespace Go.Proofs.YtcalibhfgdncaaaGreatDoor
open Go.Dc Go.RowKit
set_option maxRecDepth 10000
theorem Vg (S : bD) (w : World) (b : Nat) (u : Bool) (s : Value) (hP : Pre S [own b 176 [lV u b, s]] w) :
  Calls Tryz.prog 164 #[.pointer (some ⟨b, 0, none⟩)] w (Post (β := Unit) S [own b 176 [lV u b, s]] (fun _ => .tuple #[]) (fun _ => [own b 176 [lV true b, s]]) w) := by
 have hm := hP.start
 have hbk : w.heap[b]? = some (.cells #[lV u b, s] 176 (0, 0)) := (Has.head : Has _ (own b _ _)).own hm
 cases u with
 | true =>
  refine (Tryz.copyCheck_used b w (by simp [World.cell?, hbk, lV])).mono ?_
  rintro e w' ⟨rfl, rfl⟩
  exact fO () hm rfl
 | false =>
  refine (Tryz.copyCheck_fresh b w (by simp [World.cell?, hbk, lV]) (by simp [World.shape?, hbk]) (by simp [World.frozen?, hbk])).mono ?_
  rintro e w' ⟨rfl, rfl⟩
  obtain ⟨S', hs⟩ := hm
  have hin := (hs.all _ List.mem_cons_self).2
  have hm2 : Mem (rP w S [own b 176 [lV false b, s]]) [own b 176 [lV true b, s]] (w.setCell ⟨b, 0, none⟩ (.pointer (some ⟨b, 0, none⟩))) := by
   refine ⟨S', hs.upd .head ?_ (fun _ h => h) (fun _ h => .inl h) (fun k hk => ?_) ?_ (fun k hk => ?_)⟩
   ·refine ⟨rfl, rfl, rfl, by simp [World.setCell], fun k _ hn => ?_⟩
    have hne : b ≠ k := fun h => hn h.symm
    simp [World.setCell, Array.getElem?_modify, hne]
   ·have := hs.lt k hk
    simpa [World.setCell] using this
   ·show (World.setCell _ _ _).heap[b]? = _
    simp [World.setCell, Array.getElem?_modify, hbk, lV]
   ·have : k = b := hk
    subst this
    exact ⟨.inl rfl, by simpa [World.setCell] using (hin k rfl).1, (hin k rfl).2.1⟩
  exact fO () hm2 rfl
theorem Ue (S : bD) (w : World) (b : Nat) (u : Bool) (r : SR Unit) (l : List UInt8) (c : Int) (hb : decide ((l.length + 1) * 1 ≤ 140737488355328) = true) (hc : u8b c = true)
  (hP : Pre S [own b 176 [lV u b, .slice r.a l.length r.cap], aO (α := UInt8) 5 r l] w) :
  Calls Tryz.prog 114 #[.pointer (some ⟨b, 0, none⟩), .int .u8 c] w (Post (β := SR Unit) S [own b 176 [lV u b, .slice r.a l.length r.cap], aO (α := UInt8) 5 r l] (fun _ => .nilIface)
   (fun g => [own b 176 [lV true b, .slice g.a (l ++ [u8 c]).length g.cap], aO (α := UInt8) 5 g (l ++ [u8 c])]) w) := by
 have hce : c = ((u8 c).toNat : Int) := (ahN hc).symm
 clear hc
 generalize u8 c = x at *
 subst hce
 refine bR (args := [_, _]) Tryz.func114 rfl (hP.start) rfl ?_
 refine aD fun K1 hK1 => ?_
 refine aR ?_
 refine aH bX ?_
 refine aU (hK1 _ _ ?_); clear hK1
 refine aD fun K2 hK2 => ?_
 refine aR ?_
 refine aH aG ?_
 refine aF (mK (iQ.cons .head .nil) (fun S w hs hP => Vg _ w b u _ hP) (by intro r c hc; simp only [List.mem_cons, List.not_mem_nil, or_false] at hc; rcases hc with rfl; exact Bq) (fun r1 => ?_))
 dsimp only [List.cons_append, List.nil_append]
 refine aU (hK2 _ _ ?_); clear hK2
 refine aD fun K3 hK3 => ?_
 refine aR ?_
 refine aH aG ?_
 refine aH aG ?_
 refine aH jU ?_
 refine aH (ay 1) ?_
 refine aH (aC (b := b)) ?_
 refine aH aG ?_
 refine aF (kE (α := UInt8) 5 (fun _ => ()) ([x] : List UInt8) (mD.flat (fun _ _ _ _ => trivial)) (fun r5 => ?_))
 refine aF (ow (r := r) (r2 := r5) (by intro r'; repeat (first | exact eD.head | apply eD.tail)) (Kn.aO (e := 5) (r := r5) (by repeat (first | exact Has.head | apply Has.tail))) (mD.flat (fun _ _ _ _ => trivial)) (of_decide_eq_true hb) (fun r7 => ?_))
 refine aH jU ?_
 refine aH (ay 1) ?_
 refine aF (qh (b := b) (l' := [lV true b, .slice r7.a (l ++ [x]).length r7.cap]) (k := ?_))
 refine aU (hK3 _ _ ?_); clear hK3
 refine aD fun K4 hK4 => ?_
 refine aR ?_
 refine aH bX ?_
 refine aU (hK4 _ _ ?_); clear hK4
 refine aL (aZ (fun w hm => fO r7 hm rfl))
theorem aam (S : bD) (w : World) (b : Nat) (u : Bool) (r : SR Unit) (l : List UInt8) (s : Str) (hb : decide (l.length + s.l.length ≤ 140737488355328) = true)
  (hP : Pre S [own b 176 [lV u b, .slice r.a l.length r.cap], aO (α := UInt8) 5 r l] w) :
  Calls Tryz.prog 115 #[.pointer (some ⟨b, 0, none⟩), .string s.ba] w (Post (β := SR Unit) S [own b 176 [lV u b, .slice r.a l.length r.cap], aO (α := UInt8) 5 r l] (fun _ => .tuple #[.int .i64 (s.l.length : Int), .nilIface])
   (fun g => [own b 176 [lV true b, .slice g.a (l ++ s.l).length g.cap], aO (α := UInt8) 5 g (l ++ s.l)]) w) := by
 refine bR (args := [_, _]) Tryz.func115 rfl (hP.start) rfl ?_
 refine aD fun K1 hK1 => ?_
 refine aR ?_
 refine aH bX ?_
 refine aH bX ?_
 refine aU (hK1 _ _ ?_); clear hK1
 refine aD fun K2 hK2 => ?_
 refine aR ?_
 refine aH aG ?_
 refine aF (mK (iQ.cons .head .nil) (fun S w hs hP => Vg _ w b u _ hP) (by intro r c hc; simp only [List.mem_cons, List.not_mem_nil, or_false] at hc; rcases hc with rfl; exact Bq) (fun r1 => ?_))
 dsimp only [List.cons_append, List.nil_append]
 refine aU (hK2 _ _ ?_); clear hK2
 refine aD fun K3 hK3 => ?_
 refine aR ?_
 refine aH aG ?_
 refine aH aG ?_
 refine aH jU ?_
 refine aH (ay 1) ?_
 refine aH (aC (b := b)) ?_
 refine aH aG ?_
 refine aF (ahv (r := r) (s := s) (by intro r'; repeat (first | exact eD.head | apply eD.tail)) (of_decide_eq_true hb) (fun r7 => ?_))
 refine aH jU ?_
 refine aH (ay 1) ?_
 refine aF (qh (b := b) (l' := [lV true b, .slice r7.a (l ++ s.l).length r7.cap]) (k := ?_))
 refine aU (hK3 _ _ ?_); clear hK3
 refine aD fun K4 hK4 => ?_
 refine aR ?_
 refine aH aG ?_
 refine aH oI ?_
 refine aH bX ?_
 refine aH bX ?_
 refine aU (hK4 _ _ ?_); clear hK4
 refine aL (jQ (fun w hm => fO r7 hm rfl))
theorem aal (S : bD) (w : World) (b : Nat) (u : Bool) (r : SR Unit) (l : List UInt8)
  (hP : Pre S [own b 176 [lV u b, .slice r.a l.length r.cap], aO (α := UInt8) 5 r l] w) :
  Calls Tryz.prog 116 #[.pointer (some ⟨b, 0, none⟩)] w (Post (β := Unit) S [own b 176 [lV u b, .slice r.a l.length r.cap], aO (α := UInt8) 5 r l] (fun _ => .string (⟨l⟩ : Str).ba) (fun _ => []) w) := by
 refine bR (args := [_]) Tryz.func116 rfl (hP.start) rfl ?_
 refine aD fun K1 hK1 => ?_
 refine aR ?_
 refine aH bX ?_
 refine aU (hK1 _ _ ?_); clear hK1
 refine aD fun K2 hK2 => ?_
 refine fA [own b 176 [lV u b, .slice r.a l.length r.cap]] (by repeat (first | exact List.Sublist.refl _ | apply List.Sublist.cons_cons | apply List.Sublist.cons)) ?_
 refine au 0 rfl aG ?_
 refine au 1 rfl jU ?_
 refine au 2 rfl (ay 1) ?_
 refine au 3 rfl (aC (b := b)) ?_
 refine au 5 rfl aG ?_
 refine au 6 rfl jU ?_
 refine au 7 rfl (ay 1) ?_
 refine au 8 rfl (aC (b := b)) ?_
 refine au 9 rfl bE ?_
 refine bB 4 rfl (ahy (r := r) (xs := l) (e := 5) (by repeat (first | exact Has.head | apply Has.tail)) (fun q hq => ⟨fun w hm => hm.sub (by repeat (first | exact List.Sublist.refl _ | apply List.Sublist.cons_cons | apply List.Sublist.cons)), ?_⟩))
 refine bB 10 rfl (ahz (r := r) (l := l) (e := 5) (by repeat (first | exact jC.head | apply jC.tail)) hq ⟨fun w hm => hm.sub (by repeat (first | exact List.Sublist.refl _ | apply List.Sublist.cons_cons | apply List.Sublist.cons)), ?_⟩)
 refine bB 11 rfl (NV bX ⟨fun w hm => hm.sub (by repeat (first | exact List.Sublist.refl _ | apply List.Sublist.cons_cons | apply List.Sublist.cons)), ?_⟩)
 refine dG (hK2 _ _ ?_); clear hK2
 refine aL (aZ (fun w hm => fO () hm rfl))
end Go.Proofs.YtcalibhfgdncaaaGreatDoor
