/- strings.Builder: copyCheck, WriteByte, WriteString, String over the engine's chunks. -/
import Derived.Test.YtohhihdjdelckaaDoorTypes
import Derived.Test.YtohhihdjdelckaaDoorDm
set_option linter.all false
namespace Go.Proofs
open Go.Dc
set_option maxHeartbeats 1000000 in
set_option maxRecDepth 100000 in
theorem Tryd.copyCheck_used (b : Nat) (w : World) (h0 : w.cell? ⟨b, 0, none⟩ = some (.pointer (some ⟨b, 0, none⟩))) :
    Calls Tryd.prog 95 #[.pointer (some ⟨b, 0, none⟩)] w fun e w' => e = .returned (.tuple #[]) ∧ w' = w := by
  obtain ⟨j, hj, _⟩ := Option.map_eq_some_iff.1 (show (Tryd.prog.info? 121).map (·.size) = some 2 by kernel_rfl)
  go_enter Tryd.func95, Tryd.ntmps95
  go_wp2
  rw [Lib.run_neq_ptr_same w _ Tryd.underlying119 hj]
  go_wp2
  go_end0
  exact ⟨rfl, rfl⟩
set_option maxHeartbeats 1000000 in
set_option maxRecDepth 100000 in
theorem Tryd.copyCheck_fresh (b : Nat) (w : World) (h0 : w.cell? ⟨b, 0, none⟩ = some (.pointer none)) (hsh : w.shape? b = some (121, 2)) (hfz : w.frozen? ⟨b, 0, none⟩ = false) :
    Calls Tryd.prog 95 #[.pointer (some ⟨b, 0, none⟩)] w fun e w' => e = .returned (.tuple #[]) ∧ w' = w.setCell ⟨b, 0, none⟩ (.pointer (some ⟨b, 0, none⟩)) := by
  obtain ⟨j, hj, hjs⟩ := Option.map_eq_some_iff.1 (show (Tryd.prog.info? 121).map (·.size) = some 2 by kernel_rfl)
  go_enter Tryd.func95, Tryd.ntmps95
  go_wp2
  rw [Lib.run_to_unsafe w ⟨b, 0, none⟩ Tryd.underlying119 Tryd.underlying159 hj (by rw [hjs]; decide) hsh (Nat.zero_lt_succ 1)]
  simp only [Result.andThen]
  rw [Oper.upon_value]
  go_wp2
  rw [run_callFunc_extern Tryd.func113 (by kernel_rfl) (by kernel_rfl) (by kernel_rfl) (e := Extern.AbiNoEscape.same) (by kernel_rfl)]
  rw [Lib.run_noEscape]
  simp only [Result.andThen]
  rw [Oper.upon_value]
  go_wp2
  rw [Lib.run_from_unsafe w ⟨b, 0, none⟩ Tryd.underlying159 Tryd.underlying119 hj hsh (by kernel_rfl)]
  simp only [Result.andThen]
  rw [Oper.upon_value]
  go_wp2
  go_end0
  exact ⟨rfl, rfl⟩
end Go.Proofs
namespace Go.Proofs.YtohhihdjdelckaaDoor
open Go.Dc Go.RowKit
set_option maxRecDepth 10000
theorem copyCheck_spec (S : Soup) (w : World) (b : Nat) (u : Bool) (s : Value) (hP : Pre S [own b 121 [bptr u b, s]] w) :
    Calls Tryd.prog 95 #[.pointer (some ⟨b, 0, none⟩)] w (Post (β := Unit) S [own b 121 [bptr u b, s]] (fun _ => .tuple #[]) (fun _ => [own b 121 [bptr true b, s]]) w) := by
  have hm := hP.start
  have hbk : w.heap[b]? = some (.cells #[bptr u b, s] 121 (0, 0)) := (Has.head : Has _ (own b _ _)).own hm
  cases u with
  | true =>
    refine (Tryd.copyCheck_used b w (by simp [World.cell?, hbk, bptr])).mono ?_
    rintro e w' ⟨rfl, rfl⟩
    exact post_of () hm rfl
  | false =>
    refine (Tryd.copyCheck_fresh b w (by simp [World.cell?, hbk, bptr]) (by simp [World.shape?, hbk]) (by simp [World.frozen?, hbk])).mono ?_
    rintro e w' ⟨rfl, rfl⟩
    obtain ⟨S', hs⟩ := hm
    have hin := (hs.all _ List.mem_cons_self).2
    have hm2 : Mem (κof w S [own b 121 [bptr false b, s]]) [own b 121 [bptr true b, s]] (w.setCell ⟨b, 0, none⟩ (.pointer (some ⟨b, 0, none⟩))) := by
      refine ⟨S', hs.upd .head ?_ (fun _ h => h) (fun _ h => .inl h) (fun k hk => ?_) ?_ (fun k hk => ?_)⟩
      · refine ⟨rfl, rfl, rfl, by simp [World.setCell], fun k _ hn => ?_⟩
        have hne : b ≠ k := fun h => hn h.symm
        simp [World.setCell, Array.getElem?_modify, hne]
      · have := hs.lt k hk
        simpa [World.setCell] using this
      · show (World.setCell _ _ _).heap[b]? = _
        simp [World.setCell, Array.getElem?_modify, hbk, bptr]
      · have : k = b := hk
        subst this
        exact ⟨.inl rfl, by simpa [World.setCell] using (hin k rfl).1, (hin k rfl).2.1⟩
    exact post_of () hm2 rfl

theorem Builder_WriteByte_spec (S : Soup) (w : World) (b : Nat) (u : Bool) (r : SR Unit) (l : List UInt8) (c : Int) (hb : decide ((l.length + 1) * 1 ≤ 140737488355328) = true) (hc : u8b c = true)
    (hP : Pre S [own b 121 [bptr u b, .slice r.a l.length r.cap], trow (α := UInt8) 5 r l] w) :
    Calls Tryd.prog 74 #[.pointer (some ⟨b, 0, none⟩), .int .u8 c] w (Post (β := SR Unit) S [own b 121 [bptr u b, .slice r.a l.length r.cap], trow (α := UInt8) 5 r l] (fun _ => .nilIface)
      (fun g => [own b 121 [bptr true b, .slice g.a (l ++ [u8 c]).length g.cap], trow (α := UInt8) 5 g (l ++ [u8 c])]) w) := by
  have hce : c = ((u8 c).toNat : Int) := (u8_toNat hc).symm
  clear hc
  generalize u8 c = x at *
  subst hce
  refine calls_cw (args := [_, _]) Tryd.func74 rfl (hP.start) rfl ?_
  refine cw_seq fun K1 hK1 => ?_
  refine cw_region ?_
  refine ow_ev ev_assign ?_
  refine ow_nil (hK1 _ _ ?_); clear hK1
  refine cw_seq fun K2 hK2 => ?_
  refine cw_region ?_
  refine ow_ev ev_move ?_
  refine ow_cons (st_callF (SelL.cons .head .nil) (fun S w hs hP => copyCheck_spec _ w b u _ hP) (by intro r c hc; simp only [List.mem_cons, List.not_mem_nil, or_false] at hc; rcases hc with rfl; exact flatC_own) (fun r1 => ?_))
  dsimp only [List.cons_append, List.nil_append]
  refine ow_nil (hK2 _ _ ?_); clear hK2
  refine cw_seq fun K3 hK3 => ?_
  refine cw_region ?_
  refine ow_ev ev_move ?_
  refine ow_ev ev_move ?_
  refine ow_ev ev_nilcheck ?_
  refine ow_ev (ev_field_addr 1) ?_
  refine ow_ev (ev_load_own (b := b)) ?_
  refine ow_ev ev_move ?_
  refine ow_cons (st_bslice (α := UInt8) 5 (fun _ => ()) ([x] : List UInt8) (OkL.flat (fun _ _ _ _ => trivial)) (fun r5 => ?_))
  refine ow_cons (st_append (r := r) (r2 := r5) (by intro r'; repeat (first | exact Upd.head | apply Upd.tail)) (Kn.trow (e := 5) (r := r5) (by repeat (first | exact Has.head | apply Has.tail))) (OkL.flat (fun _ _ _ _ => trivial)) (of_decide_eq_true hb) (fun r7 => ?_))
  refine ow_ev ev_nilcheck ?_
  refine ow_ev (ev_field_addr 1) ?_
  refine ow_cons (st_store_own (b := b) (l' := [bptr true b, .slice r7.a (l ++ [x]).length r7.cap]) (k := ?_))
  refine ow_nil (hK3 _ _ ?_); clear hK3
  refine cw_seq fun K4 hK4 => ?_
  refine cw_region ?_
  refine ow_ev ev_assign ?_
  refine ow_nil (hK4 _ _ ?_); clear hK4
  refine cw_ret (kw_retc1 (fun w hm => post_of r7 hm rfl))

theorem Builder_WriteString_spec (S : Soup) (w : World) (b : Nat) (u : Bool) (r : SR Unit) (l : List UInt8) (s : Str) (hb : decide (l.length + s.l.length ≤ 140737488355328) = true)
    (hP : Pre S [own b 121 [bptr u b, .slice r.a l.length r.cap], trow (α := UInt8) 5 r l] w) :
    Calls Tryd.prog 75 #[.pointer (some ⟨b, 0, none⟩), .string s.ba] w (Post (β := SR Unit) S [own b 121 [bptr u b, .slice r.a l.length r.cap], trow (α := UInt8) 5 r l] (fun _ => .tuple #[.int .i64 (s.l.length : Int), .nilIface])
      (fun g => [own b 121 [bptr true b, .slice g.a (l ++ s.l).length g.cap], trow (α := UInt8) 5 g (l ++ s.l)]) w) := by
  refine calls_cw (args := [_, _]) Tryd.func75 rfl (hP.start) rfl ?_
  refine cw_seq fun K1 hK1 => ?_
  refine cw_region ?_
  refine ow_ev ev_assign ?_
  refine ow_ev ev_assign ?_
  refine ow_nil (hK1 _ _ ?_); clear hK1
  refine cw_seq fun K2 hK2 => ?_
  refine cw_region ?_
  refine ow_ev ev_move ?_
  refine ow_cons (st_callF (SelL.cons .head .nil) (fun S w hs hP => copyCheck_spec _ w b u _ hP) (by intro r c hc; simp only [List.mem_cons, List.not_mem_nil, or_false] at hc; rcases hc with rfl; exact flatC_own) (fun r1 => ?_))
  dsimp only [List.cons_append, List.nil_append]
  refine ow_nil (hK2 _ _ ?_); clear hK2
  refine cw_seq fun K3 hK3 => ?_
  refine cw_region ?_
  refine ow_ev ev_move ?_
  refine ow_ev ev_move ?_
  refine ow_ev ev_nilcheck ?_
  refine ow_ev (ev_field_addr 1) ?_
  refine ow_ev (ev_load_own (b := b)) ?_
  refine ow_ev ev_move ?_
  refine ow_cons (st_append_str (r := r) (s := s) (by intro r'; repeat (first | exact Upd.head | apply Upd.tail)) (of_decide_eq_true hb) (fun r7 => ?_))
  refine ow_ev ev_nilcheck ?_
  refine ow_ev (ev_field_addr 1) ?_
  refine ow_cons (st_store_own (b := b) (l' := [bptr true b, .slice r7.a (l ++ s.l).length r7.cap]) (k := ?_))
  refine ow_nil (hK3 _ _ ?_); clear hK3
  refine cw_seq fun K4 hK4 => ?_
  refine cw_region ?_
  refine ow_ev ev_move ?_
  refine ow_ev ev_slen ?_
  refine ow_ev ev_assign ?_
  refine ow_ev ev_assign ?_
  refine ow_nil (hK4 _ _ ?_); clear hK4
  refine cw_ret (kw_retc2 (fun w hm => post_of r7 hm rfl))

theorem Builder_String_spec (S : Soup) (w : World) (b : Nat) (u : Bool) (r : SR Unit) (l : List UInt8)
    (hP : Pre S [own b 121 [bptr u b, .slice r.a l.length r.cap], trow (α := UInt8) 5 r l] w) :
    Calls Tryd.prog 76 #[.pointer (some ⟨b, 0, none⟩)] w (Post (β := Unit) S [own b 121 [bptr u b, .slice r.a l.length r.cap], trow (α := UInt8) 5 r l] (fun _ => .string (⟨l⟩ : Str).ba) (fun _ => []) w) := by
  refine calls_cw (args := [_]) Tryd.func76 rfl (hP.start) rfl ?_
  refine cw_seq fun K1 hK1 => ?_
  refine cw_region ?_
  refine ow_ev ev_assign ?_
  refine ow_nil (hK1 _ _ ?_); clear hK1
  refine cw_seq fun K2 hK2 => ?_
  refine cw_region_any [own b 121 [bptr u b, .slice r.a l.length r.cap]] (by repeat (first | exact List.Sublist.refl _ | apply List.Sublist.cons_cons | apply List.Sublist.cons)) ?_
  refine aw_ev 0 rfl ev_move ?_
  refine aw_ev 1 rfl ev_nilcheck ?_
  refine aw_ev 2 rfl (ev_field_addr 1) ?_
  refine aw_ev 3 rfl (ev_load_own (b := b)) ?_
  refine aw_ev 5 rfl ev_move ?_
  refine aw_ev 6 rfl ev_nilcheck ?_
  refine aw_ev 7 rfl (ev_field_addr 1) ?_
  refine aw_ev 8 rfl (ev_load_own (b := b)) ?_
  refine aw_ev 9 rfl ev_len ?_
  refine aw_one 4 rfl (st_sliceData (r := r) (xs := l) (e := 5) (by repeat (first | exact Has.head | apply Has.tail)) (fun q hq => ⟨fun w hm => hm.sub (by repeat (first | exact List.Sublist.refl _ | apply List.Sublist.cons_cons | apply List.Sublist.cons)), ?_⟩))
  refine aw_one 10 rfl (st_unsafeString (r := r) (l := l) (e := 5) (by repeat (first | exact Sel.head | apply Sel.tail)) hq ⟨fun w hm => hm.sub (by repeat (first | exact List.Sublist.refl _ | apply List.Sublist.cons_cons | apply List.Sublist.cons)), ?_⟩)
  refine aw_one 11 rfl (st_ev ev_assign ⟨fun w hm => hm.sub (by repeat (first | exact List.Sublist.refl _ | apply List.Sublist.cons_cons | apply List.Sublist.cons)), ?_⟩)
  refine aw_done (hK2 _ _ ?_); clear hK2
  refine cw_ret (kw_retc1 (fun w hm => post_of () hm rfl))
end Go.Proofs.YtohhihdjdelckaaDoor
