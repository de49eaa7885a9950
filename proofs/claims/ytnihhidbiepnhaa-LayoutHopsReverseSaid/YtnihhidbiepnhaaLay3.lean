/- Contracts of layout.Has and of the law's awake. -/
import Derived.Test.YtnihhidbiepnhaaLay2
import Derived.Test.YtnihhidbiepnhaaKeep1
namespace Go.Proofs.Ytnihhidbiepnhaa
open Go.Eng Go.RowKit
set_option maxRecDepth 10000

theorem sl_own {w0 w : World} {H : List Chunk} {b T : Nat} {l : List Value} (hm : Mem w0 H w) (h : Has H (own b T l)) : Sl 0 w.heap.size w (some ⟨b, 0, none⟩) l := fun j u hu =>
  ⟨rfl, Nat.zero_le _, h.lt hm rfl, by show w.cell? ⟨b, 0 + j, none⟩ = _; rw [Nat.zero_add]; exact own_cell (h.φ hm) hu⟩

/-- The contract of Check at one layout. -/
def CheckAt (v : LayV) (l : Lay) : Prop := ∀ w : World, LayAt 0 w.heap.size w v l → Calls Try.prog 20 #[.agg (v.cells l).toArray] w (Ret w (.int .i64 (checkL l)))

theorem check0_spec (v : LayV) (l : Lay) (_h0 : l.links = []) : CheckAt v l := fun w hl => check_spec w v l hl

def hasB (l : Lay) (s d : Int) : Bool := ((decide (0 ≤ s) && decide (s < (l.sections.length : Int))) && (decide (d = 0) || decide (d = 1))) && decide (checkL l = 0)

theorem has_spec (w : World) (v : LayV) (l : Lay) (s d : Int) (hl : LayAt 0 w.heap.size w v l) : Calls Try.prog 40 #[.agg (v.cells l).toArray, .agg #[.int .i64 s, .int .i64 d]] w (Ret w (.bool (hasB l s d))) := by
  refine calls_cw (args := [_, _]) Try.func40 rfl (Mem.start w) rfl ?_
  refine cw_seq fun K1 hK1 => ?_
  refine cw_region ?_
  refine ow_cons (st_box (k := fun b2 => ?_))
  refine ow_cons (st_box (k := fun b3 => ?_))
  refine ow_ev ev_assign ?_
  refine ow_nil (hK1 _ _ ?_); clear hK1
  refine cw_seq fun K2 hK2 => ?_
  refine cw_region ?_
  refine ow_ev (ev_field_addr 0) ?_
  refine ow_ev ev_load_own ?_
  refine ow_ev ev_geq ?_
  refine ow_ev ev_move ?_
  refine ow_evg rfl (ev_field_addr 0) ?_
  refine ow_evg rfl ev_load_own ?_
  refine ow_evg rfl (ev_field_addr 2) ?_
  refine ow_evg rfl ev_load_own ?_
  refine ow_evg rfl ev_len ?_
  refine ow_evg rfl ev_lss ?_
  refine ow_ev ev_and ?_
  refine ow_ev ev_move ?_
  refine ow_evg rfl (ev_field_addr 1) ?_
  refine ow_evg rfl ev_load_own ?_
  refine ow_evg rfl ev_eql ?_
  refine ow_evg rfl ev_move ?_
  refine ow_evg rfl (ev_field_addr 1) ?_
  refine ow_evg rfl ev_load_own ?_
  refine ow_evg rfl ev_eql ?_
  refine ow_evg rfl ev_or ?_
  refine ow_ev ev_and ?_
  refine ow_ev ev_move ?_
  refine ow_evg rfl ev_load_all ?_
  refine ow_callg rfl (fun hg w hm => check_spec w v l (LayAt.below hl (hm.below (by repeat (first | exact Has.head | apply Has.tail))))) ?_
  refine ow_evg rfl ev_eql ?_
  refine ow_ev ev_and ?_
  refine ow_ev ev_assign ?_
  refine ow_nil (hK2 _ _ ?_); clear hK2
  refine cw_ret (kw_ret1 rfl rfl (fun w hm => ret_of hm rfl))

def layX : Lay := ⟨[], [], [⟨bs [88], 2, 1000, 0, -1⟩], []⟩
def layX0 : Lay := ⟨[], [], [], []⟩
def vX (b : Nat) : LayV := ⟨none, 0, none, 0, some ⟨b, 0, none⟩, 1, none, 0⟩
def vX0 : LayV := ⟨none, 0, none, 0, none, 0, none, 0⟩
theorem layX_ok : checkL layX = 0 := by decide +kernel
theorem layX0_no : checkL layX0 = 1 := by decide +kernel
theorem hasX : hasB layX 0 0 = true := by decide +kernel
theorem layX_at {w0 w : World} {H : List Chunk} {b T : Nat} (hm : Mem w0 H w) (h : Has H (own b T (Sec.cells ⟨bs [88], 2, 1000, 0, -1⟩))) : LayAt 0 w.heap.size w (vX b) layX :=
  ⟨Sl.nil, Sl.nil, by show Sl 0 w.heap.size w (some ⟨b, 0, none⟩) (Sec.cells ⟨bs [88], 2, 1000, 0, -1⟩ ++ []); rw [List.append_nil]; exact sl_own hm h, Sl.nil⟩

theorem awake4_spec (w : World) : Calls Try.prog 19 #[] w (Ret w (.bool true)) := by
  refine calls_cw (args := []) Try.func19 rfl (Mem.start w) rfl ?_
  refine cw_seq fun K1 hK1 => ?_
  refine cw_region ?_
  refine ow_ev ev_assign ?_
  refine ow_nil (hK1 _ _ ?_); clear hK1
  refine cw_seq fun K2 hK2 => ?_
  refine cw_region ?_
  refine ow_ev (ev_build (Sec.cells ⟨bs [88], 2, 1000, 0, -1⟩)) ?_
  refine ow_cons (st_buildSlice 31 (Sec.cells ⟨bs [88], 2, 1000, 0, -1⟩) (k := fun b3 => ?_))
  refine ow_ev (ev_build ((vX b3).cells layX)) ?_
  refine ow_cons (st_alloc rfl (k := fun b1 => ?_))
  refine ow_cons (st_store_all (k := ?_))
  refine ow_nil (hK2 _ _ ?_); clear hK2
  refine cw_seq fun K3 hK3 => ?_
  refine cw_region ?_
  refine ow_ev ev_load_all ?_
  refine ow_cons (st_callv (fun w hm => check0_spec (vX b3) layX rfl w (layX_at hm (by repeat (first | exact Has.head | apply Has.tail)))) ?_)
  refine ow_ev ev_eql ?_
  refine ow_ev ev_move ?_
  refine ow_evg rfl (ev_build (vX0.cells layX0)) ?_
  refine ow_callg rfl (fun hg w hm => check0_spec vX0 layX0 rfl w ⟨Sl.nil, Sl.nil, Sl.nil, Sl.nil⟩) ?_
  refine ow_evg rfl ev_eql ?_
  refine ow_ev ev_and ?_
  refine ow_ev ev_move ?_
  refine ow_evg rfl ev_load_all ?_
  refine ow_evg rfl (ev_build [.int .i64 0, .int .i64 0]) ?_
  refine ow_callg rfl (fun hg w hm => has_spec w (vX b3) layX 0 0 (layX_at hm (by repeat (first | exact Has.head | apply Has.tail)))) ?_
  refine ow_ev ev_and ?_
  refine ow_ev ev_assign ?_
  refine ow_nil (hK3 _ _ ?_); clear hK3
  refine cw_ret (kw_ret1 rfl rfl (fun w hm => ret_of hm (by rw [layX_ok, layX0_no, hasX]; rfl)))

end Go.Proofs.Ytnihhidbiepnhaa
