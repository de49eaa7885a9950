/- Links. -/
import Derived.Test.YtnihhidbiepnhaaLay1
namespace Go.Proofs.Ytnihhidbiepnhaa
open Go.Eng Go.RowKit
set_option maxRecDepth 10000
theorem LayAt.below {w w' : World} {v : LayV} {l : Lay} (h : LayAt 0 w.heap.size w v l) (hb : Below w.heap.size w w') : LayAt 0 w'.heap.size w' v l :=
  ⟨h.st.mono (Nat.le_refl _) hb.size (fun k _ hk => hb.block k hk), h.pt.mono (Nat.le_refl _) hb.size (fun k _ hk => hb.block k hk), h.se.mono (Nat.le_refl _) hb.size (fun k _ hk => hb.block k hk), h.li.mono (Nat.le_refl _) hb.size (fun k _ hk => hb.block k hk)⟩

def atEnd (done : List Lnk) (e : Int) : List Lnk := done.filter (fun k => decide (2 * k.a + k.aEnd = e) || decide (2 * k.b + k.bEnd = e))
def joinB (a ae b be : Int) (k : Lnk) : Bool := (decide (a = k.a ∧ ae = k.aEnd) && decide (b = k.b ∧ be = k.bEnd)) || (decide (a = k.b ∧ ae = k.bEnd) && decide (b = k.a ∧ be = k.aEnd))
def fitsB (k : Lnk) : List Lnk → Bool
  | [] => true
  | [x] => (decide (k.point ≠ -1) && decide (k.point = x.point)) && decide (k.pos ≠ x.pos)
  | _ => false
def linkB (l : Lay) (k : Lnk) : Bool :=
  (((((((decide (0 ≤ k.a) && decide (k.a < (l.sections.length : Int))) && decide (0 ≤ k.b)) && decide (k.b < (l.sections.length : Int))) && (decide (k.aEnd = 0) || decide (k.aEnd = 1))) && (decide (k.bEnd = 0) || decide (k.bEnd = 1))) && decide (-1 ≤ k.point)) && decide (k.point < (l.points.length : Int))) && (decide (k.pos = 0) || (decide (k.pos = 1) && decide (k.point ≠ -1)))
def linksErr (l : Lay) : List Lnk → List Lnk → Int
  | _, [] => 0
  | done, k :: r =>
    if linkB l k = false then 4 else if k.a = k.b ∧ k.aEnd = k.bEnd then 1 else
    if (atEnd done (2 * k.a + k.aEnd)).any (joinB k.a k.aEnd k.b k.bEnd) = true then 5 else
    if fitsB k (atEnd done (2 * k.a + k.aEnd)) = false ∨ fitsB k (atEnd done (2 * k.b + k.bEnd)) = false then 11 else linksErr l (done ++ [k]) r
/-- No links: nothing to check. -/
theorem checkLinks0_spec (w : World) (v : LayV) (l : Lay) (h0 : l.links = []) (hb : l.sections.length ≤ 96) : Calls Try.prog 43 #[.agg (v.cells l).toArray] w (Ret w (.int .i64 (linksErr l [] l.links))) := by
  have hlen : (l.links.length : Int) = 0 := by simp [h0]
  refine calls_cw (args := [_]) Try.func43 rfl (Mem.start w) rfl ?_
  refine cw_seq fun K1 hK1 => ?_
  refine cw_region ?_
  refine ow_cons (st_box (k := fun b1 => ?_))
  refine ow_ev ev_assign ?_
  refine ow_nil (hK1 _ _ ?_); clear hK1
  refine cw_seq fun K2 hK2 => ?_
  refine cw_region ?_
  refine ow_ev (ev_field_addr 2) ?_
  refine ow_ev ev_load_own ?_
  refine ow_ev ev_len ?_
  refine ow_ev ev_mul ?_
  refine ow_cons (st_makeSlice (m := 2 * l.sections.length) (e := 26) (z := .slice none 0 0) 24 (k := fun a ha => ?_) (hb := by omega) (hm' := by omega))
  refine ow_ev ev_assign ?_
  refine ow_nil (hK2 _ _ ?_); clear hK2
  refine cw_seq fun K3 hK3 => ?_
  refine cw_seq fun K4 hK4 => ?_
  refine cw_region ?_
  refine ow_ev (ev_field_addr 3) ?_
  refine ow_ev ev_load_own ?_
  refine ow_ev ev_len ?_
  refine ow_ev ev_move ?_
  refine ow_nil (hK4 _ _ ?_); clear hK4
  refine cw_block ?_
  refine cw_loop (γ := Unit) (env := fun _ => [(17, .v (.int .i64 (l.links.length : Int))), (18, .v (.int .i64 0))]) (mem := fun _ => [old w]) (R := fun _ => True) (μ := fun _ => 0) (()) (trivial) ⟨rfl, rfl, trivial⟩ (fun w hm => hm.sub (by repeat (first | exact List.Sublist.refl _ | apply List.Sublist.cons_cons | apply List.Sublist.cons))) ?_
  intro _ hR1 KL1 hL1
  refine cw_seq fun K5 hK5 => ?_
  refine cw_region ?_
  refine ow_ev ev_lss ?_
  refine ow_nil (hK5 _ _ ?_); clear hK5
  refine cw_seq fun K6 hK6 => ?_
  refine cw_if rfl (fun hc1 => ?_) (fun hc1 => ?_)  -- t19
  ·
    exfalso; omega
  ·
    refine cw_exit (hK3 _ _ ?_); clear hK3
    refine cw_seq fun K23 hK23 => ?_
    refine cw_region ?_
    refine ow_ev ev_assign ?_
    refine ow_nil (hK23 _ _ ?_); clear hK23
    refine cw_ret (kw_ret1 rfl rfl (fun w hm => ret_of hm (by rw [h0]; rfl)))

end Go.Proofs.Ytnihhidbiepnhaa
