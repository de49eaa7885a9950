/- Contracts of package layout, first part: checkName, sectionInRange, and the plain functions that they come to. -/
import Derived.Test.YtohhihdjdelckaaDoorEm
import Derived.Test.YtohhihdjdelckaaDoorWords
set_option linter.all false
namespace Go.Proofs.YtohhihdjdelckaaDoor
open Go.Eng Go.RowKit
set_option maxRecDepth 10000

/-- Go's string value of a name. -/
structure Sec where
  name : ByteArray
  len : Int
  lim : Int
  grade : Int
  station : Int
def Sec.cells (s : Sec) : List Value := [.string s.name, .int .i64 s.len, .int .i64 s.lim, .int .i64 s.grade, .int .i64 s.station]
structure Lnk where
  a : Int
  aEnd : Int
  b : Int
  bEnd : Int
  point : Int
  pos : Int
def Lnk.cells (k : Lnk) : List Value := [.int .i64 k.a, .int .i64 k.aEnd, .int .i64 k.b, .int .i64 k.bEnd, .int .i64 k.point, .int .i64 k.pos]
structure Lay where
  stations : List ByteArray
  points : List ByteArray
  sections : List Sec
  links : List Lnk
def strCells (l : List ByteArray) : List Value := l.map .string
/-- The headers of a layout's four slices. -/
structure LayV where
  a1 : Option Addr
  c1 : Nat
  a2 : Option Addr
  c2 : Nat
  a3 : Option Addr
  c3 : Nat
  a4 : Option Addr
  c4 : Nat
def LayV.cells (v : LayV) (l : Lay) : List Value := [.slice v.a1 l.stations.length v.c1, .slice v.a2 l.points.length v.c2, .slice v.a3 l.sections.length v.c3, .slice v.a4 l.links.length v.c4]
structure LayAt (lo hi : Nat) (w : World) (v : LayV) (l : Lay) : Prop where
  st : Sl lo hi w v.a1 (strCells l.stations)
  pt : Sl lo hi w v.a2 (strCells l.points)
  se : Sl lo hi w v.a3 (l.sections.flatMap Sec.cells)
  li : Sl lo hi w v.a4 (l.links.flatMap Lnk.cells)

def nameErr (s : ByteArray) (seen : List ByteArray) : Int := if nameB s = false then 3 else if s ∈ seen then 5 else 0
def seenAfter (s : ByteArray) (seen : List ByteArray) : List ByteArray := if nameErr s seen = 0 then seen ++ [s] else seen
def secB (nst : Nat) (s : Sec) : Bool := ((((((decide (1 ≤ s.len) && decide (s.len ≤ 400)) && decide (1000 ≤ s.lim)) && decide (s.lim ≤ 100000)) && decide (-40 ≤ s.grade)) && decide (s.grade ≤ 40)) && decide (-1 ≤ s.station)) && decide (s.station < (nst : Int))

theorem sectionInRange_spec (w : World) (v : LayV) (l : Lay) (s : Sec) : Calls Tryd.prog 36 #[.agg (v.cells l).toArray, .agg s.cells.toArray] w (Ret w (.bool (secB l.stations.length s))) := by
  refine calls_cw (args := [_, _]) Tryd.func36 rfl (Mem.start w) rfl ?_
  refine cw_seq fun K1 hK1 => ?_
  refine cw_region ?_
  refine ow_cons (st_box (k := fun b2 => ?_))
  refine ow_cons (st_box (k := fun b3 => ?_))
  refine ow_ev ev_assign ?_
  refine ow_nil (hK1 _ _ ?_); clear hK1
  refine cw_seq fun K2 hK2 => ?_
  refine cw_region ?_
  refine ow_ev (ev_field_addr 1) ?_
  refine ow_ev ev_load_own ?_
  refine ow_ev ev_geq ?_
  refine ow_ev ev_move ?_
  refine ow_evg rfl (ev_field_addr 1) ?_
  refine ow_evg rfl ev_load_own ?_
  refine ow_evg rfl ev_leq ?_
  refine ow_ev ev_and ?_
  refine ow_ev ev_move ?_
  refine ow_evg rfl (ev_field_addr 2) ?_
  refine ow_evg rfl ev_load_own ?_
  refine ow_evg rfl ev_geq ?_
  refine ow_ev ev_and ?_
  refine ow_ev ev_move ?_
  refine ow_evg rfl (ev_field_addr 2) ?_
  refine ow_evg rfl ev_load_own ?_
  refine ow_evg rfl ev_leq ?_
  refine ow_ev ev_and ?_
  refine ow_ev ev_move ?_
  refine ow_evg rfl (ev_field_addr 3) ?_
  refine ow_evg rfl ev_load_own ?_
  refine ow_evg rfl ev_geq ?_
  refine ow_ev ev_and ?_
  refine ow_ev ev_move ?_
  refine ow_evg rfl (ev_field_addr 3) ?_
  refine ow_evg rfl ev_load_own ?_
  refine ow_evg rfl ev_leq ?_
  refine ow_ev ev_and ?_
  refine ow_ev ev_move ?_
  refine ow_evg rfl (ev_field_addr 4) ?_
  refine ow_evg rfl ev_load_own ?_
  refine ow_evg rfl ev_geq ?_
  refine ow_ev ev_and ?_
  refine ow_ev ev_move ?_
  refine ow_evg rfl (ev_field_addr 4) ?_
  refine ow_evg rfl ev_load_own ?_
  refine ow_evg rfl (ev_field_addr 0) ?_
  refine ow_evg rfl ev_load_own ?_
  refine ow_evg rfl ev_len ?_
  refine ow_evg rfl ev_lss ?_
  refine ow_ev ev_and ?_
  refine ow_ev ev_assign ?_
  refine ow_nil (hK2 _ _ ?_); clear hK2
  refine cw_ret (kw_ret1 rfl rfl (fun w hm => ret_of hm rfl))

theorem ne1 {s : ByteArray} {S : List ByteArray} (h : (!nameB s) = true) : nameErr s S = 3 := by simp at h; simp [nameErr, h]
theorem ne2 {s : ByteArray} {S : List ByteArray} (h : (!nameB s) = false) (h2 : s ∈ S) : nameErr s S = 5 := by simp at h; simp [nameErr, h, h2]
theorem ne3 {s : ByteArray} {S : List ByteArray} (h : (!nameB s) = false) (h2 : ¬ s ∈ S) : nameErr s S = 0 := by simp at h; simp [nameErr, h, h2]
theorem se1 {s : ByteArray} {S : List ByteArray} (h : nameErr s S ≠ 0) : seenAfter s S = S := by simp [seenAfter, h]
theorem se2 {s : ByteArray} {S : List ByteArray} (h : nameErr s S = 0) : seenAfter s S = S ++ [s] := by simp [seenAfter, h]

theorem checkName_spec (w : World) (s : ByteArray) (b : Nat) (S : List ByteArray) (hφ : (kset b S).φ w) (hb : ∀ k, (kset b S).fp k → k < w.heap.size) :
    Calls Tryd.prog 35 #[.string s, .map (some b)] w (Mut (kset b S) (fun _ : Unit => .int .i64 (nameErr s S)) (fun _ => True) (fun _ => kset b (seenAfter s S)) w) := by
  refine calls_cw (args := [_, _]) Tryd.func35 rfl (Mem.start_but (kset b S) hφ hb) rfl ?_
  refine cw_seq fun K1 hK1 => ?_
  refine cw_region ?_
  refine ow_ev ev_assign ?_
  refine ow_nil (hK1 _ _ ?_); clear hK1
  refine cw_seq fun K2 hK2 => ?_
  refine cw_block ?_
  refine cw_seq fun K3 hK3 => ?_
  refine cw_region ?_
  refine ow_ev ev_move ?_
  refine ow_cons (st_callv (fun w hm => name_spec w _) ?_)
  refine ow_ev ev_not ?_
  refine ow_ev ev_assign ?_
  refine ow_nil (hK3 _ _ ?_); clear hK3
  refine cw_cond rfl (fun hc1 => ?_) (fun hc1 => ?_)  -- t5
  ·
    refine cw_seq fun K4 hK4 => ?_
    refine cw_region ?_
    refine ow_ev ev_assign ?_
    refine ow_nil (hK4 _ _ ?_); clear hK4
    refine cw_ret (kw_ret1 rfl rfl (fun w hm => ⟨(), by rw [ne1 hc1], trivial, by rw [se1 (by rw [ne1 hc1]; decide)]; exact Has.head.φ hm, fun k hk => ⟨.inl hk, Has.lt (c := kset b S) Has.head hm hk⟩, hm.frame (.tail .head)⟩))
  ·
    refine cw_seq fun K5 hK5 => ?_
    refine cw_region ?_
    refine ow_ev ev_move ?_
    refine ow_ev ev_move ?_
    refine ow_ev ev_lookup_set ?_
    refine ow_ev ev_assign ?_
    refine ow_nil (hK5 _ _ ?_); clear hK5
    refine cw_if rfl (fun hc2 => ?_) (fun hc2 => ?_)  -- t9
    ·
      refine cw_seq fun K6 hK6 => ?_
      refine cw_region ?_
      refine ow_ev ev_assign ?_
      refine ow_nil (hK6 _ _ ?_); clear hK6
      refine cw_ret (kw_ret1 rfl rfl (fun w hm => ⟨(), by rw [ne2 hc1 hc2], trivial, by rw [se1 (by rw [ne2 hc1 hc2]; decide)]; exact Has.head.φ hm, fun k hk => ⟨.inl hk, Has.lt (c := kset b S) Has.head hm hk⟩, hm.frame (.tail .head)⟩))
    ·
      refine cw_skip (hK2 _ _ ?_); clear hK2
      refine cw_seq fun K7 hK7 => ?_
      refine cw_region ?_
      refine ow_ev ev_move ?_
      refine ow_ev ev_move ?_
      refine ow_cons (st_mapUpdate_set hc2 .head ?_)
      refine ow_nil (hK7 _ _ ?_); clear hK7
      refine cw_seq fun K8 hK8 => ?_
      refine cw_region ?_
      refine ow_ev ev_assign ?_
      refine ow_nil (hK8 _ _ ?_); clear hK8
      refine cw_ret (kw_ret1 rfl rfl (fun w hm => ⟨(), by rw [ne3 hc1 hc2], trivial, by rw [se2 (ne3 hc1 hc2)]; exact Has.head.φ hm, fun k hk => ⟨.inl hk, Has.lt (c := kset b (S ++ [s])) Has.head hm hk⟩, hm.frame (.tail .head)⟩))

end Go.Proofs.YtohhihdjdelckaaDoor
