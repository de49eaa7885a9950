/- Contracts of package words: isLetter, isDigit, Name. Contracts of package layout, first part: checkName, sectionInRange, and the plain functions that they come to. Links. The contract of layout.checkLinks. The contract of layout.Check: it returns checkL. layout.Check, proved over the first engine, as a contract of the decompiler's form. -/
import Derived.Test.YtohhihdjdelckaaDoorEm
import Derived.Test.YtohhihdjdelckaaDoorProg
import Derived.Test.YtohhihdjdelckaaDoorTypes
set_option linter.all false
namespace Go.Proofs.YtohhihdjdelckaaDoor
open Go.Eng Go.RowKit
set_option maxRecDepth 10000

def letterB (c : Int) : Bool := (decide (65 ≤ c) && decide (c ≤ 90)) || (decide (97 ≤ c) && decide (c ≤ 122))
def digitB (c : Int) : Bool := decide (48 ≤ c) && decide (c ≤ 57)

theorem isLetter_spec (w : World) (c : Int) : Calls Tryd.prog 81 #[.int .u8 c] w (Ret w (.bool (letterB c))) := by
  refine calls_cw (args := [_]) Tryd.func81 rfl (Mem.start w) rfl ?_
  refine cw_seq fun K1 hK1 => ?_
  refine cw_region ?_
  refine ow_ev ev_assign ?_
  refine ow_nil (hK1 _ _ ?_); clear hK1
  refine cw_seq fun K2 hK2 => ?_
  refine cw_region ?_
  refine ow_ev ev_move ?_
  refine ow_ev ev_geq ?_
  refine ow_ev ev_move ?_
  refine ow_evg rfl ev_move ?_
  refine ow_evg rfl ev_leq ?_
  refine ow_ev ev_and ?_
  refine ow_ev ev_move ?_
  refine ow_evg rfl ev_move ?_
  refine ow_evg rfl ev_geq ?_
  refine ow_evg rfl ev_move ?_
  refine ow_evg rfl ev_move ?_
  refine ow_evg rfl ev_leq ?_
  refine ow_evg rfl ev_and ?_
  refine ow_ev ev_or ?_
  refine ow_ev ev_assign ?_
  refine ow_nil (hK2 _ _ ?_); clear hK2
  refine cw_ret (kw_ret1 rfl rfl (fun w hm => ret_of hm rfl))

theorem isDigit_spec (w : World) (c : Int) : Calls Tryd.prog 82 #[.int .u8 c] w (Ret w (.bool (digitB c))) := by
  refine calls_cw (args := [_]) Tryd.func82 rfl (Mem.start w) rfl ?_
  refine cw_seq fun K1 hK1 => ?_
  refine cw_region ?_
  refine ow_ev ev_assign ?_
  refine ow_nil (hK1 _ _ ?_); clear hK1
  refine cw_seq fun K2 hK2 => ?_
  refine cw_region ?_
  refine ow_ev ev_move ?_
  refine ow_ev ev_geq ?_
  refine ow_ev ev_move ?_
  refine ow_evg rfl ev_move ?_
  refine ow_evg rfl ev_leq ?_
  refine ow_ev ev_and ?_
  refine ow_ev ev_assign ?_
  refine ow_nil (hK2 _ _ ?_); clear hK2
  refine cw_ret (kw_ret1 rfl rfl (fun w hm => ret_of hm rfl))


def charB (c : Int) : Bool := letterB c || digitB c || decide (c = 95)
def nameB (s : ByteArray) : Bool := decide (1 ≤ s.size) && decide (s.size ≤ 12) && letterB (bt s 0) && (List.range s.size).all fun i => charB (bt s i)

theorem char_of {c : Int} (h : ((!letterB c && !digitB c) && decide (c ≠ 95)) = false) : charB c = true := by
  unfold charB
  cases hl : letterB c <;> cases hd : digitB c <;> simp [hl, hd] at h ⊢
  exact h

theorem name_no1 {s : ByteArray} (h : ((decide ((s.size : Int) < 1) || decide (12 < (s.size : Int))) || !letterB (bt s 0)) = true) : nameB s = false := by
  unfold nameB
  cases hl : letterB (bt s 0)
  · simp
  · simp [hl] at h
    rcases h with h | h
    · have : ¬ (1 ≤ s.size) := by omega
      simp [this]
    · have : ¬ (s.size ≤ 12) := by omega
      simp [this]

theorem name_no2 {s : ByteArray} {i : Int} (h0 : 0 ≤ i) (h1 : i < s.size) (h : ((!letterB (bt s i.toNat) && !digitB (bt s i.toNat)) && decide (bt s i.toNat ≠ 95)) = true) : nameB s = false := by
  have hc : charB (bt s i.toNat) = false := by
    unfold charB
    cases hl : letterB (bt s i.toNat) <;> cases hd : digitB (bt s i.toNat) <;> simp_all
  have : ((List.range s.size).all fun i => charB (bt s i)) = false := by
    rw [List.all_eq_false]
    exact ⟨i.toNat, by rw [List.mem_range]; omega, by simp [hc]⟩
  unfold nameB
  rw [this]
  simp

theorem name_yes {s : ByteArray} {i : Int} (h : ((¬ (s.size : Int) < 1) ∧ ¬ 12 < (s.size : Int)) ∧ letterB (bt s 0) = true) (hi : i = s.size) (hall : ∀ j, j < i.toNat → charB (bt s j) = true) : nameB s = true := by
  unfold nameB
  have h1 : 1 ≤ s.size := by omega
  have h2 : s.size ≤ 12 := by omega
  simp only [h1, h2, decide_true, h.2, Bool.true_and, List.all_eq_true, List.mem_range]
  intro j hj
  exact hall j (by omega)

theorem name_spec (w : World) (s : ByteArray) : Calls Tryd.prog 61 #[.string s] w (Ret w (.bool (nameB s))) := by
  refine calls_cw (args := [_]) Tryd.func61 rfl (Mem.start w) rfl ?_
  refine cw_seq fun K1 hK1 => ?_
  refine cw_region ?_
  refine ow_ev ev_assign ?_
  refine ow_nil (hK1 _ _ ?_); clear hK1
  refine cw_seq fun K2 hK2 => ?_
  refine cw_seq fun K3 hK3 => ?_
  refine cw_region ?_
  refine ow_ev ev_move ?_
  refine ow_ev ev_len_str ?_
  refine ow_ev ev_lss ?_
  refine ow_ev ev_move ?_
  refine ow_evg rfl ev_move ?_
  refine ow_evg rfl ev_len_str ?_
  refine ow_evg rfl ev_gtr ?_
  refine ow_ev ev_or ?_
  refine ow_ev ev_move ?_
  refine ow_evg rfl ev_move ?_
  refine ow_evg rfl ev_index_string ?_
  refine ow_callg rfl (fun _ w _ => isLetter_spec w _) ?_
  refine ow_evg rfl ev_not ?_
  refine ow_ev ev_or ?_
  refine ow_nil (hK3 _ _ ?_); clear hK3
  refine cw_cond rfl (fun hc1 => ?_) (fun hc1 => ?_)  -- t17
  ·
    refine cw_seq fun K4 hK4 => ?_
    refine cw_region ?_
    refine ow_ev ev_assign ?_
    refine ow_nil (hK4 _ _ ?_); clear hK4
    refine cw_ret (kw_ret1 rfl rfl (fun w hm => ret_of hm (congrArg Value.bool (name_no1 hc1).symm)))
  ·
    refine cw_skip (hK2 _ _ ?_); clear hK2
    refine cw_seq fun K5 hK5 => ?_
    refine cw_seq fun K6 hK6 => ?_
    refine cw_region ?_
    refine ow_ev ev_move ?_
    refine ow_ev ev_len_str ?_
    refine ow_ev ev_move ?_
    refine ow_nil (hK6 _ _ ?_); clear hK6
    refine cw_block ?_  -- block 0
    simp only [Bool.or_eq_false_iff, decide_eq_false_iff_not, Bool.not_eq_false'] at hc1
    refine cw_loop (γ := Int) (env := fun i => [(0, .v (.string s)), (19, .v (.int .i64 (s.size : Int))), (20, .v (.int .i64 i))]) (mem := fun _ => [old w])
      (R := fun i => 0 ≤ i ∧ i ≤ s.size ∧ ∀ j, j < i.toNat → charB (bt s j) = true) (μ := fun i => (s.size - i).toNat) 0 ⟨by omega, by omega, fun j hj => by simp at hj⟩ ⟨rfl, rfl, rfl, trivial⟩ (fun _ h => h) ?_
    · intro i hR KL hL
      obtain ⟨hi0, hi1, hall⟩ := hR
      refine cw_seq fun K7 hK7 => ?_
      refine cw_region ?_
      refine ow_ev ev_lss ?_
      refine ow_nil (hK7 _ _ ?_); clear hK7
      refine cw_seq fun K8 hK8 => ?_
      refine cw_if rfl (fun hc => ?_) (fun hc => ?_)  -- t21
      ·
        refine cw_skip (hK8 _ _ ?_); clear hK8
        refine cw_seq fun K9 hK9 => ?_
        refine cw_block ?_  -- block 1
        refine cw_seq fun K10 hK10 => ?_
        refine cw_region ?_
        refine ow_ev ev_move ?_
        refine ow_ev ev_assign ?_
        refine ow_nil (hK10 _ _ ?_); clear hK10
        refine cw_seq fun K11 hK11 => ?_
        refine cw_region ?_
        refine ow_ev ev_move ?_
        refine ow_ev ev_move ?_
        refine ow_ev ev_index_string ?_
        refine ow_cons (st_callv (fun w _ => isLetter_spec w _) ?_)
        refine ow_ev ev_not ?_
        refine ow_ev ev_move ?_
        refine ow_evg rfl ev_move ?_
        refine ow_evg rfl ev_move ?_
        refine ow_evg rfl ev_index_string ?_
        refine ow_callg rfl (fun _ w _ => isDigit_spec w _) ?_
        refine ow_evg rfl ev_not ?_
        refine ow_ev ev_and ?_
        refine ow_ev ev_move ?_
        refine ow_evg rfl ev_move ?_
        refine ow_evg rfl ev_move ?_
        refine ow_evg rfl ev_index_string ?_
        refine ow_evg rfl ev_neq ?_
        refine ow_ev ev_and ?_
        refine ow_nil (hK11 _ _ ?_); clear hK11
        refine cw_cond rfl (fun hc2 => ?_) (fun hc2 => ?_)  -- t40
        ·
          refine cw_seq fun K12 hK12 => ?_
          refine cw_region ?_
          refine ow_ev ev_assign ?_
          refine ow_nil (hK12 _ _ ?_); clear hK12
          refine cw_ret (kw_ret1 rfl rfl (fun w hm => ret_of hm (congrArg Value.bool (name_no2 hi0 (by assumption) hc2).symm)))
        ·
          refine cw_skip (hK9 _ _ ?_); clear hK9
          refine cw_region ?_
          refine ow_ev ev_add ?_
          refine ow_ev ev_move ?_
          refine ow_nil (hL (i + 1) _ _ ⟨by omega, by omega, fun j hj => ?_⟩ (by omega) ⟨rfl, rfl, rfl, trivial⟩ (fun _ h => h))
          by_cases hji : j < i.toNat
          · exact hall j hji
          · obtain rfl : j = i.toNat := by omega
            exact char_of hc2
      ·
        -- exit 0
        refine cw_exit (hK5 _ _ ?_); clear hK5
        refine cw_seq fun K13 hK13 => ?_
        refine cw_region ?_
        refine ow_ev ev_assign ?_
        refine ow_nil (hK13 _ _ ?_); clear hK13
        refine cw_ret (kw_ret1 rfl rfl (fun w hm => ret_of hm (congrArg Value.bool (name_yes hc1 (by omega) hall).symm)))

end Go.Proofs.YtohhihdjdelckaaDoor

namespace Go.Proofs.YtohhihdjdelckaaDoor
open Go.Eng Go.RowKit
set_option maxRecDepth 10000

/-- Go's string value of a name. -/
structure Sec where
  name : ByteArray
  len : Int
  lim : Int
  grade : Int
  station : Int
def Sec.cells (s : Sec) : List Value := [.string s.name, .int .i64 s.len, .int .i64 s.lim, .int .i64 s.grade, .int .i64 s.station]
structure Lnk where
  a : Int
  aEnd : Int
  b : Int
  bEnd : Int
  point : Int
  pos : Int
def Lnk.cells (k : Lnk) : List Value := [.int .i64 k.a, .int .i64 k.aEnd, .int .i64 k.b, .int .i64 k.bEnd, .int .i64 k.point, .int .i64 k.pos]
structure Lay where
  stations : List ByteArray
  points : List ByteArray
  sections : List Sec
  links : List Lnk
def strCells (l : List ByteArray) : List Value := l.map .string
/-- The headers of a layout's four slices. -/
structure LayV where
  a1 : Option Addr
  c1 : Nat
  a2 : Option Addr
  c2 : Nat
  a3 : Option Addr
  c3 : Nat
  a4 : Option Addr
  c4 : Nat
def LayV.cells (v : LayV) (l : Lay) : List Value := [.slice v.a1 l.stations.length v.c1, .slice v.a2 l.points.length v.c2, .slice v.a3 l.sections.length v.c3, .slice v.a4 l.links.length v.c4]
structure LayAt (lo hi : Nat) (w : World) (v : LayV) (l : Lay) : Prop where
  st : Sl lo hi w v.a1 (strCells l.stations)
  pt : Sl lo hi w v.a2 (strCells l.points)
  se : Sl lo hi w v.a3 (l.sections.flatMap Sec.cells)
  li : Sl lo hi w v.a4 (l.links.flatMap Lnk.cells)

def nameErr (s : ByteArray) (seen : List ByteArray) : Int := if nameB s = false then 3 else if s ∈ seen then 5 else 0
def seenAfter (s : ByteArray) (seen : List ByteArray) : List ByteArray := if nameErr s seen = 0 then seen ++ [s] else seen
def secB (nst : Nat) (s : Sec) : Bool := ((((((decide (1 ≤ s.len) && decide (s.len ≤ 400)) && decide (1000 ≤ s.lim)) && decide (s.lim ≤ 100000)) && decide (-40 ≤ s.grade)) && decide (s.grade ≤ 40)) && decide (-1 ≤ s.station)) && decide (s.station < (nst : Int))

theorem sectionInRange_spec (w : World) (v : LayV) (l : Lay) (s : Sec) : Calls Tryd.prog 36 #[.agg (v.cells l).toArray, .agg s.cells.toArray] w (Ret w (.bool (secB l.stations.length s))) := by
  refine calls_cw (args := [_, _]) Tryd.func36 rfl (Mem.start w) rfl ?_
  refine cw_seq fun K1 hK1 => ?_
  refine cw_region ?_
  refine ow_cons (st_box (k := fun b2 => ?_))
  refine ow_cons (st_box (k := fun b3 => ?_))
  refine ow_ev ev_assign ?_
  refine ow_nil (hK1 _ _ ?_); clear hK1
  refine cw_seq fun K2 hK2 => ?_
  refine cw_region ?_
  refine ow_ev (ev_field_addr 1) ?_
  refine ow_ev ev_load_own ?_
  refine ow_ev ev_geq ?_
  refine ow_ev ev_move ?_
  refine ow_evg rfl (ev_field_addr 1) ?_
  refine ow_evg rfl ev_load_own ?_
  refine ow_evg rfl ev_leq ?_
  refine ow_ev ev_and ?_
  refine ow_ev ev_move ?_
  refine ow_evg rfl (ev_field_addr 2) ?_
  refine ow_evg rfl ev_load_own ?_
  refine ow_evg rfl ev_geq ?_
  refine ow_ev ev_and ?_
  refine ow_ev ev_move ?_
  refine ow_evg rfl (ev_field_addr 2) ?_
  refine ow_evg rfl ev_load_own ?_
  refine ow_evg rfl ev_leq ?_
  refine ow_ev ev_and ?_
  refine ow_ev ev_move ?_
  refine ow_evg rfl (ev_field_addr 3) ?_
  refine ow_evg rfl ev_load_own ?_
  refine ow_evg rfl ev_geq ?_
  refine ow_ev ev_and ?_
  refine ow_ev ev_move ?_
  refine ow_evg rfl (ev_field_addr 3) ?_
  refine ow_evg rfl ev_load_own ?_
  refine ow_evg rfl ev_leq ?_
  refine ow_ev ev_and ?_
  refine ow_ev ev_move ?_
  refine ow_evg rfl (ev_field_addr 4) ?_
  refine ow_evg rfl ev_load_own ?_
  refine ow_evg rfl ev_geq ?_
  refine ow_ev ev_and ?_
  refine ow_ev ev_move ?_
  refine ow_evg rfl (ev_field_addr 4) ?_
  refine ow_evg rfl ev_load_own ?_
  refine ow_evg rfl (ev_field_addr 0) ?_
  refine ow_evg rfl ev_load_own ?_
  refine ow_evg rfl ev_len ?_
  refine ow_evg rfl ev_lss ?_
  refine ow_ev ev_and ?_
  refine ow_ev ev_assign ?_
  refine ow_nil (hK2 _ _ ?_); clear hK2
  refine cw_ret (kw_ret1 rfl rfl (fun w hm => ret_of hm rfl))

theorem ne1 {s : ByteArray} {S : List ByteArray} (h : (!nameB s) = true) : nameErr s S = 3 := by simp at h; simp [nameErr, h]
theorem ne2 {s : ByteArray} {S : List ByteArray} (h : (!nameB s) = false) (h2 : s ∈ S) : nameErr s S = 5 := by simp at h; simp [nameErr, h, h2]
theorem ne3 {s : ByteArray} {S : List ByteArray} (h : (!nameB s) = false) (h2 : ¬ s ∈ S) : nameErr s S = 0 := by simp at h; simp [nameErr, h, h2]
theorem se1 {s : ByteArray} {S : List ByteArray} (h : nameErr s S ≠ 0) : seenAfter s S = S := by simp [seenAfter, h]
theorem se2 {s : ByteArray} {S : List ByteArray} (h : nameErr s S = 0) : seenAfter s S = S ++ [s] := by simp [seenAfter, h]

theorem checkName_spec (w : World) (s : ByteArray) (b : Nat) (S : List ByteArray) (hφ : (kset b S).φ w) (hb : ∀ k, (kset b S).fp k → k < w.heap.size) :
    Calls Tryd.prog 35 #[.string s, .map (some b)] w (Mut (kset b S) (fun _ : Unit => .int .i64 (nameErr s S)) (fun _ => True) (fun _ => kset b (seenAfter s S)) w) := by
  refine calls_cw (args := [_, _]) Tryd.func35 rfl (Mem.start_but (kset b S) hφ hb) rfl ?_
  refine cw_seq fun K1 hK1 => ?_
  refine cw_region ?_
  refine ow_ev ev_assign ?_
  refine ow_nil (hK1 _ _ ?_); clear hK1
  refine cw_seq fun K2 hK2 => ?_
  refine cw_block ?_
  refine cw_seq fun K3 hK3 => ?_
  refine cw_region ?_
  refine ow_ev ev_move ?_
  refine ow_cons (st_callv (fun w hm => name_spec w _) ?_)
  refine ow_ev ev_not ?_
  refine ow_ev ev_assign ?_
  refine ow_nil (hK3 _ _ ?_); clear hK3
  refine cw_cond rfl (fun hc1 => ?_) (fun hc1 => ?_)  -- t5
  ·
    refine cw_seq fun K4 hK4 => ?_
    refine cw_region ?_
    refine ow_ev ev_assign ?_
    refine ow_nil (hK4 _ _ ?_); clear hK4
    refine cw_ret (kw_ret1 rfl rfl (fun w hm => ⟨(), by rw [ne1 hc1], trivial, by rw [se1 (by rw [ne1 hc1]; decide)]; exact Has.head.φ hm, fun k hk => ⟨.inl hk, Has.lt (c := kset b S) Has.head hm hk⟩, hm.frame (.tail .head)⟩))
  ·
    refine cw_seq fun K5 hK5 => ?_
    refine cw_region ?_
    refine ow_ev ev_move ?_
    refine ow_ev ev_move ?_
    refine ow_ev ev_lookup_set ?_
    refine ow_ev ev_assign ?_
    refine ow_nil (hK5 _ _ ?_); clear hK5
    refine cw_if rfl (fun hc2 => ?_) (fun hc2 => ?_)  -- t9
    ·
      refine cw_seq fun K6 hK6 => ?_
      refine cw_region ?_
      refine ow_ev ev_assign ?_
      refine ow_nil (hK6 _ _ ?_); clear hK6
      refine cw_ret (kw_ret1 rfl rfl (fun w hm => ⟨(), by rw [ne2 hc1 hc2], trivial, by rw [se1 (by rw [ne2 hc1 hc2]; decide)]; exact Has.head.φ hm, fun k hk => ⟨.inl hk, Has.lt (c := kset b S) Has.head hm hk⟩, hm.frame (.tail .head)⟩))
    ·
      refine cw_skip (hK2 _ _ ?_); clear hK2
      refine cw_seq fun K7 hK7 => ?_
      refine cw_region ?_
      refine ow_ev ev_move ?_
      refine ow_ev ev_move ?_
      refine ow_cons (st_mapUpdate_set hc2 .head ?_)
      refine ow_nil (hK7 _ _ ?_); clear hK7
      refine cw_seq fun K8 hK8 => ?_
      refine cw_region ?_
      refine ow_ev ev_assign ?_
      refine ow_nil (hK8 _ _ ?_); clear hK8
      refine cw_ret (kw_ret1 rfl rfl (fun w hm => ⟨(), by rw [ne3 hc1 hc2], trivial, by rw [se2 (ne3 hc1 hc2)]; exact Has.head.φ hm, fun k hk => ⟨.inl hk, Has.lt (c := kset b (S ++ [s])) Has.head hm hk⟩, hm.frame (.tail .head)⟩))

end Go.Proofs.YtohhihdjdelckaaDoor

namespace Go.Proofs.YtohhihdjdelckaaDoor
open Go.Eng Go.RowKit
set_option maxRecDepth 10000
theorem LayAt.below {w w' : World} {v : LayV} {l : Lay} (h : LayAt 0 w.heap.size w v l) (hb : Below w.heap.size w w') : LayAt 0 w'.heap.size w' v l :=
  ⟨h.st.mono (Nat.le_refl _) hb.size (fun k _ hk => hb.block k hk), h.pt.mono (Nat.le_refl _) hb.size (fun k _ hk => hb.block k hk), h.se.mono (Nat.le_refl _) hb.size (fun k _ hk => hb.block k hk), h.li.mono (Nat.le_refl _) hb.size (fun k _ hk => hb.block k hk)⟩

def atEnd (done : List Lnk) (e : Int) : List Lnk := done.filter (fun k => decide (2 * k.a + k.aEnd = e) || decide (2 * k.b + k.bEnd = e))
def joinB (a ae b be : Int) (k : Lnk) : Bool := (decide (a = k.a ∧ ae = k.aEnd) && decide (b = k.b ∧ be = k.bEnd)) || (decide (a = k.b ∧ ae = k.bEnd) && decide (b = k.a ∧ be = k.aEnd))
def fitsB (k : Lnk) : List Lnk → Bool
  | [] => true
  | [x] => (decide (k.point ≠ -1) && decide (k.point = x.point)) && decide (k.pos ≠ x.pos)
  | _ => false
def linkB (l : Lay) (k : Lnk) : Bool :=
  (((((((decide (0 ≤ k.a) && decide (k.a < (l.sections.length : Int))) && decide (0 ≤ k.b)) && decide (k.b < (l.sections.length : Int))) && (decide (k.aEnd = 0) || decide (k.aEnd = 1))) && (decide (k.bEnd = 0) || decide (k.bEnd = 1))) && decide (-1 ≤ k.point)) && decide (k.point < (l.points.length : Int))) && (decide (k.pos = 0) || (decide (k.pos = 1) && decide (k.point ≠ -1)))
def linksErr (l : Lay) : List Lnk → List Lnk → Int
  | _, [] => 0
  | done, k :: r =>
    if linkB l k = false then 4 else if k.a = k.b ∧ k.aEnd = k.bEnd then 1 else
    if (atEnd done (2 * k.a + k.aEnd)).any (joinB k.a k.aEnd k.b k.bEnd) = true then 5 else
    if fitsB k (atEnd done (2 * k.a + k.aEnd)) = false ∨ fitsB k (atEnd done (2 * k.b + k.bEnd)) = false then 11 else linksErr l (done ++ [k]) r

theorem linkInRange_spec (w : World) (v : LayV) (l : Lay) (k : Lnk) : Calls Tryd.prog 62 #[.agg (v.cells l).toArray, .agg k.cells.toArray] w (Ret w (.bool (linkB l k))) := by
  refine calls_cw (args := [_, _]) Tryd.func62 rfl (Mem.start w) rfl ?_
  refine cw_seq fun K1 hK1 => ?_
  refine cw_region ?_
  refine ow_cons (st_box (k := fun b2 => ?_))
  refine ow_cons (st_box (k := fun b3 => ?_))
  refine ow_ev ev_assign ?_
  refine ow_nil (hK1 _ _ ?_); clear hK1
  refine cw_seq fun K2 hK2 => ?_
  refine cw_region ?_
  refine ow_ev (ev_field_addr 0) ?_
  refine ow_ev ev_load_own ?_
  refine ow_ev ev_geq ?_
  refine ow_ev ev_move ?_
  refine ow_evg rfl (ev_field_addr 0) ?_
  refine ow_evg rfl ev_load_own ?_
  refine ow_evg rfl (ev_field_addr 2) ?_
  refine ow_evg rfl ev_load_own ?_
  refine ow_evg rfl ev_len ?_
  refine ow_evg rfl ev_lss ?_
  refine ow_ev ev_and ?_
  refine ow_ev ev_move ?_
  refine ow_evg rfl (ev_field_addr 2) ?_
  refine ow_evg rfl ev_load_own ?_
  refine ow_evg rfl ev_geq ?_
  refine ow_ev ev_and ?_
  refine ow_ev ev_move ?_
  refine ow_evg rfl (ev_field_addr 2) ?_
  refine ow_evg rfl ev_load_own ?_
  refine ow_evg rfl (ev_field_addr 2) ?_
  refine ow_evg rfl ev_load_own ?_
  refine ow_evg rfl ev_len ?_
  refine ow_evg rfl ev_lss ?_
  refine ow_ev ev_and ?_
  refine ow_ev ev_move ?_
  refine ow_evg rfl (ev_field_addr 1) ?_
  refine ow_evg rfl ev_load_own ?_
  refine ow_evg rfl ev_eql ?_
  refine ow_evg rfl ev_move ?_
  refine ow_evg rfl (ev_field_addr 1) ?_
  refine ow_evg rfl ev_load_own ?_
  refine ow_evg rfl ev_eql ?_
  refine ow_evg rfl ev_or ?_
  refine ow_ev ev_and ?_
  refine ow_ev ev_move ?_
  refine ow_evg rfl (ev_field_addr 3) ?_
  refine ow_evg rfl ev_load_own ?_
  refine ow_evg rfl ev_eql ?_
  refine ow_evg rfl ev_move ?_
  refine ow_evg rfl (ev_field_addr 3) ?_
  refine ow_evg rfl ev_load_own ?_
  refine ow_evg rfl ev_eql ?_
  refine ow_evg rfl ev_or ?_
  refine ow_ev ev_and ?_
  refine ow_ev ev_move ?_
  refine ow_evg rfl (ev_field_addr 4) ?_
  refine ow_evg rfl ev_load_own ?_
  refine ow_evg rfl ev_geq ?_
  refine ow_ev ev_and ?_
  refine ow_ev ev_move ?_
  refine ow_evg rfl (ev_field_addr 4) ?_
  refine ow_evg rfl ev_load_own ?_
  refine ow_evg rfl (ev_field_addr 1) ?_
  refine ow_evg rfl ev_load_own ?_
  refine ow_evg rfl ev_len ?_
  refine ow_evg rfl ev_lss ?_
  refine ow_ev ev_and ?_
  refine ow_ev ev_move ?_
  refine ow_evg rfl (ev_field_addr 5) ?_
  refine ow_evg rfl ev_load_own ?_
  refine ow_evg rfl ev_eql ?_
  refine ow_evg rfl ev_move ?_
  refine ow_evg rfl (ev_field_addr 5) ?_
  refine ow_evg rfl ev_load_own ?_
  refine ow_evg rfl ev_eql ?_
  refine ow_evg rfl ev_move ?_
  refine ow_evg rfl (ev_field_addr 4) ?_
  refine ow_evg rfl ev_load_own ?_
  refine ow_evg rfl ev_neq ?_
  refine ow_evg rfl ev_and ?_
  refine ow_evg rfl ev_or ?_
  refine ow_ev ev_and ?_
  refine ow_ev ev_assign ?_
  refine ow_nil (hK2 _ _ ?_); clear hK2
  refine cw_ret (kw_ret1 rfl rfl (fun w hm => ret_of hm rfl))

theorem ends_spec (w : World) (k : Lnk) : Calls Tryd.prog 42 #[.agg k.cells.toArray] w (Ret w (.tuple #[.agg #[.int .i64 k.a, .int .i64 k.aEnd], .agg #[.int .i64 k.b, .int .i64 k.bEnd]])) := by
  refine calls_cw (args := [_]) Tryd.func42 rfl (Mem.start w) rfl ?_
  refine cw_seq fun K1 hK1 => ?_
  refine cw_region ?_
  refine ow_cons (st_box (k := fun b1 => ?_))
  refine ow_cons (st_alloc rfl (k := fun b2 => ?_))
  refine ow_cons (st_alloc rfl (k := fun b3 => ?_))
  refine ow_nil (hK1 _ _ ?_); clear hK1
  refine cw_seq fun K2 hK2 => ?_
  refine cw_region_any [own b1 72 k.cells, old w] (by repeat (first | exact List.Sublist.refl _ | apply List.Sublist.cons_cons | apply List.Sublist.cons)) ?_
  refine aw_ev 0 rfl (ev_field_addr 0) ?_
  refine aw_ev 1 rfl ev_load_own ?_
  refine aw_ev 2 rfl (ev_field_addr 1) ?_
  refine aw_ev 3 rfl ev_load_own ?_
  refine aw_ev 4 rfl ev_build2 ?_
  refine aw_ev 5 rfl (ev_field_addr 2) ?_
  refine aw_ev 6 rfl ev_load_own ?_
  refine aw_ev 7 rfl (ev_field_addr 3) ?_
  refine aw_ev 8 rfl ev_load_own ?_
  refine aw_ev 9 rfl ev_build2 ?_
  refine aw_one 10 rfl (st_store_all (k := ⟨fun w hm => hm.sub (by repeat (first | exact List.Sublist.refl _ | apply List.Sublist.cons_cons | apply List.Sublist.cons)), ?_⟩))
  refine aw_one 11 rfl (st_store_all (k := ⟨fun w hm => hm.sub (by repeat (first | exact List.Sublist.refl _ | apply List.Sublist.cons_cons | apply List.Sublist.cons)), ?_⟩))
  refine aw_done (hK2 _ _ ?_); clear hK2
  refine cw_ret (kw_retc2 (fun w hm => ret_of hm rfl))

theorem endIndex_spec (w : World) (s d : Int) (hs : 0 ≤ s ∧ s ≤ 1000000) (hd : 0 ≤ d ∧ d ≤ 1000000) : Calls Tryd.prog 63 #[.agg #[.int .i64 s, .int .i64 d]] w (Ret w (.int .i64 (2 * s + d))) := by
  refine calls_cw (args := [_]) Tryd.func63 rfl (Mem.start w) rfl ?_
  refine cw_seq fun K1 hK1 => ?_
  refine cw_region ?_
  refine ow_cons (st_box (k := fun b1 => ?_))
  refine ow_ev ev_assign ?_
  refine ow_nil (hK1 _ _ ?_); clear hK1
  refine cw_seq fun K2 hK2 => ?_
  refine cw_region ?_
  refine ow_ev (ev_field_addr 0) ?_
  refine ow_ev ev_load_own ?_
  refine ow_ev ev_mul ?_
  refine ow_ev (ev_field_addr 1) ?_
  refine ow_ev ev_load_own ?_
  refine ow_ev ev_add ?_
  refine ow_ev ev_assign ?_
  refine ow_nil (hK2 _ _ ?_); clear hK2
  refine cw_ret (kw_ret1 rfl rfl (fun w hm => ret_of hm rfl))

def lnkD : Lnk := ⟨0, 0, 0, 0, 0, 0⟩
theorem flat_get6 : ∀ (xs : List Lnk) (i j : Nat), j < 6 → (xs.flatMap Lnk.cells)[i * 6 + j]? = (xs[i]?).bind (fun x => (Lnk.cells x)[j]?)
  | [], i, j, _ => by simp
  | x :: xs, 0, j, hj => by
    simp only [List.flatMap_cons, Nat.zero_mul, Nat.zero_add]
    rw [List.getElem?_append_left (by show j < 6; exact hj)]
    rfl
  | x :: xs, i + 1, j, hj => by
    simp only [List.flatMap_cons]
    have h6 : (Lnk.cells x).length = 6 := rfl
    rw [List.getElem?_append_right (by rw [h6, Nat.add_mul]; omega), h6]
    rw [show (i + 1) * 6 + j - 6 = i * 6 + j by rw [Nat.add_mul]; omega]
    rw [flat_get6 xs i j hj]
    simp
theorem lnk_get {xs : List Lnk} {i j : Nat} {u : Value} (hi : i < xs.length) (hj : (Lnk.cells (xs.getD i lnkD))[j]? = some u) : (xs.flatMap Lnk.cells)[i * 6 + j]? = some u := by
  have hjl : j < 6 := by have := (List.getElem?_eq_some_iff.1 hj).1; simpa [Lnk.cells] using this
  rw [flat_get6 xs i j hjl]
  have : xs[i]? = some (xs.getD i lnkD) := by simp [hi]
  rw [this]
  exact hj
theorem lnk_len (xs : List Lnk) : (xs.flatMap Lnk.cells).length = xs.length * 6 := by
  induction xs with
  | nil => simp
  | cons x xs ih => simp only [List.flatMap_cons, List.length_append, ih, List.length_cons, Nat.add_mul]; simp [Lnk.cells]; omega

theorem any_yes {ks : List Lnk} {p : Lnk → Bool} {i : Nat} (hi : i < ks.length) (h : p (ks.getD i lnkD) = true) : ks.any p = true := by
  rw [List.any_eq_true]
  exact ⟨ks[i], List.getElem_mem hi, by simpa [List.getD_eq_getElem?_getD, hi] using h⟩
theorem any_no {ks : List Lnk} {p : Lnk → Bool} {i : Nat} (hi : ks.length ≤ i) (h : ∀ j, j < i → p (ks.getD j lnkD) = false) : ks.any p = false := by
  rw [List.any_eq_false]
  intro x hx
  obtain ⟨j, hj, rfl⟩ := List.mem_iff_getElem.1 hx
  have := h j (by omega)
  simpa [List.getD_eq_getElem?_getD, hj] using this

theorem joined_spec (w : World) (a : Option Addr) (cap : Nat) (ks : List Lnk) (x xe y ye : Int) (hs : Sl 0 w.heap.size w a (ks.flatMap Lnk.cells)) (hlen : ks.length ≤ 1000000) :
    Calls Tryd.prog 64 #[.slice a ks.length cap, .agg #[.int .i64 x, .int .i64 xe], .agg #[.int .i64 y, .int .i64 ye]] w (Ret w (.bool (ks.any (joinB x xe y ye)))) := by
  refine calls_cw (args := [_, _, _]) Tryd.func64 rfl (Mem.start w) rfl ?_
  refine cw_seq fun K1 hK1 => ?_
  refine cw_region ?_
  refine ow_cons (st_box (k := fun b4 => ?_))
  refine ow_cons (st_box (k := fun b5 => ?_))
  refine ow_ev ev_assign ?_
  refine ow_nil (hK1 _ _ ?_); clear hK1
  refine cw_seq fun K2 hK2 => ?_
  refine cw_seq fun K3 hK3 => ?_
  refine cw_region ?_
  refine ow_ev ev_move ?_
  refine ow_ev ev_len ?_
  refine ow_ev ev_move ?_
  refine ow_nil (hK3 _ _ ?_); clear hK3
  refine cw_block ?_
  refine cw_loop (γ := Int) (env := fun i => [(4, .v (.pointer (some ⟨b4, 0, none⟩))), (5, .v (.pointer (some ⟨b5, 0, none⟩))), (11, .v (.slice a ks.length cap)), (12, .v (.int .i64 (ks.length : Int))), (13, .v (.int .i64 i))]) (mem := fun i => [own b5 85 [.int .i64 y, .int .i64 ye], own b4 85 [.int .i64 x, .int .i64 xe], old w]) (R := fun i => 0 ≤ i ∧ i ≤ ks.length ∧ ∀ j, j < i.toNat → joinB x xe y ye (ks.getD j lnkD) = false) (μ := fun i => (ks.length - i).toNat) (0) (⟨by omega, by omega, fun j hj => by simp at hj⟩) ⟨rfl, rfl, rfl, rfl, rfl, trivial⟩ (fun _ h => h) ?_
  intro i hR1 KL1 hL1
  obtain ⟨hi0, hi1, hall⟩ := hR1
  refine cw_seq fun K4 hK4 => ?_
  refine cw_region ?_
  refine ow_ev ev_lss ?_
  refine ow_nil (hK4 _ _ ?_); clear hK4
  refine cw_seq fun K5 hK5 => ?_
  refine cw_if rfl (fun hc1 => ?_) (fun hc1 => ?_)  -- t14
  ·
    refine cw_skip (hK5 _ _ ?_); clear hK5
    refine cw_seq fun K6 hK6 => ?_
    refine cw_block ?_
    refine cw_seq fun K7 hK7 => ?_
    refine cw_region ?_
    refine ow_ev (ev_index_addr' 6 (fun _ => hs.addr (by rw [lnk_len]; omega))) ?_
    refine ow_ev (ev_load_cells (l := (ks.getD i.toNat lnkD).cells) (fun w hm q u hu => by rw [Nat.add_assoc]; exact cell_old hs (lnk_get (by omega) hu) (Nat.le_refl _) (by repeat (first | exact Has.head | apply Has.tail)) w hm)) ?_
    refine ow_cons (st_alloc rfl (k := fun b8 => ?_))
    refine ow_cons (st_store_all (k := ?_))
    refine ow_nil (hK7 _ _ ?_); clear hK7
    refine cw_seq fun K8 hK8 => ?_
    refine cw_region ?_
    refine ow_ev ev_load_all ?_
    refine ow_cons (st_callv (fun w hm => ends_spec w _) ?_)
    refine ow_ev ev_move ?_
    refine ow_ev ev_extract ?_
    refine ow_ev ev_extract ?_
    refine ow_cons (st_alloc rfl (k := fun b9 => ?_))
    refine ow_cons (st_alloc rfl (k := fun b10 => ?_))
    refine ow_cons (st_store_all (k := ?_))
    refine ow_cons (st_store_all (k := ?_))
    refine ow_nil (hK8 _ _ ?_); clear hK8
    refine cw_seq fun K9 hK9 => ?_
    refine cw_region ?_
    refine ow_ev ev_load_all ?_
    refine ow_ev ev_load_all ?_
    refine ow_ev ev_struct_eql ?_
    refine ow_ev ev_move ?_
    refine ow_evg rfl ev_load_all ?_
    refine ow_evg rfl ev_load_all ?_
    refine ow_evg rfl ev_struct_eql ?_
    refine ow_ev ev_and ?_
    refine ow_ev ev_move ?_
    refine ow_evg rfl ev_load_all ?_
    refine ow_evg rfl ev_load_all ?_
    refine ow_evg rfl ev_struct_eql ?_
    refine ow_evg rfl ev_move ?_
    refine ow_evg rfl ev_load_all ?_
    refine ow_evg rfl ev_load_all ?_
    refine ow_evg rfl ev_struct_eql ?_
    refine ow_evg rfl ev_and ?_
    refine ow_ev ev_or ?_
    refine ow_nil (hK9 _ _ ?_); clear hK9
    refine cw_cond rfl (fun hc2 => ?_) (fun hc2 => ?_)  -- t39
    ·
      refine cw_seq fun K10 hK10 => ?_
      refine cw_region ?_
      refine ow_ev ev_assign ?_
      refine ow_nil (hK10 _ _ ?_); clear hK10
      refine cw_ret (kw_ret1 rfl rfl (fun w hm => ret_of hm (congrArg Value.bool (any_yes (by omega) hc2).symm)))
    ·
      refine cw_skip (hK6 _ _ ?_); clear hK6
      refine cw_region ?_
      refine ow_ev ev_add ?_
      refine ow_ev ev_move ?_
      refine ow_nil (hL1 (i + 1) _ _ (⟨by omega, by omega, fun j hj => ?_⟩) (by omega) ⟨rfl, rfl, rfl, rfl, rfl, trivial⟩ (fun w hm => hm.sub (by repeat (first | exact List.Sublist.refl _ | apply List.Sublist.cons_cons | apply List.Sublist.cons))))
      by_cases hji : j < i.toNat
      · exact hall j hji
      · obtain rfl : j = i.toNat := by omega
        exact hc2
  ·
    refine cw_exit (hK2 _ _ ?_); clear hK2
    refine cw_seq fun K11 hK11 => ?_
    refine cw_region ?_
    refine ow_ev ev_assign ?_
    refine ow_nil (hK11 _ _ ?_); clear hK11
    refine cw_ret (kw_ret1 rfl rfl (fun w hm => ret_of hm (congrArg Value.bool (any_no (i := i.toNat) (by omega) hall).symm)))

theorem fits_eq {k : Lnk} {ks : List Lnk} (h : ¬ (ks.length : Int) = 0) : fitsB k ks = (((decide ((ks.length : Int) = 1) && decide (k.point ≠ -1)) && decide (k.point = (ks.getD 0 lnkD).point)) && decide (k.pos ≠ (ks.getD 0 lnkD).pos)) := by
  match ks, h with
  | [], h => simp at h
  | [x], _ => simp [fitsB]
  | x :: y :: r, _ => simp [fitsB]; omega

theorem fits_spec (w : World) (k : Lnk) (a : Option Addr) (cap : Nat) (ks : List Lnk) (hs : Sl 0 w.heap.size w a (ks.flatMap Lnk.cells)) :
    Calls Tryd.prog 65 #[.agg k.cells.toArray, .slice a ks.length cap] w (Ret w (.bool (fitsB k ks))) := by
  refine calls_cw (args := [_, _]) Tryd.func65 rfl (Mem.start w) rfl ?_
  refine cw_seq fun K1 hK1 => ?_
  refine cw_region ?_
  refine ow_cons (st_box (k := fun b2 => ?_))
  refine ow_ev ev_assign ?_
  refine ow_nil (hK1 _ _ ?_); clear hK1
  refine cw_seq fun K2 hK2 => ?_
  refine cw_seq fun K3 hK3 => ?_
  refine cw_region ?_
  refine ow_ev ev_move ?_
  refine ow_ev ev_len ?_
  refine ow_ev ev_eql ?_
  refine ow_nil (hK3 _ _ ?_); clear hK3
  refine cw_if rfl (fun hc1 => ?_) (fun hc1 => ?_)  -- t7
  ·
    refine cw_seq fun K4 hK4 => ?_
    refine cw_region ?_
    refine ow_ev ev_assign ?_
    refine ow_nil (hK4 _ _ ?_); clear hK4
    refine cw_ret (kw_ret1 rfl rfl (fun w hm => ret_of hm (by rw [show ks = [] from List.length_eq_zero_iff.1 (by omega)]; rfl)))
  ·
    refine cw_skip (hK2 _ _ ?_); clear hK2
    refine cw_seq fun K5 hK5 => ?_
    refine cw_region_any [own b2 72 k.cells, old w] (by repeat (first | exact List.Sublist.refl _ | apply List.Sublist.cons_cons | apply List.Sublist.cons)) ?_
    refine aw_ev 0 rfl ev_move ?_
    refine aw_ev 1 rfl ev_len ?_
    refine aw_ev 2 rfl ev_eql ?_
    refine aw_ev 3 rfl ev_move ?_
    refine aw_evg 4 rfl rfl (ev_field_addr 4) ?_
    refine aw_evg 5 rfl rfl ev_load_own ?_
    refine aw_evg 6 rfl rfl ev_neq ?_
    refine aw_ev 7 rfl ev_and ?_
    refine aw_ev 8 rfl ev_move ?_
    refine aw_evg 9 rfl rfl (ev_field_addr 4) ?_
    refine aw_evg 10 rfl rfl ev_load_own ?_
    refine aw_evg 11 rfl rfl ev_move ?_
    refine aw_evg 12 rfl rfl (ev_index_addr' 6 (fun hg => hs.addr (by rw [lnk_len]; simp at hg; omega))) ?_
    refine aw_evg 13 rfl rfl (ev_field_addr 4) ?_
    refine aw_evg 14 rfl rfl (ev_load_cell (v := .int .i64 (ks.getD 0 lnkD).point) (by first | exact .plain rfl | exact .cond rfl id) (by kernel_rfl) (fun hg w hm => cell_old (j := 0 * 6 + 4) hs (lnk_get (j := 4) (by simp at hg; omega) rfl) (Nat.le_refl _) (by repeat (first | exact Has.head | apply Has.tail)) w hm)) ?_
    refine aw_evg 15 rfl rfl ev_eql ?_
    refine aw_ev 16 rfl ev_and ?_
    refine aw_ev 17 rfl ev_move ?_
    refine aw_evg 18 rfl rfl (ev_field_addr 5) ?_
    refine aw_evg 19 rfl rfl ev_load_own ?_
    refine aw_evg 20 rfl rfl ev_move ?_
    refine aw_evg 21 rfl rfl (ev_index_addr' 6 (fun hg => hs.addr (by rw [lnk_len]; simp at hg; omega))) ?_
    refine aw_evg 22 rfl rfl (ev_field_addr 5) ?_
    refine aw_evg 23 rfl rfl (ev_load_cell (v := .int .i64 (ks.getD 0 lnkD).pos) (by first | exact .plain rfl | exact .cond rfl id) (by kernel_rfl) (fun hg w hm => cell_old (j := 0 * 6 + 5) hs (lnk_get (j := 5) (by simp at hg; omega) rfl) (Nat.le_refl _) (by repeat (first | exact Has.head | apply Has.tail)) w hm)) ?_
    refine aw_evg 24 rfl rfl ev_neq ?_
    refine aw_ev 25 rfl ev_and ?_
    refine aw_ev 26 rfl ev_assign ?_
    refine aw_done (hK5 _ _ ?_); clear hK5
    refine cw_ret (kw_ret1 rfl rfl (fun w hm => ret_of hm (by rw [fits_eq hc1])))

end Go.Proofs.YtohhihdjdelckaaDoor

namespace Go.Proofs.YtohhihdjdelckaaDoor
open Go.Eng Go.RowKit
set_option maxRecDepth 10000

/-- The rows hold, for each end, the links done so far that have it. -/
def RowsFor (done : List Lnk) (m : Nat) (rows : List Row) : Prop :=
  rows.length = m ∧ ∀ (i : Nat) (r : Row), rows[i]? = some r → r.n = (atEnd done i).length ∧ r.xs = (atEnd done i).flatMap Lnk.cells

theorem RowsFor.get {done : List Lnk} {m : Nat} {rows : List Row} (h : RowsFor done m rows) (e : Int) (h0 : 0 ≤ e) (h1 : e.toNat < m) :
    ∃ aa ca, rows[e.toNat * 1]? = some ⟨aa, (atEnd done e).length, ca, (atEnd done e).flatMap Lnk.cells⟩ := by
  rw [Nat.mul_one]
  have hlt : e.toNat < rows.length := by rw [h.1]; exact h1
  have hr := h.2 e.toNat rows[e.toNat] (by simp [hlt])
  rw [show ((e.toNat : Nat) : Int) = e by omega] at hr
  refine ⟨rows[e.toNat].a, rows[e.toNat].cap, ?_⟩
  rw [List.getElem?_eq_getElem hlt, ← hr.1, ← hr.2]

theorem atEnd_len (done : List Lnk) (e : Int) : (atEnd done e).length ≤ done.length := List.length_filter_le _ _

theorem atEnd_snoc (done : List Lnk) (k : Lnk) (e : Int) : atEnd (done ++ [k]) e = atEnd done e ++ if 2 * k.a + k.aEnd = e ∨ 2 * k.b + k.bEnd = e then [k] else [] := by
  unfold atEnd
  rw [List.filter_append]
  congr 1
  by_cases h1 : 2 * k.a + k.aEnd = e <;> by_cases h2 : 2 * k.b + k.bEnd = e <;> simp [h1, h2]

theorem RowsFor.step {done : List Lnk} {m : Nat} {rows : List Row} (h : RowsFor done m rows) (k : Lnk) (ea eb : Int) (ha : 2 * k.a + k.aEnd = ea) (hb : 2 * k.b + k.bEnd = eb) (hne : ea ≠ eb) (ha0 : 0 ≤ ea) (hb0 : 0 ≤ eb)
    (a1 a2 : Option Addr) (c1 c2 : Nat) :
    RowsFor (done ++ [k]) m ((rows.set (ea.toNat * 1) ⟨a1, (atEnd done ea).length + 1, c1, (atEnd done ea).flatMap Lnk.cells ++ k.cells⟩).set (eb.toNat * 1) ⟨a2, (atEnd done eb).length + 1, c2, (atEnd done eb).flatMap Lnk.cells ++ k.cells⟩) := by
  rw [Nat.mul_one, Nat.mul_one]
  refine ⟨by rw [List.length_set, List.length_set]; exact h.1, fun i r hr => ?_⟩
  rw [atEnd_snoc, ha, hb]
  by_cases hib : i = eb.toNat
  · have he : eb = (i : Int) := by omega
    rw [List.getElem?_set] at hr
    rw [if_pos hib.symm] at hr
    split at hr
    · cases hr
      subst he
      simp
    · cases hr
  · rw [List.getElem?_set_ne (Ne.symm hib)] at hr
    by_cases hia : i = ea.toNat
    · have he : ea = (i : Int) := by omega
      rw [List.getElem?_set, if_pos hia.symm] at hr
      split at hr
      · cases hr
        subst he
        simp
      · cases hr
    · rw [List.getElem?_set_ne (Ne.symm hia)] at hr
      have h1 : ¬ ea = (i : Int) := by omega
      have h2 : ¬ eb = (i : Int) := by omega
      simp only [h1, h2, or_self, if_false, List.append_nil]
      exact h.2 i r hr

theorem links_step {l : Lay} {xs : List Lnk} {j : Nat} (hj : j < xs.length) {E : Int} (h : linksErr l (xs.take j) (xs.drop j) = E) :
    (linkB l (xs.getD j lnkD) = false → E = 4) ∧ (linkB l (xs.getD j lnkD) = true →
      ((xs.getD j lnkD).a = (xs.getD j lnkD).b ∧ (xs.getD j lnkD).aEnd = (xs.getD j lnkD).bEnd → E = 1) ∧ (¬ ((xs.getD j lnkD).a = (xs.getD j lnkD).b ∧ (xs.getD j lnkD).aEnd = (xs.getD j lnkD).bEnd) →
      ((atEnd (xs.take j) (2 * (xs.getD j lnkD).a + (xs.getD j lnkD).aEnd)).any (joinB (xs.getD j lnkD).a (xs.getD j lnkD).aEnd (xs.getD j lnkD).b (xs.getD j lnkD).bEnd) = true → E = 5) ∧
      ((atEnd (xs.take j) (2 * (xs.getD j lnkD).a + (xs.getD j lnkD).aEnd)).any (joinB (xs.getD j lnkD).a (xs.getD j lnkD).aEnd (xs.getD j lnkD).b (xs.getD j lnkD).bEnd) = false →
      ((!fitsB (xs.getD j lnkD) (atEnd (xs.take j) (2 * (xs.getD j lnkD).a + (xs.getD j lnkD).aEnd)) || !fitsB (xs.getD j lnkD) (atEnd (xs.take j) (2 * (xs.getD j lnkD).b + (xs.getD j lnkD).bEnd))) = true → E = 11) ∧
      ((!fitsB (xs.getD j lnkD) (atEnd (xs.take j) (2 * (xs.getD j lnkD).a + (xs.getD j lnkD).aEnd)) || !fitsB (xs.getD j lnkD) (atEnd (xs.take j) (2 * (xs.getD j lnkD).b + (xs.getD j lnkD).bEnd))) = false →
        linksErr l (xs.take (j + 1)) (xs.drop (j + 1)) = E ∧ xs.take (j + 1) = xs.take j ++ [xs.getD j lnkD])))) := by
  have hd : xs.drop j = xs[j] :: xs.drop (j + 1) := List.drop_eq_getElem_cons hj
  have hg : xs.getD j lnkD = xs[j] := by simp [List.getD_eq_getElem?_getD, hj]
  have ht : xs.take (j + 1) = xs.take j ++ [xs[j]] := by rw [List.take_succ_eq_append_getElem hj]
  rw [hd, linksErr] at h
  rw [hg, ht]
  generalize xs[j] = k at *
  refine ⟨fun h1 => ?_, fun h1 => ⟨fun h2 => ?_, fun h2 => ⟨fun h3 => ?_, fun h3 => ⟨fun h4 => ?_, fun h4 => ?_⟩⟩⟩⟩
  · rw [if_pos h1] at h; exact h.symm
  · rw [if_neg (by simp [h1]), if_pos h2] at h; exact h.symm
  · rw [if_neg (by simp [h1]), if_neg h2, if_pos h3] at h; exact h.symm
  · rw [if_neg (by simp [h1]), if_neg h2, if_neg (by simp [h3]), if_pos (by simpa using h4)] at h; exact h.symm
  · rw [if_neg (by simp [h1]), if_neg h2, if_neg (by simp [h3]), if_neg (by simp only [Bool.or_eq_false_iff, Bool.not_eq_false'] at h4; simp [h4.1, h4.2])] at h; exact ⟨h, rfl⟩

theorem links_end {l : Lay} {xs : List Lnk} {j : Nat} (hj : xs.length ≤ j) {E : Int} (h : linksErr l (xs.take j) (xs.drop j) = E) : E = 0 := by
  rw [← h, List.drop_eq_nil_of_le hj, linksErr]

theorem hdr_get {rows : List Row} {i : Nat} {r : Row} (h : rows[i]? = some r) : (rows.map Row.hdr)[i]? = some (.slice r.a r.n r.cap) := by simp [h, Row.hdr]

theorem linkB_ends {l : Lay} {k : Lnk} (h : linkB l k = true) : (0 ≤ k.a ∧ k.a < l.sections.length ∧ 0 ≤ k.b ∧ k.b < l.sections.length) ∧ (0 ≤ k.aEnd ∧ k.aEnd ≤ 1) ∧ (0 ≤ k.bEnd ∧ k.bEnd ≤ 1) := by
  simp only [linkB, Bool.and_eq_true, Bool.or_eq_true, decide_eq_true_eq] at h
  omega

theorem rowsFor_new {m : Nat} : RowsFor [] m (List.replicate m (⟨none, 0, 0, []⟩ : Row)) := by
  refine ⟨by simp, fun i r hr => ?_⟩
  rw [List.getElem?_replicate] at hr
  split at hr
  · cases hr; exact ⟨rfl, rfl⟩
  · cases hr

theorem checkLinks_spec (w : World) (v : LayV) (l : Lay) (hl : LayAt 0 w.heap.size w v l) (hb : l.sections.length ≤ 96 ∧ l.links.length ≤ 192) : Calls Tryd.prog 37 #[.agg (v.cells l).toArray] w (Ret w (.int .i64 (linksErr l [] l.links))) := by
  obtain ⟨hb1, hb2⟩ := hb
  refine calls_cw (args := [_]) Tryd.func37 rfl (Mem.start w) rfl ?_
  refine cw_seq fun K1 hK1 => ?_
  refine cw_region ?_
  refine ow_cons (st_box (k := fun b1 => ?_))
  refine ow_ev ev_assign ?_
  refine ow_nil (hK1 _ _ ?_); clear hK1
  refine cw_seq fun K2 hK2 => ?_
  refine cw_region ?_
  refine ow_ev (ev_field_addr 2) ?_
  refine ow_ev ev_load_own ?_
  refine ow_ev ev_len ?_
  refine ow_ev ev_mul ?_
  refine ow_cons (st_makeSlice (m := 2 * l.sections.length) (e := 24) (z := .slice none 0 0) 24 (k := fun a ha => ?_) (hb := by omega) (hm' := by omega))
  refine ow_imp (H' := [row 24 1 a (2 * l.sections.length) (2 * l.sections.length) ((List.replicate (2 * l.sections.length) (⟨none, 0, 0, []⟩ : Row)).map Row.hdr), rowsC (fun _ => True) 72 6 (List.replicate (2 * l.sections.length) (⟨none, 0, 0, []⟩ : Row)), own b1 26 (v.cells l), old w]) (fun w hm => by rw [List.map_replicate]; exact (rows_new (e := 72) (sz := 6) (m := 2 * l.sections.length) hm).perm (.swap _ _ _)) ?_
  refine ow_ev ev_assign ?_
  refine ow_nil (hK2 _ _ ?_); clear hK2
  refine cw_seq fun K3 hK3 => ?_
  refine cw_seq fun K4 hK4 => ?_
  refine cw_region ?_
  refine ow_ev (ev_field_addr 3) ?_
  refine ow_ev ev_load_own ?_
  refine ow_ev ev_len ?_
  refine ow_ev ev_move ?_
  refine ow_nil (hK4 _ _ ?_); clear hK4
  refine cw_block ?_
  refine cw_loop (γ := Int × List Row) (env := fun g => [(1, .v (.pointer (some ⟨b1, 0, none⟩))), (3, .v (.slice a (2 * l.sections.length) (2 * l.sections.length))), (16, .v (.slice v.a4 l.links.length v.c4)), (17, .v (.int .i64 (l.links.length : Int))), (18, .v (.int .i64 g.1))]) (mem := fun g => [row 24 1 a (2 * l.sections.length) (2 * l.sections.length) (g.2.map Row.hdr), rowsC (fun _ => True) 72 6 g.2, own b1 26 (v.cells l), old w]) (R := fun g => 0 ≤ g.1 ∧ g.1 ≤ l.links.length ∧ RowsFor (l.links.take g.1.toNat) (2 * l.sections.length) g.2 ∧ linksErr l (l.links.take g.1.toNat) (l.links.drop g.1.toNat) = linksErr l [] l.links) (μ := fun g => (l.links.length - g.1).toNat) ((0, List.replicate (2 * l.sections.length) ⟨none, 0, 0, []⟩)) (⟨by show (0 : Int) ≤ 0; omega, by show (0 : Int) ≤ _; omega, rowsFor_new, rfl⟩) ⟨rfl, rfl, rfl, rfl, rfl, trivial⟩ (fun _ h => h) ?_
  intro g hR1 KL1 hL1
  obtain ⟨j, rows⟩ := g
  dsimp only at hR1 ⊢
  obtain ⟨hj0, hj1, hrows, hj2⟩ := hR1
  refine cw_seq fun K5 hK5 => ?_
  refine cw_region ?_
  refine ow_ev ev_lss ?_
  refine ow_nil (hK5 _ _ ?_); clear hK5
  refine cw_seq fun K6 hK6 => ?_
  refine cw_if rfl (fun hc1 => ?_) (fun hc1 => ?_)  -- t19
  ·
    refine cw_skip (hK6 _ _ ?_); clear hK6
    refine cw_seq fun K7 hK7 => ?_
    refine cw_block ?_
    refine cw_seq fun K8 hK8 => ?_
    refine cw_region ?_
    have hst := links_step (l := l) (j := j.toNat) (by omega) hj2
    have hdl : (l.links.take j.toNat).length ≤ 192 := by rw [List.length_take]; omega
    generalize hdone : l.links.take j.toNat = done at *
    obtain ⟨k, hk⟩ : ∃ k, k = l.links.getD j.toNat lnkD := ⟨_, rfl⟩
    rw [← hk] at hst
    refine ow_ev (ev_index_addr' 6 (fun _ => hl.li.addr (by rw [lnk_len]; omega))) ?_
    refine ow_ev (ev_load_cells (l := k.cells) (fun w hm q u hu => by subst hk; rw [Nat.add_assoc]; exact cell_old hl.li (lnk_get (by omega) hu) (Nat.le_refl _) (by repeat (first | exact Has.head | apply Has.tail)) w hm)) ?_
    refine ow_cons (st_alloc rfl (k := fun b5 => ?_))
    refine ow_cons (st_store_all (k := ?_))
    refine ow_nil (hK8 _ _ ?_); clear hK8
    refine cw_seq fun K9 hK9 => ?_
    refine cw_seq fun K10 hK10 => ?_
    refine cw_region ?_
    refine ow_ev ev_load_all ?_
    refine ow_ev ev_load_all ?_
    refine ow_cons (st_callv (fun w hm => linkInRange_spec w v l k) ?_)
    refine ow_ev ev_not ?_
    refine ow_nil (hK10 _ _ ?_); clear hK10
    refine cw_cond rfl (fun hc2 => ?_) (fun hc2 => ?_)  -- t25
    ·
      refine cw_seq fun K11 hK11 => ?_
      refine cw_region ?_
      refine ow_ev ev_assign ?_
      refine ow_nil (hK11 _ _ ?_); clear hK11
      refine cw_ret (kw_ret1 rfl rfl (fun w hm => ret_of hm (by rw [hst.1 (by simpa using hc2)])))
    ·
      have hlk : linkB l k = true := by simpa using hc2
      replace hst := hst.2 hlk
      obtain ⟨⟨ha0, ha1, hbb0, hbb1⟩, hae, hbe⟩ := linkB_ends hlk
      obtain ⟨ea, hea'⟩ : ∃ e, e = 2 * k.a + k.aEnd := ⟨_, rfl⟩
      obtain ⟨eb, heb'⟩ : ∃ e, e = 2 * k.b + k.bEnd := ⟨_, rfl⟩
      have hea : 0 ≤ ea ∧ ea < 2 * l.sections.length := by omega
      have heb : 0 ≤ eb ∧ eb < 2 * l.sections.length := by omega
      obtain ⟨aA, cA, hrA⟩ := hrows.get ea hea.1 (by omega)
      obtain ⟨aB, cB, hrB⟩ := hrows.get eb heb.1 (by omega)
      have hlA := atEnd_len done ea
      have hlB := atEnd_len done eb
      rw [← hea', ← heb'] at hst
      refine cw_skip (hK9 _ _ ?_); clear hK9
      refine cw_seq fun K12 hK12 => ?_
      refine cw_region ?_
      refine ow_ev ev_load_all ?_
      refine ow_cons (st_callv (fun w hm => ends_spec w k) ?_)
      refine ow_ev ev_move ?_
      refine ow_ev ev_extract ?_
      refine ow_ev ev_extract ?_
      refine ow_cons (st_alloc rfl (k := fun b6 => ?_))
      refine ow_cons (st_alloc rfl (k := fun b7 => ?_))
      refine ow_cons (st_store_all (k := ?_))
      refine ow_cons (st_store_all (k := ?_))
      refine ow_nil (hK12 _ _ ?_); clear hK12
      refine cw_seq fun K13 hK13 => ?_
      refine cw_region_any [own b7 85 [.int .i64 k.b, .int .i64 k.bEnd], own b6 85 [.int .i64 k.a, .int .i64 k.aEnd], own b5 72 k.cells, row 24 1 a (2 * l.sections.length) (2 * l.sections.length) (rows.map Row.hdr), rowsC (fun _ => True) 72 6 rows, own b1 26 (v.cells l), old w] (by repeat (first | exact List.Sublist.refl _ | apply List.Sublist.cons_cons | apply List.Sublist.cons)) ?_
      refine aw_ev 0 rfl ev_move ?_
      refine aw_ev 1 rfl ev_load_all ?_
      refine aw_ev 4 rfl ev_move ?_
      refine aw_ev 5 rfl ev_load_all ?_
      refine aw_one 2 rfl (st_callv (fun w hm => endIndex_spec w k.a k.aEnd (by omega) (by omega)) ⟨fun w hm => hm.sub (by repeat (first | exact List.Sublist.refl _ | apply List.Sublist.cons_cons | apply List.Sublist.cons)), ?_⟩)
      rw [← hea']
      refine aw_ev 3 rfl (ev_index_addr' (ad := a) 1 (fun _ => by rw [ha]; rfl)) ?_
      refine aw_one 6 rfl (st_callv (fun w hm => endIndex_spec w k.b k.bEnd (by omega) (by omega)) ⟨fun w hm => hm.sub (by repeat (first | exact List.Sublist.refl _ | apply List.Sublist.cons_cons | apply List.Sublist.cons)), ?_⟩)
      rw [← heb']
      refine aw_ev 7 rfl (ev_index_addr' (ad := a) 1 (fun _ => by rw [ha]; rfl)) ?_
      refine aw_ev 8 rfl ev_assign ?_
      refine aw_ev 9 rfl ev_assign ?_
      refine aw_done (hK13 _ _ ?_); clear hK13
      refine cw_seq fun K14 hK14 => ?_
      refine cw_block ?_
      refine cw_seq fun K15 hK15 => ?_
      refine cw_region ?_
      refine ow_ev ev_load_all ?_
      refine ow_ev ev_load_all ?_
      refine ow_ev ev_struct_eql ?_
      refine ow_ev ev_assign ?_
      refine ow_nil (hK15 _ _ ?_); clear hK15
      refine cw_if rfl (fun hc3 => ?_) (fun hc3 => ?_)  -- t39
      ·
        refine cw_seq fun K16 hK16 => ?_
        refine cw_region ?_
        refine ow_ev ev_assign ?_
        refine ow_nil (hK16 _ _ ?_); clear hK16
        refine cw_ret (kw_ret1 rfl rfl (fun w hm => ret_of hm (by rw [hst.1 hc3])))
      ·
        replace hst := hst.2 hc3
        have hne : ea ≠ eb := by omega
        refine cw_seq fun K17 hK17 => ?_
        refine cw_region_any [own b7 85 [.int .i64 k.b, .int .i64 k.bEnd], own b6 85 [.int .i64 k.a, .int .i64 k.aEnd], own b5 72 k.cells, row 24 1 a (2 * l.sections.length) (2 * l.sections.length) (rows.map Row.hdr), rowsC (fun _ => True) 72 6 rows, own b1 26 (v.cells l), old w] (by repeat (first | exact List.Sublist.refl _ | apply List.Sublist.cons_cons | apply List.Sublist.cons)) ?_
        refine aw_ev 0 rfl ev_move ?_
        refine aw_ev 1 rfl ev_nilcheck ?_
        refine aw_ev 2 rfl (ev_load_at (v := .slice aA (atEnd done ea).length cA) (cell_row (hdr_get hrA) (by repeat (first | exact Has.head | apply Has.tail)))) ?_
        refine aw_ev 3 rfl ev_load_all ?_
        refine aw_ev 4 rfl ev_load_all ?_
        refine aw_one 5 rfl (st_callv (fun w hm => joined_spec w aA cA (atEnd done ea) _ _ _ _ (sl_rows hrA trivial hm (by repeat (first | exact Has.head | apply Has.tail))) (by omega)) ⟨fun w hm => hm.sub (by repeat (first | exact List.Sublist.refl _ | apply List.Sublist.cons_cons | apply List.Sublist.cons)), ?_⟩)
        refine aw_ev 6 rfl ev_assign ?_
        refine aw_done (hK17 _ _ ?_); clear hK17
        refine cw_cond rfl (fun hc4 => ?_) (fun hc4 => ?_)  -- t43
        ·
          refine cw_seq fun K18 hK18 => ?_
          refine cw_region ?_
          refine ow_ev ev_assign ?_
          refine ow_nil (hK18 _ _ ?_); clear hK18
          refine cw_ret (kw_ret1 rfl rfl (fun w hm => ret_of hm (by rw [hst.1 hc4])))
        ·
          replace hst := hst.2 hc4
          refine cw_cut (γ := Bool) (env := fun q => [(5, .v (.pointer (some ⟨b5, 0, none⟩))), (8, .v (.pointer (some ⟨sb a, so a + ea.toNat * 1, none⟩))), (9, .v (.pointer (some ⟨sb a, so a + eb.toNat * 1, none⟩))), (50, .v (.bool q)), (1, .v (.pointer (some ⟨b1, 0, none⟩))), (3, .v (.slice a (2 * l.sections.length) (2 * l.sections.length))), (16, .v (.slice v.a4 l.links.length v.c4)), (17, .v (.int .i64 (l.links.length : Int))), (18, .v (.int .i64 j))]) (mem := fun q => [own b7 85 [.int .i64 k.b, .int .i64 k.bEnd], own b6 85 [.int .i64 k.a, .int .i64 k.aEnd], own b5 72 k.cells, row 24 1 a (2 * l.sections.length) (2 * l.sections.length) (rows.map Row.hdr), rowsC (fun _ => True) 72 6 rows, own b1 26 (v.cells l), old w]) (R := fun q => q = (!fitsB k (atEnd done ea) || !fitsB k (atEnd done eb))) ?_ ?_
          · intro KJ19 hJ19
            refine cw_seq fun K20 hK20 => ?_
            refine cw_region_any [own b7 85 [.int .i64 k.b, .int .i64 k.bEnd], own b6 85 [.int .i64 k.a, .int .i64 k.aEnd], own b5 72 k.cells, row 24 1 a (2 * l.sections.length) (2 * l.sections.length) (rows.map Row.hdr), rowsC (fun _ => True) 72 6 rows, own b1 26 (v.cells l), old w] (by repeat (first | exact List.Sublist.refl _ | apply List.Sublist.cons_cons | apply List.Sublist.cons)) ?_
            refine aw_ev 0 rfl ev_load_all ?_
            refine aw_ev 1 rfl ev_move ?_
            refine aw_ev 2 rfl ev_nilcheck ?_
            refine aw_ev 3 rfl (ev_load_at (v := .slice aA (atEnd done ea).length cA) (cell_row (hdr_get hrA) (by repeat (first | exact Has.head | apply Has.tail)))) ?_
            refine aw_one 4 rfl (st_callv (fun w hm => fits_spec w k aA cA (atEnd done ea) (sl_rows hrA trivial hm (by repeat (first | exact Has.head | apply Has.tail)))) ⟨fun w hm => hm.sub (by repeat (first | exact List.Sublist.refl _ | apply List.Sublist.cons_cons | apply List.Sublist.cons)), ?_⟩)
            refine aw_ev 5 rfl ev_not ?_
            refine aw_ev 6 rfl ev_assign ?_
            refine aw_done (hK20 _ _ ?_); clear hK20
            refine cw_cond rfl (fun hc5 => ?_) (fun hc5 => ?_)  -- t50
            ·
              refine cw_skip (hJ19 (_) _ _ (by rw [hc5]; rfl) ⟨rfl, rfl, rfl, rfl, rfl, rfl, rfl, rfl, rfl, trivial⟩ (fun _ h => h))
            ·
              refine cw_region_any [own b7 85 [.int .i64 k.b, .int .i64 k.bEnd], own b6 85 [.int .i64 k.a, .int .i64 k.aEnd], own b5 72 k.cells, row 24 1 a (2 * l.sections.length) (2 * l.sections.length) (rows.map Row.hdr), rowsC (fun _ => True) 72 6 rows, own b1 26 (v.cells l), old w] (by repeat (first | exact List.Sublist.refl _ | apply List.Sublist.cons_cons | apply List.Sublist.cons)) ?_
              refine aw_ev 0 rfl ev_load_all ?_
              refine aw_ev 1 rfl ev_move ?_
              refine aw_ev 2 rfl ev_nilcheck ?_
              refine aw_ev 3 rfl (ev_load_at (v := .slice aB (atEnd done eb).length cB) (cell_row (hdr_get hrB) (by repeat (first | exact Has.head | apply Has.tail)))) ?_
              refine aw_one 4 rfl (st_callv (fun w hm => fits_spec w k aB cB (atEnd done eb) (sl_rows hrB trivial hm (by repeat (first | exact Has.head | apply Has.tail)))) ⟨fun w hm => hm.sub (by repeat (first | exact List.Sublist.refl _ | apply List.Sublist.cons_cons | apply List.Sublist.cons)), ?_⟩)
              refine aw_ev 5 rfl ev_not ?_
              refine aw_ev 6 rfl ev_assign ?_
              refine aw_done (hJ19 (_) _ _ (by rw [hc5]; rfl) ⟨rfl, rfl, rfl, rfl, rfl, rfl, rfl, rfl, rfl, trivial⟩ (fun _ h => h))
          · intro q hR
            refine cw_cond rfl (fun hc6 => ?_) (fun hc6 => ?_)  -- t50
            ·
              refine cw_seq fun K21 hK21 => ?_
              refine cw_region ?_
              refine ow_ev ev_assign ?_
              refine ow_nil (hK21 _ _ ?_); clear hK21
              refine cw_ret (kw_ret1 rfl rfl (fun w hm => ret_of hm (by rw [hst.1 (by rw [← hR, hc6])])))
            ·
              have ht := hst.2 (by rw [← hR, hc6])
              refine cw_skip (hK14 _ _ ?_); clear hK14
              refine cw_seq fun K22 hK22 => ?_
              refine cw_region_z [own b7 85 [.int .i64 k.b, .int .i64 k.bEnd], own b6 85 [.int .i64 k.a, .int .i64 k.aEnd], own b5 72 k.cells, row 24 1 a (2 * l.sections.length) (2 * l.sections.length) (rows.map Row.hdr), own b1 26 (v.cells l), old w] 8 ?_
              refine az_ev 0 rfl ev_move ?_
              refine az_ev 1 rfl ev_move ?_
              refine az_ev 2 rfl ev_nilcheck ?_
              refine az_ev 3 rfl (ev_load_at (v := .slice aA (atEnd done ea).length cA) (cell_row (hdr_get hrA) (by repeat (first | exact Has.head | apply Has.tail)))) ?_
              refine az_ev 4 rfl ev_load_all ?_
              refine az_one 5 rfl (st_buildSlice 72 k.cells (k := fun b68 => ⟨fun w hm => hm.sub (by repeat (first | exact List.Sublist.refl _ | apply List.Sublist.cons_cons | apply List.Sublist.cons)), ?_⟩))
              refine az_imp (fun w hm => rows_split hrA trivial (hm.front (c := rowsC (fun _ => True) 72 6 rows) (by repeat (first | exact Sel.head | apply Sel.tail)))) ?_
              refine az_one 6 rfl (st_append_own 48 (k := fun a' cap' => ⟨fun w hm => hm.sub (by repeat (first | exact List.Sublist.refl _ | apply List.Sublist.cons_cons | apply List.Sublist.cons)), ?_⟩))
              refine az_ev 7 rfl ev_nilcheck ?_
              refine az_last rfl (st_store_row (j := ea.toNat * 1) (hu := by repeat (first | exact Upd.head | apply Upd.tail)) (hj := by rw [List.length_map, hrows.1]; omega) (h1 := rfl) (hx := .plain rfl) (hy := .plain rfl) (k := ?_))
              refine az_done (hK22 _ _ ?_); clear hK22
              refine cw_imp (H' := [row 24 1 a (2 * l.sections.length) (2 * l.sections.length) ((rows.set (ea.toNat * 1) (⟨a', (atEnd done ea).length + 1, cap', (atEnd done ea).flatMap Lnk.cells ++ k.cells⟩ : Row)).map Row.hdr), rowsC (fun _ => True) 72 6 (rows.set (ea.toNat * 1) (⟨a', (atEnd done ea).length + 1, cap', (atEnd done ea).flatMap Lnk.cells ++ k.cells⟩ : Row)), own b7 85 [.int .i64 k.b, .int .i64 k.bEnd], own b6 85 [.int .i64 k.a, .int .i64 k.aEnd], own b5 72 k.cells, own b1 26 (v.cells l), old w]) (fun w hm => by rw [List.map_set]; exact ((rows_join (r := ⟨a', (atEnd done ea).length + 1, cap', (atEnd done ea).flatMap Lnk.cells ++ k.cells⟩) (by rw [hrows.1]; omega) hm).front (c := row 24 1 a (2 * l.sections.length) (2 * l.sections.length) ((rows.map Row.hdr).set (ea.toNat * 1) (Row.hdr ⟨a', (atEnd done ea).length + 1, cap', (atEnd done ea).flatMap Lnk.cells ++ k.cells⟩))) (by repeat (first | exact Sel.head | apply Sel.tail))).sub (by repeat (first | exact List.Sublist.refl _ | apply List.Sublist.cons_cons | apply List.Sublist.cons))) ?_
              have hrB' : (rows.set (ea.toNat * 1) ⟨a', (atEnd done ea).length + 1, cap', (atEnd done ea).flatMap Lnk.cells ++ k.cells⟩)[eb.toNat * 1]? = some ⟨aB, (atEnd done eb).length, cB, (atEnd done eb).flatMap Lnk.cells⟩ := by rw [List.getElem?_set_ne (by omega)]; exact hrB
              have hlen1 : (rows.set (ea.toNat * 1) ⟨a', (atEnd done ea).length + 1, cap', (atEnd done ea).flatMap Lnk.cells ++ k.cells⟩).length = 2 * l.sections.length := by rw [List.length_set]; exact hrows.1
              clear hrA hrB
              generalize hrows1 : rows.set (ea.toNat * 1) ⟨a', (atEnd done ea).length + 1, cap', (atEnd done ea).flatMap Lnk.cells ++ k.cells⟩ = rows1 at *
              refine cw_region_z [row 24 1 a (2 * l.sections.length) (2 * l.sections.length) (rows1.map Row.hdr), own b7 85 [.int .i64 k.b, .int .i64 k.bEnd], own b6 85 [.int .i64 k.a, .int .i64 k.aEnd], own b5 72 k.cells, own b1 26 (v.cells l), old w] 8 ?_
              refine az_ev 0 rfl ev_move ?_
              refine az_ev 1 rfl ev_move ?_
              refine az_ev 2 rfl ev_nilcheck ?_
              refine az_ev 3 rfl (ev_load_at (v := .slice aB (atEnd done eb).length cB) (cell_row (hdr_get hrB') (by repeat (first | exact Has.head | apply Has.tail)))) ?_
              refine az_ev 4 rfl ev_load_all ?_
              refine az_one 5 rfl (st_buildSlice 72 k.cells (k := fun b76 => ⟨fun w hm => hm.sub (by repeat (first | exact List.Sublist.refl _ | apply List.Sublist.cons_cons | apply List.Sublist.cons)), ?_⟩))
              refine az_imp (fun w hm => rows_split hrB' trivial (hm.front (c := rowsC (fun _ => True) 72 6 rows1) (by repeat (first | exact Sel.head | apply Sel.tail)))) ?_
              refine az_one 6 rfl (st_append_own 48 (k := fun a2 cap2 => ⟨fun w hm => hm.sub (by repeat (first | exact List.Sublist.refl _ | apply List.Sublist.cons_cons | apply List.Sublist.cons)), ?_⟩))
              refine az_ev 7 rfl ev_nilcheck ?_
              refine az_last rfl (st_store_row (j := eb.toNat * 1) (hu := by repeat (first | exact Upd.head | apply Upd.tail)) (hj := by rw [List.length_map, hlen1]; omega) (h1 := rfl) (hx := .plain rfl) (hy := .plain rfl) (k := ?_))
              refine az_done (hK7 _ _ ?_); clear hK7
              refine cw_imp (H' := [row 24 1 a (2 * l.sections.length) (2 * l.sections.length) ((rows1.set (eb.toNat * 1) (⟨a2, (atEnd done eb).length + 1, cap2, (atEnd done eb).flatMap Lnk.cells ++ k.cells⟩ : Row)).map Row.hdr), rowsC (fun _ => True) 72 6 (rows1.set (eb.toNat * 1) (⟨a2, (atEnd done eb).length + 1, cap2, (atEnd done eb).flatMap Lnk.cells ++ k.cells⟩ : Row)), own b1 26 (v.cells l), old w]) (fun w hm => by rw [List.map_set]; exact ((rows_join (r := ⟨a2, (atEnd done eb).length + 1, cap2, (atEnd done eb).flatMap Lnk.cells ++ k.cells⟩) (by rw [hlen1]; omega) hm).front (c := row 24 1 a (2 * l.sections.length) (2 * l.sections.length) ((rows1.map Row.hdr).set (eb.toNat * 1) (Row.hdr ⟨a2, (atEnd done eb).length + 1, cap2, (atEnd done eb).flatMap Lnk.cells ++ k.cells⟩))) (by repeat (first | exact Sel.head | apply Sel.tail))).sub (by repeat (first | exact List.Sublist.refl _ | apply List.Sublist.cons_cons | apply List.Sublist.cons))) ?_
              subst hrows1
              refine cw_region ?_
              refine ow_ev ev_add ?_
              refine ow_ev ev_move ?_
              refine ow_nil (hL1 ((j + 1, (rows.set (ea.toNat * 1) (⟨a', (atEnd done ea).length + 1, cap', (atEnd done ea).flatMap Lnk.cells ++ k.cells⟩ : Row)).set (eb.toNat * 1) (⟨a2, (atEnd done eb).length + 1, cap2, (atEnd done eb).flatMap Lnk.cells ++ k.cells⟩ : Row))) _ _ (⟨by show (0 : Int) ≤ j + 1; omega, by show j + 1 ≤ _; omega, by show RowsFor (l.links.take (j + 1).toNat) _ _; rw [show (j + 1).toNat = j.toNat + 1 by omega, ht.2]; exact hrows.step k ea eb hea'.symm heb'.symm hne hea.1 heb.1 _ _ _ _, by show linksErr l (l.links.take (j + 1).toNat) (l.links.drop (j + 1).toNat) = _; rw [show (j + 1).toNat = j.toNat + 1 by omega]; exact ht.1⟩) (by show (_ - (j + 1)).toNat < _; omega) ⟨rfl, rfl, rfl, rfl, rfl, trivial⟩ (fun w hm => hm.sub (by repeat (first | exact List.Sublist.refl _ | apply List.Sublist.cons_cons | apply List.Sublist.cons))))
  ·
    refine cw_exit (hK3 _ _ ?_); clear hK3
    refine cw_seq fun K23 hK23 => ?_
    refine cw_region ?_
    refine ow_ev ev_assign ?_
    refine ow_nil (hK23 _ _ ?_); clear hK23
    refine cw_ret (kw_ret1 rfl rfl (fun w hm => ret_of hm (by rw [links_end (by omega) hj2])))

end Go.Proofs.YtohhihdjdelckaaDoor

namespace Go.Proofs.YtohhihdjdelckaaDoor
open Go.Eng Go.RowKit
set_option maxRecDepth 10000

def namesErr : List ByteArray → List ByteArray → Int
  | _, [] => 0
  | seen, s :: r => if nameErr s seen ≠ 0 then nameErr s seen else namesErr (seen ++ [s]) r
def secsErr (nst : Nat) : List ByteArray → List Sec → Int
  | _, [] => 0
  | seen, s :: r => if nameErr s.name seen ≠ 0 then nameErr s.name seen else if secB nst s = false then 4 else secsErr nst (seen ++ [s.name]) r
def fullB (l : Lay) : Bool := decide (24 < l.stations.length ∨ 48 < l.points.length ∨ 96 < l.sections.length ∨ 192 < l.links.length)
def checkL (l : Lay) : Int :=
  if fullB l = true then 7 else if l.sections.length = 0 then 1 else
  if namesErr [] l.stations ≠ 0 then namesErr [] l.stations else if namesErr [] l.points ≠ 0 then namesErr [] l.points else
  if secsErr l.stations.length [] l.sections ≠ 0 then secsErr l.stations.length [] l.sections else linksErr l [] l.links

theorem names_step {names : List ByteArray} {j : Nat} (hj : j < names.length) (h : namesErr (names.take j) (names.drop j) = namesErr [] names) :
    (nameErr (names.getD j ByteArray.empty) (names.take j) ≠ 0 → namesErr [] names = nameErr (names.getD j ByteArray.empty) (names.take j)) ∧
    (nameErr (names.getD j ByteArray.empty) (names.take j) = 0 → namesErr (names.take (j + 1)) (names.drop (j + 1)) = namesErr [] names ∧ seenAfter (names.getD j ByteArray.empty) (names.take j) = names.take (j + 1)) := by
  have hd : names.drop j = names[j] :: names.drop (j + 1) := List.drop_eq_getElem_cons hj
  have hg : names.getD j ByteArray.empty = names[j] := by simp [List.getD_eq_getElem?_getD, hj]
  have ht : names.take (j + 1) = names.take j ++ [names[j]] := by rw [List.take_succ_eq_append_getElem hj]
  rw [hd, namesErr] at h
  rw [hg]
  constructor
  · intro hn; rw [if_pos hn] at h; exact h.symm
  · intro hn
    rw [if_neg (by simp [hn])] at h
    rw [ht]
    exact ⟨h, se2 hn⟩

theorem names_end {names : List ByteArray} {j : Nat} (hj : names.length ≤ j) (h : namesErr (names.take j) (names.drop j) = namesErr [] names) : namesErr [] names = 0 := by
  rw [← h, List.drop_eq_nil_of_le hj, namesErr]

def nmI (l : Lay) (i : Int) : List ByteArray := if i = 0 then l.stations else l.points
def adI (v : LayV) (i : Int) : Option Addr := if i = 0 then v.a1 else v.a2
def cpI (v : LayV) (i : Int) : Nat := if i = 0 then v.c1 else v.c2

theorem strCells_get {names : List ByteArray} {j : Nat} (hj : j < names.length) : (strCells names)[j]? = some (.string (names.getD j ByteArray.empty)) := by
  simp [strCells, hj]

theorem flat_get {α : Type} {enc : α → List Value} {sz : Nat} (he : ∀ x, (enc x).length = sz) : ∀ (xs : List α) (i j : Nat), j < sz → (xs.flatMap enc)[i * sz + j]? = (xs[i]?).bind (fun x => (enc x)[j]?)
  | [], i, j, _ => by simp
  | x :: xs, 0, j, hj => by
    simp only [List.flatMap_cons, Nat.zero_mul, Nat.zero_add]
    rw [List.getElem?_append_left (by rw [he]; exact hj)]
    rfl
  | x :: xs, i + 1, j, hj => by
    simp only [List.flatMap_cons]
    rw [List.getElem?_append_right (by rw [he, Nat.add_mul]; omega), he]
    rw [show (i + 1) * sz + j - sz = i * sz + j by rw [Nat.add_mul]; omega]
    rw [flat_get he xs i j hj]
    simp

theorem flat_len {α : Type} {enc : α → List Value} {sz : Nat} (he : ∀ x, (enc x).length = sz) (xs : List α) : (xs.flatMap enc).length = xs.length * sz := by
  induction xs with
  | nil => simp
  | cons x xs ih => simp only [List.flatMap_cons, List.length_append, he, ih, List.length_cons, Nat.add_mul]; omega

def secD : Sec := ⟨ByteArray.empty, 0, 0, 0, 0⟩
theorem sec_get {xs : List Sec} {i j : Nat} {u : Value} (hi : i < xs.length) (hj : (Sec.cells (xs.getD i secD))[j]? = some u) : (xs.flatMap Sec.cells)[i * 5 + j]? = some u := by
  have hjl : j < 5 := by have := (List.getElem?_eq_some_iff.1 hj).1; simpa [Sec.cells] using this
  rw [flat_get (enc := Sec.cells) (sz := 5) (fun _ => rfl) xs i j hjl]
  have : xs[i]? = some (xs.getD i secD) := by simp [hi]
  rw [this]
  exact hj

theorem secs_step {nst : Nat} {xs : List Sec} {j : Nat} (hj : j < xs.length) (h : secsErr nst ((xs.take j).map Sec.name) (xs.drop j) = secsErr nst [] xs) :
    (nameErr (xs.getD j secD).name ((xs.take j).map Sec.name) ≠ 0 → secsErr nst [] xs = nameErr (xs.getD j secD).name ((xs.take j).map Sec.name)) ∧
    (nameErr (xs.getD j secD).name ((xs.take j).map Sec.name) = 0 → seenAfter (xs.getD j secD).name ((xs.take j).map Sec.name) = (xs.take (j + 1)).map Sec.name ∧
      (secB nst (xs.getD j secD) = false → secsErr nst [] xs = 4) ∧ (secB nst (xs.getD j secD) = true → secsErr nst ((xs.take (j + 1)).map Sec.name) (xs.drop (j + 1)) = secsErr nst [] xs)) := by
  have hd : xs.drop j = xs[j] :: xs.drop (j + 1) := List.drop_eq_getElem_cons hj
  have hg : xs.getD j secD = xs[j] := by simp [List.getD_eq_getElem?_getD, hj]
  have ht : (xs.take (j + 1)).map Sec.name = (xs.take j).map Sec.name ++ [xs[j].name] := by rw [List.take_succ_eq_append_getElem hj, List.map_append]; rfl
  rw [hd, secsErr] at h
  rw [hg]
  constructor
  · intro hn; rw [if_pos hn] at h; exact h.symm
  · intro hn
    rw [if_neg (fun h => h hn)] at h
    rw [ht]
    refine ⟨se2 hn, fun hb => ?_, fun hb => ?_⟩
    · rw [if_pos hb] at h; exact h.symm
    · rw [if_neg (by simp [hb])] at h; exact h

theorem secs_end {nst : Nat} {xs : List Sec} {j : Nat} (hj : xs.length ≤ j) (h : secsErr nst ((xs.take j).map Sec.name) (xs.drop j) = secsErr nst [] xs) : secsErr nst [] xs = 0 := by
  rw [← h, List.drop_eq_nil_of_le hj, secsErr]

theorem nmI_get {v : LayV} {l : Lay} {i : Int} (h0 : 0 ≤ i) (h : i < 2) : ([.slice v.a1 l.stations.length v.c1, .slice v.a2 l.points.length v.c2] : List Value)[i.toNat]? = some (.slice (adI v i) (nmI l i).length (cpI v i)) := by
  have : i = 0 ∨ i = 1 := by omega
  rcases this with rfl | rfl <;> rfl

theorem names_next {l : Lay} {i : Int} (h0 : 0 ≤ i) (h2 : i < 2) (hst : 1 ≤ i → namesErr [] l.stations = 0) (hn : namesErr [] (nmI l i) = 0) :
    0 ≤ i + 1 ∧ i + 1 ≤ 2 ∧ (1 ≤ i + 1 → namesErr [] l.stations = 0) ∧ (2 ≤ i + 1 → namesErr [] l.points = 0) := by
  have : i = 0 ∨ i = 1 := by omega
  rcases this with rfl | rfl
  · exact ⟨by omega, by omega, fun _ => hn, by omega⟩
  · exact ⟨by omega, by omega, fun _ => hst (by omega), fun _ => hn⟩

theorem names_ret {l : Lay} {i e : Int} (h0 : 0 ≤ i) (h2 : i < 2) (hf : fullB l = false) (hs : ¬ l.sections.length = 0) (hst : 1 ≤ i → namesErr [] l.stations = 0) (he : namesErr [] (nmI l i) = e) (hne : e ≠ 0) : checkL l = e := by
  have : i = 0 ∨ i = 1 := by omega
  rcases this with rfl | rfl
  · have he' : namesErr [] l.stations = e := he
    rw [checkL, if_neg (by simp [hf]), if_neg hs, if_pos (by rw [he']; exact hne), he']
  · have he' : namesErr [] l.points = e := he
    rw [checkL, if_neg (by simp [hf]), if_neg hs, if_neg (by simp [hst (by omega)]), if_pos (by rw [he']; exact hne), he']

theorem secs_ret {l : Lay} {e : Int} (hf : fullB l = false) (hs : ¬ l.sections.length = 0) (hst : namesErr [] l.stations = 0) (hpt : namesErr [] l.points = 0) (he : secsErr l.stations.length [] l.sections = e) (hne : e ≠ 0) : checkL l = e := by
  rw [checkL, if_neg (by simp [hf]), if_neg hs, if_neg (by simp [hst]), if_neg (by simp [hpt]), if_pos (by rw [he]; exact hne), he]

theorem links_ret {l : Lay} (hf : fullB l = false) (hs : ¬ l.sections.length = 0) (hst : namesErr [] l.stations = 0) (hpt : namesErr [] l.points = 0) (he : secsErr l.stations.length [] l.sections = 0) : checkL l = linksErr l [] l.links := by
  rw [checkL, if_neg (by simp [hf]), if_neg hs, if_neg (by simp [hst]), if_neg (by simp [hpt]), if_neg (by simp [he])]

theorem check_of (w : World) (v : LayV) (l : Lay) (hl : LayAt 0 w.heap.size w v l)
    (hck : l.sections.length ≤ 96 ∧ l.links.length ≤ 192 → ∀ w' : World, LayAt 0 w'.heap.size w' v l → Calls Tryd.prog 37 #[.agg (v.cells l).toArray] w' (Ret w' (.int .i64 (linksErr l [] l.links)))) : Calls Tryd.prog 13 #[.agg (v.cells l).toArray] w (Ret w (.int .i64 (checkL l))) := by
  refine calls_cw (args := [_]) Tryd.func13 rfl (Mem.start w) rfl ?_
  refine cw_seq fun K1 hK1 => ?_
  refine cw_region ?_
  refine ow_cons (st_box (k := fun b1 => ?_))
  refine ow_ev ev_assign ?_
  refine ow_nil (hK1 _ _ ?_); clear hK1
  refine cw_seq fun K2 hK2 => ?_
  refine cw_block ?_
  refine cw_cut (γ := Bool) (env := fun q => [(1, .v (.pointer (some ⟨b1, 0, none⟩))), (13, .v (.bool q))]) (mem := fun q => [own b1 26 (v.cells l), old w]) (R := fun q => q = fullB l) ?_ ?_
  · intro KJ3 hJ3
    refine cw_seq fun K4 hK4 => ?_
    refine cw_region ?_
    refine ow_ev (ev_field_addr 0) ?_
    refine ow_ev ev_load_own ?_
    refine ow_ev ev_len ?_
    refine ow_ev ev_gtr ?_
    refine ow_ev ev_assign ?_
    refine ow_nil (hK4 _ _ ?_); clear hK4
    refine cw_if rfl (fun hc1 => ?_) (fun hc1 => ?_)  -- t13
    ·
      refine cw_skip (hJ3 (_) _ _ (by simp only [fullB]; congr 1; simp only [eq_iff_iff]; omega) ⟨rfl, rfl, trivial⟩ (fun _ h => h))
    ·
      refine cw_seq fun K5 hK5 => ?_
      refine cw_region ?_
      refine ow_ev (ev_field_addr 1) ?_
      refine ow_ev ev_load_own ?_
      refine ow_ev ev_len ?_
      refine ow_ev ev_gtr ?_
      refine ow_ev ev_assign ?_
      refine ow_nil (hK5 _ _ ?_); clear hK5
      refine cw_if rfl (fun hc2 => ?_) (fun hc2 => ?_)  -- t13
      ·
        refine cw_skip (hJ3 (_) _ _ (by simp only [fullB]; congr 1; simp only [eq_iff_iff]; omega) ⟨rfl, rfl, trivial⟩ (fun _ h => h))
      ·
        refine cw_seq fun K6 hK6 => ?_
        refine cw_region ?_
        refine ow_ev (ev_field_addr 2) ?_
        refine ow_ev ev_load_own ?_
        refine ow_ev ev_len ?_
        refine ow_ev ev_gtr ?_
        refine ow_ev ev_assign ?_
        refine ow_nil (hK6 _ _ ?_); clear hK6
        refine cw_if rfl (fun hc3 => ?_) (fun hc3 => ?_)  -- t13
        ·
          refine cw_skip (hJ3 (_) _ _ (by simp only [fullB]; congr 1; simp only [eq_iff_iff]; omega) ⟨rfl, rfl, trivial⟩ (fun _ h => h))
        ·
          refine cw_region ?_
          refine ow_ev (ev_field_addr 3) ?_
          refine ow_ev ev_load_own ?_
          refine ow_ev ev_len ?_
          refine ow_ev ev_gtr ?_
          refine ow_ev ev_assign ?_
          refine ow_nil (hJ3 (_) _ _ (by simp only [fullB]; congr 1; simp only [eq_iff_iff]; omega) ⟨rfl, rfl, trivial⟩ (fun _ h => h))
  · intro q hR
    refine cw_cond rfl (fun hc4 => ?_) (fun hc4 => ?_)  -- t13
    ·
      refine cw_seq fun K7 hK7 => ?_
      refine cw_region ?_
      refine ow_ev ev_assign ?_
      refine ow_nil (hK7 _ _ ?_); clear hK7
      refine cw_ret (kw_ret1 rfl rfl (fun w hm => ret_of hm (by rw [checkL, if_pos (by rw [← hR, hc4])])))
    ·
      have hfull : fullB l = false := by rw [← hR, hc4]
      have hb : l.stations.length ≤ 24 ∧ l.points.length ≤ 48 ∧ l.sections.length ≤ 96 ∧ l.links.length ≤ 192 := by simp only [fullB, decide_eq_false_iff_not] at hfull; omega
      obtain ⟨hb1, hb2, hb3, hb4⟩ := hb
      refine cw_seq fun K8 hK8 => ?_
      refine cw_region ?_
      refine ow_ev (ev_field_addr 2) ?_
      refine ow_ev ev_load_own ?_
      refine ow_ev ev_len ?_
      refine ow_ev ev_eql ?_
      refine ow_ev ev_assign ?_
      refine ow_nil (hK8 _ _ ?_); clear hK8
      refine cw_if rfl (fun hc5 => ?_) (fun hc5 => ?_)  -- t30
      ·
        refine cw_seq fun K9 hK9 => ?_
        refine cw_region ?_
        refine ow_ev ev_assign ?_
        refine ow_nil (hK9 _ _ ?_); clear hK9
        refine cw_ret (kw_ret1 rfl rfl (fun w hm => ret_of hm (by rw [checkL, if_neg (by simp [hfull]), if_pos (by omega)])))
      ·
        refine cw_skip (hK2 _ _ ?_); clear hK2
        refine cw_seq fun K10 hK10 => ?_
        refine cw_seq fun K11 hK11 => ?_
        refine cw_region ?_
        refine ow_ev (ev_field_addr 0) ?_
        refine ow_ev ev_load_own ?_
        refine ow_ev (ev_field_addr 1) ?_
        refine ow_ev ev_load_own ?_
        refine ow_ev ev_build2 ?_
        refine ow_ev ev_move ?_
        refine ow_nil (hK11 _ _ ?_); clear hK11
        refine cw_block ?_
        refine cw_loop (γ := Int) (env := fun i => [(1, .v (.pointer (some ⟨b1, 0, none⟩))), (39, .v (.agg #[.slice v.a1 l.stations.length v.c1, .slice v.a2 l.points.length v.c2])), (40, .v (.int .i64 i))]) (mem := fun i => [own b1 26 (v.cells l), old w]) (R := fun i => 0 ≤ i ∧ i ≤ 2 ∧ (1 ≤ i → namesErr [] l.stations = 0) ∧ (2 ≤ i → namesErr [] l.points = 0)) (μ := fun i => (2 - i).toNat) (0) (⟨by omega, by omega, by omega, by omega⟩) ⟨rfl, rfl, rfl, trivial⟩ (fun _ h => h) ?_
        intro i hR1 KL1 hL1
        obtain ⟨hi0, hi2, hst0, hpt0⟩ := hR1
        refine cw_seq fun K12 hK12 => ?_
        refine cw_region ?_
        refine ow_ev ev_lss ?_
        refine ow_nil (hK12 _ _ ?_); clear hK12
        refine cw_seq fun K13 hK13 => ?_
        refine cw_if rfl (fun hc6 => ?_) (fun hc6 => ?_)  -- t41
        ·
          refine cw_skip (hK13 _ _ ?_); clear hK13
          refine cw_seq fun K14 hK14 => ?_
          refine cw_block ?_
          refine cw_seq fun K15 hK15 => ?_
          refine cw_region ?_
          refine ow_ev (ev_index_array (v := .slice (adI v i) (nmI l i).length (cpI v i)) 2 (fun _ => by omega) (fun _ => nmI_get hi0 hc6)) ?_
          refine ow_ev ev_assign ?_
          refine ow_nil (hK15 _ _ ?_); clear hK15
          refine cw_seq fun K16 hK16 => ?_
          refine cw_region ?_
          refine ow_cons (st_makeMap_set (k := fun b5 => ?_))
          refine ow_ev ev_assign ?_
          refine ow_nil (hK16 _ _ ?_); clear hK16
          refine cw_seq fun K17 hK17 => ?_
          refine cw_region ?_
          refine ow_ev ev_move ?_
          have hnl : (nmI l i).length ≤ 48 := by unfold nmI; split <;> omega
          have hns : Sl 0 w.heap.size w (adI v i) (strCells (nmI l i)) := by unfold adI nmI; split; exact hl.st; exact hl.pt
          refine ow_ev ev_len ?_
          refine ow_ev ev_move ?_
          refine ow_nil (hK17 _ _ ?_); clear hK17
          refine cw_block ?_
          refine cw_loop (γ := Int) (env := fun j => [(1, .v (.pointer (some ⟨b1, 0, none⟩))), (39, .v (.agg #[.slice v.a1 l.stations.length v.c1, .slice v.a2 l.points.length v.c2])), (40, .v (.int .i64 i)), (5, .v (.map (some b5))), (44, .v (.slice (adI v i) (nmI l i).length (cpI v i))), (45, .v (.int .i64 ((nmI l i).length : Int))), (46, .v (.int .i64 j))]) (mem := fun j => [kset b5 ((nmI l i).take j.toNat), own b1 26 (v.cells l), old w]) (R := fun j => 0 ≤ j ∧ j ≤ (nmI l i).length ∧ namesErr ((nmI l i).take j.toNat) ((nmI l i).drop j.toNat) = namesErr [] (nmI l i)) (μ := fun j => ((nmI l i).length - j).toNat) (0) (⟨by omega, by omega, rfl⟩) ⟨rfl, rfl, rfl, rfl, rfl, rfl, rfl, trivial⟩ (fun _ h => h) ?_
          intro j hR2 KL2 hL2
          obtain ⟨hj0, hj1, hj2⟩ := hR2
          refine cw_seq fun K18 hK18 => ?_
          refine cw_region ?_
          refine ow_ev ev_lss ?_
          refine ow_nil (hK18 _ _ ?_); clear hK18
          refine cw_seq fun K19 hK19 => ?_
          refine cw_if rfl (fun hc7 => ?_) (fun hc7 => ?_)  -- t47
          ·
            refine cw_skip (hK19 _ _ ?_); clear hK19
            refine cw_seq fun K20 hK20 => ?_
            refine cw_block ?_
            refine cw_seq fun K21 hK21 => ?_
            refine cw_region ?_
            refine ow_ev (ev_index_addr' 1 (fun _ => hns.addr (by simp [strCells]; omega))) ?_
            refine ow_ev (ev_load_at (cell_old (j := j.toNat * 1) hns (by rw [Nat.mul_one]; exact strCells_get (by omega)) (Nat.le_refl _) (by repeat (first | exact Has.head | apply Has.tail)))) ?_
            refine ow_ev ev_assign ?_
            refine ow_nil (hK21 _ _ ?_); clear hK21
            refine cw_seq fun K22 hK22 => ?_
            refine cw_region ?_
            refine ow_ev ev_move ?_
            refine ow_ev ev_move ?_
            have hstep := names_step (names := nmI l i) (j := j.toNat) (by omega) hj2
            refine ow_cons (st_callm (hc := fun w hm hφ hfp => checkName_spec w _ b5 _ hφ hfp) (k := fun _ _ => ?_))
            refine ow_ev ev_assign ?_
            refine ow_nil (hK22 _ _ ?_); clear hK22
            refine cw_seq fun K23 hK23 => ?_
            refine cw_region ?_
            refine ow_ev ev_move ?_
            refine ow_ev ev_neq ?_
            refine ow_nil (hK23 _ _ ?_); clear hK23
            refine cw_if rfl (fun hc8 => ?_) (fun hc8 => ?_)  -- t54
            ·
              refine cw_seq fun K24 hK24 => ?_
              refine cw_region ?_
              refine ow_ev ev_move ?_
              refine ow_ev ev_assign ?_
              refine ow_nil (hK24 _ _ ?_); clear hK24
              refine cw_ret (kw_ret1 rfl rfl (fun w hm => ret_of hm (by rw [names_ret hi0 hc6 hfull (by omega) hst0 (hstep.1 hc8) hc8])))
            ·
              refine cw_skip (hK20 _ _ ?_); clear hK20
              refine cw_region ?_
              refine ow_ev ev_add ?_
              refine ow_ev ev_move ?_
              have hz : nameErr ((nmI l i).getD j.toNat ByteArray.empty) ((nmI l i).take j.toNat) = 0 := Decidable.of_not_not hc8
              refine ow_nil (hL2 (j + 1) _ _ (⟨by omega, by omega, by rw [show (j + 1).toNat = j.toNat + 1 by omega]; exact (hstep.2 hz).1⟩) (by omega) ⟨rfl, rfl, rfl, rfl, rfl, rfl, rfl, trivial⟩ (fun w hm => by rw [show (j + 1).toNat = j.toNat + 1 by omega, ← (hstep.2 hz).2]; exact hm))
          ·
            refine cw_exit (hK14 _ _ ?_); clear hK14
            refine cw_region ?_
            refine ow_ev ev_add ?_
            refine ow_ev ev_move ?_
            refine ow_nil (hL1 (i + 1) _ _ (names_next hi0 hc6 hst0 (names_end (by omega) hj2)) (by omega) ⟨rfl, rfl, rfl, trivial⟩ (fun w hm => hm.sub (by repeat (first | exact List.Sublist.refl _ | apply List.Sublist.cons_cons | apply List.Sublist.cons))))
        ·
          refine cw_exit (hK10 _ _ ?_); clear hK10
          refine cw_seq fun K25 hK25 => ?_
          refine cw_region ?_
          refine ow_cons (st_makeMap_set (k := fun b9 => ?_))
          refine ow_ev ev_assign ?_
          refine ow_nil (hK25 _ _ ?_); clear hK25
          refine cw_seq fun K26 hK26 => ?_
          refine cw_seq fun K27 hK27 => ?_
          refine cw_region ?_
          refine ow_ev (ev_field_addr 2) ?_
          refine ow_ev ev_load_own ?_
          refine ow_ev ev_len ?_
          refine ow_ev ev_move ?_
          refine ow_nil (hK27 _ _ ?_); clear hK27
          refine cw_block ?_
          refine cw_loop (γ := Int) (env := fun j => [(1, .v (.pointer (some ⟨b1, 0, none⟩))), (9, .v (.map (some b9))), (60, .v (.slice v.a3 l.sections.length v.c3)), (61, .v (.int .i64 (l.sections.length : Int))), (62, .v (.int .i64 j))]) (mem := fun j => [kset b9 ((l.sections.take j.toNat).map Sec.name), own b1 26 (v.cells l), old w]) (R := fun j => 0 ≤ j ∧ j ≤ l.sections.length ∧ secsErr l.stations.length ((l.sections.take j.toNat).map Sec.name) (l.sections.drop j.toNat) = secsErr l.stations.length [] l.sections) (μ := fun j => (l.sections.length - j).toNat) (0) (⟨by omega, by omega, rfl⟩) ⟨rfl, rfl, rfl, rfl, rfl, trivial⟩ (fun _ h => h) ?_
          intro j hR3 KL3 hL3
          obtain ⟨hj0, hj1, hj2⟩ := hR3
          refine cw_seq fun K28 hK28 => ?_
          refine cw_region ?_
          refine ow_ev ev_lss ?_
          refine ow_nil (hK28 _ _ ?_); clear hK28
          refine cw_seq fun K29 hK29 => ?_
          refine cw_if rfl (fun hc9 => ?_) (fun hc9 => ?_)  -- t63
          ·
            refine cw_skip (hK29 _ _ ?_); clear hK29
            refine cw_seq fun K30 hK30 => ?_
            refine cw_block ?_
            refine cw_seq fun K31 hK31 => ?_
            refine cw_region ?_
            refine ow_ev (ev_index_addr' 5 (fun _ => hl.se.addr (by rw [flat_len (sz := 5) (fun _ => rfl)]; omega))) ?_
            refine ow_ev (ev_load_cells (l := (l.sections.getD j.toNat secD).cells) (fun w hm q u hu => by rw [Nat.add_assoc]; exact cell_old hl.se (sec_get (by omega) hu) (Nat.le_refl _) (by repeat (first | exact Has.head | apply Has.tail)) w hm)) ?_
            refine ow_cons (st_alloc rfl (k := fun b11 => ?_))
            refine ow_cons (st_store_all (k := ?_))
            refine ow_nil (hK31 _ _ ?_); clear hK31
            refine cw_seq fun K32 hK32 => ?_
            refine cw_seq fun K33 hK33 => ?_
            refine cw_region ?_
            refine ow_ev (ev_field_addr 0) ?_
            refine ow_ev ev_load_own ?_
            refine ow_ev ev_move ?_
            have hstep := secs_step (nst := l.stations.length) (xs := l.sections) (j := j.toNat) (by omega) hj2
            refine ow_cons (st_callm (hc := fun w hm hφ hfp => checkName_spec w _ b9 _ hφ hfp) (k := fun _ _ => ?_))
            refine ow_ev ev_assign ?_
            refine ow_nil (hK33 _ _ ?_); clear hK33
            refine cw_seq fun K34 hK34 => ?_
            refine cw_region ?_
            refine ow_ev ev_move ?_
            refine ow_ev ev_neq ?_
            refine ow_nil (hK34 _ _ ?_); clear hK34
            refine cw_if rfl (fun hc10 => ?_) (fun hc10 => ?_)  -- t71
            ·
              refine cw_seq fun K35 hK35 => ?_
              refine cw_region ?_
              refine ow_ev ev_move ?_
              refine ow_ev ev_assign ?_
              refine ow_nil (hK35 _ _ ?_); clear hK35
              refine cw_ret (kw_ret1 rfl rfl (fun w hm => ret_of hm (by rw [secs_ret hfull (by omega) (hst0 (by omega)) (hpt0 (by omega)) (hstep.1 hc10) hc10])))
            ·
              have hz : nameErr (l.sections.getD j.toNat secD).name ((l.sections.take j.toNat).map Sec.name) = 0 := Decidable.of_not_not hc10
              refine cw_skip (hK32 _ _ ?_); clear hK32
              refine cw_seq fun K36 hK36 => ?_
              refine cw_region ?_
              refine ow_ev ev_load_all ?_
              refine ow_ev ev_load_all ?_
              refine ow_cons (st_callv (fun w hm => sectionInRange_spec w v l _) ?_)
              refine ow_ev ev_not ?_
              refine ow_nil (hK36 _ _ ?_); clear hK36
              refine cw_cond rfl (fun hc11 => ?_) (fun hc11 => ?_)  -- t76
              ·
                refine cw_seq fun K37 hK37 => ?_
                refine cw_region ?_
                refine ow_ev ev_assign ?_
                refine ow_nil (hK37 _ _ ?_); clear hK37
                refine cw_ret (kw_ret1 rfl rfl (fun w hm => ret_of hm (by rw [secs_ret hfull (by omega) (hst0 (by omega)) (hpt0 (by omega)) ((hstep.2 hz).2.1 (by simpa using hc11)) (by decide)])))
              ·
                refine cw_skip (hK30 _ _ ?_); clear hK30
                refine cw_region ?_
                refine ow_ev ev_add ?_
                refine ow_ev ev_move ?_
                refine ow_nil (hL3 (j + 1) _ _ (⟨by omega, by omega, by rw [show (j + 1).toNat = j.toNat + 1 by omega]; exact (hstep.2 hz).2.2 (by simpa using hc11)⟩) (by omega) ⟨rfl, rfl, rfl, rfl, rfl, trivial⟩ (fun w hm => by rw [show (j + 1).toNat = j.toNat + 1 by omega, ← (hstep.2 hz).1]; exact hm.sub (by repeat (first | exact List.Sublist.refl _ | apply List.Sublist.cons_cons | apply List.Sublist.cons))))
          ·
            refine cw_exit (hK26 _ _ ?_); clear hK26
            refine cw_seq fun K38 hK38 => ?_
            refine cw_region ?_
            refine ow_ev ev_load_all ?_
            refine ow_cons (st_callv (fun w hm => hck (by omega) w (LayAt.below hl (hm.below (by repeat (first | exact Has.head | apply Has.tail))))) ?_)
            refine ow_ev ev_assign ?_
            refine ow_nil (hK38 _ _ ?_); clear hK38
            refine cw_ret (kw_ret1 rfl rfl (fun w hm => ret_of hm (by rw [links_ret hfull (by omega) (hst0 (by omega)) (hpt0 (by omega)) (secs_end (by omega) hj2)])))

/-- The contract of Check. -/
theorem check_spec (w : World) (v : LayV) (l : Lay) (hl : LayAt 0 w.heap.size w v l) : Calls Tryd.prog 13 #[.agg (v.cells l).toArray] w (Ret w (.int .i64 (checkL l))) :=
  check_of w v l hl fun hb w' hl' => checkLinks_spec w' v l hl' hb

end Go.Proofs.YtohhihdjdelckaaDoor

namespace Go.Proofs.YtohhihdjdelckaaDoor
open Go.Dc Go.RowKit

theorem sl_of {α : Type} [GoRep α] {S : Soup} {w : World} {r : SR (GoRep.R α)} {xs : List α} (f : α → List Value) (hf : ∀ (q : GoRep.R α) x, GoRep.enc q x = f x) (hS : ∀ k, S k → k < w.heap.size) (h : SlOk S w r xs) :
    Go.Eng.Sl 0 w.heap.size w r.a (xs.flatMap f) := by
  have he : ∀ (l : List α) (i : Nat), l.flatMap f = encL r.es l i := by
    intro l
    induction l with
    | nil => intro i; rfl
    | cons x l ih => intro i; rw [List.flatMap_cons, encL, hf, ih (i + 1)]
  intro j v hv
  rw [he xs 0] at hv
  obtain ⟨i, j', x, rfl, hj, hx, hv⟩ := encL_split r.es hv
  obtain ⟨h1, h2, h3, _⟩ := h.2.2 i x hx
  exact ⟨h1, Nat.zero_le _, hS _ h2, h3 j' v hv⟩

def secOf (s : Section) : Sec := ⟨s.Name.ba, s.Length, s.Limit, s.Grade, s.Station⟩
def lnkOf (k : Link) : Lnk := ⟨k.A, k.AEnd, k.B, k.BEnd, k.Point, k.Pos⟩
def layOf (l : Layout) : Lay := ⟨l.Stations.map Str.ba, l.Points.map Str.ba, l.Sections.map secOf, l.Links.map lnkOf⟩
def layout_Check_m (l : Layout) : Option Int := some (checkL (layOf l))

theorem layout_Check_spec (S : Soup) (w : World) (l0 : Layout) (r_l0 : GoRep.R Layout) (y : Int) (hM : layout_Check_m l0 = some y) (hS : ∀ k, S k → k < w.heap.size) (h_l0 : GoRep.ok S w r_l0 l0) :
    Calls Tryd.prog 13 #[.agg #[.slice r_l0.1.a l0.Stations.length r_l0.1.cap, .slice r_l0.2.1.a l0.Points.length r_l0.2.1.cap, .slice r_l0.2.2.1.a l0.Sections.length r_l0.2.2.1.cap, .slice r_l0.2.2.2.a l0.Links.length r_l0.2.2.2.cap]] w (Ret w (.int .i64 y)) := by
  obtain rfl := some_inj hM
  obtain ⟨h1, h2, h3, h4⟩ := h_l0
  have hstr : ∀ l : List Str, strCells (l.map Str.ba) = l.flatMap (fun s => [.string s.ba]) := by
    intro l
    unfold strCells
    induction l with
    | nil => rfl
    | cons x l ih => simp only [List.map_cons, List.flatMap_cons, ih]; rfl
  have := check_spec w ⟨r_l0.1.a, r_l0.1.cap, r_l0.2.1.a, r_l0.2.1.cap, r_l0.2.2.1.a, r_l0.2.2.1.cap, r_l0.2.2.2.a, r_l0.2.2.2.cap⟩ (layOf l0)
    ⟨by show Go.Eng.Sl _ _ _ r_l0.1.a (strCells (l0.Stations.map Str.ba)); rw [hstr]; exact sl_of _ (fun _ _ => rfl) hS h1,
     by show Go.Eng.Sl _ _ _ r_l0.2.1.a (strCells (l0.Points.map Str.ba)); rw [hstr]; exact sl_of _ (fun _ _ => rfl) hS h2,
     by show Go.Eng.Sl _ _ _ r_l0.2.2.1.a ((l0.Sections.map secOf).flatMap Sec.cells); rw [List.flatMap_map]; exact sl_of _ (fun _ _ => rfl) hS h3,
     by show Go.Eng.Sl _ _ _ r_l0.2.2.2.a ((l0.Links.map lnkOf).flatMap Lnk.cells); rw [List.flatMap_map]; exact sl_of _ (fun _ _ => rfl) hS h4⟩
  have hc : (LayV.cells ⟨r_l0.1.a, r_l0.1.cap, r_l0.2.1.a, r_l0.2.1.cap, r_l0.2.2.1.a, r_l0.2.2.1.cap, r_l0.2.2.2.a, r_l0.2.2.2.cap⟩ (layOf l0)) = [.slice r_l0.1.a l0.Stations.length r_l0.1.cap, .slice r_l0.2.1.a l0.Points.length r_l0.2.1.cap, .slice r_l0.2.2.1.a l0.Sections.length r_l0.2.2.1.cap, .slice r_l0.2.2.2.a l0.Links.length r_l0.2.2.2.cap] := by
    simp [LayV.cells, layOf]
  rw [hc] at this
  exact this
end Go.Proofs.YtohhihdjdelckaaDoor
