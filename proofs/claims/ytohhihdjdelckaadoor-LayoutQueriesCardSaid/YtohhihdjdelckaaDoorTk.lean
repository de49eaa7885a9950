/- The reference's Check of layouts is the program's; valid layouts. -/
import Derived.Test.YtohhihdjdelckaaDoorQm
import Derived.Test.YtohhihdjdelckaaDoorRb
import Derived.Test.YtohhihdjdelckaaDoorLm
set_option linter.all false
namespace Go.Proofs.YtohhihdjdelckaaDoor
open Go.Dc

theorem byteAt_ba {s : Str} {i : Nat} (h : i < s.l.length) : byteAt s (i : Int) = some (Go.Eng.bt s.ba i) := by
  simp [byteAt, Go.Eng.bt, Str.ba, h, idx]

theorem letter_r (c : Int) : ref1_letter_m c = some (letterB c) := by
  unfold ref1_letter_m letterB
  rw [Bool.or_comm]
theorem digit_r (c : Int) : ref1_digit_m c = some (digitB c) := rfl

theorem name_r (s : Str) : ref1_Name_m s = some (nameB s.ba) := by
  unfold ref1_Name_m nameB
  rw [Str.ba_size]
  by_cases h : 1 ≤ s.l.length ∧ s.l.length ≤ 12
  · have hg : (!(decide ((s.l.length : Int) < 1) || decide (12 < (s.l.length : Int)))) = true := by simp; omega
    rw [whn_t hg]
    have h0 := byteAt_ba (s := s) (i := 0) (by omega)
    rw [show ((0 : Nat) : Int) = 0 from rfl] at h0
    rw [h0]
    simp only [Option.bind_some]
    rw [whn_t hg, letter_r]
    simp only [Option.bind_some]
    by_cases hL : letterB (Go.Eng.bt s.ba 0) = true
    · rw [if_neg (by simp [hL]; omega)]
      have := iter_list (B := ref1_Name_b1 s) (fun (_ : Unit) i => i) (List.range s.l.length) (fun _ _ => True) (fun _ r => some (r.all fun i => charB (Go.Eng.bt s.ba i))) ?_ ?_ FUEL () 1 trivial (by simp; omega) (fuel_of (by simp; omega))
      · rw [this]
        have hr : List.range s.l.length = 0 :: (List.range s.l.length).drop 1 := by
          have := List.drop_eq_getElem_cons (l := List.range s.l.length) (i := 0) (by simp; omega)
          simpa using this
        congr 1
        conv => rhs; rw [hr]
        have hc0 : charB (Go.Eng.bt s.ba 0) = true := by unfold charB; simp [hL]
        simp [hL, h.1, h.2, hc0]
      · intro c _ i x r _ hdr hi hx hk
        simp only [List.length_range] at hi
        have hxi : x = i := by
          have := List.getElem?_drop (xs := List.range s.l.length) (i := i) (j := 0)
          rw [hdr] at this
          simp [hi] at this
          omega
        subst hxi
        have hb := byteAt_ba (s := s) (i := x) hi
        simp only [ref1_Name_b1]
        rw [if_pos (by simp; omega), hb]
        simp only [Option.bind_some]
        rw [letter_r]
        simp only [Option.bind_some]
        by_cases a1 : letterB (Go.Eng.bt s.ba x) = true
        · rw [whn_f (by simp [a1])]
          simp only [Option.bind_some]
          rw [whn_f (by simp [a1])]
          simp only [Option.bind_some]
          rw [whn_f (by simp [a1])]
          simp only [Option.bind_some]
          rw [if_neg (by simp [a1]), chk_true (i64b_of (by omega) (by omega)), hk () trivial]
          simp [charB, a1]
        · have a1' : letterB (Go.Eng.bt s.ba x) = false := by simpa using a1
          rw [whn_t (by simp [a1'])]
          simp only [Option.bind_some]
          rw [whn_t (by simp [a1']), digit_r]
          simp only [Option.bind_some]
          by_cases a2 : digitB (Go.Eng.bt s.ba x) = true
          · rw [whn_f (by simp [a2])]
            simp only [Option.bind_some]
            rw [if_neg (by simp [a2]), chk_true (i64b_of (by omega) (by omega)), hk () trivial]
            simp [charB, a2]
          · have a2' : digitB (Go.Eng.bt s.ba x) = false := by simpa using a2
            rw [whn_t (by simp [a1', a2'])]
            simp only [Option.bind_some]
            by_cases a3 : Go.Eng.bt s.ba x = 95
            · rw [if_neg (by simp [a3]), chk_true (i64b_of (by omega) (by omega)), hk () trivial]
              simp [charB, a3]
            · rw [if_pos (by simp [a1', a2', a3])]
              simp [charB, a1', a2', a3]
      · intro c _ _
        simp only [ref1_Name_b1]
        rw [if_neg (by simp)]
        rfl
    · have hL' : letterB (Go.Eng.bt s.ba 0) = false := by simpa using hL
      rw [if_pos (by simp [hL'])]
      simp [hL']
  · have hg : (!(decide ((s.l.length : Int) < 1) || decide (12 < (s.l.length : Int)))) = false := by simp; omega
    rw [whn_f hg]
    simp only [Option.bind_some]
    rw [whn_f hg]
    simp only [Option.bind_some]
    rw [if_pos (by simp [Int.not_lt.mp, h] <;> omega)]
    have : (decide (1 ≤ s.l.length) && decide (s.l.length ≤ 12)) = false := by simp; omega
    simp [this]

theorem mem_ba {s : Str} {l : List Str} : s.ba ∈ l.map Str.ba ↔ s ∈ l := by
  simp only [List.mem_map]
  constructor
  · rintro ⟨t, h, e⟩; rw [← Str.ba_inj e]; exact h
  · intro h; exact ⟨s, h, rfl⟩

theorem names_r (l : List Str) (i : Nat) (hi : i < l.length) (hl : l.length ≤ 1000) : ref1_names_m l i = some (nameErr l[i].ba ((l.take i).map Str.ba)) := by
  unfold ref1_names_m nameErr
  rw [idx_nat, List.getElem?_eq_getElem hi]
  simp only [Option.bind_some]
  rw [name_r]
  simp only [Option.bind_some]
  by_cases hn : nameB l[i].ba = true
  · rw [if_neg (by simp [hn])]
    rw [if_neg (by simp [hn])]
    have hlt : (l.take i).length = i := by rw [List.length_take]; omega
    have := iter_list (B := ref1_names_b1 i l) (fun (_ : Unit) i => i) (l.take i) (fun _ _ => True) (fun _ r => some (if l[i] ∈ r then (5 : Int) else 0)) ?_ ?_ FUEL () 0 trivial (by omega) (fuel_of (by omega))
    · simp only [List.drop_zero] at this
      rw [this]
      by_cases hm : l[i] ∈ l.take i
      · rw [if_pos hm, if_pos (mem_ba.2 hm)]
      · rw [if_neg hm, if_neg (fun h => hm (mem_ba.1 h))]
    · intro c _ j x r _ hdr hj hx hk
      simp only [ref1_names_b1]
      rw [hlt] at hj
      rw [if_pos (by simp; omega)]
      have hxj : idx l (j : Int) = some x := by
        rw [idx_nat] at hx ⊢
        rw [List.getElem?_take, if_pos hj] at hx
        exact hx
      rw [hxj]
      simp only [Option.bind_some]
      rw [idx_nat, List.getElem?_eq_getElem hi]
      simp only [Option.bind_some]
      by_cases e : x = l[i]
      · rw [if_pos (by simp [e])]
        simp [e]
      · rw [if_neg (by simp [e]), chk_true (i64b_of (by omega) (by omega)), hk () trivial]
        have e' : ¬ l[i] = x := fun h => e h.symm
        simp [e']
    · intro c _ _
      simp only [ref1_names_b1]
      rw [if_neg (by simp; omega)]
      rfl
  · have hn' : nameB l[i].ba = false := by simpa using hn
    rw [if_pos (by simp [hn']), if_pos hn']

theorem secNames_r (l : Layout) (hl : l.Sections.length ≤ 1000) : ref1_sectionNames_m l = some (l.Sections.map (·.Name)) := by
  unfold ref1_sectionNames_m
  have := iter_list (B := ref1_sectionNames_b1 l) (fun (s : List Str) i => (s, i)) l.Sections (fun s i => s.length ≤ i) (fun s r => some (s ++ r.map (·.Name))) ?_ ?_ FUEL [] 0 (by simp) (by omega) (fuel_of (by omega))
  · simpa using this
  · intro c s i x r hs hdr hi hx hk
    simp only [ref1_sectionNames_b1]
    rw [if_pos (by simp; omega), hx]
    simp only [Option.bind_some]
    rw [chk_true (by simp; omega), chk_true (i64b_of (by omega) (by omega)), hk (s ++ [x.Name]) (by simp; omega)]
    simp
  · intro c s _
    simp only [ref1_sectionNames_b1]
    rw [if_neg (by simp)]
    simp [ref1_sectionNames_k1]
end Go.Proofs.YtohhihdjdelckaaDoor

namespace Go.Proofs.YtohhihdjdelckaaDoor
open Go.Dc

theorem whn_v {α : Type} (g : Bool) (d v : α) : whn g d (some v) = some (bif g then v else d) := by cases g <;> rfl

def hasB (x : Ref1_end) (k : Link) : Bool := (decide (k.A = x.section_) && decide (k.AEnd = x.end_)) || (decide (k.B = x.section_) && decide (k.BEnd = x.end_))
theorem has_r (k : Link) (x : Ref1_end) : ref1_has_m k x = some (hasB x k) := rfl
def freeF (k : Link) : List Link → Bool
  | [] => true
  | [y] => (decide (0 ≤ k.Point) && decide (y.Point = k.Point)) && decide (y.Pos ≠ k.Pos)
  | _ => false

set_option maxRecDepth 100000 in
theorem free_r (l : Layout) (i : Nat) (hi : i < l.Links.length) (hl : l.Links.length ≤ 1000) (x : Ref1_end) : ref1_free_m l i x = some (freeF l.Links[i] ((l.Links.take i).filter (hasB x))) := by
  unfold ref1_free_m
  rw [idx_nat, List.getElem?_eq_getElem hi]
  simp only [Option.bind_some]
  have hlt : (l.Links.take i).length = i := by rw [List.length_take]; omega
  have := iter_list (B := ref1_free_b1 i l x l.Links[i]) (fun (s : (Int × Int × Int × Int × Int × Int × Int) × List Link) j => (s.1.1, s.1.2.1, s.1.2.2.1, s.1.2.2.2.1, s.1.2.2.2.2.1, s.1.2.2.2.2.2.1, s.1.2.2.2.2.2.2, j)) (l.Links.take i)
    (fun s j => s.1.1 = s.2.length ∧ s.2.length ≤ j ∧ ∀ y, s.2 = [y] → s.1.2.2.2.2.2.1 = y.Point ∧ s.1.2.2.2.2.2.2 = y.Pos) (fun s r => some (freeF l.Links[i] (s.2 ++ r.filter (hasB x)))) ?_ ?_ FUEL ((0, 0, 0, 0, 0, 0, 0), []) 0 ⟨rfl, by simp, fun y h => by simp at h⟩ (by omega) (fuel_of (by omega))
  · simpa using this
  · rintro c ⟨⟨m, o0, o1, o2, o3, o4, o5⟩, ys⟩ j q r ⟨hm, hy, ho⟩ hdr hj hq hk
    simp only at hm hy ho
    simp only [ref1_free_b1]
    rw [hlt] at hj
    rw [if_pos (by simp; omega)]
    have hqj : idx l.Links (j : Int) = some q := by
      rw [idx_nat] at hq ⊢
      rw [List.getElem?_take, if_pos hj] at hq
      exact hq
    rw [hqj, Option.bind_some, has_r, Option.bind_some]
    by_cases hb : hasB x q = true
    · rw [if_pos hb, Option.bind_some, chk_true (i64b_of (by omega) (by omega))]
      simp only [ref1_free_k2]
      rw [chk_true (i64b_of (by omega) (by omega))]
      have h := hk ((m + 1, q.A, q.AEnd, q.B, q.BEnd, q.Point, q.Pos), ys ++ [q]) ⟨by simp [hm], by simp; omega, fun y h => by
        have : ys = [] := by
          cases ys with
          | nil => rfl
          | cons a t => simp at h
        subst this
        simp at h
        subst h
        exact ⟨rfl, rfl⟩⟩
      simp only at h
      rw [h, List.filter_cons_of_pos hb]
      simp
    · rw [if_neg hb]
      simp only [ref1_free_k2]
      rw [chk_true (i64b_of (by omega) (by omega))]
      have h := hk ((m, o0, o1, o2, o3, o4, o5), ys) ⟨hm, by simp only; omega, ho⟩
      simp only at h
      rw [h, List.filter_cons_of_neg (by simpa using hb)]
  · rintro c ⟨⟨m, o0, o1, o2, o3, o4, o5⟩, ys⟩ ⟨hm, hy, ho⟩
    simp only at hm hy ho
    simp only [ref1_free_b1]
    rw [if_neg (by simp; omega)]
    simp only [ref1_free_k1, List.filter_nil, List.append_nil]
    cases ys with
    | nil => simp [hm, freeF]
    | cons y t =>
      cases t with
      | nil =>
        have := ho y rfl
        simp [hm, freeF, this.1, this.2]
      | cons z t =>
        have h1 : ¬ m = 0 := by rw [hm]; simp; omega
        have h2 : ¬ m = 1 := by rw [hm]; simp; omega
        simp [h1, h2, freeF]

def linkE (l : Layout) (done : List Link) (k : Link) : Int :=
  if linkB (layOf l) (lnkOf k) = false then 4 else if k.A = k.B ∧ k.AEnd = k.BEnd then 1 else
  if done.any (fun q => hasB ⟨k.A, k.AEnd⟩ q && hasB ⟨k.B, k.BEnd⟩ q) = true then 5 else
  if (!freeF k (done.filter (hasB ⟨k.A, k.AEnd⟩)) || !freeF k (done.filter (hasB ⟨k.B, k.BEnd⟩))) = true then 11 else 0

theorem inchain : ∀ y6 y9 y11 y13 y16 y18 z : Bool,
    (((((((!y6) || (!(bif (!(!y6)) then y9 else default))) || (!(bif (!((!y6) || (!(bif (!(!y6)) then y9 else default)))) then y11 else default))) || (!(bif (!(((!y6) || (!(bif (!(!y6)) then y9 else default))) || (!(bif (!((!y6) || (!(bif (!(!y6)) then y9 else default)))) then y11 else default)))) then y13 else default))) || (!(bif (!((((!y6) || (!(bif (!(!y6)) then y9 else default))) || (!(bif (!((!y6) || (!(bif (!(!y6)) then y9 else default)))) then y11 else default))) || (!(bif (!(((!y6) || (!(bif (!(!y6)) then y9 else default))) || (!(bif (!((!y6) || (!(bif (!(!y6)) then y9 else default)))) then y11 else default)))) then y13 else default)))) then y16 else default))) || (!(bif (!(((((!y6) || (!(bif (!(!y6)) then y9 else default))) || (!(bif (!((!y6) || (!(bif (!(!y6)) then y9 else default)))) then y11 else default))) || (!(bif (!(((!y6) || (!(bif (!(!y6)) then y9 else default))) || (!(bif (!((!y6) || (!(bif (!(!y6)) then y9 else default)))) then y11 else default)))) then y13 else default))) || (!(bif (!((((!y6) || (!(bif (!(!y6)) then y9 else default))) || (!(bif (!((!y6) || (!(bif (!(!y6)) then y9 else default)))) then y11 else default))) || (!(bif (!(((!y6) || (!(bif (!(!y6)) then y9 else default))) || (!(bif (!((!y6) || (!(bif (!(!y6)) then y9 else default)))) then y11 else default)))) then y13 else default)))) then y16 else default)))) then y18 else default))) || z) = !(y6 && y9 && y11 && y13 && y16 && y18 && !z) := by decide

theorem linkError_r (l : Layout) (i : Nat) (hi : i < l.Links.length) (hl : l.Links.length ≤ 1000) (hs : l.Sections.length ≤ 1000) (hp : l.Points.length ≤ 1000) : ref1_linkError_m l i = some (linkE l (l.Links.take i) l.Links[i]) := by
  have hlt : (l.Links.take i).length = i := by rw [List.length_take]; omega
  unfold ref1_linkError_m
  rw [idx_nat, List.getElem?_eq_getElem hi]
  generalize hK : l.Links[i] = k
  simp only [Option.bind_some]
  have hi1 : i64b ((l.Sections.length : Int) - 1) = true := i64b_of (by omega) (by omega)
  have hi2 : i64b ((l.Points.length : Int) - 1) = true := i64b_of (by omega) (by omega)
  simp only [hi1, hi2, Bool.or_true, chk_true rfl, ref1_in_m, Option.bind_some, whn_v]
  rw [inchain]
  have hB : ((decide (0 ≤ k.A) && decide (k.A ≤ (l.Sections.length : Int) - 1)) && (decide (0 ≤ k.B) && decide (k.B ≤ (l.Sections.length : Int) - 1)) && (decide (0 ≤ k.AEnd) && decide (k.AEnd ≤ 1)) && (decide (0 ≤ k.BEnd) && decide (k.BEnd ≤ 1)) && (decide (-1 ≤ k.Point) && decide (k.Point ≤ (l.Points.length : Int) - 1)) && (decide (0 ≤ k.Pos) && decide (k.Pos ≤ 1)) && !(decide (k.Point < 0) && decide (k.Pos ≠ 0))) = linkB (layOf l) (lnkOf k) := by
    rw [Bool.eq_iff_iff]
    unfold linkB lnkOf layOf
    simp only [List.length_map, Bool.and_eq_true, Bool.or_eq_true, Bool.not_eq_true', decide_eq_true_eq, Bool.and_eq_false_iff, decide_eq_false_iff_not]
    omega
  rw [hB]
  unfold linkE
  by_cases h4 : linkB (layOf l) (lnkOf k) = false
  · rw [if_pos (by simp [h4]), if_pos h4]
  · have h4' : linkB (layOf l) (lnkOf k) = true := by simpa using h4
    rw [if_neg (by simp [h4']), if_neg h4]
    unfold ref1_linkError_k1
    by_cases h1 : k.A = k.B ∧ k.AEnd = k.BEnd
    · rw [if_pos (by simp [h1.1, h1.2]), if_pos h1]
    · rw [if_neg (by simpa using h1), if_neg h1]
      have := iter_list (B := ref1_linkError_b1 i l k) (fun (_ : Unit) j => j) (l.Links.take i) (fun _ _ => True)
        (fun _ r => some (if r.any (fun q => hasB ⟨k.A, k.AEnd⟩ q && hasB ⟨k.B, k.BEnd⟩ q) = true then (5 : Int) else if (!freeF k ((l.Links.take i).filter (hasB ⟨k.A, k.AEnd⟩)) || !freeF k ((l.Links.take i).filter (hasB ⟨k.B, k.BEnd⟩))) = true then 11 else 0)) ?_ ?_ FUEL () 0 trivial (by omega) (fuel_of (by omega))
      · simp only [List.drop_zero] at this
        exact this
      · intro c _ j q r _ hdr hj hq hk
        simp only [ref1_linkError_b1]
        rw [hlt] at hj
        rw [if_pos (by simp; omega)]
        have hqj : idx l.Links (j : Int) = some q := by
          rw [idx_nat] at hq ⊢
          rw [List.getElem?_take, if_pos hj] at hq
          exact hq
        rw [hqj]
        simp only [Option.bind_some, has_r, whn_v]
        by_cases h5 : (hasB ⟨k.A, k.AEnd⟩ q && hasB ⟨k.B, k.BEnd⟩ q) = true
        · simp only [Bool.and_eq_true] at h5
          rw [if_pos (by simp [h5.1, h5.2]), if_pos (by simp [h5.1, h5.2])]
        · have h5' : (hasB ⟨k.A, k.AEnd⟩ q && hasB ⟨k.B, k.BEnd⟩ q) = false := by simpa using h5
          rw [if_neg (by
            cases e : hasB ⟨k.A, k.AEnd⟩ q with
            | false => simp
            | true => rw [e] at h5'; simp at h5' ⊢; exact h5'), chk_true (i64b_of (by omega) (by omega)), hk () trivial]
          simp only [List.any_cons, h5', Bool.false_or]
      · intro c _ _
        simp only [ref1_linkError_b1]
        rw [if_neg (by simp; omega)]
        simp only [ref1_linkError_k2]
        have f1 := free_r l i hi hl ⟨k.A, k.AEnd⟩
        have f2 := free_r l i hi hl ⟨k.B, k.BEnd⟩
        rw [hK] at f1 f2
        rw [f1]
        simp only [Option.bind_some]
        rw [f2, whn_v]
        simp only [Option.bind_some, List.any_nil, Bool.false_eq_true, if_false]
        generalize freeF k ((l.Links.take i).filter (hasB ⟨k.A, k.AEnd⟩)) = p
        generalize freeF k ((l.Links.take i).filter (hasB ⟨k.B, k.BEnd⟩)) = q
        cases p <;> cases q <;> rfl

/-- The program's error of a link is the reference's. -/
theorem linkE_eq (l : Layout) (done : List Link) (k : Link) (r : List Lnk) (hd : ∀ q ∈ done, linkB (layOf l) (lnkOf q) = true) :
    linksErr (layOf l) (done.map lnkOf) (lnkOf k :: r) = if linkE l done k ≠ 0 then linkE l done k else linksErr (layOf l) ((done ++ [k]).map lnkOf) r := by
  have L : linksErr (layOf l) (done.map lnkOf) (lnkOf k :: r) = (if linkB (layOf l) (lnkOf k) = false then 4 else if k.A = k.B ∧ k.AEnd = k.BEnd then 1 else
      if (atEnd (done.map lnkOf) (2 * k.A + k.AEnd)).any (joinB k.A k.AEnd k.B k.BEnd) = true then 5 else
      if fitsB (lnkOf k) (atEnd (done.map lnkOf) (2 * k.A + k.AEnd)) = false ∨ fitsB (lnkOf k) (atEnd (done.map lnkOf) (2 * k.B + k.BEnd)) = false then 11 else linksErr (layOf l) (done.map lnkOf ++ [lnkOf k]) r) := rfl
  rw [L]
  by_cases h4 : linkB (layOf l) (lnkOf k) = false
  · have e : linkE l done k = 4 := by unfold linkE; rw [if_pos h4]
    rw [if_pos h4, e]; rfl
  · have h4' : linkB (layOf l) (lnkOf k) = true := by simpa using h4
    rw [if_neg h4]
    have hkk : 0 ≤ k.A ∧ 0 ≤ k.B ∧ (k.AEnd = 0 ∨ k.AEnd = 1) ∧ (k.BEnd = 0 ∨ k.BEnd = 1) ∧ -1 ≤ k.Point := by
      unfold linkB lnkOf at h4'
      simp only [Bool.and_eq_true, Bool.or_eq_true, decide_eq_true_eq] at h4'
      omega
    by_cases h1 : k.A = k.B ∧ k.AEnd = k.BEnd
    · have e : linkE l done k = 1 := by unfold linkE; rw [if_neg h4, if_pos h1]
      rw [if_pos h1, e]; rfl
    · rw [if_neg h1]
      have hq : ∀ q ∈ done, 0 ≤ q.A ∧ 0 ≤ q.B ∧ (q.AEnd = 0 ∨ q.AEnd = 1) ∧ (q.BEnd = 0 ∨ q.BEnd = 1) := by
        intro q hm
        have := hd q hm
        unfold linkB lnkOf at this
        simp only [Bool.and_eq_true, Bool.or_eq_true, decide_eq_true_eq] at this
        omega
      have filt : ∀ (a e : Int), 0 ≤ a → (e = 0 ∨ e = 1) → atEnd (done.map lnkOf) (2 * a + e) = (done.filter (hasB ⟨a, e⟩)).map lnkOf := by
        intro a e ha he
        unfold atEnd
        rw [List.filter_map]
        congr 1
        refine List.filter_congr fun q hm => ?_
        have := hq q hm
        rw [Bool.eq_iff_iff]
        show (decide (2 * q.A + q.AEnd = 2 * a + e) || decide (2 * q.B + q.BEnd = 2 * a + e)) = true ↔ ((decide (q.A = a) && decide (q.AEnd = e)) || (decide (q.B = a) && decide (q.BEnd = e))) = true
        simp only [Bool.or_eq_true, Bool.and_eq_true, decide_eq_true_eq]
        omega
      have fit : ∀ ys : List Link, fitsB (lnkOf k) (ys.map lnkOf) = freeF k ys := by
        intro ys
        cases ys with
        | nil => rfl
        | cons y t =>
          cases t with
          | nil =>
            rw [Bool.eq_iff_iff]
            show ((decide (k.Point ≠ -1) && decide (k.Point = y.Point)) && decide (k.Pos ≠ y.Pos)) = true ↔ ((decide (0 ≤ k.Point) && decide (y.Point = k.Point)) && decide (y.Pos ≠ k.Pos)) = true
            simp only [Bool.and_eq_true, decide_eq_true_eq]
            omega
          | cons z t => rfl
      have e5 : ((atEnd (done.map lnkOf) (2 * k.A + k.AEnd)).any (joinB k.A k.AEnd k.B k.BEnd) = true) ↔ (done.any (fun q => hasB ⟨k.A, k.AEnd⟩ q && hasB ⟨k.B, k.BEnd⟩ q) = true) := by
        rw [filt k.A k.AEnd hkk.1 hkk.2.2.1, List.any_map, List.any_filter]
        simp only [List.any_eq_true]
        constructor
        · rintro ⟨q, hm, hj⟩
          refine ⟨q, hm, ?_⟩
          have hj' : (((decide (q.A = k.A) && decide (q.AEnd = k.AEnd)) || (decide (q.B = k.A) && decide (q.BEnd = k.AEnd))) && ((decide (k.A = q.A ∧ k.AEnd = q.AEnd) && decide (k.B = q.B ∧ k.BEnd = q.BEnd)) || (decide (k.A = q.B ∧ k.AEnd = q.BEnd) && decide (k.B = q.A ∧ k.BEnd = q.AEnd)))) = true := hj
          show (((decide (q.A = k.A) && decide (q.AEnd = k.AEnd)) || (decide (q.B = k.A) && decide (q.BEnd = k.AEnd))) && ((decide (q.A = k.B) && decide (q.AEnd = k.BEnd)) || (decide (q.B = k.B) && decide (q.BEnd = k.BEnd)))) = true
          simp only [Bool.or_eq_true, Bool.and_eq_true, decide_eq_true_eq] at hj' ⊢
          omega
        · rintro ⟨q, hm, hj⟩
          refine ⟨q, hm, ?_⟩
          have hj' : (((decide (q.A = k.A) && decide (q.AEnd = k.AEnd)) || (decide (q.B = k.A) && decide (q.BEnd = k.AEnd))) && ((decide (q.A = k.B) && decide (q.AEnd = k.BEnd)) || (decide (q.B = k.B) && decide (q.BEnd = k.BEnd)))) = true := hj
          show (((decide (q.A = k.A) && decide (q.AEnd = k.AEnd)) || (decide (q.B = k.A) && decide (q.BEnd = k.AEnd))) && ((decide (k.A = q.A ∧ k.AEnd = q.AEnd) && decide (k.B = q.B ∧ k.BEnd = q.BEnd)) || (decide (k.A = q.B ∧ k.AEnd = q.BEnd) && decide (k.B = q.A ∧ k.BEnd = q.AEnd)))) = true
          simp only [Bool.or_eq_true, Bool.and_eq_true, decide_eq_true_eq] at hj' ⊢
          omega
      by_cases h5 : done.any (fun q => hasB ⟨k.A, k.AEnd⟩ q && hasB ⟨k.B, k.BEnd⟩ q) = true
      · have e : linkE l done k = 5 := by unfold linkE; rw [if_neg h4, if_neg h1, if_pos h5]
        rw [if_pos (e5.2 h5), e]; rfl
      · have e : linkE l done k = if (!freeF k (done.filter (hasB ⟨k.A, k.AEnd⟩)) || !freeF k (done.filter (hasB ⟨k.B, k.BEnd⟩))) = true then 11 else 0 := by unfold linkE; rw [if_neg h4, if_neg h1, if_neg h5]
        rw [if_neg (fun h => h5 (e5.1 h)), e]
        rw [filt _ _ hkk.1 hkk.2.2.1, filt _ _ hkk.2.1 hkk.2.2.2.1, fit, fit]
        generalize freeF k (done.filter (hasB ⟨k.A, k.AEnd⟩)) = p
        generalize freeF k (done.filter (hasB ⟨k.B, k.BEnd⟩)) = q
        rw [List.map_append]
        cases p <;> cases q <;> rfl

theorem links_r (l : Layout) (hl : l.Links.length ≤ 1000) (hs : l.Sections.length ≤ 1000) (hp : l.Points.length ≤ 1000) : ref1_Check_k3 l () = some (linksErr (layOf l) [] (l.Links.map lnkOf)) := by
  unfold ref1_Check_k3
  have := iter_list (B := ref1_Check_b4 l) (fun (_ : List Link) j => j) l.Links (fun s i => s = l.Links.take i ∧ ∀ q ∈ s, linkB (layOf l) (lnkOf q) = true) (fun s r => some (linksErr (layOf l) (s.map lnkOf) (r.map lnkOf))) ?_ ?_ FUEL [] 0 ⟨rfl, fun q h => by simp at h⟩ (by omega) (fuel_of (by omega))
  · simpa using this
  · rintro c s i k r ⟨hs', hq⟩ hdr hi hx hk
    simp only [ref1_Check_b4]
    have hki : l.Links[i] = k := by
      rw [idx_nat, List.getElem?_eq_getElem hi] at hx
      exact Option.some.inj hx
    rw [if_pos (by simp; omega), linkError_r l i hi hl hs hp, hki, ← hs']
    simp only [Option.bind_some, List.map_cons]
    rw [linkE_eq l s k _ hq]
    by_cases h0 : linkE l s k = 0
    · rw [if_neg (by simp [h0]), if_neg (by simp [h0]), chk_true (i64b_of (by omega) (by omega))]
      have hb : linkB (layOf l) (lnkOf k) = true := by
        unfold linkE at h0
        by_cases h4 : linkB (layOf l) (lnkOf k) = false
        · rw [if_pos h4] at h0; cases h0
        · simpa using h4
      exact hk (s ++ [k]) ⟨by rw [hs', List.take_succ_eq_append_getElem hi, hki], fun q hm => by
        rcases List.mem_append.1 hm with h | h
        · exact hq q h
        · simp at h; rw [h]; exact hb⟩
    · rw [if_pos (by simp [h0]), if_pos h0]
  · rintro c s ⟨hs', _⟩
    simp only [ref1_Check_b4]
    rw [if_neg (by simp)]
    rfl

/-- A list of names in a loop that goes on with K. -/
theorem nameLoop {B : (Nat → Option Int) → Nat → Option Int} (l : List Str) (K : Option Int) (hl : l.length ≤ 1000)
    (hB : ∀ c i, B c i = if decide ((i : Int) < (l.length : Int)) then ((ref1_names_m l (i : Int)).bind fun y => if decide (y ≠ 0) then (some y) else (chk (i64b ((i : Int) + 1)) <| c (i + 1))) else K) :
    iter B FUEL 0 = if namesErr [] (l.map Str.ba) ≠ 0 then some (namesErr [] (l.map Str.ba)) else K := by
  have := iter_list (B := B) (fun (_ : List Str) j => j) l (fun s i => s = l.take i) (fun s r => if namesErr (s.map Str.ba) (r.map Str.ba) ≠ 0 then some (namesErr (s.map Str.ba) (r.map Str.ba)) else K) ?_ ?_ FUEL [] 0 rfl (by omega) (fuel_of (by omega))
  · simpa using this
  · intro c s i x r hs hdr hi hx hk
    have hxi : l[i] = x := by
      rw [idx_nat, List.getElem?_eq_getElem hi] at hx
      exact Option.some.inj hx
    rw [hB, if_pos (by simp; omega), names_r l i hi hl, hxi, ← hs]
    simp only [Option.bind_some, List.map_cons, namesErr]
    by_cases h0 : nameErr x.ba (s.map Str.ba) = 0
    · rw [if_neg (by simp [h0]), chk_true (i64b_of (by omega) (by omega)), hk (s ++ [x]) (by rw [hs, List.take_succ_eq_append_getElem hi, hxi])]
      simp [h0]
    · rw [if_pos (by simp [h0])]
      simp [h0]
  · intro c s _
    rw [hB, if_neg (by simp)]
    simp [namesErr]

theorem secs_r (l : Layout) (hl : l.Links.length ≤ 1000) (hs : l.Sections.length ≤ 1000) (hp : l.Points.length ≤ 1000) (ht : l.Stations.length ≤ 1000) :
    ref1_Check_k2 l () = if secsErr l.Stations.length [] (l.Sections.map secOf) ≠ 0 then some (secsErr l.Stations.length [] (l.Sections.map secOf)) else some (linksErr (layOf l) [] (l.Links.map lnkOf)) := by
  unfold ref1_Check_k2
  rw [secNames_r l hs]
  simp only [Option.bind_some]
  have := iter_list (B := ref1_Check_b3 l (l.Sections.map (·.Name))) (fun (_ : List Section) j => j) l.Sections (fun s i => s = l.Sections.take i)
    (fun s r => if secsErr l.Stations.length (s.map (·.Name.ba)) (r.map secOf) ≠ 0 then some (secsErr l.Stations.length (s.map (·.Name.ba)) (r.map secOf)) else some (linksErr (layOf l) [] (l.Links.map lnkOf))) ?_ ?_ FUEL [] 0 rfl (by omega) (fuel_of (by omega))
  · simpa using this
  · intro c s i x r hs' hdr hi hx hk
    have hxi : l.Sections[i] = x := by
      rw [idx_nat, List.getElem?_eq_getElem hi] at hx
      exact Option.some.inj hx
    simp only [ref1_Check_b3]
    have hn := names_r (l.Sections.map (·.Name)) i (by simpa using hi) (by simpa using hs)
    have hnm : ((l.Sections.map (·.Name)).take i).map Str.ba = s.map (·.Name.ba) := by rw [← List.map_take, ← hs', List.map_map]; rfl
    rw [hnm] at hn
    simp only [List.getElem_map, hxi] at hn
    rw [if_pos (by simp; omega), hn]
    simp only [Option.bind_some, List.map_cons, secsErr]
    have hsn : (secOf x).name = x.Name.ba := rfl
    rw [hsn]
    by_cases h0 : nameErr x.Name.ba (s.map (·.Name.ba)) = 0
    · rw [if_neg (by simp [h0]), hx]
      have hi2 : i64b ((l.Stations.length : Int) - 1) = true := i64b_of (by omega) (by omega)
      simp only [hi2, Bool.or_true, chk_true rfl, ref1_in_m, Option.bind_some, whn_v]
      have hB : ((((!(decide (1 ≤ x.Length) && decide (x.Length ≤ 400))) || (!(bif (!(!(decide (1 ≤ x.Length) && decide (x.Length ≤ 400)))) then (decide (1000 ≤ x.Limit) && decide (x.Limit ≤ 100000)) else default))) || (!(bif (!((!(decide (1 ≤ x.Length) && decide (x.Length ≤ 400))) || (!(bif (!(!(decide (1 ≤ x.Length) && decide (x.Length ≤ 400)))) then (decide (1000 ≤ x.Limit) && decide (x.Limit ≤ 100000)) else default)))) then (decide ((-40) ≤ x.Grade) && decide (x.Grade ≤ 40)) else default))) || (!(bif (!(((!(decide (1 ≤ x.Length) && decide (x.Length ≤ 400))) || (!(bif (!(!(decide (1 ≤ x.Length) && decide (x.Length ≤ 400)))) then (decide (1000 ≤ x.Limit) && decide (x.Limit ≤ 100000)) else default))) || (!(bif (!((!(decide (1 ≤ x.Length) && decide (x.Length ≤ 400))) || (!(bif (!(!(decide (1 ≤ x.Length) && decide (x.Length ≤ 400)))) then (decide (1000 ≤ x.Limit) && decide (x.Limit ≤ 100000)) else default)))) then (decide ((-40) ≤ x.Grade) && decide (x.Grade ≤ 40)) else default)))) then (decide ((-1) ≤ x.Station) && decide (x.Station ≤ (l.Stations.length : Int) - 1)) else default))) = !secB l.Stations.length (secOf x) := by
        have ch : ∀ a b d e : Bool, ((((!a) || (!(bif (!(!a)) then b else default))) || (!(bif (!((!a) || (!(bif (!(!a)) then b else default)))) then d else default))) || (!(bif (!(((!a) || (!(bif (!(!a)) then b else default))) || (!(bif (!((!a) || (!(bif (!(!a)) then b else default)))) then d else default)))) then e else default))) = !(a && b && d && e) := by decide
        rw [ch]
        congr 1
        rw [Bool.eq_iff_iff]
        unfold secB secOf
        simp only [Bool.and_eq_true, decide_eq_true_eq]
        omega
      rw [hB]
      by_cases h4 : secB l.Stations.length (secOf x) = false
      · rw [if_pos (by simp [h4])]
        simp [h0, h4]
      · have h4' : secB l.Stations.length (secOf x) = true := by simpa using h4
        rw [if_neg (by simp [h4']), chk_true (i64b_of (by omega) (by omega)), hk (s ++ [x]) (by rw [hs', List.take_succ_eq_append_getElem hi, hxi])]
        simp [h0, h4']
    · rw [if_pos (by simp [h0])]
      simp [h0]
  · intro c s _
    simp only [ref1_Check_b3]
    rw [if_neg (by simp), links_r l hl hs hp]
    simp [secsErr]

theorem check_r (l : Layout) : ref1_Check_m l = some (checkL (layOf l)) := by
  unfold ref1_Check_m checkL
  by_cases hf : fullB (layOf l) = true
  · rw [if_pos hf]
    unfold fullB layOf at hf
    simp only [List.length_map, decide_eq_true_eq] at hf
    rw [if_pos (by simp; omega)]
  · rw [if_neg hf]
    unfold fullB layOf at hf
    simp only [List.length_map, decide_eq_true_eq] at hf
    rw [if_neg (by simp; omega)]
    have h0' : (layOf l).sections.length = l.Sections.length := by simp [layOf]
    by_cases h0 : l.Sections.length = 0
    · rw [if_pos (by simp [h0]), if_pos (by rw [h0']; exact h0)]
    · have h0i : ¬ ((l.Sections.length : Int) = 0) := by omega
      rw [if_neg (by rw [decide_eq_true_eq]; exact h0i), if_neg (by rw [h0']; exact h0)]
      rw [nameLoop (B := ref1_Check_b1 l) l.Stations (ref1_Check_k1 l ()) (by omega) (fun c i => rfl)]
      have e1 : (layOf l).stations = l.Stations.map Str.ba := rfl
      have e2 : (layOf l).points = l.Points.map Str.ba := rfl
      have e3 : (layOf l).sections = l.Sections.map secOf := rfl
      have e4 : (layOf l).links = l.Links.map lnkOf := rfl
      rw [e1, e2, e3, e4, List.length_map]
      by_cases hn : namesErr [] (l.Stations.map Str.ba) = 0
      · rw [if_neg (by simp [hn]), if_neg (by simp [hn])]
        unfold ref1_Check_k1
        rw [nameLoop (B := ref1_Check_b2 l) l.Points (ref1_Check_k2 l ()) (by omega) (fun c i => rfl)]
        by_cases hn2 : namesErr [] (l.Points.map Str.ba) = 0
        · rw [if_neg (by simp [hn2]), if_neg (by simp [hn2]), secs_r l (by omega) (by omega) (by omega) (by omega)]
          by_cases hn3 : secsErr l.Stations.length [] (l.Sections.map secOf) = 0
          · rw [if_neg (by simp [hn3]), if_neg (by simp [hn3])]
          · rw [if_pos hn3, if_pos hn3]
        · rw [if_pos hn2, if_pos hn2]
      · rw [if_pos hn, if_pos hn]
end Go.Proofs.YtohhihdjdelckaaDoor

namespace Go.Proofs.YtohhihdjdelckaaDoor
open Go.Dc

theorem check_full {l : Layout} (h : checkL (layOf l) = 0) : l.Stations.length ≤ 24 ∧ l.Points.length ≤ 48 ∧ l.Sections.length ≤ 96 ∧ l.Links.length ≤ 192 ∧ 0 < l.Sections.length := by
  unfold checkL at h
  by_cases hf : fullB (layOf l) = true
  · rw [if_pos hf] at h; omega
  · rw [if_neg hf] at h
    unfold fullB at hf
    simp only [layOf, List.length_map, decide_eq_true_eq] at hf h
    by_cases h0 : l.Sections.length = 0
    · rw [if_pos h0] at h; omega
    · omega

theorem links_all (L : Lay) : ∀ (ks done : List Lnk), linksErr L done ks = 0 → ∀ k ∈ ks, linkB L k = true ∧ ¬ (k.a = k.b ∧ k.aEnd = k.bEnd)
  | [], _, _, k, hm => by simp at hm
  | q :: ks, done, h, k, hm => by
    unfold linksErr at h
    by_cases h4 : linkB L q = false
    · rw [if_pos h4] at h; cases h
    · rw [if_neg h4] at h
      by_cases h1 : q.a = q.b ∧ q.aEnd = q.bEnd
      · rw [if_pos h1] at h; cases h
      · rw [if_neg h1] at h
        split at h
        · cases h
        · split at h
          · cases h
          · rcases List.mem_cons.1 hm with e | e
            · subst e; exact ⟨by simpa using h4, h1⟩
            · exact links_all L ks _ h k e
theorem secs_all (n : Nat) : ∀ (ss : List Sec) (seen : List ByteArray), secsErr n seen ss = 0 → ∀ s ∈ ss, secB n s = true
  | [], _, _, s, hm => by simp at hm
  | q :: ss, seen, h, s, hm => by
    unfold secsErr at h
    by_cases h1 : nameErr q.name seen ≠ 0
    · rw [if_pos h1] at h; exact absurd h h1
    · rw [if_neg h1] at h
      by_cases h4 : secB n q = false
      · rw [if_pos h4] at h; cases h
      · rw [if_neg h4] at h
        rcases List.mem_cons.1 hm with e | e
        · subst e; simpa using h4
        · exact secs_all n ss _ h s e

structure Val (l : Layout) : Prop where
  full : l.Stations.length ≤ 24 ∧ l.Points.length ≤ 48 ∧ l.Sections.length ≤ 96 ∧ l.Links.length ≤ 192 ∧ 0 < l.Sections.length
  secs : ∀ s ∈ l.Sections, 1 ≤ s.Length ∧ s.Length ≤ 400 ∧ 1000 ≤ s.Limit ∧ s.Limit ≤ 100000 ∧ -40 ≤ s.Grade ∧ s.Grade ≤ 40
  links : ∀ k ∈ l.Links, (0 ≤ k.A ∧ k.A < l.Sections.length) ∧ (0 ≤ k.B ∧ k.B < l.Sections.length) ∧ (k.AEnd = 0 ∨ k.AEnd = 1) ∧ (k.BEnd = 0 ∨ k.BEnd = 1) ∧ (-1 ≤ k.Point ∧ k.Point < l.Points.length) ∧ ¬ (k.A = k.B ∧ k.AEnd = k.BEnd)

theorem val_of {l : Layout} (h : checkL (layOf l) = 0) : Val l := by
  have hf := check_full h
  unfold checkL at h
  split at h
  · cases h
  split at h
  · cases h
  split at h
  · rename_i h1; exact absurd h h1
  split at h
  · rename_i h1; exact absurd h h1
  split at h
  · rename_i h1; exact absurd h h1
  rename_i hs
  simp only [Decidable.not_not] at hs
  refine ⟨hf, fun s hm => ?_, fun k hm => ?_⟩
  · have := secs_all _ _ _ hs (secOf s) (List.mem_map.2 ⟨s, hm, rfl⟩)
    unfold secB secOf at this
    simp only [Bool.and_eq_true, decide_eq_true_eq] at this
    omega
  · have := links_all _ _ _ h (lnkOf k) (List.mem_map.2 ⟨k, hm, rfl⟩)
    have h1 := this.1
    have h2 : ¬ (k.A = k.B ∧ k.AEnd = k.BEnd) := this.2
    unfold linkB lnkOf layOf at h1
    simp only [List.length_map, Bool.and_eq_true, Bool.or_eq_true, decide_eq_true_eq] at h1
    exact ⟨by omega, by omega, by omega, by omega, by omega, h2⟩

end Go.Proofs.YtohhihdjdelckaaDoor
