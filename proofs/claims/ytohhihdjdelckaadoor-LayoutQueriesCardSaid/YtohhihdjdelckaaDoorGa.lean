/- Plain laws: the rows of stations that the generator makes, up to the numbers of their sections. -/
import Derived.Test.YtohhihdjdelckaaDoorTp
import Derived.Test.YtohhihdjdelckaaDoorRl
import Derived.Test.YtohhihdjdelckaaDoorQm
set_option linter.all false
namespace Go.Proofs.YtohhihdjdelckaaDoor
open Go.Dc

def nmd (s : Str) (k : Nat) : Str := ⟨s.l ++ [UInt8.ofNat (48 + k)]⟩
theorem digs : ∀ k : Fin 10, strSub (⟨[48, 49, 50, 51, 52, 53, 54, 55, 56, 57]⟩ : Str) ((k.val : Int).tmod 10) ((k.val : Int).tmod 10 + 1) = some ⟨[UInt8.ofNat (48 + k.val)]⟩ := by decide
theorem named_m (s : Str) (k : Nat) (h : k < 10) (hs : s.l.length ≤ 100) : keep_named_m s (k : Int) = some (nmd s k) := by
  unfold keep_named_m
  have e : (k : Int).tmod 10 = k := by rw [Int.tmod_eq_emod_of_nonneg (by omega)]; omega
  have := digs ⟨k, h⟩
  simp only at this
  rw [chk_true (i64b_of (by omega) (by omega)), this, Option.bind_some]
  unfold strCat
  rw [if_pos (by simp; omega)]
  rfl
theorem nmd_len (s : Str) (k : Nat) : (nmd s k).l.length = s.l.length + 1 := by simp [nmd]

/-- A section without its numbers. -/
def ers (s : Section) : Section := ⟨s.Name, 1, 1000, 0, s.Station⟩
def Rng (s : Section) : Prop := 2 ≤ s.Length ∧ s.Length ≤ 12 ∧ 5000 ≤ s.Limit ∧ s.Limit ≤ 35000 ∧ -10 ≤ s.Grade ∧ s.Grade ≤ 10
def RngA (l : List Section) : Prop := ∀ s ∈ l, Rng s

theorem section_m {l : List Int} {i : Int} (h : SrcOk l i) (nm : Str) (st : Int) :
    ∃ x j, keep_Source_section_m (Keep_Source.mk l i) nm st = some (x, j) ∧ SrcOk l j ∧ ers x = ⟨nm, 1, 1000, 0, st⟩ ∧ Rng x ∧ x.Length ≤ 10 ∧ x.Name = nm ∧ x.Station = st := by
  obtain ⟨v1, j1, e1, a1, b1, o1⟩ := next_m h 9 (by omega) (by omega)
  obtain ⟨v2, j2, e2, a2, b2, o2⟩ := next_m o1 7 (by omega) (by omega)
  obtain ⟨v3, j3, e3, a3, b3, o3⟩ := next_m o2 21 (by omega) (by omega)
  refine ⟨⟨nm, 2 + v1, 5000 + 5000 * v2, v3 - 10, st⟩, j3, ?_, o3, rfl, ?_, ?_, rfl, rfl⟩
  · unfold keep_Source_section_m
    rw [e1, Option.bind_some, chk_true (i64b_of (by simp; omega) (by simp; omega))]
    simp only
    rw [e2, Option.bind_some, chk_true (i64b_of (by simp; omega) (by simp; omega)), chk_true (i64b_of (by simp; omega) (by simp; omega))]
    simp only
    rw [e3, Option.bind_some, chk_true (i64b_of (by simp; omega) (by simp; omega))]
  · refine ⟨?_, ?_, ?_, ?_, ?_, ?_⟩ <;> simp only <;> omega
  · simp only; omega

theorem add_m (b : Keep_builder) (x : Section) (h : b.l.Sections.length ≤ 1000) : keep_builder_add_m b x = some ((b.l.Sections.length : Int), b.l.Sections ++ [x]) := by
  unfold keep_builder_add_m
  have e : ((b.l.Sections ++ [x]).length : Int) - 1 = b.l.Sections.length := by simp
  rw [chk_true (by simp; omega), e, chk_true (i64b_of (by omega) (by omega))]
theorem link_m (b : Keep_builder) (x y p q : Int) (h : b.l.Links.length ≤ 1000) : keep_builder_link_m b x y p q = some (b.l.Links ++ [⟨x, 1, y, 0, p, q⟩]) := by
  unfold keep_builder_link_m
  rw [chk_true (by simp; omega)]
theorem point_m (b : Keep_builder) (h : b.l.Points.length < 10) : keep_builder_point_m b = some ((b.l.Points.length : Int), b.l.Points ++ [nmd ⟨[80]⟩ b.l.Points.length]) := by
  unfold keep_builder_point_m
  have e : ((b.l.Points ++ [nmd ⟨[80]⟩ b.l.Points.length]).length : Int) - 1 = b.l.Points.length := by simp
  rw [named_m _ _ h (by decide), Option.bind_some, chk_true (by simp; omega), e, chk_true (i64b_of (by omega) (by omega))]

/-! ### Skeletons -/

def fanL (x p : Int) (east : Bool) : Nat → List Int → List Link
  | _, [] => []
  | i, t :: r => (if east then ⟨x, 1, t, 0, p, i⟩ else ⟨t, 1, x, 0, p, i⟩) :: fanL x p east (i + 1) r
def fanP (ps : List Str) (ts : List Int) : Int := if 1 < ts.length then ps.length else -1
def fanS (ps : List Str) (ks : List Link) (x : Int) (ts : List Int) (east : Bool) : List Str × List Link :=
  (if 1 < ts.length then ps ++ [nmd ⟨[80]⟩ ps.length] else ps, ks ++ fanL x (fanP ps ts) east 0 ts)

theorem fanL_len (x p : Int) (e : Bool) : ∀ (ts : List Int) (i : Nat), (fanL x p e i ts).length = ts.length
  | [], _ => rfl
  | t :: r, i => by simp [fanL, fanL_len x p e r (i + 1)]

theorem fan1 (b : Keep_builder) (x : Int) (ts : List Int) (east : Bool) (ps : List Str) (p : Int) (hk : b.l.Links.length ≤ 500) (ht : ts.length ≤ 100) :
    keep_builder_fan_k1 ts east b x (ps, p) = some (ps, b.l.Links ++ fanL x p east 0 ts) := by
  simp only [keep_builder_fan_k1]
  have := iter_list (B := keep_builder_fan_b1 ts east b ps x p) (fun (q : List Link × Nat) i => (q.1, i)) ts (fun q i => q.1.length ≤ 500 + i ∧ q.2 = i) (fun q r => some (ps, q.1 ++ fanL x p east q.2 r)) ?_ ?_ FUEL (b.l.Links, 0) 0 ⟨by simp; omega, rfl⟩ (by omega) (fuel_of (by omega))
  · simpa using this
  · rintro c ⟨q, qi⟩ i t r ⟨hq, rfl⟩ hdr hi hx hc
    simp only at hq hx hi ⊢
    simp only [keep_builder_fan_b1]
    rw [if_pos (by simpa using hi)]
    cases east with
    | true =>
      rw [if_pos rfl, hx, Option.bind_some, link_m _ _ _ _ _ (by simp only; omega), Option.bind_some]
      simp only [keep_builder_fan_k2]
      have := hc (q ++ [⟨x, 1, t, 0, p, qi⟩], qi + 1) ⟨by simp; omega, rfl⟩
      simp only at this
      rw [this]
      simp [fanL]
    | false =>
      rw [if_neg (by simp), hx, Option.bind_some, link_m _ _ _ _ _ (by simp only; omega), Option.bind_some]
      simp only [keep_builder_fan_k2]
      have := hc (q ++ [⟨t, 1, x, 0, p, qi⟩], qi + 1) ⟨by simp; omega, rfl⟩
      simp only at this
      rw [this]
      simp [fanL]
  · rintro c ⟨q, qi⟩ ⟨hq, h2⟩
    simp only [keep_builder_fan_b1]
    rw [if_neg (by simp)]
    simp [fanL]

theorem fan_m (b : Keep_builder) (x : Int) (ts : List Int) (east : Bool) (hk : b.l.Links.length ≤ 500) (ht : ts.length ≤ 100) (hp : b.l.Points.length < 10) :
    keep_builder_fan_m b x ts east = some (fanS b.l.Points b.l.Links x ts east) := by
  unfold keep_builder_fan_m fanS fanP
  by_cases h : 1 < ts.length
  · rw [if_pos (by simp; omega), point_m b hp, Option.bind_some, fan1 _ _ _ _ _ _ hk ht]
    simp [h]
  · rw [if_neg (by simp; omega), fan1 _ _ _ _ _ _ hk ht]
    simp [h]

def tsec (i : Nat) : Nat → List Section
  | 0 => []
  | k + 1 => ⟨nmd (nmd ⟨[84]⟩ i) (k + 1), 1, 1000, 0, i⟩ :: tsec i k
def lsec (i : Nat) : Nat → List Section
  | 0 => []
  | k + 1 => ⟨nmd (nmd ⟨[76]⟩ i) (k + 1), 1, 1000, 0, -1⟩ :: lsec i k
def trk (s : Nat) : Nat → List Int
  | 0 => []
  | k + 1 => (s : Int) :: trk (s + 1) k
theorem trk_len : ∀ (k s : Nat), (trk s k).length = k
  | 0, _ => rfl
  | k + 1, s => by simp [trk, trk_len k (s + 1)]

abbrev S1 := List Str × List Section × List (List Int)
abbrev S2 := List Str × List Section × List Link × List (List Int)
def step1 (s : S1) (k : Nat) : S1 := (s.1 ++ [nmd ⟨[83]⟩ s.1.length], s.2.1 ++ tsec s.1.length k, s.2.2 ++ [trk s.2.1.length k])
def inner (t : List Int) : Nat → List Int → List Link
  | _, [] => []
  | _, [_] => []
  | n, a :: b :: r => ⟨a, 1, b, 0, -1, 0⟩ :: inner t n (b :: r)
def step2 (tr : List (List Int)) (s : S2) (k : Nat) : S2 :=
  let i := s.2.2.2.length
  let t := trk s.2.1.length k
  let f := fanS s.1 (s.2.2.1 ++ inner t 0 t) (t.headD 0) (tr.getD i []) false
  let g := fanS f.1 f.2 (t.getLastD 0) (tr.getD (i + 1) []) true
  (g.1, s.2.1 ++ lsec i k, g.2, s.2.2.2 ++ [t])
def sk1 (ts : List Nat) : S1 := ts.foldl step1 ([], [], [])
def sk2 (ts bs : List Nat) : S2 := bs.foldl (step2 (sk1 ts).2.2) ([], (sk1 ts).2.1, [], [])
def shape (ts bs : List Nat) : Layout := ⟨(sk1 ts).1, (sk2 ts bs).1, (sk2 ts bs).2.1, (sk2 ts bs).2.2.1⟩
def erase (l : Layout) : Layout := ⟨l.Stations, l.Points, l.Sections.map ers, l.Links⟩

theorem tsec_len (i : Nat) : ∀ k, (tsec i k).length = k
  | 0 => rfl
  | k + 1 => by simp [tsec, tsec_len i k]
theorem lsec_len (i : Nat) : ∀ k, (lsec i k).length = k
  | 0 => rfl
  | k + 1 => by simp [lsec, lsec_len i k]
/-! ### The first loop: stations and their tracks -/

theorem tracks_wp {Q : Keep_builder × Int → Prop} {l : List Int} {i : Nat} {sts : List Str} {y : Str} {trks : List (List Int)} {cont : (Int × (List Str) × (List Section) × (List (List Int)) × Nat) → Option (Keep_builder × Int)} {s0 : Keep_Source} (hs0 : s0.l = l)
    (hi : i < 5) (ht : trks.length ≤ 100) : ∀ (k n : Nat) (pos : Int) (secs : List Section) (lt : List Int), k ≤ 2 → k < n → SrcOk l pos → secs.length + k ≤ 200 → lt.length + k ≤ 200 → RngA secs →
    (∀ pos' secs', SrcOk l pos' → secs'.map ers = secs.map ers ++ tsec i k → RngA secs' → WP (cont (pos', sts ++ [y], secs', trks ++ [lt ++ trk secs.length k], i + 1)) Q) →
    WP (iter (keep_row_b2 (i : Nat) s0 sts y trks cont) n (pos, secs, lt, (k : Int))) Q := by
  intro k
  induction k with
  | zero =>
    intro n pos secs lt _ hn hp hs hl hr hc
    obtain ⟨m, rfl⟩ : ∃ m, n = m + 1 := ⟨n - 1, by omega⟩
    show WP (keep_row_b2 _ _ _ _ _ _ _ _) Q
    simp only [keep_row_b2]
    rw [if_neg (by simp)]
    simp only [keep_row_k3, keep_row_k2]
    refine wp_chk (by simp; omega) (wp_i64 ⟨by omega, by omega⟩ ?_)
    have := hc pos secs hp (by simp [tsec]) hr
    simpa [trk] using this
  | succ k ih =>
    intro n pos secs lt hk hn hp hs hl hr hc
    obtain ⟨m, rfl⟩ : ∃ m, n = m + 1 := ⟨n - 1, by omega⟩
    show WP (keep_row_b2 _ _ _ _ _ _ _ _) Q
    simp only [keep_row_b2]
    rw [if_pos (by simp <;> omega), named_m _ _ (by omega) (by decide), Option.bind_some, named_m _ _ (by omega) (by rw [nmd_len]; decide), Option.bind_some]
    obtain ⟨x, j, e, hj, e1, e2, e3, e4, e5⟩ := section_m hp (nmd (nmd ⟨[84]⟩ i) (k + 1)) i
    rw [hs0, e, Option.bind_some]
    unfold Rng at e2
    refine wp_i64 ⟨by simp only; omega, by simp only; omega⟩ ?_
    rw [add_m _ _ (by simp only; omega), Option.bind_some]
    simp only
    refine wp_chk (by simp; omega) (wp_i64 ⟨by omega, by omega⟩ ?_)
    have ek : (((k + 1 : Nat) : Int) - 1) = (k : Int) := by omega
    rw [ek]
    refine ih m j _ _ (by omega) (by omega) hj (by simp; omega) (by simp; omega) ?_ ?_
    · intro s hm
      rcases List.mem_append.1 hm with h | h
      · exact hr s h
      · rw [List.mem_singleton] at h; subst h
        unfold Rng; simp only; omega
    · intro pos' secs' h1 h2 h3
      have hers : ers ⟨x.Name, x.Length + 2, x.Limit, x.Grade, x.Station⟩ = ⟨nmd (nmd ⟨[84]⟩ i) (k + 1), 1, 1000, 0, i⟩ := by rw [← e1]; rfl
      have := hc pos' secs' h1 (by rw [h2]; simp [tsec, hers]) h3
      have e6 : lt ++ [(secs.length : Int)] ++ trk (secs ++ [(⟨x.Name, x.Length + 2, x.Limit, x.Grade, x.Station⟩ : Section)]).length k = lt ++ trk secs.length (k + 1) := by simp [trk]
      rw [e6]
      exact this

theorem between_wp {Q : Keep_builder × Int → Prop} {l : List Int} {i : Nat} {sts ps : List Str} {ks : List Link} {trks btw : List (List Int)} {cont : (Int × (List Str) × (List Section) × (List Link) × (List (List Int)) × Nat) → Option (Keep_builder × Int)} {s0 : Keep_Source} (hs0 : s0.l = l)
    (hi : i < 5) : ∀ (k n : Nat) (pos : Int) (secs : List Section) (lt : List Int), k ≤ 2 → k < n → SrcOk l pos → secs.length + k ≤ 200 → lt.length + k ≤ 200 → RngA secs →
    (∀ pos' secs', SrcOk l pos' → secs'.map ers = secs.map ers ++ lsec i k → RngA secs' → WP (keep_row_k6 (lt ++ trk secs.length k) sts ps secs' trks btw i cont pos' ks ()) Q) →
    WP (iter (keep_row_b4 (i : Nat) s0 sts ps ks trks btw cont) n (pos, secs, lt, (k : Int))) Q := by
  intro k
  induction k with
  | zero =>
    intro n pos secs lt _ hn hp hs hl hr hc
    obtain ⟨m, rfl⟩ : ∃ m, n = m + 1 := ⟨n - 1, by omega⟩
    show WP (keep_row_b4 _ _ _ _ _ _ _ _ _ _) Q
    simp only [keep_row_b4]
    rw [if_neg (by simp)]
    have := hc pos secs hp (by simp [lsec]) hr
    simpa [trk] using this
  | succ k ih =>
    intro n pos secs lt hk hn hp hs hl hr hc
    obtain ⟨m, rfl⟩ : ∃ m, n = m + 1 := ⟨n - 1, by omega⟩
    show WP (keep_row_b4 _ _ _ _ _ _ _ _ _ _) Q
    simp only [keep_row_b4]
    rw [if_pos (by simp <;> omega), named_m _ _ (by omega) (by decide), Option.bind_some, named_m _ _ (by omega) (by rw [nmd_len]; decide), Option.bind_some]
    obtain ⟨x, j, e, hj, e1, e2, e3, e4, e5⟩ := section_m hp (nmd (nmd ⟨[76]⟩ i) (k + 1)) (-1)
    rw [hs0, e, Option.bind_some, add_m _ _ (by simp only; omega), Option.bind_some]
    simp only
    refine wp_chk (by simp; omega) (wp_i64 ⟨by omega, by omega⟩ ?_)
    have ek : (((k + 1 : Nat) : Int) - 1) = (k : Int) := by omega
    rw [ek]
    refine ih m j _ _ (by omega) (by omega) hj (by simp; omega) (by simp; omega) ?_ ?_
    · intro s hm
      rcases List.mem_append.1 hm with h | h
      · exact hr s h
      · rw [List.mem_singleton] at h; subst h; exact e2
    · intro pos' secs' h1 h2 h3
      have := hc pos' secs' h1 (by rw [h2]; simp [lsec, e1]) h3
      have e6 : lt ++ [(secs.length : Int)] ++ trk (secs ++ [x]).length k = lt ++ trk secs.length (k + 1) := by simp [trk]
      rw [e6]
      exact this

end Go.Proofs.YtohhihdjdelckaaDoor
