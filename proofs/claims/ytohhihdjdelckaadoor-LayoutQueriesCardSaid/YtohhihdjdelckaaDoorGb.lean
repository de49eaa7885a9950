/- Plain laws: a generated layout has one of forty shapes, and is valid. -/
import Derived.Test.YtohhihdjdelckaaDoorGa
import Derived.Test.YtohhihdjdelckaaDoorTk
set_option linter.all false
namespace Go.Proofs.YtohhihdjdelckaaDoor
open Go.Dc

theorem inner_m (lt : List Int) (sts ps : List Str) (secs : List Section) (trks btw : List (List Int)) (i : Nat) (cont : (Int × (List Str) × (List Section) × (List Link) × (List (List Int)) × Nat) → Option (Keep_builder × Int)) (pos : Int) (ks : List Link) (hl : lt.length ≤ 100) (hk : ks.length ≤ 200) (h0 : 0 < lt.length) :
    keep_row_k6 lt sts ps secs trks btw i cont pos ks () = keep_row_k7 lt trks i sts ps secs (ks ++ inner lt 0 lt) btw cont pos () := by
  unfold keep_row_k6
  have key : ∀ (r : List Int) (n j : Nat) (q : List Link), 0 < r.length → lt.drop j = r → q.length ≤ 200 + j → r.length < n →
      iter (keep_row_b5 lt sts ps secs trks btw i cont pos) n (q, j) = keep_row_k7 lt trks i sts ps secs (q ++ inner lt 0 r) btw cont pos () := by
    intro r
    induction r with
    | nil => intro n j q h _ _ _; simp at h
    | cons a r ih =>
      intro n j q _ hd hq hn
      obtain ⟨m, rfl⟩ : ∃ m, n = m + 1 := ⟨n - 1, by omega⟩
      have hj : j < lt.length := by
        apply Nat.lt_of_not_le; intro h
        rw [List.drop_eq_nil_of_le h] at hd; cases hd
      have hr : r.length + 1 + j = lt.length := by
        have := congrArg List.length hd
        rw [List.length_drop] at this; simp at this; omega
      show keep_row_b5 _ _ _ _ _ _ _ _ _ _ _ = _
      simp only [keep_row_b5]
      rw [chk_true (i64b_of (by omega) (by omega))]
      cases r with
      | nil =>
        simp at hr
        rw [if_neg (by simp; omega)]
        simp [inner]
      | cons b r =>
        simp at hr
        have ea : lt[j]? = some a := by have := congrArg List.head? hd; simpa [List.head?_drop] using this
        have hd2 : lt.drop (j + 1) = b :: r := by rw [← List.drop_drop, hd]; rfl
        have eb : lt[j + 1]? = some b := by have := congrArg List.head? hd2; simpa [List.head?_drop] using this
        rw [if_pos (by simp; omega), idx_nat, ea, Option.bind_some, chk_true (i64b_of (by omega) (by omega))]
        have e1 : ((j : Int) + 1) = ((j + 1 : Nat) : Int) := by omega
        rw [e1, idx_nat, eb, Option.bind_some, link_m _ _ _ _ _ (by simp only; omega), Option.bind_some, chk_true (i64b_of (by omega) (by omega))]
        rw [ih m (j + 1) _ (by simp) hd2 (by simp; omega) (by simp at hn ⊢; omega)]
        simp [inner]
  exact key lt FUEL 0 ks h0 rfl (by omega) (fuel_of (by omega))

theorem inner_len (t : List Int) (n : Nat) : ∀ r : List Int, (inner t n r).length ≤ r.length
  | [] => by simp [inner]
  | [_] => by simp [inner]
  | a :: b :: r => by have := inner_len t n (b :: r); simp [inner] at this ⊢; omega

theorem k7_wp {Q : Keep_builder × Int → Prop} (lt : List Int) (sts ps : List Str) (secs : List Section) (trks btw : List (List Int)) (i : Nat) (cont : (Int × (List Str) × (List Section) × (List Link) × (List (List Int)) × Nat) → Option (Keep_builder × Int)) (pos : Int) (ks : List Link) (hl : lt.length ≤ 100) (hk : ks.length ≤ 100) (h0 : 0 < lt.length)
    (hi : i < 5) (ht : i + 1 < trks.length) (htt : ∀ t ∈ trks, t.length ≤ 10) (hp : ps.length < 9) (hb : btw.length ≤ 100) (x y : List Int) (hx : trks[i]? = some x) (hy : trks[i + 1]? = some y)
    (hc : WP (cont (pos, (fanS (fanS ps ks (lt.headD 0) x false).1 (fanS ps ks (lt.headD 0) x false).2 (lt.getLastD 0) y true).1, secs, (fanS (fanS ps ks (lt.headD 0) x false).1 (fanS ps ks (lt.headD 0) x false).2 (lt.getLastD 0) y true).2, btw ++ [lt], i + 1)) Q) :
    WP (keep_row_k7 lt trks i sts ps secs ks btw cont pos ()) Q := by
  unfold keep_row_k7
  have hx2 : x.length ≤ 10 := htt x (List.mem_of_getElem? hx)
  have hy2 : y.length ≤ 10 := htt y (List.mem_of_getElem? hy)
  obtain ⟨a, r, rfl⟩ : ∃ a r, lt = a :: r := by cases lt with | nil => simp at h0 | cons a r => exact ⟨a, r, rfl⟩
  have e0 : idx (a :: r) 0 = some a := rfl
  rw [e0, Option.bind_some, idx_nat, hx, Option.bind_some, fan_m _ _ _ _ (by simp only; omega) (by omega) (by simp only; omega), Option.bind_some]
  refine wp_i64 ⟨by omega, by omega⟩ ?_
  have e1 : idx (a :: r) (((a :: r).length : Int) - 1) = some ((a :: r).getLastD 0) := by
    have : (((a :: r).length : Int) - 1) = ((r.length : Nat) : Int) := by simp
    rw [this, idx_nat, List.getLastD_eq_getLast?, List.getLast?_eq_getElem?]
    simp
  rw [e1, Option.bind_some]
  refine wp_i64 ⟨by omega, by omega⟩ ?_
  have e2 : ((i : Int) + 1) = ((i + 1 : Nat) : Int) := by omega
  rw [e2, idx_nat, hy, Option.bind_some]
  have l1 : (fanS ps ks a x false).2.length ≤ 200 := by simp [fanS, fanL_len]; omega
  have l2 : (fanS ps ks a x false).1.length < 10 := by unfold fanS; split <;> simp <;> omega
  rw [fan_m _ _ _ _ (by simp only; omega) (by omega) (by simpa using l2), Option.bind_some]
  refine wp_chk (by simp; omega) ?_
  simp only [keep_row_k5]
  refine wp_i64 ⟨by omega, by omega⟩ ?_
  exact hc

structure Inv1 (l : List Int) (n : Nat) (s : Int × (List Str) × (List Section) × (List (List Int)) × Nat) : Prop where
  src : SrcOk l s.1
  rng : RngA s.2.2.1
  ex : ∃ ts : List Nat, ts.length = s.2.2.2.2 ∧ ts.length ≤ n ∧ (∀ k ∈ ts, k = 1 ∨ k = 2) ∧ (s.2.1, s.2.2.1.map ers, s.2.2.2.1) = sk1 ts

theorem sk1_snoc (ts : List Nat) (k : Nat) : sk1 (ts ++ [k]) = step1 (sk1 ts) k := by simp [sk1, List.foldl_append]
theorem sk2_snoc (ts bs : List Nat) (k : Nat) : sk2 ts (bs ++ [k]) = step2 (sk1 ts).2.2 (sk2 ts bs) k := by simp [sk2, List.foldl_append]
theorem snoc_ind {P : List Nat → Prop} (h0 : P []) (h1 : ∀ l k, P l → P (l ++ [k])) (l : List Nat) : P l := by
  have : ∀ r : List Nat, P r.reverse := by
    intro r
    induction r with
    | nil => exact h0
    | cons a r ih => rw [List.reverse_cons]; exact h1 _ _ ih
  have := this l.reverse
  rwa [List.reverse_reverse] at this
theorem sk1_facts (ts : List Nat) : (∀ k ∈ ts, k = 1 ∨ k = 2) → (sk1 ts).1.length = ts.length ∧ (sk1 ts).2.1.length ≤ 2 * ts.length ∧ (sk1 ts).2.2.length = ts.length ∧ ∀ t ∈ (sk1 ts).2.2, t.length ≤ 10 := by
  induction ts using snoc_ind with
  | h0 => intro _; simp [sk1]
  | h1 l k ih =>
    intro hk
    obtain ⟨a, b, c, d⟩ := ih (fun x hx => hk x (by simp [hx]))
    have := hk k (by simp)
    rw [sk1_snoc]
    refine ⟨by simp [step1, a], by simp [step1, tsec_len]; omega, by simp [step1, c], ?_⟩
    intro t ht
    simp [step1] at ht
    rcases ht with h | rfl
    · exact d t h
    · rw [trk_len]; omega
theorem sk2_facts (ts bs : List Nat) : (∀ k ∈ ts, k = 1 ∨ k = 2) → (∀ k ∈ bs, k = 1 ∨ k = 2) → (sk2 ts bs).1.length ≤ 2 * bs.length ∧ (sk2 ts bs).2.1.length ≤ 2 * ts.length + 2 * bs.length ∧ (sk2 ts bs).2.2.1.length ≤ 30 * bs.length ∧ (sk2 ts bs).2.2.2.length = bs.length := by
  intro h1
  obtain ⟨a, b, c, d⟩ := sk1_facts ts h1
  have dd : ∀ i, ((sk1 ts).2.2.getD i []).length ≤ 10 := by
    intro i
    rw [List.getD_eq_getElem?_getD]
    cases h : (sk1 ts).2.2[i]? with
    | none => simp
    | some t => simpa using d t (List.mem_of_getElem? h)
  induction bs using snoc_ind with
  | h0 => intro _; simp [sk2]; omega
  | h1 l k ih =>
    intro hk
    obtain ⟨e, f, g, j⟩ := ih (fun x hx => hk x (by simp [hx]))
    have hk2 := hk k (by simp)
    rw [sk2_snoc]
    have d1 := dd (sk2 ts l).2.2.2.length
    have d2 := dd ((sk2 ts l).2.2.2.length + 1)
    have il := inner_len (trk (sk2 ts l).2.1.length k) 0 (trk (sk2 ts l).2.1.length k)
    rw [trk_len] at il
    refine ⟨?_, ?_, ?_, ?_⟩
    · simp only [step2, fanS]
      split <;> split <;> simp <;> omega
    · simp [step2, lsec_len]; omega
    · simp only [step2, fanS]
      simp only [List.length_append, fanL_len]
      simp only [List.length_singleton, List.length_nil]
      omega
    · simp [step2, j]

structure Inv2 (l : List Int) (n : Nat) (ts : List Nat) (s : Int × (List Str) × (List Section) × (List Link) × (List (List Int)) × Nat) : Prop where
  src : SrcOk l s.1
  rng : RngA s.2.2.1
  ex : ∃ bs : List Nat, bs.length = s.2.2.2.2.2 ∧ bs.length + 1 ≤ n ∧ (∀ k ∈ bs, k = 1 ∨ k = 2) ∧ (s.2.1, s.2.2.1.map ers, s.2.2.2.1, s.2.2.2.2.1) = sk2 ts bs

structure RowOk (l : List Int) (y : Keep_builder × Int) : Prop where
  src : SrcOk l y.2
  rng : RngA y.1.l.Sections
  ex : ∃ ts bs : List Nat, (ts.length = 2 ∨ ts.length = 3) ∧ bs.length + 1 = ts.length ∧ (∀ k ∈ ts, k = 1 ∨ k = 2) ∧ (∀ k ∈ bs, k = 1 ∨ k = 2) ∧ erase y.1.l = shape ts bs ∧ y.1.tracks = (sk1 ts).2.2 ∧ y.1.between = (sk2 ts bs).2.2.2 ∧ y.1.westward = []

theorem row2_wp {l : List Int} {s0 : Keep_Source} (hs0 : s0.l = l) (y2 : Int × Int) (n : Nat) (hn : n = 2 ∨ n = 3) (hy : 2 + y2.1 = n) (ts : List Nat) (ht : ts.length = n) (htk : ∀ k ∈ ts, k = 1 ∨ k = 2)
    (sts : List Str) (trks : List (List Int)) (secs : List Section) (pos : Int) (hsrc : SrcOk l pos) (hrng : RngA secs) (he : (sts, secs.map ers, trks) = sk1 ts) :
    WP (keep_row_k1 y2 s0 sts trks pos secs ()) (RowOk l) := by
  unfold keep_row_k1
  obtain ⟨f1, f2, f3, f4⟩ := sk1_facts ts htk
  have e1 : sts = (sk1 ts).1 := congrArg Prod.fst he
  have e2 : secs.map ers = (sk1 ts).2.1 := congrArg (fun p => p.2.1) he
  have e3 : trks = (sk1 ts).2.2 := congrArg (fun p => p.2.2) he
  refine wp_iter (Inv2 l n ts) (fun s => n - s.2.2.2.2.2) _ ?_ FUEL _ ⟨hsrc, hrng, [], rfl, by simp; omega, by simp, by rw [e2]; rfl⟩ (fuel_of (by omega))
  rintro c ⟨p, ps, ss, ks, btw, i⟩ ⟨h1, h2, bs, h3, h4, h5, h6⟩ hc
  simp only at h1 h2 h3 h6 hc
  obtain ⟨g1, g2, g3, g4⟩ := sk2_facts ts bs htk h5
  have a1 : ps = (sk2 ts bs).1 := congrArg Prod.fst h6
  have a2 : ss.map ers = (sk2 ts bs).2.1 := congrArg (fun p => p.2.1) h6
  have a3 : ks = (sk2 ts bs).2.2.1 := congrArg (fun p => p.2.2.1) h6
  have a4 : btw = (sk2 ts bs).2.2.2 := congrArg (fun p => p.2.2.2) h6
  have a2l : ss.length = (sk2 ts bs).2.1.length := by rw [← a2]; simp
  simp only [keep_row_b3]
  refine wp_i64 ⟨by omega, by omega⟩ ?_
  rw [hy]
  refine wp_ite ?_ ?_
  · intro hlt
    have hlt : i + 1 < n := by simp at hlt; omega
    obtain ⟨v, j, ev, v0, v1, hj⟩ := next_m h1 2 (by omega) (by omega)
    rw [hs0, ev, Option.bind_some]
    simp only
    refine wp_i64 ⟨by omega, by omega⟩ ?_
    obtain ⟨k, hk⟩ : ∃ k : Nat, (1 + v) = (k : Int) := ⟨(1 + v).toNat, by omega⟩
    have hk12 : k = 1 ∨ k = 2 := by omega
    rw [hk]
    refine between_wp hs0 (by omega) k FUEL j ss [] (by omega) (fuel_of (by omega)) hj (by omega) (by simp; omega) h2 ?_
    intro pos' secs' hp' hsec hr'
    rw [List.nil_append]
    have til := inner_len (trk ss.length k) 0 (trk ss.length k)
    rw [trk_len] at til
    rw [inner_m _ _ _ _ _ _ _ _ _ _ (by rw [trk_len]; omega) (by rw [a3]; omega) (by rw [trk_len]; omega)]
    obtain ⟨x, hx⟩ : ∃ x, trks[i]? = some x := ⟨_, List.getElem?_eq_getElem (by rw [e3]; omega)⟩
    obtain ⟨y, hy2⟩ : ∃ y, trks[i + 1]? = some y := ⟨_, List.getElem?_eq_getElem (by rw [e3]; omega)⟩
    refine k7_wp _ _ _ _ _ _ _ _ _ _ (by rw [trk_len]; omega) (by simp only [List.length_append]; rw [a3]; omega) (by rw [trk_len]; omega) (by omega) (by rw [e3]; omega) (by rw [e3]; exact f4) (by rw [a1]; omega) (by rw [a4]; omega) x y hx hy2 ?_
    refine hc _ ⟨hp', hr', bs ++ [k], by simp [h3], by simp; omega, ?_, ?_⟩ (by simp only; omega)
    · intro q hq
      rcases List.mem_append.1 hq with h | h
      · exact h5 q h
      · rw [List.mem_singleton] at h; subst h; exact hk12
    · have b4 : btw.length = i := by rw [a4, g4, h3]
      have ex : (sk1 ts).2.2.getD i [] = x := by rw [← e3, List.getD_eq_getElem?_getD, hx]; rfl
      have ey : (sk1 ts).2.2.getD (i + 1) [] = y := by rw [← e3, List.getD_eq_getElem?_getD, hy2]; rfl
      rw [sk2_snoc]
      simp only [step2]
      rw [← a1, ← a3, ← a4, ← a2, List.length_map, b4, ex, ey, hsec]
  · intro hge
    have hge : ¬ (i + 1 < n) := by simp at hge; omega
    simp only [keep_row_k4]
    refine wp_some ⟨h1, h2, ts, bs, by omega, by omega, htk, h5, ?_, e3, a4, rfl⟩
    simp only [erase, shape]
    rw [← a1, ← a2, ← a3, ← e1]

theorem row_wp {l : List Int} {i : Int} (h : SrcOk l i) : WP (keep_row_m ⟨l, i⟩) (RowOk l) := by
  unfold keep_row_m
  obtain ⟨v, j, ev, v0, v1, hj⟩ := next_m h 2 (by omega) (by omega)
  rw [ev, Option.bind_some]
  simp only
  refine wp_i64 ⟨by omega, by omega⟩ ?_
  obtain ⟨n, hn⟩ : ∃ n : Nat, (2 + v) = (n : Int) := ⟨(2 + v).toNat, by omega⟩
  have hn23 : n = 2 ∨ n = 3 := by omega
  refine wp_iter (Inv1 l n) (fun s => n - s.2.2.2.2) _ ?_ FUEL _ ⟨hj, fun s hs => by simp at hs, [], rfl, by simp, by simp, rfl⟩ (fuel_of (by omega))
  rintro c ⟨p, sts, ss, trks, i⟩ ⟨h1, h2, ts, h3, h4, h5, h6⟩ hc
  simp only at h1 h2 h3 h6 hc
  obtain ⟨f1, f2, f3, f4⟩ := sk1_facts ts h5
  have e1 : sts = (sk1 ts).1 := congrArg Prod.fst h6
  have e2 : ss.map ers = (sk1 ts).2.1 := congrArg (fun p => p.2.1) h6
  have e3 : trks = (sk1 ts).2.2 := congrArg (fun p => p.2.2) h6
  have e2l : ss.length = (sk1 ts).2.1.length := by rw [← e2]; simp
  simp only [keep_row_b1]
  rw [hn]
  refine wp_ite ?_ ?_
  · intro hlt
    have hlt : i < n := by simp at hlt; omega
    rw [named_m _ _ (by omega) (by decide), Option.bind_some]
    refine wp_chk (by simp [e1]; omega) ?_
    obtain ⟨w, j, ev, v0, v1, hj⟩ := next_m h1 2 (by omega) (by omega)
    rw [ev, Option.bind_some]
    simp only
    refine wp_i64 ⟨by omega, by omega⟩ ?_
    obtain ⟨k, hk⟩ : ∃ k : Nat, (1 + w) = (k : Int) := ⟨(1 + w).toNat, by omega⟩
    have hk12 : k = 1 ∨ k = 2 := by omega
    rw [hk]
    refine tracks_wp rfl (by omega) (by rw [e3]; omega) k FUEL j ss [] (by omega) (fuel_of (by omega)) hj (by omega) (by simp; omega) h2 ?_
    intro pos' secs' hp' hsec hr'
    refine hc _ ⟨hp', hr', ts ++ [k], by simp [h3], by simp; omega, ?_, ?_⟩ (by simp only; omega)
    · intro q hq
      rcases List.mem_append.1 hq with h | h
      · exact h5 q h
      · rw [List.mem_singleton] at h; subst h; exact hk12
    · have b4 : sts.length = i := by rw [e1, f1, h3]
      rw [sk1_snoc]
      simp only [step1]
      rw [← e1, ← e2, ← e3, List.length_map, b4, hsec, List.nil_append]
  · intro hge
    have hge : ¬ (i < n) := by simp at hge; omega
    exact row2_wp rfl (v, j) n hn23 hn ts (by omega) h5 sts trks ss p h1 h2 h6

/-! ### The forty shapes -/

def shapes2 : List (List Nat × List Nat) := [1, 2].flatMap fun a => [1, 2].flatMap fun b => [1, 2].map fun c => ([a, b], [c])
def shapes3 : List (List Nat × List Nat) := [1, 2].flatMap fun a => [1, 2].flatMap fun b => [1, 2].flatMap fun c => [1, 2].flatMap fun d => [1, 2].map fun e => ([a, b, c], [d, e])
def shapes : List (List Nat × List Nat) := shapes2 ++ shapes3

theorem len1 {l : List Nat} (h : l.length = 1) : ∃ a, l = [a] := by
  match l, h with
  | [a], _ => exact ⟨a, rfl⟩
theorem len2 {l : List Nat} (h : l.length = 2) : ∃ a b, l = [a, b] := by
  match l, h with
  | [a, b], _ => exact ⟨a, b, rfl⟩
theorem len3 {l : List Nat} (h : l.length = 3) : ∃ a b c, l = [a, b, c] := by
  match l, h with
  | [a, b, c], _ => exact ⟨a, b, c, rfl⟩
theorem mem_shapes {ts bs : List Nat} (h1 : ts.length = 2 ∨ ts.length = 3) (h2 : bs.length + 1 = ts.length) (h3 : ∀ k ∈ ts, k = 1 ∨ k = 2) (h4 : ∀ k ∈ bs, k = 1 ∨ k = 2) : (ts, bs) ∈ shapes := by
  rcases h1 with h | h
  · obtain ⟨a, b, rfl⟩ := len2 h
    obtain ⟨c, rfl⟩ := len1 (show bs.length = 1 by simp at h2; omega)
    have a1 := h3 a (by simp); have b1 := h3 b (by simp); have c1 := h4 c (by simp)
    rcases a1 with rfl | rfl <;> rcases b1 with rfl | rfl <;> rcases c1 with rfl | rfl <;> decide
  · obtain ⟨a, b, c, rfl⟩ := len3 h
    obtain ⟨d, e, rfl⟩ := len2 (show bs.length = 2 by simp at h2; omega)
    have a1 := h3 a (by simp); have b1 := h3 b (by simp); have c1 := h3 c (by simp); have d1 := h4 d (by simp); have e1 := h4 e (by simp)
    rcases a1 with rfl | rfl <;> rcases b1 with rfl | rfl <;> rcases c1 with rfl | rfl <;> rcases d1 with rfl | rfl <;> rcases e1 with rfl | rfl <;> decide

/-- A generated layout. -/
structure GenL (l : Layout) : Prop where
  rng : RngA l.Sections
  ex : ∃ p ∈ shapes, erase l = shape p.1 p.2

theorem layout_m (l : List Int) (h : l.length ≤ 140737488355328) : WP (keep_Layout_m l) GenL := by
  unfold keep_Layout_m
  have e : keep_From_m l = some ⟨l, 0⟩ := rfl
  rw [e, Option.bind_some]
  refine wp_bind _ (row_wp (l := l) ⟨by omega, by omega, h⟩) ?_
  rintro ⟨b, j⟩ ⟨_, hr, ts, bs, h1, h2, h3, h4, h5, _⟩
  exact wp_some ⟨hr, (ts, bs), mem_shapes h1 h2 h3 h4, h5⟩

theorem shapes_ok : shapes.all (fun p => decide (checkL (layOf (shape p.1 p.2)) = 0)) = true := by decide +kernel

theorem secsErr_ers (n : Nat) : ∀ (ss : List Section) (seen : List ByteArray), RngA ss → secsErr n seen (ss.map secOf) = secsErr n seen ((ss.map ers).map secOf)
  | [], _, _ => rfl
  | s :: ss, seen, h => by
    have ih := secsErr_ers n ss (seen ++ [s.Name.ba]) (fun x hx => h x (by simp [hx]))
    have hs := h s (by simp)
    unfold Rng at hs
    have e : secB n (secOf s) = secB n (secOf (ers s)) := by
      rw [Bool.eq_iff_iff]
      simp only [secB, secOf, ers, Bool.and_eq_true, decide_eq_true_eq]
      obtain ⟨q1, q2, q3, q4, q5, q6⟩ := hs
      constructor <;> (rintro ⟨⟨_, a⟩, b⟩; refine ⟨⟨⟨⟨⟨⟨⟨?_, ?_⟩, ?_⟩, ?_⟩, ?_⟩, ?_⟩, a⟩, b⟩ <;> first | omega | decide | (apply decide_eq_true; omega))
    simp only [List.map_cons, secsErr]
    rw [e]
    have e2 : (secOf s).name = s.Name.ba := rfl
    have e3 : (secOf (ers s)).name = s.Name.ba := rfl
    rw [e2, e3, ih]

theorem linksErr_len (a b : Lay) (h1 : a.sections.length = b.sections.length) (h2 : a.points.length = b.points.length) : ∀ (ks done : List Lnk), linksErr a done ks = linksErr b done ks
  | [], _ => rfl
  | k :: ks, done => by
    have ih := linksErr_len a b h1 h2 ks (done ++ [k])
    have e : linkB a k = linkB b k := by simp only [linkB, h1, h2]
    simp only [linksErr]
    rw [e, ih]

theorem check_erase (l : Layout) (h : RngA l.Sections) : checkL (layOf l) = checkL (layOf (erase l)) := by
  have e1 : (layOf (erase l)).stations = (layOf l).stations := rfl
  have e2 : (layOf (erase l)).points = (layOf l).points := rfl
  have e4 : (layOf (erase l)).links = (layOf l).links := rfl
  have e3 : (layOf (erase l)).sections.length = (layOf l).sections.length := by simp [layOf, erase]
  have e5 : secsErr (layOf l).stations.length [] (layOf l).sections = secsErr (layOf l).stations.length [] (layOf (erase l)).sections := secsErr_ers _ _ _ h
  unfold checkL fullB
  rw [e1, e2, e4, e3, e5, linksErr_len (layOf (erase l)) (layOf l) e3 rfl]

theorem gen_check {l : Layout} (h : GenL l) : checkL (layOf l) = 0 := by
  obtain ⟨hr, p, hp, he⟩ := h
  rw [check_erase l hr, he]
  have := List.all_eq_true.1 shapes_ok p hp
  simpa using this
end Go.Proofs.YtohhihdjdelckaaDoor
