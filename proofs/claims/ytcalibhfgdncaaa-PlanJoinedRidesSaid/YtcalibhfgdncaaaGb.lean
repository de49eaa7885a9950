/- Plain laws: a generated layout has one of forty shapes, and is valid. -/
import Derived.Test.YtcalibhfgdncaaaGa
import Derived.Test.YtcalibhfgdncaaaTk
set_option linter.all false
namespace Go.Proofs.Ytcalibhfgdncaaa
open Go.Dc
theorem ab1 (lt : List Int) (o9 ps : List Str) (secs : List Section) (mV sP : List (List Int)) (i : Nat) (cont : (Int × (List Str) × (List Section) × (List Link) × (List (List Int)) × Nat) → Option (dG × Int)) (pos : Int) (ks : List Link) (hl : lt.length ≤ 100) (hk : ks.length ≤ 200) (h0 : 0 < lt.length) :
  Io lt o9 ps secs mV sP i cont pos ks () = Em lt mV i o9 ps secs (ks ++ inner lt 0 lt) sP cont pos () := by
 unfold Io
 have key : ∀ (r : List Int) (n j : Nat) (q : List Link), 0 < r.length → lt.drop j = r → q.length ≤ 200 + j → r.length < n →
   iter (El lt o9 ps secs mV sP i cont pos) n (q, j) = Em lt mV i o9 ps secs (q ++ inner lt 0 r) sP cont pos () := by
  intro r
  induction r with
  | nil => intro n j q h _ _ _; simp at h
  | cons a r ih =>
   intro n j q _ hd hq hn
   obtain ⟨m, rfl⟩ : ∃ m, n = m + 1 := ⟨n - 1, by omega⟩
   have hj : j < lt.length := by
    apply Nat.lt_of_not_le; intro h
    rw [List.drop_eq_nil_of_le h] at hd; cases hd
   have hr : r.length + 1 + j = lt.length := by
    have := congrArg List.length hd
    rw [List.length_drop] at this; simp at this; omega
   show El _ _ _ _ _ _ _ _ _ _ _ = _
   simp only [El]
   rw [jK (mF (by omega) (by omega))]
   cases r with
   | nil =>
    simp at hr
    rw [if_neg (by simp; omega)]
    simp [inner]
   | cons b r =>
    simp at hr
    have ea : lt[j]? = some a := by have := congrArg List.head? hd; simpa [List.head?_drop] using this
    have hd2 : lt.drop (j + 1) = b :: r := by rw [← List.drop_drop, hd]; rfl
    have eb : lt[j + 1]? = some b := by have := congrArg List.head? hd2; simpa [List.head?_drop] using this
    rw [if_pos (by simp; omega), xU, ea, Option.bind_some, jK (mF (by omega) (by omega))]
    have e1 : ((j : Int) + 1) = ((j + 1 : Nat) : Int) := by omega
    rw [e1, xU, eb, Option.bind_some, Px _ _ _ _ _ (by simp only; omega), Option.bind_some, jK (mF (by omega) (by omega))]
    rw [ih m (j + 1) _ (by simp) hd2 (by simp; omega) (by simp at hn ⊢; omega)]
    simp [inner]
 exact key lt FUEL 0 ks h0 rfl (by omega) (lJ (by omega))
theorem O4 (t : List Int) (n : Nat) : ∀ r : List Int, (inner t n r).length ≤ r.length
 | [] => by simp [inner]
 | [_] => by simp [inner]
 | a :: b :: r => by have := O4 t n (b :: r); simp [inner] at this ⊢; omega
theorem acf {Q : dG × Int → Prop} (lt : List Int) (o9 ps : List Str) (secs : List Section) (mV sP : List (List Int)) (i : Nat) (cont : (Int × (List Str) × (List Section) × (List Link) × (List (List Int)) × Nat) → Option (dG × Int)) (pos : Int) (ks : List Link) (hl : lt.length ≤ 100) (hk : ks.length ≤ 100) (h0 : 0 < lt.length)
  (hi : i < 5) (ht : i + 1 < mV.length) (Ue : ∀ t ∈ mV, t.length ≤ 10) (hp : ps.length < 9) (hb : sP.length ≤ 100) (x y : List Int) (hx : mV[i]? = some x) (hy : mV[i + 1]? = some y)
  (hc : WP (cont (pos, (rF (rF ps ks (lt.headD 0) x false).1 (rF ps ks (lt.headD 0) x false).2 (lt.getLastD 0) y true).1, secs, (rF (rF ps ks (lt.headD 0) x false).1 (rF ps ks (lt.headD 0) x false).2 (lt.getLastD 0) y true).2, sP ++ [lt], i + 1)) Q) :
  WP (Em lt mV i o9 ps secs ks sP cont pos ()) Q := by
 unfold Em
 have hx2 : x.length ≤ 10 := Ue x (List.mem_of_getElem? hx)
 have hy2 : y.length ≤ 10 := Ue y (List.mem_of_getElem? hy)
 obtain ⟨a, r, rfl⟩ : ∃ a r, lt = a :: r := by cases lt with | nil => simp at h0 | cons a r => exact ⟨a, r, rfl⟩
 have e0 : idx (a :: r) 0 = some a := rfl
 rw [e0, Option.bind_some, xU, hx, Option.bind_some, TD _ _ _ _ (by simp only; omega) (by omega) (by simp only; omega), Option.bind_some]
 refine fE ⟨by omega, by omega⟩ ?_
 have e1 : idx (a :: r) (((a :: r).length : Int) - 1) = some ((a :: r).getLastD 0) := by
  have : (((a :: r).length : Int) - 1) = ((r.length : Nat) : Int) := by simp
  rw [this, xU, List.getLastD_eq_getLast?, List.getLast?_eq_getElem?]
  simp
 rw [e1, Option.bind_some]
 refine fE ⟨by omega, by omega⟩ ?_
 have e2 : ((i : Int) + 1) = ((i + 1 : Nat) : Int) := by omega
 rw [e2, xU, hy, Option.bind_some]
 have l1 : (rF ps ks a x false).2.length ≤ 200 := by simp [rF, Nn]; omega
 have l2 : (rF ps ks a x false).1.length < 10 := by unfold rF; split <;> simp <;> omega
 rw [TD _ _ _ _ (by simp only; omega) (by omega) (by simpa using l2), Option.bind_some]
 refine gX (by simp; omega) ?_
 simp only [Po]
 refine fE ⟨by omega, by omega⟩ ?_
 exact hc
structure Inv1 (l : List Int) (n : Nat) (s : Int × (List Str) × (List Section) × (List (List Int)) × Nat) : Prop where
 src : mo l s.1
 rng : yK s.2.2.1
 ex : ∃ ts : List Nat, ts.length = s.2.2.2.2 ∧ ts.length ≤ n ∧ (∀ k ∈ ts, k = 1 ∨ k = 2) ∧ (s.2.1, s.2.2.1.map um, s.2.2.2.1) = lT ts
theorem WE (ts : List Nat) (k : Nat) : lT (ts ++ [k]) = step1 (lT ts) k := by simp [lT, List.foldl_append]
theorem WG (ts bs : List Nat) (k : Nat) : mR ts (bs ++ [k]) = step2 (lT ts).2.2 (mR ts bs) k := by simp [mR, List.foldl_append]
theorem WL {P : List Nat → Prop} (h0 : P []) (h1 : ∀ l k, P l → P (l ++ [k])) (l : List Nat) : P l := by
 have : ∀ r : List Nat, P r.reverse := by
  intro r
  induction r with
  | nil => exact h0
  | cons a r ih => rw [List.reverse_cons]; exact h1 _ _ ih
 have := this l.reverse
 rwa [List.reverse_reverse] at this
theorem QU (ts : List Nat) : (∀ k ∈ ts, k = 1 ∨ k = 2) → (lT ts).1.length = ts.length ∧ (lT ts).2.1.length ≤ 2 * ts.length ∧ (lT ts).2.2.length = ts.length ∧ ∀ t ∈ (lT ts).2.2, t.length ≤ 10 := by
 induction ts using WL with
 | h0 => intro _; simp [lT]
 | h1 l k ih =>
  intro hk
  obtain ⟨a, b, c, d⟩ := ih (fun x hx => hk x (by simp [hx]))
  have := hk k (by simp)
  rw [WE]
  refine ⟨by simp [step1, a], by simp [step1, Xf]; omega, by simp [step1, c], ?_⟩
  intro t ht
  simp [step1] at ht
  rcases ht with h | rfl
  ·exact d t h
  ·rw [Bh]; omega
theorem ad9 (ts bs : List Nat) : (∀ k ∈ ts, k = 1 ∨ k = 2) → (∀ k ∈ bs, k = 1 ∨ k = 2) → (mR ts bs).1.length ≤ 2 * bs.length ∧ (mR ts bs).2.1.length ≤ 2 * ts.length + 2 * bs.length ∧ (mR ts bs).2.2.1.length ≤ 30 * bs.length ∧ (mR ts bs).2.2.2.length = bs.length := by
 intro h1
 obtain ⟨a, b, c, d⟩ := QU ts h1
 have dd : ∀ i, ((lT ts).2.2.getD i []).length ≤ 10 := by
  intro i
  rw [List.getD_eq_getElem?_getD]
  cases h : (lT ts).2.2[i]? with
  | none => simp
  | some t => simpa using d t (List.mem_of_getElem? h)
 induction bs using WL with
 | h0 => intro _; simp [mR]; omega
 | h1 l k ih =>
  intro hk
  obtain ⟨e, f, g, j⟩ := ih (fun x hx => hk x (by simp [hx]))
  have hk2 := hk k (by simp)
  rw [WG]
  have d1 := dd (mR ts l).2.2.2.length
  have d2 := dd ((mR ts l).2.2.2.length + 1)
  have il := O4 (pX (mR ts l).2.1.length k) 0 (pX (mR ts l).2.1.length k)
  rw [Bh] at il
  refine ⟨?_, ?_, ?_, ?_⟩
  ·simp only [step2, rF]
   split <;> split <;> simp <;> omega
  ·simp [step2, UZ]; omega
  ·simp only [step2, rF]
   simp only [List.length_append, Nn]
   simp only [List.length_singleton, List.length_nil]
   omega
  ·simp [step2, j]
structure Inv2 (l : List Int) (n : Nat) (ts : List Nat) (s : Int × (List Str) × (List Section) × (List Link) × (List (List Int)) × Nat) : Prop where
 src : mo l s.1
 rng : yK s.2.2.1
 ex : ∃ bs : List Nat, bs.length = s.2.2.2.2.2 ∧ bs.length + 1 ≤ n ∧ (∀ k ∈ bs, k = 1 ∨ k = 2) ∧ (s.2.1, s.2.2.1.map um, s.2.2.2.1, s.2.2.2.2.1) = mR ts bs
structure MO (l : List Int) (y : dG × Int) : Prop where
 src : mo l y.2
 rng : yK y.1.l.Sections
 ex : ∃ ts bs : List Nat, (ts.length = 2 ∨ ts.length = 3) ∧ bs.length + 1 = ts.length ∧ (∀ k ∈ ts, k = 1 ∨ k = 2) ∧ (∀ k ∈ bs, k = 1 ∨ k = 2) ∧ erase y.1.l = shape ts bs ∧ y.1.tracks = (lT ts).2.2 ∧ y.1.between = (mR ts bs).2.2.2 ∧ y.1.bf = []
theorem adM {l : List Int} {s0 : bW} (hs0 : s0.l = l) (y2 : Int × Int) (n : Nat) (hn : n = 2 ∨ n = 3) (hy : 2 + y2.1 = n) (ts : List Nat) (ht : ts.length = n) (htk : ∀ k ∈ ts, k = 1 ∨ k = 2)
  (o9 : List Str) (mV : List (List Int)) (secs : List Section) (pos : Int) (hsrc : mo l pos) (abk : yK secs) (he : (o9, secs.map um, mV) = lT ts) :
  WP (KX y2 s0 o9 mV pos secs ()) (MO l) := by
 unfold KX
 obtain ⟨f1, f2, f3, f4⟩ := QU ts htk
 have e1 : o9 = (lT ts).1 := congrArg Prod.fst he
 have e2 : secs.map um = (lT ts).2.1 := congrArg (fun p => p.2.1) he
 have e3 : mV = (lT ts).2.2 := congrArg (fun p => p.2.2) he
 refine vN (Inv2 l n ts) (fun s => n - s.2.2.2.2.2) _ ?_ FUEL _ ⟨hsrc, abk, [], rfl, by simp; omega, by simp, by rw [e2]; rfl⟩ (lJ (by omega))
 rintro c ⟨p, ps, ss, ks, sP, i⟩ ⟨h1, h2, bs, h3, h4, h5, h6⟩ hc
 simp only at h1 h2 h3 h6 hc
 obtain ⟨g1, g2, g3, g4⟩ := ad9 ts bs htk h5
 have a1 : ps = (mR ts bs).1 := congrArg Prod.fst h6
 have a2 : ss.map um = (mR ts bs).2.1 := congrArg (fun p => p.2.1) h6
 have a3 : ks = (mR ts bs).2.2.1 := congrArg (fun p => p.2.2.1) h6
 have a4 : sP = (mR ts bs).2.2.2 := congrArg (fun p => p.2.2.2) h6
 have a2l : ss.length = (mR ts bs).2.1.length := by rw [← a2]; simp
 simp only [KV]
 refine fE ⟨by omega, by omega⟩ ?_
 rw [hy]
 refine ko ?_ ?_
 ·intro hlt
  have hlt : i + 1 < n := by simp at hlt; omega
  obtain ⟨v, j, ev, v0, v1, hj⟩ := jU h1 2 (by omega) (by omega)
  rw [hs0, ev, Option.bind_some]
  simp only
  refine fE ⟨by omega, by omega⟩ ?_
  obtain ⟨k, hk⟩ : ∃ k : Nat, (1 + v) = (k : Int) := ⟨(1 + v).toNat, by omega⟩
  have Ov : k = 1 ∨ k = 2 := by omega
  rw [hk]
  refine X8 hs0 (by omega) k FUEL j ss [] (by omega) (lJ (by omega)) hj (by omega) (by simp; omega) h2 ?_
  intro pos' uQ hp' Oz hr'
  rw [List.nil_append]
  have til := O4 (pX ss.length k) 0 (pX ss.length k)
  rw [Bh] at til
  rw [ab1 _ _ _ _ _ _ _ _ _ _ (by rw [Bh]; omega) (by rw [a3]; omega) (by rw [Bh]; omega)]
  obtain ⟨x, hx⟩ : ∃ x, mV[i]? = some x := ⟨_, List.getElem?_eq_getElem (by rw [e3]; omega)⟩
  obtain ⟨y, hy2⟩ : ∃ y, mV[i + 1]? = some y := ⟨_, List.getElem?_eq_getElem (by rw [e3]; omega)⟩
  refine acf _ _ _ _ _ _ _ _ _ _ (by rw [Bh]; omega) (by simp only [List.length_append]; rw [a3]; omega) (by rw [Bh]; omega) (by omega) (by rw [e3]; omega) (by rw [e3]; exact f4) (by rw [a1]; omega) (by rw [a4]; omega) x y hx hy2 ?_
  refine hc _ ⟨hp', hr', bs ++ [k], by simp [h3], by simp; omega, ?_, ?_⟩ (by simp only; omega)
  ·intro q hq
   rcases List.mem_append.1 hq with h | h
   ·exact h5 q h
   ·rw [List.mem_singleton] at h; subst h; exact Ov
  ·have b4 : sP.length = i := by rw [a4, g4, h3]
   have ex : (lT ts).2.2.getD i [] = x := by rw [← e3, List.getD_eq_getElem?_getD, hx]; rfl
   have ey : (lT ts).2.2.getD (i + 1) [] = y := by rw [← e3, List.getD_eq_getElem?_getD, hy2]; rfl
   rw [WG]
   simp only [step2]
   rw [← a1, ← a3, ← a4, ← a2, List.length_map, b4, ex, ey, Oz]
 ·intro hge
  have hge : ¬ (i + 1 < n) := by simp at hge; omega
  simp only [Pn]
  refine wX ⟨h1, h2, ts, bs, by omega, by omega, htk, h5, ?_, e3, a4, rfl⟩
  simp only [erase, shape]
  rw [← a1, ← a2, ← a3, ← e1]
theorem adQ {l : List Int} {i : Int} (h : mo l i) : WP (Ip ⟨l, i⟩) (MO l) := by
 unfold Ip
 obtain ⟨v, j, ev, v0, v1, hj⟩ := jU h 2 (by omega) (by omega)
 rw [ev, Option.bind_some]
 simp only
 refine fE ⟨by omega, by omega⟩ ?_
 obtain ⟨n, hn⟩ : ∃ n : Nat, (2 + v) = (n : Int) := ⟨(2 + v).toNat, by omega⟩
 have aa9 : n = 2 ∨ n = 3 := by omega
 refine vN (Inv1 l n) (fun s => n - s.2.2.2.2) _ ?_ FUEL _ ⟨hj, fun s hs => by simp at hs, [], rfl, by simp, by simp, rfl⟩ (lJ (by omega))
 rintro c ⟨p, o9, ss, mV, i⟩ ⟨h1, h2, ts, h3, h4, h5, h6⟩ hc
 simp only at h1 h2 h3 h6 hc
 obtain ⟨f1, f2, f3, f4⟩ := QU ts h5
 have e1 : o9 = (lT ts).1 := congrArg Prod.fst h6
 have e2 : ss.map um = (lT ts).2.1 := congrArg (fun p => p.2.1) h6
 have e3 : mV = (lT ts).2.2 := congrArg (fun p => p.2.2) h6
 have e2l : ss.length = (lT ts).2.1.length := by rw [← e2]; simp
 simp only [KU]
 rw [hn]
 refine ko ?_ ?_
 ·intro hlt
  have hlt : i < n := by simp at hlt; omega
  rw [Cr _ _ (by omega) (by decide), Option.bind_some]
  refine gX (by simp [e1]; omega) ?_
  obtain ⟨w, j, ev, v0, v1, hj⟩ := jU h1 2 (by omega) (by omega)
  rw [ev, Option.bind_some]
  simp only
  refine fE ⟨by omega, by omega⟩ ?_
  obtain ⟨k, hk⟩ : ∃ k : Nat, (1 + w) = (k : Int) := ⟨(1 + w).toNat, by omega⟩
  have Ov : k = 1 ∨ k = 2 := by omega
  rw [hk]
  refine aev rfl (by omega) (by rw [e3]; omega) k FUEL j ss [] (by omega) (lJ (by omega)) hj (by omega) (by simp; omega) h2 ?_
  intro pos' uQ hp' Oz hr'
  refine hc _ ⟨hp', hr', ts ++ [k], by simp [h3], by simp; omega, ?_, ?_⟩ (by simp only; omega)
  ·intro q hq
   rcases List.mem_append.1 hq with h | h
   ·exact h5 q h
   ·rw [List.mem_singleton] at h; subst h; exact Ov
  ·have b4 : o9.length = i := by rw [e1, f1, h3]
   rw [WE]
   simp only [step1]
   rw [← e1, ← e2, ← e3, List.length_map, b4, Oz, List.nil_append]
 ·intro hge
  have hge : ¬ (i < n) := by simp at hge; omega
  exact adM rfl (v, j) n aa9 hn ts (by omega) h5 o9 mV ss p h1 h2 h6
/-! ### The forty shapes -/
def ad7 : List (List Nat × List Nat) := [1, 2].flatMap fun a => [1, 2].flatMap fun b => [1, 2].map fun c => ([a, b], [c])
def ad8 : List (List Nat × List Nat) := [1, 2].flatMap fun a => [1, 2].flatMap fun b => [1, 2].flatMap fun c => [1, 2].flatMap fun d => [1, 2].map fun e => ([a, b, c], [d, e])
def shapes : List (List Nat × List Nat) := ad7 ++ ad8
theorem len1 {l : List Nat} (h : l.length = 1) : ∃ a, l = [a] := by
 match l, h with
 | [a], _ => exact ⟨a, rfl⟩
theorem len2 {l : List Nat} (h : l.length = 2) : ∃ a b, l = [a, b] := by
 match l, h with
 | [a, b], _ => exact ⟨a, b, rfl⟩
theorem acy {l : List Nat} (h : l.length = 3) : ∃ a b c, l = [a, b, c] := by
 match l, h with
 | [a, b, c], _ => exact ⟨a, b, c, rfl⟩
theorem U0 {ts bs : List Nat} (h1 : ts.length = 2 ∨ ts.length = 3) (h2 : bs.length + 1 = ts.length) (h3 : ∀ k ∈ ts, k = 1 ∨ k = 2) (h4 : ∀ k ∈ bs, k = 1 ∨ k = 2) : (ts, bs) ∈ shapes := by
 rcases h1 with h | h
 ·obtain ⟨a, b, rfl⟩ := len2 h
  obtain ⟨c, rfl⟩ := len1 (show bs.length = 1 by simp at h2; omega)
  have a1 := h3 a (by simp); have b1 := h3 b (by simp); have c1 := h4 c (by simp)
  rcases a1 with rfl | rfl <;> rcases b1 with rfl | rfl <;> rcases c1 with rfl | rfl <;> decide
 ·obtain ⟨a, b, c, rfl⟩ := acy h
  obtain ⟨d, e, rfl⟩ := len2 (show bs.length = 2 by simp at h2; omega)
  have a1 := h3 a (by simp); have b1 := h3 b (by simp); have c1 := h3 c (by simp); have d1 := h4 d (by simp); have e1 := h4 e (by simp)
  rcases a1 with rfl | rfl <;> rcases b1 with rfl | rfl <;> rcases c1 with rfl | rfl <;> rcases d1 with rfl | rfl <;> rcases e1 with rfl | rfl <;> decide
structure Rn (l : Layout) : Prop where
 rng : yK l.Sections
 ex : ∃ p ∈ shapes, erase l = shape p.1 p.2
end Go.Proofs.Ytcalibhfgdncaaa
