/- Plain laws: the rows of stations that the generator makes, up to the numbers of their sections. -/
import Derived.Test.YtcalibhfgdncaaaTp
import Derived.Test.YtcalibhfgdncaaaRl
import Derived.Test.YtcalibhfgdncaaaQ1
set_option linter.all false
namespace Go.Proofs.Ytcalibhfgdncaaa
open Go.Dc
def qV (s : Str) (k : Nat) : Str := ⟨s.l ++ [UInt8.ofNat (48 + k)]⟩
theorem YC : ∀ k : Fin 10, Bf (⟨[48, 49, 50, 51, 52, 53, 54, 55, 56, 57]⟩ : Str) ((k.val : Int).tmod 10) ((k.val : Int).tmod 10 + 1) = some ⟨[UInt8.ofNat (48 + k.val)]⟩ := by decide
theorem Cr (s : Str) (k : Nat) (h : k < 10) (hs : s.l.length ≤ 100) : wE s (k : Int) = some (qV s k) := by
 unfold wE
 have e : (k : Int).tmod 10 = k := by rw [Int.tmod_eq_emod_of_nonneg (by omega)]; omega
 have := YC ⟨k, h⟩
 simp only at this
 rw [jK (mF (by omega) (by omega)), this, Option.bind_some]
 unfold Jz
 rw [if_pos (by simp; omega)]
 rfl
theorem U8 (s : Str) (k : Nat) : (qV s k).l.length = s.l.length + 1 := by simp [qV]
def um (s : Section) : Section := ⟨s.Name, 1, 1000, 0, s.og⟩
def JR (s : Section) : Prop := 2 ≤ s.Length ∧ s.Length ≤ 12 ∧ 5000 ≤ s.Limit ∧ s.Limit ≤ 35000 ∧ -10 ≤ s.jT ∧ s.jT ≤ 10
def yK (l : List Section) : Prop := ∀ s ∈ l, JR s
theorem WB {l : List Int} {i : Int} (h : mo l i) (nm : Str) (st : Int) :
  ∃ x j, Eb (bW.mk l i) nm st = some (x, j) ∧ mo l j ∧ um x = ⟨nm, 1, 1000, 0, st⟩ ∧ JR x ∧ x.Length ≤ 10 ∧ x.Name = nm ∧ x.og = st := by
 obtain ⟨v1, j1, e1, a1, b1, o1⟩ := jU h 9 (by omega) (by omega)
 obtain ⟨v2, j2, e2, a2, b2, o2⟩ := jU o1 7 (by omega) (by omega)
 obtain ⟨v3, j3, e3, a3, b3, o3⟩ := jU o2 21 (by omega) (by omega)
 refine ⟨⟨nm, 2 + v1, 5000 + 5000 * v2, v3 - 10, st⟩, j3, ?_, o3, rfl, ?_, ?_, rfl, rfl⟩
 ·unfold Eb
  rw [e1, Option.bind_some, jK (mF (by simp; omega) (by simp; omega))]
  simp only
  rw [e2, Option.bind_some, jK (mF (by simp; omega) (by simp; omega)), jK (mF (by simp; omega) (by simp; omega))]
  simp only
  rw [e3, Option.bind_some, jK (mF (by simp; omega) (by simp; omega))]
 ·refine ⟨?_, ?_, ?_, ?_, ?_, ?_⟩ <;> simp only <;> omega
 ·simp only; omega
theorem R4 (b : dG) (x : Section) (h : b.l.Sections.length ≤ 1000) : Ec b x = some ((b.l.Sections.length : Int), b.l.Sections ++ [x]) := by
 unfold Ec
 have e : ((b.l.Sections ++ [x]).length : Int) - 1 = b.l.Sections.length := by simp
 rw [jK (by simp; omega), e, jK (mF (by omega) (by omega))]
theorem Px (b : dG) (x y p q : Int) (h : b.l.Links.length ≤ 1000) : BS b x y p q = some (b.l.Links ++ [⟨x, 1, y, 0, p, q⟩]) := by
 unfold BS
 rw [jK (by simp; omega)]
theorem adn (b : dG) (h : b.l.aR.length < 10) : Il b = some ((b.l.aR.length : Int), b.l.aR ++ [qV ⟨[80]⟩ b.l.aR.length]) := by
 unfold Il
 have e : ((b.l.aR ++ [qV ⟨[80]⟩ b.l.aR.length]).length : Int) - 1 = b.l.aR.length := by simp
 rw [Cr _ _ h (by decide), Option.bind_some, jK (by simp; omega), e, jK (mF (by omega) (by omega))]
/-! ### Skeletons -/
def yR (x p : Int) (east : Bool) : Nat → List Int → List Link
 | _, [] => []
 | i, t :: r => (if east then ⟨x, 1, t, 0, p, i⟩ else ⟨t, 1, x, 0, p, i⟩) :: yR x p east (i + 1) r
def TB (ps : List Str) (ts : List Int) : Int := if 1 < ts.length then ps.length else -1
def rF (ps : List Str) (ks : List Link) (x : Int) (ts : List Int) (east : Bool) : List Str × List Link :=
 (if 1 < ts.length then ps ++ [qV ⟨[80]⟩ ps.length] else ps, ks ++ yR x (TB ps ts) east 0 ts)
theorem Nn (x p : Int) (e : Bool) : ∀ (ts : List Int) (i : Nat), (yR x p e i ts).length = ts.length
 | [], _ => rfl
 | t :: r, i => by simp [yR, Nn x p e r (i + 1)]
theorem TA (b : dG) (x : Int) (ts : List Int) (east : Bool) (ps : List Str) (p : Int) (hk : b.l.Links.length ≤ 500) (ht : ts.length ≤ 100) :
  Ee ts east b x (ps, p) = some (ps, b.l.Links ++ yR x p east 0 ts) := by
 simp only [Ee]
 have := vD (B := Ed ts east b ps x p) (fun (q : List Link × Nat) i => (q.1, i)) ts (fun q i => q.1.length ≤ 500 + i ∧ q.2 = i) (fun q r => some (ps, q.1 ++ yR x p east q.2 r)) ?_ ?_ FUEL (b.l.Links, 0) 0 ⟨by simp; omega, rfl⟩ (by omega) (lJ (by omega))
 ·simpa using this
 ·rintro c ⟨q, qi⟩ i t r ⟨hq, rfl⟩ hdr hi hx hc
  simp only at hq hx hi ⊢
  simp only [Ed]
  rw [if_pos (by simpa using hi)]
  cases east with
  | true =>
   rw [if_pos rfl, hx, Option.bind_some, Px _ _ _ _ _ (by simp only; omega), Option.bind_some]
   simp only [Ef]
   have := hc (q ++ [⟨x, 1, t, 0, p, qi⟩], qi + 1) ⟨by simp; omega, rfl⟩
   simp only at this
   rw [this]
   simp [yR]
  | false =>
   rw [if_neg (by simp), hx, Option.bind_some, Px _ _ _ _ _ (by simp only; omega), Option.bind_some]
   simp only [Ef]
   have := hc (q ++ [⟨t, 1, x, 0, p, qi⟩], qi + 1) ⟨by simp; omega, rfl⟩
   simp only at this
   rw [this]
   simp [yR]
 ·rintro c ⟨q, qi⟩ ⟨hq, h2⟩
  simp only [Ed]
  rw [if_neg (by simp)]
  simp [yR]
theorem TD (b : dG) (x : Int) (ts : List Int) (east : Bool) (hk : b.l.Links.length ≤ 500) (ht : ts.length ≤ 100) (hp : b.l.aR.length < 10) :
  Eh b x ts east = some (rF b.l.aR b.l.Links x ts east) := by
 unfold Eh rF TB
 by_cases h : 1 < ts.length
 ·rw [if_pos (by simp; omega), adn b hp, Option.bind_some, TA _ _ _ _ _ _ hk ht]
  simp [h]
 ·rw [if_neg (by simp; omega), TA _ _ _ _ _ _ hk ht]
  simp [h]
def Di (i : Nat) : Nat → List Section
 | 0 => []
 | k + 1 => ⟨qV (qV ⟨[84]⟩ i) (k + 1), 1, 1000, 0, i⟩ :: Di i k
def Ci (i : Nat) : Nat → List Section
 | 0 => []
 | k + 1 => ⟨qV (qV ⟨[76]⟩ i) (k + 1), 1, 1000, 0, -1⟩ :: Ci i k
def pX (s : Nat) : Nat → List Int
 | 0 => []
 | k + 1 => (s : Int) :: pX (s + 1) k
theorem Bh : ∀ (k s : Nat), (pX s k).length = k
 | 0, _ => rfl
 | k + 1, s => by simp [pX, Bh k (s + 1)]
abbrev S1 := List Str × List Section × List (List Int)
abbrev S2 := List Str × List Section × List Link × List (List Int)
def step1 (s : S1) (k : Nat) : S1 := (s.1 ++ [qV ⟨[83]⟩ s.1.length], s.2.1 ++ Di s.1.length k, s.2.2 ++ [pX s.2.1.length k])
def inner (t : List Int) : Nat → List Int → List Link
 | _, [] => []
 | _, [_] => []
 | n, a :: b :: r => ⟨a, 1, b, 0, -1, 0⟩ :: inner t n (b :: r)
def step2 (tr : List (List Int)) (s : S2) (k : Nat) : S2 :=
 let i := s.2.2.2.length
 let t := pX s.2.1.length k
 let f := rF s.1 (s.2.2.1 ++ inner t 0 t) (t.headD 0) (tr.getD i []) false
 let g := rF f.1 f.2 (t.getLastD 0) (tr.getD (i + 1) []) true
 (g.1, s.2.1 ++ Ci i k, g.2, s.2.2.2 ++ [t])
def lT (ts : List Nat) : S1 := ts.foldl step1 ([], [], [])
def mR (ts bs : List Nat) : S2 := bs.foldl (step2 (lT ts).2.2) ([], (lT ts).2.1, [], [])
def shape (ts bs : List Nat) : Layout := ⟨(lT ts).1, (mR ts bs).1, (mR ts bs).2.1, (mR ts bs).2.2.1⟩
def erase (l : Layout) : Layout := ⟨l.aQ, l.aR, l.Sections.map um, l.Links⟩
theorem Xf (i : Nat) : ∀ k, (Di i k).length = k
 | 0 => rfl
 | k + 1 => by simp [Di, Xf i k]
theorem UZ (i : Nat) : ∀ k, (Ci i k).length = k
 | 0 => rfl
 | k + 1 => by simp [Ci, UZ i k]
/-! ### The first loop: stations and their tracks -/
theorem aev {Q : dG × Int → Prop} {l : List Int} {i : Nat} {o9 : List Str} {y : Str} {mV : List (List Int)} {cont : (Int × (List Str) × (List Section) × (List (List Int)) × Nat) → Option (dG × Int)} {s0 : bW} (hs0 : s0.l = l)
  (hi : i < 5) (ht : mV.length ≤ 100) : ∀ (k n : Nat) (pos : Int) (secs : List Section) (lt : List Int), k ≤ 2 → k < n → mo l pos → secs.length + k ≤ 200 → lt.length + k ≤ 200 → yK secs →
  (∀ pos' uQ, mo l pos' → uQ.map um = secs.map um ++ Di i k → yK uQ → WP (cont (pos', o9 ++ [y], uQ, mV ++ [lt ++ pX secs.length k], i + 1)) Q) →
  WP (iter (Aq (i : Nat) s0 o9 y mV cont) n (pos, secs, lt, (k : Int))) Q := by
 intro k
 induction k with
 | zero =>
  intro n pos secs lt _ hn hp hs hl hr hc
  obtain ⟨m, rfl⟩ : ∃ m, n = m + 1 := ⟨n - 1, by omega⟩
  show WP (Aq _ _ _ _ _ _ _ _) Q
  simp only [Aq]
  rw [if_neg (by simp)]
  simp only [Pm, Pk]
  refine gX (by simp; omega) (fE ⟨by omega, by omega⟩ ?_)
  have := hc pos secs hp (by simp [Di]) hr
  simpa [pX] using this
 | succ k ih =>
  intro n pos secs lt hk hn hp hs hl hr hc
  obtain ⟨m, rfl⟩ : ∃ m, n = m + 1 := ⟨n - 1, by omega⟩
  show WP (Aq _ _ _ _ _ _ _ _) Q
  simp only [Aq]
  rw [if_pos (by simp <;> omega), Cr _ _ (by omega) (by decide), Option.bind_some, Cr _ _ (by omega) (by rw [U8]; decide), Option.bind_some]
  obtain ⟨x, j, e, hj, e1, e2, e3, e4, e5⟩ := WB hp (qV (qV ⟨[84]⟩ i) (k + 1)) i
  rw [hs0, e, Option.bind_some]
  unfold JR at e2
  refine fE ⟨by simp only; omega, by simp only; omega⟩ ?_
  rw [R4 _ _ (by simp only; omega), Option.bind_some]
  simp only
  refine gX (by simp; omega) (fE ⟨by omega, by omega⟩ ?_)
  have ek : (((k + 1 : Nat) : Int) - 1) = (k : Int) := by omega
  rw [ek]
  refine ih m j _ _ (by omega) (by omega) hj (by simp; omega) (by simp; omega) ?_ ?_
  ·intro s hm
   rcases List.mem_append.1 hm with h | h
   ·exact hr s h
   ·rw [List.mem_singleton] at h; subst h
    unfold JR; simp only; omega
  ·intro pos' uQ h1 h2 h3
   have aaZ : um ⟨x.Name, x.Length + 2, x.Limit, x.jT, x.og⟩ = ⟨qV (qV ⟨[84]⟩ i) (k + 1), 1, 1000, 0, i⟩ := by rw [← e1]; rfl
   have := hc pos' uQ h1 (by rw [h2]; simp [Di, aaZ]) h3
   have e6 : lt ++ [(secs.length : Int)] ++ pX (secs ++ [(⟨x.Name, x.Length + 2, x.Limit, x.jT, x.og⟩ : Section)]).length k = lt ++ pX secs.length (k + 1) := by simp [pX]
   rw [e6]
   exact this
theorem X8 {Q : dG × Int → Prop} {l : List Int} {i : Nat} {o9 ps : List Str} {ks : List Link} {mV sP : List (List Int)} {cont : (Int × (List Str) × (List Section) × (List Link) × (List (List Int)) × Nat) → Option (dG × Int)} {s0 : bW} (hs0 : s0.l = l)
  (hi : i < 5) : ∀ (k n : Nat) (pos : Int) (secs : List Section) (lt : List Int), k ≤ 2 → k < n → mo l pos → secs.length + k ≤ 200 → lt.length + k ≤ 200 → yK secs →
  (∀ pos' uQ, mo l pos' → uQ.map um = secs.map um ++ Ci i k → yK uQ → WP (Io (lt ++ pX secs.length k) o9 ps uQ mV sP i cont pos' ks ()) Q) →
  WP (iter (Ar (i : Nat) s0 o9 ps ks mV sP cont) n (pos, secs, lt, (k : Int))) Q := by
 intro k
 induction k with
 | zero =>
  intro n pos secs lt _ hn hp hs hl hr hc
  obtain ⟨m, rfl⟩ : ∃ m, n = m + 1 := ⟨n - 1, by omega⟩
  show WP (Ar _ _ _ _ _ _ _ _ _ _) Q
  simp only [Ar]
  rw [if_neg (by simp)]
  have := hc pos secs hp (by simp [Ci]) hr
  simpa [pX] using this
 | succ k ih =>
  intro n pos secs lt hk hn hp hs hl hr hc
  obtain ⟨m, rfl⟩ : ∃ m, n = m + 1 := ⟨n - 1, by omega⟩
  show WP (Ar _ _ _ _ _ _ _ _ _ _) Q
  simp only [Ar]
  rw [if_pos (by simp <;> omega), Cr _ _ (by omega) (by decide), Option.bind_some, Cr _ _ (by omega) (by rw [U8]; decide), Option.bind_some]
  obtain ⟨x, j, e, hj, e1, e2, e3, e4, e5⟩ := WB hp (qV (qV ⟨[76]⟩ i) (k + 1)) (-1)
  rw [hs0, e, Option.bind_some, R4 _ _ (by simp only; omega), Option.bind_some]
  simp only
  refine gX (by simp; omega) (fE ⟨by omega, by omega⟩ ?_)
  have ek : (((k + 1 : Nat) : Int) - 1) = (k : Int) := by omega
  rw [ek]
  refine ih m j _ _ (by omega) (by omega) hj (by simp; omega) (by simp; omega) ?_ ?_
  ·intro s hm
   rcases List.mem_append.1 hm with h | h
   ·exact hr s h
   ·rw [List.mem_singleton] at h; subst h; exact e2
  ·intro pos' uQ h1 h2 h3
   have := hc pos' uQ h1 (by rw [h2]; simp [Ci, e1]) h3
   have e6 : lt ++ [(secs.length : Int)] ++ pX (secs ++ [x]).length k = lt ++ pX secs.length (k + 1) := by simp [pX]
   rw [e6]
   exact this
end Go.Proofs.Ytcalibhfgdncaaa
