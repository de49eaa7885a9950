/- Plain laws of chapter 28: the network of Build, and flows as circulations. -/
import Derived.Test.YtedocibniankjaaQ7
import Derived.Test.YtedocibniankjaaQg
namespace Go.Proofs.Ytedocibniankjaa
open Go.Dc

def baseA (n : Int) : Nat → List Arc
  | 0 => []
  | t + 1 => baseA n t ++ [Arc.mk t (2 * n) 1 0, Arc.mk (2 * n) (n + t) 1 0]
def pr (ts : List Task) (r : Rules) (a b : Int) : Arc := Arc.mk a (ts.length + b) 1 (sec ts r a b - 288001)
def rowP (ts : List Task) (r : Rules) (a : Int) : Nat → List Arc
  | 0 => []
  | b + 1 => rowP ts r a b ++ (if fok ts r a b then [pr ts r a b] else [])
def allP (ts : List Task) (r : Rules) : Nat → List Arc
  | 0 => []
  | a + 1 => allP ts r a ++ rowP ts r a ts.length
def arcsB (ts : List Task) (r : Rules) : List Arc := baseA ts.length ts.length ++ allP ts r ts.length
def supF (n v : Int) : Int := if v < n then 1 else if v < 2 * n then -1 else 0

theorem baseA_len (n : Int) : ∀ t, (baseA n t).length = 2 * t
  | 0 => rfl
  | t + 1 => by simp only [baseA, List.length_append, List.length_cons, List.length_nil, baseA_len n t]; omega
theorem baseA_get (n : Int) : ∀ (t i : Nat), i < t → (baseA n t)[2 * i]? = some (Arc.mk i (2 * n) 1 0) ∧ (baseA n t)[2 * i + 1]? = some (Arc.mk (2 * n) (n + i) 1 0)
  | 0, i, h => by omega
  | t + 1, i, h => by
    have hl := baseA_len n t
    simp only [baseA]
    by_cases e : i = t
    · subst e
      constructor
      · rw [List.getElem?_append_right (by omega), hl]; simp
      · rw [List.getElem?_append_right (by omega), hl, show 2 * i + 1 - 2 * i = 1 by omega]; simp
    · have := baseA_get n t i (by omega)
      rw [List.getElem?_append_left (by omega), List.getElem?_append_left (by omega)]
      exact this
theorem rowP_mem {ts : List Task} {r : Rules} {a : Int} : ∀ {b : Nat} {x : Arc}, x ∈ rowP ts r a b ↔ ∃ c : Int, 0 ≤ c ∧ c < b ∧ fok ts r a c = true ∧ x = pr ts r a c
  | 0, x => by simp only [rowP, List.not_mem_nil, false_iff]; rintro ⟨c, c0, c1, _⟩; omega
  | b + 1, x => by
    simp only [rowP, List.mem_append]
    rw [rowP_mem (b := b)]
    constructor
    · rintro (⟨c, c0, c1, h⟩ | h)
      · exact ⟨c, c0, by omega, h⟩
      · split at h
        · rename_i hf
          exact ⟨b, by omega, by omega, hf, by simpa using h⟩
        · cases h
    · rintro ⟨c, c0, c1, hf, h⟩
      by_cases e : c = b
      · subst e; right; rw [if_pos hf]; simp [h]
      · left; exact ⟨c, c0, by omega, hf, h⟩
theorem allP_mem {ts : List Task} {r : Rules} : ∀ {a : Nat} {x : Arc}, x ∈ allP ts r a ↔ ∃ c d : Int, 0 ≤ c ∧ c < a ∧ 0 ≤ d ∧ d < ts.length ∧ fok ts r c d = true ∧ x = pr ts r c d
  | 0, x => by simp only [allP, List.not_mem_nil, false_iff]; rintro ⟨c, d, c0, c1, _⟩; omega
  | a + 1, x => by
    simp only [allP, List.mem_append]
    rw [allP_mem (a := a), rowP_mem]
    constructor
    · rintro (⟨c, d, c0, c1, h⟩ | ⟨d, d0, d1, h⟩)
      · exact ⟨c, d, c0, by omega, h⟩
      · exact ⟨a, d, by omega, by omega, d0, d1, h⟩
    · rintro ⟨c, d, c0, c1, d0, d1, h⟩
      by_cases e : c = a
      · subst e; right; exact ⟨d, d0, d1, h⟩
      · left; exact ⟨c, d, c0, by omega, d0, d1, h⟩
theorem rowP_nodup (ts : List Task) (r : Rules) (a : Int) : ∀ b, (rowP ts r a b).Nodup
  | 0 => by simp [rowP]
  | b + 1 => by
    simp only [rowP]
    rw [List.nodup_append]
    refine ⟨rowP_nodup ts r a b, by split <;> simp, ?_⟩
    intro x hx y hy e
    subst e
    obtain ⟨c, c0, c1, _, h⟩ := rowP_mem.1 hx
    split at hy
    · have : x = pr ts r a b := by simpa using hy
      rw [h] at this
      have := congrArg Arc.To this
      simp only [pr] at this
      omega
    · cases hy
theorem allP_nodup (ts : List Task) (r : Rules) : ∀ a, (allP ts r a).Nodup
  | 0 => by simp [allP]
  | a + 1 => by
    simp only [allP]
    rw [List.nodup_append]
    refine ⟨allP_nodup ts r a, rowP_nodup ts r a _, ?_⟩
    intro x hx y hy e
    subst e
    obtain ⟨c, d, c0, c1, _, _, _, h⟩ := allP_mem.1 hx
    obtain ⟨b, _, _, _, h'⟩ := rowP_mem.1 hy
    rw [h] at h'
    have := congrArg Arc.From h'
    simp only [pr] at this
    omega
theorem rowP_len (ts : List Task) (r : Rules) (a : Int) : ∀ b, (rowP ts r a b).length ≤ b
  | 0 => Nat.le_refl _
  | b + 1 => by
    have := rowP_len ts r a b
    simp only [rowP, List.length_append]
    split <;> simp <;> omega
theorem allP_len (ts : List Task) (r : Rules) : ∀ a, (allP ts r a).length ≤ a * ts.length
  | 0 => by simp [allP]
  | a + 1 => by
    have := allP_len ts r a
    have := rowP_len ts r a ts.length
    simp only [allP, List.length_append, Nat.succ_mul]
    omega

/-- Sums over the arcs. -/
theorem suml_rowP (ts : List Task) (r : Rules) (a : Int) (G : Arc → Int) : ∀ b, ((rowP ts r a b).map G).sum = sumTo (fun b => if fok ts r a b then G (pr ts r a b) else 0) b
  | 0 => rfl
  | b + 1 => by
    simp only [rowP, List.map_append, List.sum_append, suml_rowP ts r a G b, sumTo]
    split <;> simp
theorem suml_allP (ts : List Task) (r : Rules) (G : Arc → Int) : ∀ a, ((allP ts r a).map G).sum = sumTo (fun a => sumTo (fun b => if fok ts r a b then G (pr ts r a b) else 0) ts.length) a
  | 0 => rfl
  | a + 1 => by simp only [allP, List.map_append, List.sum_append, suml_allP ts r G a, sumTo, suml_rowP]
theorem suml_baseA (n : Int) (G : Arc → Int) : ∀ t, ((baseA n t).map G).sum = sumTo (fun a => G (Arc.mk a (2 * n) 1 0) + G (Arc.mk (2 * n) (n + a) 1 0)) t
  | 0 => rfl
  | t + 1 => by simp [baseA, suml_baseA n G t, sumTo]
theorem suml_ar (E : List Arc) (G : Arc → Int) : sumTo (fun i => G (ar E i)) E.length = (E.map G).sum := by
  have : ∀ n, n ≤ E.length → sumTo (fun i => G (ar E i)) n = ((E.take n).map G).sum := by
    intro n
    induction n with
    | zero => intro _; simp [sumTo]
    | succ n ih =>
      intro h
      rw [sumTo, ih (by omega), List.take_succ_eq_append_getElem (by omega : n < E.length), List.map_append, List.sum_append]
      have : ar E n = E[n] := ar_get (by simp [(by omega : n < E.length)])
      rw [this]; simp
  rw [this _ (Nat.le_refl _), List.take_length]
theorem arc_sum (ts : List Task) (r : Rules) (G : Arc → Int) : sumTo (fun i => G (ar (arcsB ts r) i)) (arcsB ts r).length =
    sumTo (fun a => G (Arc.mk a (2 * ts.length) 1 0) + G (Arc.mk (2 * ts.length) (ts.length + a) 1 0)) ts.length + sumTo (fun a => sumTo (fun b => if fok ts r a b then G (pr ts r a b) else 0) ts.length) ts.length := by
  rw [suml_ar, arcsB, List.map_append, List.sum_append, suml_baseA, suml_allP]

/-- The arcs by number. -/
theorem arcsB_base (ts : List Task) (r : Rules) {a : Int} (a0 : 0 ≤ a) (a1 : a < ts.length) : ar (arcsB ts r) (2 * a) = Arc.mk a (2 * ts.length) 1 0 ∧ ar (arcsB ts r) (2 * a + 1) = Arc.mk (2 * ts.length) (ts.length + a) 1 0 := by
  obtain ⟨k, rfl⟩ : ∃ k : Nat, a = k := ⟨a.toNat, by omega⟩
  have hl := baseA_len ts.length ts.length
  obtain ⟨h1, h2⟩ := baseA_get ts.length ts.length k (by omega)
  unfold arcsB
  rw [ar_app1 _ _ (by omega) (by omega), ar_app1 _ _ (by omega) (by omega)]
  exact ⟨ar_get (by rw [← h1]; congr 1), ar_get (by rw [← h2]; congr 1)⟩
theorem arcsB_pair (ts : List Task) (r : Rules) {i : Int} (i0 : 2 * (ts.length : Int) ≤ i) (i1 : i < (arcsB ts r).length) :
    ∃ a b : Int, 0 ≤ a ∧ a < ts.length ∧ 0 ≤ b ∧ b < ts.length ∧ fok ts r a b = true ∧ ar (arcsB ts r) i = pr ts r a b := by
  have hl := baseA_len ts.length ts.length
  have hA : (arcsB ts r).length = 2 * ts.length + (allP ts r ts.length).length := by unfold arcsB; rw [List.length_append, hl]
  have hm : ar (arcsB ts r) i ∈ allP ts r ts.length := by
    unfold arcsB
    rw [ar_app2 _ _ (by omega)]
    exact ar_mem (by omega) (by omega)
  exact allP_mem.1 hm
theorem arcsB_find (ts : List Task) (r : Rules) {a b : Int} (a0 : 0 ≤ a) (a1 : a < ts.length) (b0 : 0 ≤ b) (b1 : b < ts.length) (hf : fok ts r a b = true) :
    ∃ i : Int, 2 * (ts.length : Int) ≤ i ∧ i < (arcsB ts r).length ∧ ar (arcsB ts r) i = pr ts r a b := by
  have hl := baseA_len ts.length ts.length
  have hA : (arcsB ts r).length = 2 * ts.length + (allP ts r ts.length).length := by unfold arcsB; rw [List.length_append, hl]
  have hm : pr ts r a b ∈ allP ts r ts.length := allP_mem.2 ⟨a, b, a0, a1, b0, b1, hf, rfl⟩
  obtain ⟨j, hj, e⟩ := List.mem_iff_getElem.1 hm
  refine ⟨2 * ts.length + j, by omega, by omega, ?_⟩
  unfold arcsB
  rw [ar_app2 _ _ (by omega)]
  exact ar_get (by rw [show (2 * (ts.length : Int) + j - (baseA ts.length ts.length).length).toNat = j by omega]; simp [hj, e])
theorem arcsB_inj (ts : List Task) (r : Rules) {i j : Int} (i0 : 2 * (ts.length : Int) ≤ i) (i1 : i < (arcsB ts r).length) (j0 : 2 * (ts.length : Int) ≤ j) (j1 : j < (arcsB ts r).length) (h : ar (arcsB ts r) i = ar (arcsB ts r) j) : i = j := by
  have hl := baseA_len ts.length ts.length
  have hA : (arcsB ts r).length = 2 * ts.length + (allP ts r ts.length).length := by unfold arcsB; rw [List.length_append, hl]
  unfold arcsB at h
  rw [ar_app2 _ _ (by omega), ar_app2 _ _ (by omega)] at h
  have hi : (i - (baseA ts.length ts.length).length).toNat < (allP ts r ts.length).length := by omega
  have hj : (j - (baseA ts.length ts.length).length).toNat < (allP ts r ts.length).length := by omega
  unfold ar at h
  simp only [List.getD_eq_getElem?_getD, List.getElem?_eq_getElem hi, List.getElem?_eq_getElem hj, Option.getD_some] at h
  have := (List.getElem_inj (allP_nodup ts r ts.length)).1 h
  omega

/-! ### Circulations as flows -/

def phi (ts : List Task) (next : List Int) (x : Arc) : Int :=
  if x.To = 2 * ts.length then (if gi next x.From = -1 then 1 else 0)
  else if x.From = 2 * ts.length then 1 - sumTo (fun a => if gi next a = x.To - ts.length then 1 else 0) ts.length
  else (if gi next x.From = x.To - ts.length then 1 else 0)

theorem phi_a (ts : List Task) (next : List Int) {a : Int} : phi ts next (Arc.mk a (2 * ts.length) 1 0) = if gi next a = -1 then 1 else 0 := by
  unfold phi; rw [if_pos rfl]
theorem phi_b (ts : List Task) (next : List Int) {b : Int} (b1 : b < ts.length) : phi ts next (Arc.mk (2 * ts.length) (ts.length + b) 1 0) = 1 - sumTo (fun a => if gi next a = b then 1 else 0) ts.length := by
  unfold phi
  rw [if_neg (by simp only; omega), if_pos rfl]
  simp only
  rw [show (ts.length : Int) + b - ts.length = b by omega]
theorem phi_p (ts : List Task) (r : Rules) (next : List Int) {a b : Int} (a1 : a < ts.length) (b1 : b < ts.length) : phi ts next (pr ts r a b) = if gi next a = b then 1 else 0 := by
  unfold phi pr
  rw [if_neg (by simp only; omega), if_neg (by simp only; omega)]
  simp only
  rw [show (ts.length : Int) + b - ts.length = b by omega]

/-- One of a circulation's tasks leads to a task at most. -/
theorem Circ.one {ts : List Task} {r : Rules} {next : List Int} (C : Circ ts r next) {b : Int} (b0 : 0 ≤ b) (b1 : b < ts.length) : sumTo (fun a => if gi next a = b then 1 else 0) ts.length = 0 ∧ (∀ a : Int, 0 ≤ a → a < ts.length → gi next a ≠ b) ∨
    sumTo (fun a => if gi next a = b then 1 else 0) ts.length = 1 ∧ ∃ a : Int, 0 ≤ a ∧ a < ts.length ∧ gi next a = b := by
  by_cases h : ∃ a : Int, 0 ≤ a ∧ a < ts.length ∧ gi next a = b
  · obtain ⟨a, a0, a1, e⟩ := h
    right
    refine ⟨?_, a, a0, a1, e⟩
    rw [sumTo_congr (g := fun i => if i = a then 1 else 0) (fun i i0 i1 => ?_), sumTo_ind a (fun _ => 1) _ a0 a1]
    by_cases c : i = a
    · rw [if_pos c, c, if_pos e]
    · rw [if_neg c, if_neg (fun e' => c (C.inj i a i0 i1 a0 a1 (e'.trans e.symm) (by omega)))]
  · left
    have h' : ∀ a : Int, 0 ≤ a → a < ts.length → gi next a ≠ b := fun a a0 a1 e => h ⟨a, a0, a1, e⟩
    exact ⟨sumTo_zero (fun i i0 i1 => by rw [if_neg (h' i i0 i1)]), h'⟩

theorem buildG_valid {ts : List Task} {r : Rules} (T : TV ts r) (hn : ts.length ≤ 20) {s : List Int} (hl : s.length = 2 * ts.length + 1) (hs : ∀ v : Int, 0 ≤ v → v ≤ 2 * ts.length → gi s v = supF ts.length v) : Valid (Graph.mk s (arcsB ts r)) := by
  have hb := baseA_len ts.length ts.length
  have hp := allP_len ts r ts.length
  have hq : ts.length * ts.length ≤ 20 * 20 := Nat.mul_le_mul hn hn
  have hA : (arcsB ts r).length = 2 * ts.length + (allP ts r ts.length).length := by unfold arcsB; rw [List.length_append, hb]
  refine ⟨by simp only; omega, by simp only; omega, by simp only; omega, ?_, ?_, ?_⟩
  · intro x hx
    obtain ⟨j, hj, e⟩ := mem_gi hx
    simp only at hj e
    rw [hs j (by omega) (by omega)] at e
    subst e
    unfold supF
    split
    · omega
    · split <;> omega
  · intro x hx
    simp only at hx ⊢
    unfold arcsB at hx
    rw [List.mem_append] at hx
    rcases hx with hx | hx
    · obtain ⟨j, hj, e⟩ := List.mem_iff_getElem.1 hx
      have h := baseA_get ts.length ts.length (j / 2) (by omega)
      by_cases ej : j % 2 = 0
      · have : (baseA ts.length ts.length)[j]? = some (Arc.mk ((j / 2 : Nat) : Int) (2 * ts.length) 1 0) := by rw [← h.1]; congr 1; omega
        rw [List.getElem?_eq_getElem hj, e] at this
        obtain rfl := Option.some.inj this
        simp only
        omega
      · have : (baseA ts.length ts.length)[j]? = some (Arc.mk (2 * ts.length) (ts.length + ((j / 2 : Nat) : Int)) 1 0) := by rw [← h.2]; congr 1; omega
        rw [List.getElem?_eq_getElem hj, e] at this
        obtain rfl := Option.some.inj this
        simp only
        omega
    · obtain ⟨a, b, a0, a1, b0, b1, _, rfl⟩ := allP_mem.1 hx
      have := T.sec a b
      unfold pr sec
      simp only
      omega
  · simp only
    rw [← sumTo_gi, hl, sumTo_congr (g := supF ts.length) (fun i i0 i1 => hs i i0 (by omega))]
    have key : ∀ k : Nat, k ≤ ts.length → sumTo (supF ts.length) (ts.length + k) = (ts.length : Int) - k := by
      intro k
      induction k with
      | zero =>
        intro _
        rw [Nat.add_zero, sumTo_congr (g := fun _ => 1) (fun i i0 i1 => by unfold supF; rw [if_pos i1]), sumTo_const]; simp
      | succ k ih =>
        intro hk
        rw [← Nat.add_assoc, sumTo, ih (by omega)]
        unfold supF
        rw [if_neg (by omega), if_pos (by omega)]
        omega
    have := key ts.length (Nat.le_refl _)
    rw [show 2 * ts.length + 1 = ts.length + ts.length + 1 by omega, sumTo, this]
    unfold supF
    rw [if_neg (by omega), if_neg (by omega)]
    omega

theorem phi_feas {ts : List Task} {r : Rules} (T : TV ts r) (hn : ts.length ≤ 20) {s : List Int} (hl : s.length = 2 * ts.length + 1) (hs : ∀ v : Int, 0 ≤ v → v ≤ 2 * ts.length → gi s v = supF ts.length v) {next : List Int} (C : Circ ts r next) :
    Feas (Graph.mk s (arcsB ts r)) ((arcsB ts r).map (phi ts next)) ∧ costS (Graph.mk s (arcsB ts r)) ((arcsB ts r).map (phi ts next)) = emp ts r next ts.length - 288001 * jn next ts.length := by
  have V := buildG_valid T hn hl hs
  have gm : ∀ i : Int, 0 ≤ i → i < (arcsB ts r).length → gi ((arcsB ts r).map (phi ts next)) i = phi ts next (ar (arcsB ts r) i) := fun i i0 i1 => by
    have h : i.toNat < (arcsB ts r).length := by omega
    unfold gi ar; simp [h]
  have rowsum : ∀ (a : Int), 0 ≤ a → a < ts.length → ∀ g : Int → Int, sumTo (fun b => if fok ts r a b then (if gi next a = b then 1 else 0) * g b else 0) ts.length = if gi next a = -1 then 0 else g (gi next a) := by
    intro a a0 a1 g
    rcases C.ok a a0 a1 with h | ⟨h0, h1, h2⟩
    · rw [if_pos h]
      refine sumTo_zero (fun b b0 b1 => ?_)
      split
      · rw [if_neg (by omega)]; simp
      · rfl
    · rw [if_neg (by omega), sumTo_congr (g := fun b => if b = gi next a then g b else 0) (fun b b0 b1 => ?_), sumTo_ind _ g _ h0 h1]
      by_cases e : b = gi next a
      · rw [if_pos e, e, if_pos h2, if_pos rfl]; simp
      · rw [if_neg e]
        split
        · rw [if_neg (Ne.symm e)]; simp
        · rfl
  have net : ∀ v : Int, netf (Graph.mk s (arcsB ts r)) ((arcsB ts r).map (phi ts next)) v =
      sumTo (fun a => (if gi next a = -1 then 1 else 0) * ((if a = v then 1 else 0) - (if 2 * (ts.length : Int) = v then 1 else 0)) + (1 - sumTo (fun c => if gi next c = a then 1 else 0) ts.length) * ((if 2 * (ts.length : Int) = v then 1 else 0) - (if ts.length + a = v then 1 else 0))) ts.length +
      sumTo (fun a => if gi next a = -1 then 0 else ((if a = v then 1 else 0) - (if ts.length + gi next a = v then 1 else 0))) ts.length := by
    intro v
    unfold netf
    simp only
    rw [sumTo_congr (g := fun i => (fun x : Arc => phi ts next x * ((if x.From = v then 1 else 0) - (if x.To = v then 1 else 0))) (ar (arcsB ts r) i)) (fun i i0 i1 => by rw [gm i i0 i1]), arc_sum ts r (fun x : Arc => phi ts next x * ((if x.From = v then 1 else 0) - (if x.To = v then 1 else 0)))]
    congr 1
    · refine sumTo_congr (fun a a0 a1 => ?_)
      simp only
      rw [phi_a, phi_b ts next a1]
    · refine sumTo_congr (fun a a0 a1 => ?_)
      rw [sumTo_congr (g := fun b => if fok ts r a b then (if gi next a = b then 1 else 0) * ((if a = v then 1 else 0) - (if ts.length + b = v then 1 else 0)) else 0) (fun b b0 b1 => ?_), rowsum a a0 a1]
      split
      · rw [phi_p ts r next a1 b1]; rfl
      · rfl
  refine ⟨⟨by simp, ?_, ?_⟩, ?_⟩
  · intro i i0 i1
    simp only at i1 ⊢
    rw [gm i i0 i1]
    by_cases e : i < 2 * ts.length
    · have h := arcsB_base ts r (a := i / 2) (by omega) (by omega)
      by_cases ei : i % 2 = 0
      · rw [show i = 2 * (i / 2) by omega, h.1, phi_a]; simp only; split <;> omega
      · rw [show i = 2 * (i / 2) + 1 by omega, h.2, phi_b ts next (by omega)]
        simp only
        rcases C.one (b := i / 2) (by omega) (by omega) with ⟨e, _⟩ | ⟨e, _⟩ <;> rw [e] <;> omega
    · obtain ⟨a, b, a0, a1, b0, b1, _, h⟩ := arcsB_pair ts r (by omega) i1
      rw [h, phi_p ts r next a1 b1]
      unfold pr
      simp only
      split <;> omega
  · -- conservation
    have low : ∀ v : Int, 0 ≤ v → v < ts.length → netf (Graph.mk s (arcsB ts r)) ((arcsB ts r).map (phi ts next)) v = 1 := by
      intro v v0 v1
      rw [net v, ← sumTo_add, sumTo_congr (g := fun a => if a = v then 1 else 0) (fun a a0 a1 => ?_), sumTo_ind v (fun _ => 1) _ v0 v1]
      rw [if_neg (show ¬ 2 * (ts.length : Int) = v by omega), if_neg (show ¬ (ts.length : Int) + a = v by omega)]
      rcases C.ok a a0 a1 with h | ⟨h0, h1, h2⟩
      · rw [if_pos h, if_pos h]; split <;> simp
      · rw [if_neg (show ¬ gi next a = -1 by omega), if_neg (show ¬ gi next a = -1 by omega), if_neg (show ¬ (ts.length : Int) + gi next a = v by omega)]; split <;> simp
    have mid : ∀ b : Int, 0 ≤ b → b < ts.length → netf (Graph.mk s (arcsB ts r)) ((arcsB ts r).map (phi ts next)) (ts.length + b) = -1 := by
      intro b b0 b1
      rw [net (ts.length + b)]
      have e1 : sumTo (fun a => (if gi next a = -1 then 1 else 0) * ((if a = ts.length + b then 1 else 0) - (if 2 * (ts.length : Int) = ts.length + b then 1 else 0)) + (1 - sumTo (fun c => if gi next c = a then 1 else 0) ts.length) * ((if 2 * (ts.length : Int) = ts.length + b then 1 else 0) - (if (ts.length : Int) + a = ts.length + b then 1 else 0))) ts.length = -(1 - sumTo (fun c => if gi next c = b then 1 else 0) ts.length) := by
        rw [sumTo_congr (g := fun a => if a = b then -(1 - sumTo (fun c => if gi next c = a then 1 else 0) ts.length) else 0) (fun a a0 a1 => ?_), sumTo_ind b (fun a => -(1 - sumTo (fun c => if gi next c = a then 1 else 0) ts.length)) _ b0 b1]
        rw [if_neg (show ¬ a = ts.length + b by omega), if_neg (show ¬ 2 * (ts.length : Int) = ts.length + b by omega)]
        by_cases e : a = b
        · rw [if_pos (show (ts.length : Int) + a = ts.length + b by omega), if_pos e]; simp
        · rw [if_neg (show ¬ (ts.length : Int) + a = ts.length + b by omega), if_neg e]; simp
      have e2 : sumTo (fun a => if gi next a = -1 then 0 else ((if a = ts.length + b then 1 else 0) - (if (ts.length : Int) + gi next a = ts.length + b then 1 else 0))) ts.length = - sumTo (fun c => if gi next c = b then 1 else 0) ts.length := by
        rw [← sumTo_neg]
        refine sumTo_congr (fun a a0 a1 => ?_)
        rw [if_neg (show ¬ a = ts.length + b by omega)]
        by_cases e : gi next a = b
        · rw [if_neg (by omega), if_pos (by omega), if_pos e]; rfl
        · rw [if_neg (show ¬ (ts.length : Int) + gi next a = ts.length + b by omega), if_neg e]; split <;> rfl
      rw [e1, e2]; omega
    intro v v0 v1
    simp only at v1
    rw [hs v v0 (by omega)]
    by_cases c1 : v < ts.length
    · rw [low v v0 c1]; unfold supF; rw [if_pos c1]
    · by_cases c2 : v < 2 * ts.length
      · have := mid (v - ts.length) (by omega) (by omega)
        rw [show (ts.length : Int) + (v - ts.length) = v by omega] at this
        rw [this]; unfold supF; rw [if_neg c1, if_pos c2]
      · obtain rfl : v = 2 * ts.length := by omega
        have all := sum_net _ V ((arcsB ts r).map (phi ts next)) (fun _ => 1)
        simp only at all
        have z : sumTo (fun i => gi ((arcsB ts r).map (phi ts next)) i * ((1 : Int) - 1)) (arcsB ts r).length = 0 := sumTo_zero (fun i _ _ => by simp)
        rw [z] at all
        have key : ∀ k : Nat, k ≤ ts.length → sumTo (fun v => 1 * netf (Graph.mk s (arcsB ts r)) ((arcsB ts r).map (phi ts next)) v) (ts.length + k) = (ts.length : Int) - k := by
          intro k
          induction k with
          | zero =>
            intro _
            rw [Nat.add_zero, sumTo_congr (g := fun _ => 1) (fun i i0 i1 => by rw [low i i0 i1]; rfl), sumTo_const]; simp
          | succ k ih =>
            intro hk
            rw [← Nat.add_assoc, sumTo, ih (by omega)]
            have := mid k (by omega) (by omega)
            rw [show ((ts.length + k : Nat) : Int) = ts.length + (k : Int) by omega, this]
            omega
        have h2 := key ts.length (Nat.le_refl _)
        rw [hl, show 2 * ts.length + 1 = ts.length + ts.length + 1 by omega, sumTo, h2] at all
        rw [show ((ts.length + ts.length : Nat) : Int) = 2 * (ts.length : Int) by omega] at all
        unfold supF
        rw [if_neg c1, if_neg c2]
        omega
  · unfold costS
    simp only
    rw [sumTo_congr (g := fun i => (fun x : Arc => phi ts next x * x.Cost) (ar (arcsB ts r) i)) (fun i i0 i1 => by rw [gm i i0 i1]), arc_sum ts r (fun x : Arc => phi ts next x * x.Cost)]
    rw [sumTo_zero (fun a a0 a1 => by simp), Int.zero_add]
    unfold emp jn
    rw [← sumTo_mul, ← sumTo_sub]
    refine sumTo_congr (fun a a0 a1 => ?_)
    rw [sumTo_congr (g := fun b => if fok ts r a b then (if gi next a = b then 1 else 0) * (sec ts r a b - 288001) else 0) (fun b b0 b1 => ?_), rowsum a a0 a1]
    · rcases C.ok a a0 a1 with h | ⟨h0, _⟩
      · rw [if_pos h, if_neg (by omega), if_pos h]; rfl
      · rw [if_neg (by omega), if_pos h0, if_neg (by omega)]; omega
    · split
      · rw [phi_p ts r next a1 b1]; rfl
      · rfl
end Go.Proofs.Ytedocibniankjaa
