/- Plain laws of chapter 27: the residual network and its cheapest ways. -/
import Derived.Test.YtedocibniankjaaQ1
import Derived.Test.YtedocibniankjaaFs
namespace Go.Proofs.Ytedocibniankjaa
open Go.Dc

theorem bx {h : Int} (h0 : 0 ≤ h) (h1 : h < 1000000) : bitsXor .i64 h 1 = xr h := bitsXor_one h0 (by omega)
theorem xr_xr (h : Int) : xr (xr h) = h := by unfold xr; split <;> split <;> omega
theorem xr_ne (h : Int) : xr h ≠ h := by unfold xr; split <;> omega
theorem xr_div (h : Int) : xr h / 2 = h / 2 := by unfold xr; split <;> omega
theorem xr_rng {h : Int} {m : Nat} (h0 : 0 ≤ h) (h1 : h < 2 * (m : Int)) : 0 ≤ xr h ∧ xr h < 2 * (m : Int) := by unfold xr; split <;> omega
theorem xr_inj {h k : Int} (e : xr h = xr k) : h = k := by rw [← xr_xr h, e, xr_xr]

def flat2 (f g : Arc → Int) (E : List Arc) : List Int := E.flatMap (fun a => [f a, g a])
def toL (E : List Arc) : List Int := flat2 (·.To) (·.From) E
def costL (E : List Arc) : List Int := flat2 (·.Cost) (fun a => -a.Cost) E
def leftL (E : List Arc) : List Int := flat2 (·.Cap) (fun _ => 0) E
def ar (E : List Arc) (i : Int) : Arc := E.getD i.toNat default

theorem flat2_len (f g : Arc → Int) : ∀ E, (flat2 f g E).length = 2 * E.length
  | [] => rfl
  | a :: E => by
    have := flat2_len f g E
    simp only [flat2, List.flatMap_cons, List.length_append, List.length_cons, List.length_nil] at this ⊢
    omega
theorem flat2_get (f g : Arc → Int) : ∀ (E : List Arc) (i : Nat), i < E.length → (flat2 f g E).getD (2 * i) 0 = f (E.getD i default) ∧ (flat2 f g E).getD (2 * i + 1) 0 = g (E.getD i default)
  | [], i, h => by simp at h
  | a :: E, 0, _ => by simp [flat2]
  | a :: E, i + 1, h => by
    have := flat2_get f g E i (by simpa using h)
    have e : flat2 f g (a :: E) = f a :: g a :: flat2 f g E := by simp [flat2]
    rw [e]
    have e1 : 2 * (i + 1) = (2 * i) + 1 + 1 := by omega
    have e2 : 2 * (i + 1) + 1 = (2 * i + 1) + 1 + 1 := by omega
    rw [e2, e1]
    simpa using this
theorem flat2_even (f g : Arc → Int) (E : List Arc) (h : Int) (h0 : 0 ≤ h) (h1 : h < 2 * (E.length : Int)) (he : h % 2 = 0) : gi (flat2 f g E) h = f (ar E (h / 2)) := by
  have := (flat2_get f g E (h / 2).toNat (by omega)).1
  unfold gi ar
  rw [← this]
  congr 1
  omega
theorem flat2_odd (f g : Arc → Int) (E : List Arc) (h : Int) (h0 : 0 ≤ h) (h1 : h < 2 * (E.length : Int)) (he : h % 2 ≠ 0) : gi (flat2 f g E) h = g (ar E (h / 2)) := by
  have := (flat2_get f g E (h / 2).toNat (by omega)).2
  unfold gi ar
  rw [← this]
  congr 1
  omega

def ART : Int := 201326592
/-- The network: its arcs, then two arcs between each node and the hub. -/
structure St (n A : Int) (E : List Arc) (fr : List (List Int)) : Prop where
  n1 : 1 ≤ n
  n2 : n ≤ 96
  A0 : 0 ≤ A
  A1 : A ≤ 1024
  len : (E.length : Int) = A + 2 * n
  rng : ∀ i : Int, 0 ≤ i → i < E.length → 0 ≤ (ar E i).From ∧ (ar E i).From ≤ n ∧ 0 ≤ (ar E i).To ∧ (ar E i).To ≤ n ∧ (ar E i).From ≠ (ar E i).To ∧ 0 ≤ (ar E i).Cap ∧ (ar E i).Cap ≤ 1099511627776 ∧ -201326592 ≤ (ar E i).Cost ∧ (ar E i).Cost ≤ 201326592
  net : ∀ i : Int, 0 ≤ i → i < A → (ar E i).From < n ∧ (ar E i).To < n ∧ (ar E i).Cap ≤ 1048576 ∧ -1048576 ≤ (ar E i).Cost ∧ (ar E i).Cost ≤ 1048576
  art1 : ∀ v : Int, 0 ≤ v → v < n → ar E (A + 2 * v) = ⟨v, n, 1099511627776, 201326592⟩
  art2 : ∀ v : Int, 0 ≤ v → v < n → ar E (A + 2 * v + 1) = ⟨n, v, 1099511627776, 201326592⟩
  lf : (fr.length : Int) = n + 1
  frm : ∀ v : Int, 0 ≤ v → v ≤ n → ∀ h ∈ gll fr v, 0 ≤ h ∧ h < 2 * (E.length : Int) ∧ gi (toL E) (xr h) = v
  fra : ∀ h : Int, 0 ≤ h → h < 2 * (E.length : Int) → h ∈ gll fr (gi (toL E) (xr h))

theorem St.lenb {n A : Int} {E : List Arc} {fr : List (List Int)} (s : St n A E fr) : (E.length : Int) ≤ 1216 := by
  have := s.len; have := s.n2; have := s.A1; omega
theorem toL_len (E : List Arc) : ((toL E).length : Int) = 2 * (E.length : Int) := by
  have := flat2_len (·.To) (·.From) E
  unfold toL; omega
theorem costL_len (E : List Arc) : ((costL E).length : Int) = 2 * (E.length : Int) := by
  have := flat2_len (·.Cost) (fun a => -a.Cost) E
  unfold costL; omega
theorem leftL_len (E : List Arc) : ((leftL E).length : Int) = 2 * (E.length : Int) := by
  have := flat2_len (·.Cap) (fun _ => 0) E
  unfold leftL; omega
theorem St.t {n A : Int} {E : List Arc} {fr : List (List Int)} (s : St n A E fr) {h : Int} (h0 : 0 ≤ h) (h1 : h < 2 * (E.length : Int)) : 0 ≤ gi (toL E) h ∧ gi (toL E) h ≤ n := by
  obtain ⟨a, b, c, d, _⟩ := s.rng (h / 2) (by omega) (by omega)
  by_cases e : h % 2 = 0
  · unfold toL; rw [flat2_even _ _ _ _ h0 h1 e]; exact ⟨c, d⟩
  · unfold toL; rw [flat2_odd _ _ _ _ h0 h1 e]; exact ⟨a, b⟩
theorem St.tne {n A : Int} {E : List Arc} {fr : List (List Int)} (s : St n A E fr) {h : Int} (h0 : 0 ≤ h) (h1 : h < 2 * (E.length : Int)) : gi (toL E) h ≠ gi (toL E) (xr h) := by
  obtain ⟨_, _, _, _, a, _⟩ := s.rng (h / 2) (by omega) (by omega)
  have hx := xr_rng h0 h1
  have hd := xr_div h
  by_cases e : h % 2 = 0
  · have e' : xr h % 2 ≠ 0 := by unfold xr; split <;> omega
    unfold toL; rw [flat2_even _ _ _ _ h0 h1 e, flat2_odd _ _ _ _ hx.1 hx.2 e', hd]; exact fun x => a x.symm
  · have e' : xr h % 2 = 0 := by unfold xr; split <;> omega
    unfold toL; rw [flat2_odd _ _ _ _ h0 h1 e, flat2_even _ _ _ _ hx.1 hx.2 e', hd]; exact a
theorem costL_xr (E : List Arc) {h : Int} (h0 : 0 ≤ h) (h1 : h < 2 * (E.length : Int)) : gi (costL E) (xr h) = - gi (costL E) h := by
  have hx := xr_rng h0 h1
  have hd := xr_div h
  by_cases e : h % 2 = 0
  · have e' : xr h % 2 ≠ 0 := by unfold xr; split <;> omega
    unfold costL; rw [flat2_even _ _ _ _ h0 h1 e, flat2_odd _ _ _ _ hx.1 hx.2 e', hd]
  · have e' : xr h % 2 = 0 := by unfold xr; split <;> omega
    unfold costL; rw [flat2_odd _ _ _ _ h0 h1 e, flat2_even _ _ _ _ hx.1 hx.2 e', hd]; omega
theorem St.c {n A : Int} {E : List Arc} {fr : List (List Int)} (s : St n A E fr) {h : Int} (h0 : 0 ≤ h) (h1 : h < 2 * (E.length : Int)) : -201326592 ≤ gi (costL E) h ∧ gi (costL E) h ≤ 201326592 := by
  obtain ⟨_, _, _, _, _, _, _, a, b⟩ := s.rng (h / 2) (by omega) (by omega)
  by_cases e : h % 2 = 0
  · unfold costL; rw [flat2_even _ _ _ _ h0 h1 e]; exact ⟨a, b⟩
  · unfold costL; rw [flat2_odd _ _ _ _ h0 h1 e]; omega

def red (E : List Arc) (price : List Int) (h : Int) : Int := gi (costL E) h + gi price (gi (toL E) (xr h)) - gi price (gi (toL E) h)
theorem red_xr (E : List Arc) (price : List Int) {h : Int} (h0 : 0 ≤ h) (h1 : h < 2 * (E.length : Int)) : red E price (xr h) = - red E price h := by
  unfold red; rw [costL_xr E h0 h1, xr_xr]; omega

/-- What leaves a node by the arcs. -/
def outf (E : List Arc) (left : List Int) (v : Int) : Int :=
  sumTo (fun i => gi left (2 * i + 1) * ((if (ar E i).From = v then 1 else 0) - (if (ar E i).To = v then 1 else 0))) E.length

/-- A flow and what has to leave each node still. -/
structure Dy (n : Int) (E : List Arc) (sup : List Int) (left exc price : List Int) : Prop where
  ll : (left.length : Int) = 2 * (E.length : Int)
  le : (exc.length : Int) = n + 1
  lp : (price.length : Int) = n + 1
  l0 : ∀ h : Int, 0 ≤ h → h < 2 * (E.length : Int) → 0 ≤ gi left h
  cap : ∀ h : Int, 0 ≤ h → h < 2 * (E.length : Int) → gi left h + gi left (xr h) = (ar E (h / 2)).Cap
  con : ∀ v : Int, 0 ≤ v → v ≤ n → gi exc v + outf E left v = gi sup v
  tot : sumTo (gi exc) (n + 1).toNat = 0

/-- What sending does. -/
structure Sent (E : List Arc) (h a : Int) (left exc left' exc' : List Int) : Prop where
  l1 : left'.length = left.length
  l2 : exc'.length = exc.length
  g1 : ∀ k : Int, 0 ≤ k → gi left' k = if k = h then gi left k - a else if k = xr h then gi left k + a else gi left k
  g2 : ∀ v : Int, 0 ≤ v → gi exc' v = gi exc v - (if v = gi (toL E) (xr h) then a else 0) + (if v = gi (toL E) h then a else 0)

theorem sent_out {n A : Int} {E : List Arc} {fr : List (List Int)} (s : St n A E fr) {h a : Int} {left exc left' exc' : List Int} (S : Sent E h a left exc left' exc') (h0 : 0 ≤ h) (h1 : h < 2 * (E.length : Int)) (v : Int) :
    outf E left' v = outf E left v + (if v = gi (toL E) (xr h) then a else 0) - (if v = gi (toL E) h then a else 0) := by
  have hx := xr_rng h0 h1
  have hd := xr_div h
  unfold outf
  rw [sumTo_upd (f := fun i => gi left (2 * i + 1) * ((if (ar E i).From = v then 1 else 0) - (if (ar E i).To = v then 1 else 0))) (h / 2) (n := E.length) (by omega) (by omega)]
  · have e1 := S.g1 (2 * (h / 2) + 1) (by omega)
    have hne := s.tne h0 h1
    rcases (by omega : h % 2 = 0 ∨ h % 2 = 1) with e | e
    · have ex : xr h = h + 1 := by unfold xr; rw [if_pos e]
      have e2 : 2 * (h / 2) + 1 = xr h := by omega
      rw [e2] at e1 ⊢
      rw [e1, if_neg (by omega), if_pos rfl]
      have t1 : gi (toL E) h = (ar E (h / 2)).To := by unfold toL; rw [flat2_even _ _ _ _ h0 h1 e]
      have t2 : gi (toL E) (xr h) = (ar E (h / 2)).From := by unfold toL; rw [flat2_odd _ _ _ _ hx.1 hx.2 (by omega), hd]
      rw [t1, t2] at hne ⊢
      by_cases c1 : v = (ar E (h / 2)).From
      · have c2 : v ≠ (ar E (h / 2)).To := fun x => hne (x.symm.trans c1)
        rw [if_pos c1.symm, if_neg (Ne.symm c2), if_pos c1, if_neg c2]; omega
      · by_cases c2 : v = (ar E (h / 2)).To
        · rw [if_neg (Ne.symm c1), if_pos c2.symm, if_neg c1, if_pos c2]; omega
        · rw [if_neg (Ne.symm c1), if_neg (Ne.symm c2), if_neg c1, if_neg c2]; omega
    · have ex : xr h = h - 1 := by unfold xr; rw [if_neg (by omega)]
      have e2 : 2 * (h / 2) + 1 = h := by omega
      rw [e2] at e1 ⊢
      rw [e1, if_pos rfl]
      have t1 : gi (toL E) h = (ar E (h / 2)).From := by unfold toL; rw [flat2_odd _ _ _ _ h0 h1 (by omega)]
      have t2 : gi (toL E) (xr h) = (ar E (h / 2)).To := by unfold toL; rw [flat2_even _ _ _ _ hx.1 hx.2 (by omega), hd]
      rw [t1, t2] at hne ⊢
      by_cases c1 : v = (ar E (h / 2)).From
      · have c2 : v ≠ (ar E (h / 2)).To := fun x => hne (c1.symm.trans x)
        rw [if_pos c1.symm, if_neg (Ne.symm c2), if_pos c1, if_neg c2]; omega
      · by_cases c2 : v = (ar E (h / 2)).To
        · rw [if_neg (Ne.symm c1), if_pos c2.symm, if_neg c1, if_pos c2]; omega
        · rw [if_neg (Ne.symm c1), if_neg (Ne.symm c2), if_neg c1, if_neg c2]; omega
  · intro i i0 i1 hne
    have := S.g1 (2 * i + 1) (by omega)
    rw [if_neg (by omega), if_neg (by omega)] at this
    simp only [this]

theorem sent_tot {n A : Int} {E : List Arc} {fr : List (List Int)} (s : St n A E fr) {h a : Int} {left exc left' exc' : List Int} (S : Sent E h a left exc left' exc') (h0 : 0 ≤ h) (h1 : h < 2 * (E.length : Int)) :
    sumTo (gi exc') (n + 1).toNat = sumTo (gi exc) (n + 1).toNat := by
  have hx := xr_rng h0 h1
  have t1 := s.t h0 h1
  have t2 := s.t hx.1 hx.2
  have n1 := s.n1
  rw [sumTo_congr (g := fun v => (gi exc v - (if v = gi (toL E) (xr h) then a else 0)) + (if v = gi (toL E) h then a else 0)) (fun i i0 _ => S.g2 i i0), sumTo_add, sumTo_sub,
    sumTo_ind (gi (toL E) (xr h)) (fun _ => a) _ t2.1 (by omega), sumTo_ind (gi (toL E) h) (fun _ => a) _ t1.1 (by omega)]
  omega

theorem Dy.sent {n A : Int} {E : List Arc} {fr : List (List Int)} (s : St n A E fr) {sup left exc price : List Int} (d : Dy n E sup left exc price) {h a : Int} {left' exc' : List Int} (S : Sent E h a left exc left' exc')
    (h0 : 0 ≤ h) (h1 : h < 2 * (E.length : Int)) (ha : 0 ≤ a) (hl : a ≤ gi left h) : Dy n E sup left' exc' price where
  ll := by rw [S.l1]; exact d.ll
  le := by rw [S.l2]; exact d.le
  lp := d.lp
  l0 := fun k k0 k1 => by
    have := d.l0 k k0 k1
    rw [S.g1 k k0]
    split
    · subst k; omega
    · split <;> omega
  cap := fun k k0 k1 => by
    have e := d.cap k k0 k1
    have hx := xr_rng k0 k1
    rw [S.g1 k k0, S.g1 _ hx.1, ← e]
    by_cases c1 : k = h
    · subst k; rw [if_pos rfl, if_neg (xr_ne h), if_pos rfl]; omega
    · by_cases c2 : k = xr h
      · subst k; rw [if_neg c1, if_pos rfl, xr_xr, if_pos rfl]; omega
      · rw [if_neg c1, if_neg c2, if_neg (fun x => c2 (by rw [← x, xr_xr])), if_neg (fun x => c1 (xr_inj x))]
  con := fun v v0 v1 => by
    have := d.con v v0 v1
    rw [sent_out s S h0 h1, S.g2 v v0]
    omega
  tot := by rw [sent_tot s S h0 h1]; exact d.tot

/-- What the nodes with an excess have together. -/
def pos (n : Int) (exc : List Int) : Int := sumTo (fun v => max (gi exc v) 0) (n + 1).toNat

theorem pos_bound {n : Int} {exc : List Int} (h : sumTo (gi exc) (n + 1).toNat = 0) {v : Int} (v0 : 0 ≤ v) (v1 : v ≤ n) : - pos n exc ≤ gi exc v ∧ gi exc v ≤ pos n exc := by
  unfold pos
  constructor
  · have a := sumTo_sub (fun v => max (gi exc v) 0) (gi exc) (n + 1).toNat
    have b := sumTo_ge (f := fun v => max (gi exc v) 0 - gi exc v) (n := (n + 1).toNat) (fun i _ _ => by omega) v v0 (by omega)
    omega
  · have b := sumTo_ge (f := fun v => max (gi exc v) 0) (n := (n + 1).toNat) (fun i _ _ => by omega) v v0 (by omega)
    omega
theorem pos_nonneg {n : Int} {exc : List Int} : 0 ≤ pos n exc := sumTo_nonneg (fun i _ _ => by omega)

theorem sent_pos {n A : Int} {E : List Arc} {fr : List (List Int)} (s : St n A E fr) {h a : Int} {left exc left' exc' : List Int} (S : Sent E h a left exc left' exc') (h0 : 0 ≤ h) (h1 : h < 2 * (E.length : Int)) (ha : 0 ≤ a) :
    pos n exc' ≤ pos n exc + a := by
  have t1 := s.t h0 h1
  have n1 := s.n1
  have := sumTo_le (f := fun v => max (gi exc' v) 0) (g := fun v => max (gi exc v) 0 + (if v = gi (toL E) h then a else 0)) (n := (n + 1).toNat) (fun i i0 _ => by
    rw [S.g2 i i0]; split <;> split <;> omega)
  rw [sumTo_add, sumTo_ind (gi (toL E) h) (fun _ => a) _ t1.1 (by omega)] at this
  exact this

theorem send_wp {n A : Int} {E : List Arc} {fr : List (List Int)} (s : St n A E fr) {left exc price : List Int} {h a x y : Int} (ll : (left.length : Int) = 2 * (E.length : Int)) (le : (exc.length : Int) = n + 1)
    (h0 : 0 ≤ h) (h1 : h < 2 * (E.length : Int)) (ha : 0 ≤ a) (ha' : a ≤ 1000000000000000)
    (bl : ∀ k : Int, 0 ≤ k → k < 2 * (E.length : Int) → 0 ≤ gi left k ∧ gi left k ≤ 1000000000000000)
    (be : ∀ v : Int, 0 ≤ v → v ≤ n → -1000000000000000 ≤ gi exc v ∧ gi exc v ≤ 1000000000000000) :
    WP (flow_residual_send_m (Flow_residual.mk x y (toL E) left (costL E) fr exc price) h a) (fun z => Sent E h a left exc z.1 z.2) := by
  have hx := xr_rng h0 h1
  have t1 := s.t h0 h1
  have t2 := s.t hx.1 hx.2
  have tne := s.tne h0 h1
  have b1 := bl h h0 h1
  have b2 := bl _ hx.1 hx.2
  have b3 := be _ t1.1 t1.2
  have b4 := be _ t2.1 t2.2
  have hb := s.lenb
  have tl := toL_len E
  unfold flow_residual_send_m
  simp only [bx h0 (by omega)]
  have g1 : ∀ j x, 0 ≤ j → gi (left.set h.toNat x) j = if j = h then x else gi left j := fun j x hj => gi_set left h j x h0 hj (by omega)
  have g2 : ∀ j x, 0 ≤ j → gi (exc.set (gi (toL E) (xr h)).toNat x) j = if j = gi (toL E) (xr h) then x else gi exc j := fun j x hj => gi_set exc _ j x t2.1 hj (by omega)
  refine wp_idxi (by omega) (wp_i64 (by omega) (wp_idxi (by omega) (wp_idxi (by rw [List.length_set]; omega) ?_)))
  rw [g1 _ _ hx.1, if_neg (xr_ne h)]
  refine wp_i64 (by omega) (wp_idxi (by rw [List.length_set]; omega) (wp_idxi (by omega) (wp_idxi (by omega) (wp_i64 (by omega) (wp_idxi (by omega) (wp_idxi (by omega) (wp_idxi (by rw [List.length_set]; omega) ?_)))))))
  rw [g2 _ _ t1.1, if_neg tne]
  refine wp_i64 (by omega) (wp_idxi (by rw [List.length_set]; omega) (wp_some ?_))
  refine ⟨by simp, by simp, ?_, ?_⟩
  · intro k k0
    simp only
    rw [gi_set _ _ _ _ hx.1 k0 (by rw [List.length_set]; omega), g1 _ _ k0]
    by_cases c : k = h
    · subst k; rw [if_neg (Ne.symm (xr_ne h)), if_pos rfl, if_pos rfl]
    · rw [if_neg c, if_neg c]; by_cases c2 : k = xr h
      · subst k; rw [if_pos rfl]
      · rw [if_neg c2, if_neg c2]
  · intro v v0
    simp only
    rw [gi_set _ _ _ _ t1.1 v0 (by rw [List.length_set]; omega), g2 _ _ v0]
    by_cases c : v = gi (toL E) h
    · subst v; rw [if_pos rfl, if_neg tne, if_pos rfl]; omega
    · rw [if_neg c, if_neg c]; by_cases c2 : v = gi (toL E) (xr h)
      · subst v; rw [if_pos rfl]; omega
      · rw [if_neg c2, if_neg c2]; omega

theorem red_wp {n A : Int} {E : List Arc} {fr : List (List Int)} (s : St n A E fr) {left exc price : List Int} {h x y : Int} (lp : (price.length : Int) = n + 1)
    (h0 : 0 ≤ h) (h1 : h < 2 * (E.length : Int)) (bp : ∀ v : Int, 0 ≤ v → v ≤ n → 0 ≤ gi price v ∧ gi price v ≤ 2000000000000000000) :
    flow_residual_reduced_m (Flow_residual.mk x y (toL E) left (costL E) fr exc price) h = some (red E price h) := by
  have hx := xr_rng h0 h1
  have t1 := s.t h0 h1
  have t2 := s.t hx.1 hx.2
  have c := s.c h0 h1
  have b3 := bp _ t1.1 t1.2
  have b4 := bp _ t2.1 t2.2
  have hb := s.lenb
  have tl := toL_len E
  have cl := costL_len E
  have : WP (flow_residual_reduced_m (Flow_residual.mk x y (toL E) left (costL E) fr exc price) h) (fun z => z = red E price h) := by
    unfold flow_residual_reduced_m
    simp only [bx h0 (by omega)]
    exact wp_idxi (by omega) (wp_idxi (by omega) (wp_idxi (by omega) (wp_i64 (by omega) (wp_idxi (by omega) (wp_idxi (by omega) (wp_i64 (by omega) (wp_some rfl)))))))
  obtain ⟨z, h1, rfl⟩ := this
  exact h1

theorem St.a1 {n A : Int} {E : List Arc} {fr : List (List Int)} (s : St n A E fr) {v : Int} (v0 : 0 ≤ v) (v1 : v < n) :
    0 ≤ 2 * (A + 2 * v) ∧ 2 * (A + 2 * v) < 2 * (E.length : Int) ∧ gi (toL E) (2 * (A + 2 * v)) = n ∧ gi (toL E) (xr (2 * (A + 2 * v))) = v ∧ gi (costL E) (2 * (A + 2 * v)) = 201326592 := by
  have := s.len; have := s.A0
  have r0 : 0 ≤ 2 * (A + 2 * v) := by omega
  have r1 : 2 * (A + 2 * v) < 2 * (E.length : Int) := by omega
  have hx := xr_rng r0 r1
  have e : ar E (2 * (A + 2 * v) / 2) = ⟨v, n, 1099511627776, 201326592⟩ := by
    rw [show 2 * (A + 2 * v) / 2 = A + 2 * v by omega]; exact s.art1 v v0 v1
  refine ⟨r0, r1, ?_, ?_, ?_⟩
  · unfold toL; rw [flat2_even _ _ _ _ r0 r1 (by omega), e]
  · unfold toL; rw [flat2_odd _ _ _ _ hx.1 hx.2 (by unfold xr; split <;> omega), xr_div, e]
  · unfold costL; rw [flat2_even _ _ _ _ r0 r1 (by omega), e]
theorem St.a2 {n A : Int} {E : List Arc} {fr : List (List Int)} (s : St n A E fr) {v : Int} (v0 : 0 ≤ v) (v1 : v < n) :
    0 ≤ 2 * (A + 2 * v + 1) ∧ 2 * (A + 2 * v + 1) < 2 * (E.length : Int) ∧ gi (toL E) (2 * (A + 2 * v + 1)) = v ∧ gi (toL E) (xr (2 * (A + 2 * v + 1))) = n ∧ gi (costL E) (2 * (A + 2 * v + 1)) = 201326592 := by
  have := s.len; have := s.A0
  have r0 : 0 ≤ 2 * (A + 2 * v + 1) := by omega
  have r1 : 2 * (A + 2 * v + 1) < 2 * (E.length : Int) := by omega
  have hx := xr_rng r0 r1
  have e : ar E (2 * (A + 2 * v + 1) / 2) = ⟨n, v, 1099511627776, 201326592⟩ := by
    rw [show 2 * (A + 2 * v + 1) / 2 = A + 2 * v + 1 by omega]; exact s.art2 v v0 v1
  refine ⟨r0, r1, ?_, ?_, ?_⟩
  · unfold toL; rw [flat2_even _ _ _ _ r0 r1 (by omega), e]
  · unfold toL; rw [flat2_odd _ _ _ _ hx.1 hx.2 (by unfold xr; split <;> omega), xr_div, e]
  · unfold costL; rw [flat2_even _ _ _ _ r0 r1 (by omega), e]

/-- Within a round: no half-arc that can carry the unit has a negative reduced cost. -/
structure Cx (n A : Int) (E : List Arc) (fr : List (List Int)) (sup left exc price : List Int) (u C : Int) : Prop where
  s : St n A E fr
  d : Dy n E sup left exc price
  u1 : 1 ≤ u
  u2 : u ≤ 2097152
  opt : ∀ h : Int, 0 ≤ h → h < 2 * (E.length : Int) → u ≤ gi left h → 0 ≤ red E price h
  hub1 : ∀ v : Int, 0 ≤ v → v < n → u ≤ gi left (2 * (A + 2 * v))
  hub2 : ∀ v : Int, 0 ≤ v → v < n → u ≤ gi left (2 * (A + 2 * v + 1))
  pb : ∀ v : Int, 0 ≤ v → v ≤ n → 0 ≤ gi price v ∧ gi price v ≤ C
  C1 : C ≤ 1000000000000000000
  eb : pos n exc ≤ 1000000000000

theorem Cx.lb {n A : Int} {E : List Arc} {fr : List (List Int)} {sup left exc price : List Int} {u C : Int} (c : Cx n A E fr sup left exc price u C) {h : Int} (h0 : 0 ≤ h) (h1 : h < 2 * (E.length : Int)) : 0 ≤ gi left h ∧ gi left h ≤ 1099511627776 := by
  have a := c.d.l0 h h0 h1
  have hx := xr_rng h0 h1
  have b := c.d.l0 _ hx.1 hx.2
  have e := c.d.cap h h0 h1
  obtain ⟨_, _, _, _, _, _, f, _⟩ := c.s.rng (h / 2) (by omega) (by omega)
  omega
theorem Cx.near {n A : Int} {E : List Arc} {fr : List (List Int)} {sup left exc price : List Int} {u C : Int} (c : Cx n A E fr sup left exc price u C) {v : Int} (v0 : 0 ≤ v) (v1 : v ≤ n) :
    gi price n - gi price v ≤ 201326592 ∧ gi price v - gi price n ≤ 201326592 := by
  by_cases e : v = n
  · subst e; omega
  · obtain ⟨a, b, t1, t2, t3⟩ := c.s.a1 v0 (by omega : v < n)
    obtain ⟨a', b', t1', t2', t3'⟩ := c.s.a2 v0 (by omega : v < n)
    have p := c.opt _ a b (c.hub1 v v0 (by omega))
    have q := c.opt _ a' b' (c.hub2 v v0 (by omega))
    unfold red at p q
    rw [t1, t2, t3] at p
    rw [t1', t2', t3'] at q
    omega
theorem Cx.redb {n A : Int} {E : List Arc} {fr : List (List Int)} {sup left exc price : List Int} {u C : Int} (c : Cx n A E fr sup left exc price u C) {h : Int} (h0 : 0 ≤ h) (h1 : h < 2 * (E.length : Int)) :
    -603979776 ≤ red E price h ∧ red E price h ≤ 603979776 := by
  have hx := xr_rng h0 h1
  have t1 := c.s.t h0 h1
  have t2 := c.s.t hx.1 hx.2
  have k := c.s.c h0 h1
  have p := c.near t1.1 t1.2
  have q := c.near t2.1 t2.2
  unfold red
  omega

def INF : Int := 1152921504606846976

/-- What is known of the cheapest ways while they are sought. -/
structure DI (n : Int) (E : List Arc) (left exc price : List Int) (u src : Int) (dist way : List Int) (done : List Bool) : Prop where
  l1 : (dist.length : Int) = n + 1
  l2 : (way.length : Int) = n + 1
  l3 : (done.length : Int) = n + 1
  d0 : ∀ w : Int, 0 ≤ w → w ≤ n → 0 ≤ gi dist w
  ds : gi dist src = 0
  i1 : ∀ h : Int, 0 ≤ h → h < 2 * (E.length : Int) → gb done (gi (toL E) (xr h)) = true → u ≤ gi left h → gi dist (gi (toL E) h) ≤ gi dist (gi (toL E) (xr h)) + red E price h
  i2 : ∀ v w : Int, 0 ≤ v → v ≤ n → 0 ≤ w → w ≤ n → gb done v = true → gb done w = false → gi dist v ≤ gi dist w
  i3 : ∀ w : Int, 0 ≤ w → w ≤ n → w ≠ src → gi dist w < INF → 0 ≤ gi way w ∧ gi way w < 2 * (E.length : Int) ∧ gi (toL E) (gi way w) = w ∧ u ≤ gi left (gi way w) ∧
    gb done (gi (toL E) (xr (gi way w))) = true ∧ gi dist w = gi dist (gi (toL E) (xr (gi way w))) + red E price (gi way w)
  i4 : ∀ w : Int, 0 ≤ w → w ≤ n → gi dist w ≤ 1811939328 ∨ gi dist w = INF
  i5 : ∀ v : Int, 0 ≤ v → v ≤ n → gb done v = true → ¬ gi exc v ≤ -u
  i6 : ∀ v : Int, 0 ≤ v → v ≤ n → gb done v = true → gi dist v ≤ 1207959552
  i8 : ∀ v : Int, 0 ≤ v → v ≤ n → gb done v = true → gb done src = true
  rk : ∃ (rk : Int → Nat) (k : Nat), k + done.count false ≤ 97 ∧ (∀ v : Int, 0 ≤ v → v ≤ n → gb done v = true → rk v < k) ∧ ∀ w : Int, 0 ≤ w → w ≤ n → gb done w = true → w ≠ src → rk (gi (toL E) (xr (gi way w))) < rk w

theorem DI.near {n A : Int} {E : List Arc} {fr : List (List Int)} {sup left exc price : List Int} {u C : Int} (c : Cx n A E fr sup left exc price u C) {src : Int} (s0 : 0 ≤ src) (s1 : src ≤ n)
    {w0 : Int} (w00 : 0 ≤ w0) (w01 : w0 ≤ n) (hw0 : gi exc w0 ≤ -u) {dist way : List Int} {done : List Bool} (D : DI n E left exc price u src dist way done)
    {v : Int} (v0 : 0 ≤ v) (v1 : v ≤ n) (hm : ∀ w : Int, 0 ≤ w → w ≤ n → gb done w = false → gi dist v ≤ gi dist w) :
    gi dist v ≤ 1207959552 ∧ (gb done src = true ∨ v = src) := by
  have hw : gb done w0 = false := by
    cases e : gb done w0 with
    | false => rfl
    | true => exact absurd hw0 (D.i5 w0 w00 w01 e)
  cases e : gb done src with
  | false =>
    have a := hm src s0 s1 e
    rw [D.ds] at a
    refine ⟨by omega, Or.inr ?_⟩
    refine Classical.byContradiction fun hne => ?_
    obtain ⟨b0, b1, b2, b3, b4, b5⟩ := D.i3 v v0 v1 hne (by unfold INF; omega)
    have hx := xr_rng b0 b1
    have t := c.s.t hx.1 hx.2
    have := D.i8 _ t.1 t.2 b4
    rw [e] at this; cases this
  | true =>
    refine ⟨?_, Or.inl rfl⟩
    have key : gb done n = true → gi dist n ≤ 603979776 → gi dist v ≤ 1207959552 := by
      intro hn hd
      have hne : w0 ≠ n := fun x => by subst x; rw [hn] at hw; cases hw
      obtain ⟨a', b', t1', t2', t3'⟩ := c.s.a2 w00 (by omega : w0 < n)
      have q := D.i1 _ a' b' (by rw [t2']; exact hn) (c.hub2 w0 w00 (by omega))
      rw [t1', t2'] at q
      have r := c.redb a' b'
      have m := hm w0 w00 w01 hw
      omega
    by_cases hs : src = n
    · subst hs
      exact key e (by rw [D.ds]; omega)
    · obtain ⟨a, b, t1, t2, t3⟩ := c.s.a1 s0 (by omega : src < n)
      have q := D.i1 _ a b (by rw [t2]; exact e) (c.hub1 src s0 (by omega))
      rw [t1, t2, D.ds] at q
      have r := c.redb a b
      cases hn : gb done n with
      | true => exact key hn (by omega)
      | false =>
        have m := hm n (by omega) (by omega) hn
        omega

/-- The answer of the search for cheapest ways. -/
structure Chp (n : Int) (E : List Arc) (left exc price : List Int) (u src : Int) (v : Int) (way price' : List Int) : Prop where
  v0 : 0 ≤ v
  v1 : v ≤ n
  lack : gi exc v ≤ -u
  lw : (way.length : Int) = n + 1
  lp : (price'.length : Int) = n + 1
  pb : ∀ w : Int, 0 ≤ w → w ≤ n → gi price w ≤ gi price' w ∧ gi price' w ≤ gi price w + 1207959552
  opt : ∀ h : Int, 0 ≤ h → h < 2 * (E.length : Int) → u ≤ gi left h → 0 ≤ red E price' h
  path : ∃ (ok : Int → Prop) (rk : Int → Nat), ok v ∧ rk v ≤ 100 ∧ ∀ w, ok w → w ≠ src → (0 ≤ w ∧ w ≤ n ∧ 0 ≤ gi way w ∧ gi way w < 2 * (E.length : Int) ∧ gi (toL E) (gi way w) = w ∧ u ≤ gi left (gi way w) ∧ red E price' (gi way w) = 0 ∧
    ok (gi (toL E) (xr (gi way w))) ∧ rk (gi (toL E) (xr (gi way w))) < rk w)

theorem ite_min (a b : Int) : (if b < a then b else a) = min a b := by rw [Int.min_def]; split <;> split <;> omega
theorem cheap_b5 {n : Int} (n1 : 1 ≤ n) (n2 : n ≤ 96) {dist way price : List Int} {v : Int} (ld : (dist.length : Int) = n + 1) (lp : (price.length : Int) = n + 1) (v0 : 0 ≤ v) (v1 : v ≤ n)
    (d0 : ∀ w : Int, 0 ≤ w → w ≤ n → 0 ≤ gi dist w) (dv : gi dist v ≤ 1207959552) (pb : ∀ w : Int, 0 ≤ w → w ≤ n → 0 ≤ gi price w ∧ gi price w ≤ 1000000000000000000) (Q : Int × List Int × List Int → Prop)
    (hQ : ∀ price' : List Int, (price'.length : Int) = n + 1 → (∀ w : Int, 0 ≤ w → w ≤ n → gi price' w = gi price w + min (gi dist w) (gi dist v)) → Q (v, way, price')) :
    WP (iter (flow_residual_cheapest_b5 dist v way) FUEL (price, 0)) Q := by
  refine wp_iter (fun (t : List Int × Nat) => (t.2 : Int) ≤ n + 1 ∧ (t.1.length : Int) = n + 1 ∧ ∀ w : Int, 0 ≤ w → w ≤ n → gi t.1 w = if w < t.2 then gi price w + min (gi dist w) (gi dist v) else gi price w)
    (fun t => 100 - t.2) Q ?_ FUEL (price, 0) ⟨by simp only; omega, lp, fun w w0 _ => by simp only; rw [if_neg (by omega)]⟩ (fuel_of (by simp only; omega))
  rintro c ⟨p, t⟩ ⟨ht, hl, hp⟩ hc
  simp only at ht hl hp hc
  simp only [flow_residual_cheapest_b5]
  refine wp_ite (fun h => ?_) (fun h => ?_)
  · simp only [decide_eq_true_eq] at h
    have hw := hp t (by omega) (by omega)
    rw [if_neg (by omega)] at hw
    have b1 := pb t (by omega) (by omega)
    have b2 := d0 t (by omega) (by omega)
    have b3 := d0 v v0 v1
    refine wp_idxi (by omega) (wp_idxi (by omega) (wp_idxi (by omega) ?_))
    rw [hw, ite_min]
    refine wp_i64 (by omega) (wp_idxi (by omega) (hc _ ⟨by simp only; omega, by simp only [List.length_set]; omega, ?_⟩ (by simp only; omega)))
    intro w w0 w1
    simp only
    rw [gi_set _ _ _ _ (by omega) w0 (by omega)]
    by_cases e : w = t
    · subst e; rw [if_pos rfl, if_pos (by omega)]
    · rw [if_neg e, hp w w0 w1]
      by_cases e2 : w < t
      · rw [if_pos e2, if_pos (by omega)]
      · rw [if_neg e2, if_neg (by omega)]
  · simp only [decide_eq_false_iff_not] at h
    refine wp_some (hQ p hl (fun w w0 w1 => ?_))
    rw [hp w w0 w1, if_pos (by omega)]

theorem count_mark {l : List Bool} {v : Int} (v1 : v < l.length) (v0 : 0 ≤ v) (h : gb l v = false) : (l.set v.toNat true).count false + 1 = l.count false := by
  have hlt : v.toNat < l.length := by omega
  have e : l[v.toNat] = false := by
    unfold gb at h; simpa [hlt] using h
  have hm : false ∈ l := by rw [← e]; exact List.getElem_mem hlt
  have hp := List.count_pos_iff.2 hm
  rw [List.count_set hlt, e]
  simp
  omega

/-- While the half-arcs of a node are looked at. -/
structure RL (n : Int) (E : List Arc) (left price : List Int) (u src v : Int) (dist0 way0 : List Int) (done' : List Bool) (xs : List Int) (dist way : List Int) (t : Nat) : Prop where
  tl : t ≤ xs.length
  l1 : (dist.length : Int) = n + 1
  l2 : (way.length : Int) = n + 1
  keep : ∀ w : Int, 0 ≤ w → w ≤ n → gb done' w = true → gi dist w = gi dist0 w ∧ gi way w = gi way0 w
  lt : ∀ w : Int, 0 ≤ w → w ≤ n → gi dist w ≤ gi dist0 w
  ge : ∀ w : Int, 0 ≤ w → w ≤ n → gb done' w = false → gi dist0 v ≤ gi dist w
  i3 : ∀ w : Int, 0 ≤ w → w ≤ n → w ≠ src → gi dist w < INF → 0 ≤ gi way w ∧ gi way w < 2 * (E.length : Int) ∧ gi (toL E) (gi way w) = w ∧ u ≤ gi left (gi way w) ∧
    gb done' (gi (toL E) (xr (gi way w))) = true ∧ gi dist w = gi dist0 (gi (toL E) (xr (gi way w))) + red E price (gi way w)
  i4 : ∀ w : Int, 0 ≤ w → w ≤ n → gi dist w ≤ 1811939328 ∨ gi dist w = INF
  pr : ∀ j : Nat, j < t → u ≤ gi left (gi xs j) → gi dist (gi (toL E) (gi xs j)) ≤ gi dist0 v + red E price (gi xs j)

theorem gi_mem {l : List Int} {i : Int} (h0 : 0 ≤ i) (h : i < l.length) : gi l i ∈ l := by
  have : i.toNat < l.length := by omega
  unfold gi; simp [this]
theorem mem_gi {l : List Int} {x : Int} (h : x ∈ l) : ∃ j : Nat, j < l.length ∧ gi l j = x := by
  obtain ⟨j, hj, e⟩ := List.mem_iff_getElem.1 h
  refine ⟨j, hj, ?_⟩
  unfold gi; simp [hj, e]

theorem relax {n A : Int} {E : List Arc} {fr : List (List Int)} {sup left exc price : List Int} {u C : Int} (c : Cx n A E fr sup left exc price u C) {x y src v : Int} (s0 : 0 ≤ src) (s1 : src ≤ n) {dist0 way0 : List Int} {done : List Bool} (D : DI n E left exc price u src dist0 way0 done)
    (v0 : 0 ≤ v) (v1 : v ≤ n) (hv : gb done v = false) (hm : ∀ w : Int, 0 ≤ w → w ≤ n → gb done w = false → gi dist0 v ≤ gi dist0 w) (hnl : ¬ gi exc v ≤ -u) (hb : gi dist0 v ≤ 1207959552) (hs : gb done src = true ∨ v = src)
    (Q : Int × List Int × List Int → Prop) (cont2 : (List Int × List Int × List Bool) → Option (Int × List Int × List Int))
    (hk : ∀ dist' way', DI n E left exc price u src dist' way' (done.set v.toNat true) → WP (cont2 (dist', way', done.set v.toNat true)) Q)
    (hf : (gll fr v).length ≤ 1000000000) :
    WP (iter (flow_residual_cheapest_b4 (gll fr v) (Flow_residual.mk x y (toL E) left (costL E) fr exc price) v u done cont2) FUEL (dist0, way0, 0)) Q := by
  have n1 := c.s.n1
  have n2 := c.s.n2
  have l3 := D.l3
  have gd : ∀ w : Int, 0 ≤ w → gb (done.set v.toNat true) w = if w = v then true else gb done w := fun w w0 => gb_set done v w true v0 w0 (by omega)
  have gdv : gb (done.set v.toNat true) v = true := by rw [gd v v0, if_pos rfl]
  have gdo : ∀ w : Int, 0 ≤ w → gb done w = true → gb (done.set v.toNat true) w = true := fun w w0 h => by
    rw [gd w w0]; split
    · rfl
    · exact h
  refine wp_iter (fun (t : List Int × List Int × Nat) => RL n E left price u src v dist0 way0 (done.set v.toNat true) (gll fr v) t.1 t.2.1 t.2.2) (fun t => (gll fr v).length - t.2.2) Q ?_ FUEL (dist0, way0, 0) ?_ (fuel_of (by simp only; omega))
  · rintro k ⟨dist, way, t⟩ R hc
    simp only at R hc
    simp only [flow_residual_cheapest_b4]
    refine wp_ite (fun ht => ?_) (fun ht => ?_)
    · simp only [decide_eq_true_eq] at ht
      have hmem := gi_mem (l := gll fr v) (i := (t : Int)) (by omega) ht
      refine wp_idxi (by omega) ?_
      obtain ⟨h0, h1, hx⟩ := c.s.frm v v0 v1 _ hmem
      generalize hh : gi (gll fr v) t = h at h0 h1 hx
      have w := c.s.t h0 h1
      have tl := toL_len E
      have bl := c.lb h0 h1
      have br := c.redb h0 h1
      have l1 := R.l1
      have l2 := R.l2
      have ll := c.d.ll
      have dv := (R.keep v v0 v1 gdv).1
      have dv0 := D.d0 v v0 v1
      refine wp_idxi (by omega) (wp_idxi (by omega) ?_)
      rw [dv, red_wp c.s c.d.lp h0 h1 (fun a a0 a1 => by have := c.pb a a0 a1; have := c.C1; omega), Option.bind_some]
      refine wp_i64 (by omega) (wp_idxi (by omega) ?_)
      have go : ∀ d' w', RL n E left price u src v dist0 way0 (done.set v.toNat true) (gll fr v) d' w' (t + 1) → WP (flow_residual_cheapest_k5 k t (d', w')) Q := fun d' w' R' => hc _ R' (by simp only; omega)
      have same : (u ≤ gi left h → gi dist (gi (toL E) h) ≤ gi dist0 v + red E price h) → RL n E left price u src v dist0 way0 (done.set v.toNat true) (gll fr v) dist way (t + 1) := fun hp =>
        ⟨by omega, R.l1, R.l2, R.keep, R.lt, R.ge, R.i3, R.i4, fun j hj hu => by
          by_cases e : j = t
          · subst e; rw [hh] at hu ⊢; exact hp hu
          · exact R.pr j (by omega) hu⟩
      refine wp_whn (fun hu => ?_) (fun hu => ?_)
      · refine wp_idxb (by rw [List.length_set]; omega) ?_
        simp only [hu, Bool.true_and]
        simp only [decide_eq_true_eq] at hu
        have ro := c.opt h h0 h1 hu
        refine wp_whn (fun hd => ?_) (fun hd => ?_)
        · refine wp_idxi (by omega) ?_
          refine wp_ite (fun hlt => ?_) (fun hlt => ?_)
          · refine wp_idxi (by omega) (wp_idxi (by omega) (go _ _ ?_))
            simp only [Bool.and_eq_true, decide_eq_true_eq, Bool.not_eq_true'] at hlt hd
            have hne : gi (toL E) h ≠ v := fun e => by rw [e, gdv] at hd; cases hd
            have g1 : ∀ a : Int, 0 ≤ a → gi (dist.set (gi (toL E) h).toNat (gi dist0 v + red E price h)) a = if a = gi (toL E) h then gi dist0 v + red E price h else gi dist a := fun a a0 => gi_set _ _ _ _ w.1 a0 (by omega)
            have g2 : ∀ a : Int, 0 ≤ a → gi (way.set (gi (toL E) h).toNat h) a = if a = gi (toL E) h then h else gi way a := fun a a0 => gi_set _ _ _ _ w.1 a0 (by omega)
            refine ⟨by omega, by rw [List.length_set]; omega, by rw [List.length_set]; omega, ?_, ?_, ?_, ?_, ?_, ?_⟩
            · intro a a0 a1 ha
              have hne' : a ≠ gi (toL E) h := fun e => by rw [e, hd] at ha; cases ha
              rw [g1 a a0, g2 a a0, if_neg hne', if_neg hne']
              exact R.keep a a0 a1 ha
            · intro a a0 a1
              rw [g1 a a0]
              have := R.lt a a0 a1
              split
              · subst a; omega
              · exact this
            · intro a a0 a1 ha
              rw [g1 a a0]
              have := R.ge a a0 a1 ha
              split
              · omega
              · exact this
            · intro a a0 a1 ha hfin
              rw [g1 a a0] at hfin ⊢
              rw [g2 a a0]
              by_cases e : a = gi (toL E) h
              · rw [if_pos e, if_pos e]
                refine ⟨h0, h1, e.symm, hu, ?_, ?_⟩
                · rw [hx]; exact gdv
                · rw [hx]
              · rw [if_neg e] at hfin
                rw [if_neg e, if_neg e]
                exact R.i3 a a0 a1 ha hfin
            · intro a a0 a1
              rw [g1 a a0]
              split
              · left; omega
              · exact R.i4 a a0 a1
            · intro j hj hu'
              obtain ⟨q0, q1, _⟩ := c.s.frm v v0 v1 _ (gi_mem (l := gll fr v) (i := (j : Int)) (by omega) (by omega))
              have tj := c.s.t q0 q1
              rw [g1 _ tj.1]
              by_cases e : j = t
              · subst e; rw [hh, if_pos rfl]; omega
              · have := R.pr j (by omega) hu'
                split
                · rename_i e2
                  rw [e2] at this
                  omega
                · exact this
          · refine go _ _ (same fun _ => ?_)
            rw [hd, Bool.true_and] at hlt
            simp only [decide_eq_false_iff_not] at hlt
            omega
        · simp only [hd, Bool.false_and]
          refine go _ _ (same fun _ => ?_)
          simp only [Bool.not_eq_false'] at hd
          rw [(R.keep _ w.1 w.2 hd).1]
          rw [gd _ w.1] at hd
          by_cases e : gi (toL E) h = v
          · rw [e]; omega
          · rw [if_neg e] at hd
            have := D.i2 _ v w.1 w.2 v0 v1 hd hv
            omega
      · simp only [hu, Bool.false_and]
        refine wp_whn (fun hd => by cases hd) (fun hd => ?_)
        refine go _ _ (same fun h' => ?_)
        simp only [decide_eq_false_iff_not] at hu
        exact absurd h' hu
    · simp only [decide_eq_false_iff_not] at ht
      refine hk _ _ ?_
      have tl := R.tl
      refine ⟨R.l1, R.l2, by rw [List.length_set]; exact D.l3, ?_, ?_, ?_, ?_, ?_, R.i4, ?_, ?_, ?_, ?_⟩
      · intro w w0 w1
        cases e : gb (done.set v.toNat true) w with
        | true => rw [(R.keep w w0 w1 e).1]; exact D.d0 w w0 w1
        | false => have := R.ge w w0 w1 e; have := D.d0 v v0 v1; omega
      · have : gb (done.set v.toNat true) src = true := by
          rcases hs with e | e
          · exact gdo src s0 e
          · subst e; exact gdv
        rw [(R.keep src s0 s1 this).1]; exact D.ds
      · intro h h0 h1 hd hu
        have hx := xr_rng h0 h1
        have t2 := c.s.t hx.1 hx.2
        have t1 := c.s.t h0 h1
        rw [(R.keep _ t2.1 t2.2 hd).1]
        rw [gd _ t2.1] at hd
        by_cases e : gi (toL E) (xr h) = v
        · have hm' := c.s.fra h h0 h1
          rw [e] at hm'
          obtain ⟨j, hj, ej⟩ := mem_gi hm'
          have := R.pr j (by omega) (by rw [ej]; exact hu)
          rw [ej] at this
          rw [e]; exact this
        · rw [if_neg e] at hd
          have a := D.i1 h h0 h1 hd hu
          have b := R.lt _ t1.1 t1.2
          omega
      · intro a b a0 a1 b0 b1 ha hb'
        rw [(R.keep _ a0 a1 ha).1]
        have g := R.ge b b0 b1 hb'
        rw [gd a a0] at ha
        by_cases e : a = v
        · subst e; exact g
        · rw [if_neg e] at ha
          have := D.i2 a v a0 a1 v0 v1 ha hv
          omega
      · intro w w0 w1 hne hfin
        obtain ⟨b0, b1, b2, b3, b4, b5⟩ := R.i3 w w0 w1 hne hfin
        have hx := xr_rng b0 b1
        have t2 := c.s.t hx.1 hx.2
        exact ⟨b0, b1, b2, b3, b4, by rw [(R.keep _ t2.1 t2.2 b4).1]; exact b5⟩
      · intro w w0 w1 hd
        rw [gd w w0] at hd
        by_cases e : w = v
        · subst e; exact hnl
        · rw [if_neg e] at hd; exact D.i5 w w0 w1 hd
      · intro w w0 w1 hd
        rw [(R.keep w w0 w1 hd).1]
        rw [gd w w0] at hd
        by_cases e : w = v
        · subst e; exact hb
        · rw [if_neg e] at hd; exact D.i6 w w0 w1 hd
      · intro w w0 w1 hd
        rcases hs with e | e
        · exact gdo src s0 e
        · subst e; exact gdv
      · obtain ⟨rk, k, h1, h2, h3⟩ := D.rk
        refine ⟨fun x => if x = v then k else rk x, k + 1, ?_, ?_, ?_⟩
        · have := count_mark (l := done) (v := v) (by omega) v0 hv
          omega
        · intro w w0 w1 hd
          show (if w = v then k else rk w) < k + 1
          rw [gd w w0] at hd
          by_cases e : w = v
          · rw [if_pos e]; omega
          · rw [if_neg e] at hd ⊢
            have := h2 w w0 w1 hd
            omega
        · intro w w0 w1 hd hne
          have kp := R.keep w w0 w1 hd
          rw [kp.2]
          have hd' := hd
          rw [gd w w0] at hd
          have fin : gi dist0 w < INF := by
            unfold INF
            by_cases e : w = v
            · subst e; omega
            · rw [if_neg e] at hd; have := D.i6 w w0 w1 hd; omega
          obtain ⟨b0, b1, b2, b3, b4, b5⟩ := D.i3 w w0 w1 hne fin
          have hx := xr_rng b0 b1
          have t2 := c.s.t hx.1 hx.2
          have hpv : gi (toL E) (xr (gi way0 w)) ≠ v := fun e => by rw [e, hv] at b4; cases b4
          show (if gi (toL E) (xr (gi way0 w)) = v then k else rk (gi (toL E) (xr (gi way0 w)))) < (if w = v then k else rk w)
          rw [if_neg hpv]
          by_cases e : w = v
          · rw [if_pos e]; exact h2 _ t2.1 t2.2 b4
          · rw [if_neg e] at hd ⊢
            exact h3 w w0 w1 hd hne
  · refine ⟨Nat.zero_le _, D.l1, D.l2, fun _ _ _ _ => ⟨rfl, rfl⟩, fun _ _ _ => Int.le_refl _, ?_, ?_, D.i4, ?_⟩
    · intro w w0 w1 hd
      rw [gd w w0] at hd
      by_cases e : w = v
      · rw [if_pos e] at hd; cases hd
      · rw [if_neg e] at hd; exact hm w w0 w1 hd
    · intro w w0 w1 hne hfin
      obtain ⟨b0, b1, b2, b3, b4, b5⟩ := D.i3 w w0 w1 hne hfin
      have hx := xr_rng b0 b1
      have t2 := c.s.t hx.1 hx.2
      exact ⟨b0, b1, b2, b3, gdo _ t2.1 b4, b5⟩
    · intro j hj; exact absurd hj (Nat.not_lt_zero _)

/-- The prices after the search. -/
theorem DI.answer {n A : Int} {E : List Arc} {fr : List (List Int)} {sup left exc price : List Int} {u C : Int} (c : Cx n A E fr sup left exc price u C) {src v : Int} {dist way : List Int} {done : List Bool} (D : DI n E left exc price u src dist way done)
    (v0 : 0 ≤ v) (v1 : v ≤ n) (hv : gb done v = false) (hm : ∀ w : Int, 0 ≤ w → w ≤ n → gb done w = false → gi dist v ≤ gi dist w) (hl : gi exc v ≤ -u) (hb : gi dist v ≤ 1207959552)
    {price' : List Int} (lp : (price'.length : Int) = n + 1) (hp : ∀ w : Int, 0 ≤ w → w ≤ n → gi price' w = gi price w + min (gi dist w) (gi dist v)) : Chp n E left exc price u src v way price' where
  v0 := v0
  v1 := v1
  lack := hl
  lw := D.l2
  lp := lp
  pb := fun w w0 w1 => by
    have := D.d0 w w0 w1
    have := D.d0 v v0 v1
    rw [hp w w0 w1]; omega
  opt := fun h h0 h1 hu => by
    have hx := xr_rng h0 h1
    have t2 := c.s.t hx.1 hx.2
    have t1 := c.s.t h0 h1
    have o := c.opt h h0 h1 hu
    have e : red E price' h = red E price h + min (gi dist (gi (toL E) (xr h))) (gi dist v) - min (gi dist (gi (toL E) h)) (gi dist v) := by
      unfold red; rw [hp _ t2.1 t2.2, hp _ t1.1 t1.2]; omega
    rw [e]
    cases hd : gb done (gi (toL E) (xr h)) with
    | true =>
      have a := D.i1 h h0 h1 hd hu
      have b := D.i2 _ v t2.1 t2.2 v0 v1 hd hv
      omega
    | false =>
      have a := hm _ t2.1 t2.2 hd
      omega
  path := by
    obtain ⟨rk, k, h1, h2, h3⟩ := D.rk
    refine ⟨fun w => 0 ≤ w ∧ w ≤ n ∧ (w = v ∨ gb done w = true), fun x => if x = v then k else rk x, ⟨v0, v1, Or.inl rfl⟩, ?_, ?_⟩
    · show (if v = v then k else rk v) ≤ 100
      rw [if_pos rfl]; omega
    · rintro w ⟨w0, w1, hw⟩ hne
      have dw : gi dist w ≤ gi dist v := by
        rcases hw with e | e
        · subst e; omega
        · exact D.i2 w v w0 w1 v0 v1 e hv
      obtain ⟨b0, b1, b2, b3, b4, b5⟩ := D.i3 w w0 w1 hne (by unfold INF; omega)
      have hx := xr_rng b0 b1
      have t2 := c.s.t hx.1 hx.2
      have dp := D.i2 _ v t2.1 t2.2 v0 v1 b4 hv
      refine ⟨w0, w1, b0, b1, b2, b3, ?_, ⟨t2.1, t2.2, Or.inr b4⟩, ?_⟩
      · have e : red E price' (gi way w) = red E price (gi way w) + min (gi dist (gi (toL E) (xr (gi way w)))) (gi dist v) - min (gi dist w) (gi dist v) := by
          unfold red; rw [hp _ t2.1 t2.2, b2, hp w w0 w1]; omega
        rw [e]
        omega
      · show (if gi (toL E) (xr (gi way w)) = v then k else rk (gi (toL E) (xr (gi way w)))) < (if w = v then k else rk w)
        have hpv : gi (toL E) (xr (gi way w)) ≠ v := fun e => by rw [e, hv] at b4; cases b4
        rw [if_neg hpv]
        by_cases e : w = v
        · rw [if_pos e]; exact h2 _ t2.1 t2.2 b4
        · rw [if_neg e]
          rcases hw with e' | e'
          · exact absurd e' e
          · exact h3 w w0 w1 e' hne

theorem cheapest_wp {n A : Int} {E : List Arc} {fr : List (List Int)} {sup left exc price : List Int} {u C : Int} (c : Cx n A E fr sup left exc price u C) {src : Int} (s0 : 0 ≤ src) (s1 : src ≤ n)
    {w0 : Int} (w00 : 0 ≤ w0) (w01 : w0 ≤ n) (hw0 : gi exc w0 ≤ -u) (hf : ∀ v : Int, 0 ≤ v → v ≤ n → (gll fr v).length ≤ 1000000000) :
    WP (flow_residual_cheapest_m (Flow_residual.mk n A (toL E) left (costL E) fr exc price) src u) (fun y => Chp n E left exc price u src y.1 y.2.1 y.2.2) := by
  have n1 := c.s.n1
  have n2 := c.s.n2
  have u1 := c.u1
  have u2 := c.u2
  have C1 := c.C1
  unfold flow_residual_cheapest_m
  simp only []
  refine wp_i64 (by omega) ?_
  have m1 : mk (α := Int) 0 (n + 1) = some (List.replicate (n + 1).toNat 0) := by
    unfold mk; rw [if_pos]; exact ⟨by omega, by show (n + 1) * 8 ≤ _; omega⟩
  have m2 : mk (α := Bool) false (n + 1) = some (List.replicate (n + 1).toNat false) := by
    unfold mk; rw [if_pos]; exact ⟨by omega, by show (n + 1) * 1 ≤ _; omega⟩
  rw [m1, m2]
  simp only [Option.bind_some]
  have ln : ((List.replicate (n + 1).toNat (0 : Int)).length : Int) = n + 1 := by rw [List.length_replicate]; omega
  -- the main loop
  have main : ∀ dist : List Int, (dist.length : Int) = n + 1 → (∀ w : Int, 0 ≤ w → w ≤ n → gi dist w = if w = src then 0 else INF) →
      WP (iter (flow_residual_cheapest_b2 (Flow_residual.mk n A (toL E) left (costL E) fr exc price) u) FUEL (dist, List.replicate (n + 1).toNat 0, List.replicate (n + 1).toNat false)) (fun y => Chp n E left exc price u src y.1 y.2.1 y.2.2) := by
    intro dist hl hd
    have gf : ∀ w : Int, 0 ≤ w → w ≤ n → gb (List.replicate (n + 1).toNat false) w = false := fun w w0 w1 => gb_rep _ _ _ w0 (by omega)
    refine wp_iter (fun (t : List Int × List Int × List Bool) => DI n E left exc price u src t.1 t.2.1 t.2.2) (fun t => t.2.2.count false) _ ?_ FUEL _ ?_ (fuel_of (by simp only [List.count_replicate]; simp; omega))
    · rintro k ⟨dist, way, done⟩ D hc
      simp only at D hc
      simp only [flow_residual_cheapest_b2]
      have l1 := D.l1
      have l3 := D.l3
      have hw : gb done w0 = false := by
        cases e : gb done w0 with
        | false => rfl
        | true => exact absurd hw0 (D.i5 w0 w00 w01 e)
      refine wp_iter (fun (t : Int × Nat) => (t.2 : Int) ≤ n + 1 ∧ ((t.1 = -1 ∧ ∀ w : Int, 0 ≤ w → w < t.2 → gb done w = true) ∨
          (0 ≤ t.1 ∧ t.1 < t.2 ∧ gb done t.1 = false ∧ ∀ w : Int, 0 ≤ w → w < t.2 → gb done w = false → gi dist t.1 ≤ gi dist w))) (fun t => 100 - t.2) _ ?_ FUEL _ ?_ (fuel_of (by simp only; omega))
      · rintro k3 ⟨v, t⟩ ⟨ht, hv⟩ hc3
        simp only at ht hv hc3
        simp only [flow_residual_cheapest_b3]
        refine wp_ite (fun h => ?_) (fun h => ?_)
        · simp only [decide_eq_true_eq] at h
          refine wp_idxi (by omega) (wp_idxb (by omega) ?_)
          have go1 : gb done t = false → ((v = -1) ∨ gi dist t ≤ gi dist v) → WP (flow_residual_cheapest_k4 k3 t (t : Int)) (fun y => Chp n E left exc price u src y.1 y.2.1 y.2.2) := by
            intro hd ho
            refine hc3 _ ⟨by simp only; omega, Or.inr ⟨by simp only; omega, by simp only; omega, hd, ?_⟩⟩ (by simp only; omega)
            intro w w0 w1 hdw
            simp only at w1 ⊢
            by_cases e : w = t
            · subst e; omega
            · rcases hv with ⟨rfl, hv⟩ | ⟨a, b, c', d⟩
              · have := hv w w0 (by omega); rw [hdw] at this; cases this
              · have := d w w0 (by omega) hdw
                rcases ho with e | e
                · omega
                · omega
          have go2 : (gb done t = true ∨ (0 ≤ v ∧ gi dist v ≤ gi dist t)) → WP (flow_residual_cheapest_k4 k3 t v) (fun y => Chp n E left exc price u src y.1 y.2.1 y.2.2) := by
            intro ho
            refine hc3 _ ⟨by simp only; omega, ?_⟩ (by simp only; omega)
            simp only
            rcases hv with ⟨rfl, hv⟩ | ⟨a, b, c', d⟩
            · left
              refine ⟨rfl, fun w w0 w1 => ?_⟩
              by_cases e : w = t
              · subst e; rcases ho with e | e
                · exact e
                · omega
              · exact hv w w0 (by omega)
            · right
              refine ⟨a, by omega, c', fun w w0 w1 hdw => ?_⟩
              by_cases e : w = t
              · subst e; rcases ho with e | e
                · rw [hdw] at e; cases e
                · exact e.2
              · exact d w w0 (by omega) hdw
          refine wp_whn (fun hg => ?_) (fun hg => ?_)
          · simp only [Bool.and_eq_true, Bool.not_eq_true', decide_eq_false_iff_not] at hg
            have hvr : 0 ≤ v ∧ v < t := by rcases hv with ⟨rfl, _⟩ | ⟨a, b, _⟩ <;> omega
            refine wp_idxi (by omega) (wp_ite (fun hi => ?_) (fun hi => ?_))
            · simp only [Bool.and_eq_true, Bool.not_eq_true', Bool.or_eq_true, decide_eq_true_eq] at hi
              exact go1 hi.1 (by omega)
            · simp only [hg.1, Bool.not_false, Bool.true_and, Bool.or_eq_false_iff, decide_eq_false_iff_not] at hi
              exact go2 (by omega)
          · cases hd : gb done t with
            | true => exact go2 (Or.inl hd)
            | false =>
              simp only [hd, Bool.not_false, Bool.true_and, Bool.not_eq_false', decide_eq_true_eq] at hg
              have hv1 : v = -1 := by omega
              simp only [hg, decide_true, Bool.not_false, Bool.true_and, Bool.true_or, if_true]
              exact go1 hd (Or.inl hv1)
        · simp only [decide_eq_false_iff_not] at h
          have hvr : 0 ≤ v ∧ v ≤ n ∧ gb done v = false ∧ ∀ w : Int, 0 ≤ w → w ≤ n → gb done w = false → gi dist v ≤ gi dist w := by
            rcases hv with ⟨rfl, hv⟩ | ⟨a, b, c', d⟩
            · have := hv w0 w00 (by omega); rw [hw] at this; cases this
            · exact ⟨a, by omega, c', fun w w0 w1 => d w w0 (by omega)⟩
          obtain ⟨v0, v1, hvd, hm⟩ := hvr
          obtain ⟨hb, hs⟩ := D.near c s0 s1 w00 w01 hw0 v0 v1 hm
          have le := c.d.le
          have lf := c.s.lf
          simp only [flow_residual_cheapest_k3]
          refine wp_idxi (by omega) (wp_i64 (by omega) (wp_ite (fun hx => ?_) (fun hx => ?_)))
          · simp only [decide_eq_true_eq] at hx
            simp only [flow_residual_cheapest_k1]
            refine cheap_b5 n1 n2 l1 c.d.lp v0 v1 D.d0 hb (fun w w0 w1 => by have := c.pb w w0 w1; omega) _ (fun price' lp hp => ?_)
            exact D.answer c v0 v1 hvd hm hx hb lp hp
          · simp only [decide_eq_false_iff_not] at hx
            refine wp_idxb (by omega) (wp_idxl (by omega) ?_)
            refine relax c s0 s1 D v0 v1 hvd hm hx hb hs _ k (fun dist' way' D' => hc _ D' ?_) (hf v v0 v1)
            have := count_mark (l := done) (v := v) (by omega) v0 hvd
            simp only
            omega
      · exact ⟨by simp only; omega, Or.inl ⟨rfl, fun w w0 w1 => by simp only at w1; omega⟩⟩
    · have gr : ∀ w : Int, 0 ≤ w → w ≤ n → gi dist w = if w = src then 0 else INF := hd
      refine ⟨hl, by simp only [List.length_replicate]; omega, by simp only [List.length_replicate]; omega, ?_, ?_, ?_, ?_, ?_, ?_, ?_, ?_, ?_, ?_⟩
      · intro w w0 w1
        simp only; rw [gr w w0 w1]; unfold INF; split <;> omega
      · simp only; rw [gr src s0 s1, if_pos rfl]
      · intro h h0 h1 hd'
        have hx := xr_rng h0 h1
        have t2 := c.s.t hx.1 hx.2
        simp only at hd'
        rw [gf _ t2.1 t2.2] at hd'; cases hd'
      · intro v w v0 v1 _ _ hd'
        simp only at hd'; rw [gf _ v0 v1] at hd'; cases hd'
      · intro w w0 w1 hne hfin
        simp only at hfin; rw [gr w w0 w1, if_neg hne] at hfin; omega
      · intro w w0 w1
        simp only; rw [gr w w0 w1]; split
        · left; omega
        · right; rfl
      · intro v v0 v1 hd'
        simp only at hd'; rw [gf _ v0 v1] at hd'; cases hd'
      · intro v v0 v1 hd'
        simp only at hd'; rw [gf _ v0 v1] at hd'; cases hd'
      · intro v v0 v1 hd'
        simp only at hd'; rw [gf _ v0 v1] at hd'; cases hd'
      · refine ⟨fun _ => 0, 0, by simp only [List.count_replicate]; simp; omega, ?_, ?_⟩
        · intro v v0 v1 hd'
          simp only at hd'; rw [gf _ v0 v1] at hd'; cases hd'
        · intro v v0 v1 hd'
          simp only at hd'; rw [gf _ v0 v1] at hd'; cases hd'
  refine wp_iter (fun (t : List Int × Nat) => (t.2 : Int) ≤ n + 1 ∧ (t.1.length : Int) = n + 1 ∧ ∀ w : Int, 0 ≤ w → w < t.2 → gi t.1 w = INF) (fun t => 100 - t.2) _ ?_ FUEL _ ⟨by simp only; omega, ln, fun w w0 w1 => by simp only at w1; omega⟩ (fuel_of (by simp only; omega))
  rintro k ⟨dist, t⟩ ⟨ht, hl, hd⟩ hc
  simp only at ht hl hd hc
  simp only [flow_residual_cheapest_b1]
  refine wp_ite (fun h => ?_) (fun h => ?_)
  · simp only [decide_eq_true_eq] at h
    refine wp_idxi (by omega) (hc _ ⟨by simp only; omega, by simp only [List.length_set]; omega, ?_⟩ (by simp only; omega))
    intro w w0 w1
    simp only at w1 ⊢
    rw [gi_set _ _ _ _ (by omega) w0 (by omega)]
    by_cases e : w = t
    · rw [if_pos e]; rfl
    · rw [if_neg e]; exact hd w w0 (by omega)
  · simp only [decide_eq_false_iff_not] at h
    simp only [flow_residual_cheapest_k2]
    refine wp_idxi (by omega) (main _ (by rw [List.length_set]; omega) ?_)
    intro w w0 w1
    rw [gi_set _ _ _ _ s0 w0 (by omega), hd w w0 (by omega)]
end Go.Proofs.Ytedocibniankjaa
