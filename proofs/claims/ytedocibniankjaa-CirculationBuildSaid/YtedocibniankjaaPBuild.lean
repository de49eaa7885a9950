/- CirculationBuild, the plain law: best tries all circulations. -/
import Derived.Test.YtedocibniankjaaQj
import Derived.Test.YtedocibniankjaaQw
import Derived.Test.YtedocibniankjaaCe
import Derived.Test.YtedocibniankjaaWCirculationBuild
namespace Go.Proofs.Ytedocibniankjaa
open Go.Dc

theorem asc_lenB {l : List Int} {n : Nat} (h : AscL l n) : l.length ≤ n := by
  have key : ∀ k : Nat, k < l.length → (k : Int) ≤ gi l k := by
    intro k
    induction k with
    | zero => intro hk; exact (h 0 (by omega) (by omega)).1
    | succ k ih =>
      intro hk
      have a := ih (by omega)
      have b := (h ((k + 1 : Nat) : Int) (by omega) (by omega)).2.2 (by omega)
      rw [show ((k + 1 : Nat) : Int) - 1 = k by omega] at b
      omega
  refine Classical.byContradiction fun hgt => ?_
  have a := key (l.length - 1) (by omega)
  have b := (h ((l.length - 1 : Nat) : Int) (by omega) (by omega)).2.1
  omega

def vl (ts : List Task) (r : Rules) (c : List Int) : Int := emp ts r c ts.length - 288001 * jn c ts.length
def Ext (next : List Int) (i : Int) (c : List Int) : Prop := ∀ a : Int, 0 ≤ a → a < i → gi c a = gi next a

theorem gi_ext {l m : List Int} (hl : l.length = m.length) (h : ∀ a : Int, 0 ≤ a → a < l.length → gi l a = gi m a) : l = m := by
  refine List.ext_getElem hl fun j h1 h2 => ?_
  have := h j (by omega) (by omega)
  unfold gi at this
  simpa [h1, h2] using this

theorem mem_take_gi {l : List Int} {i v : Int} (h0 : 0 ≤ i) (h1 : i ≤ l.length) (h : v ∈ (l.take i.toNat).drop 0) : ∃ a : Int, 0 ≤ a ∧ a < i ∧ gi l a = v := by
  rw [List.drop_zero] at h
  obtain ⟨j, hj, e⟩ := List.mem_iff_getElem.1 h
  rw [List.length_take] at hj
  refine ⟨j, by omega, by omega, ?_⟩
  rw [List.getElem_take] at e
  have : j < l.length := by omega
  unfold gi; simp [this, e]
theorem gi_mem_take {l : List Int} {i a : Int} (h0 : 0 ≤ a) (h1 : a < i) (h2 : i ≤ l.length) : gi l a ∈ (l.take i.toNat).drop 0 := by
  rw [List.drop_zero]
  refine List.mem_iff_getElem.2 ⟨a.toNat, by rw [List.length_take]; omega, ?_⟩
  rw [List.getElem_take]
  have : a.toNat < l.length := by omega
  unfold gi; simp [this]

def BestOf (ts : List Task) (r : Rules) (next : List Int) (i : Int) (P : List Int → Prop) (k s : Int) : Prop :=
  ∃ c, Circ ts r c ∧ Ext next i c ∧ P c ∧ k = jn c ts.length ∧ s = emp ts r c ts.length ∧ ∀ c', Circ ts r c' → Ext next i c' → P c' → vl ts r c ≤ vl ts r c'

theorem best_wp {ts : List Task} {r : Rules} (T : TV ts r) : ∀ (m : Nat) (next : List Int) (i : Nat), i ≤ ts.length → ts.length < m + i → Circ ts r next → (∀ a : Int, (i : Int) ≤ a → a < ts.length → gi next a = -1) →
    WP (ref24_best_f m ts r next i) (fun y => y.2.2 = next ∧ BestOf ts r next i (fun _ => True) y.1 y.2.1) := by
  intro m
  induction m with
  | zero => intro next i h1 h2; omega
  | succ m ih =>
    intro next i hi hm C hz
    have hn := T.len
    have cl := C.len
    show WP (ref24_best_F (ref24_best_f m) ts r next i) _
    unfold ref24_best_F
    refine wp_ite (fun h => ?_) (fun h => ?_)
    · simp only [decide_eq_true_eq] at h
      obtain ⟨y3, e3, p3, _⟩ := emptyS_wp T next
      refine wp_is e3 ?_
      refine wp_bind _ (joined_wp next (by omega)) ?_
      rintro k rfl
      refine wp_some ⟨rfl, next, C, fun _ _ _ => rfl, trivial, by rw [cl], by rw [p3 C], fun c' C' hx _ => ?_⟩
      have : c' = next := gi_ext (by rw [C'.len, cl]) (fun a a0 a1 => hx a a0 (by rw [C'.len] at a1; omega))
      rw [this]; exact Int.le_refl _
    · simp only [decide_eq_false_iff_not] at h
      refine wp_iter (fun (q : List Int × Int × Int × Int) => q.1 = next ∧ -1 ≤ q.2.2.2 ∧ q.2.2.2 ≤ ts.length ∧ ((q.2.2.2 = -1 ∧ q.2.1 = -1 ∧ q.2.2.1 = 0) ∨ (0 ≤ q.2.2.2 ∧ BestOf ts r next i (fun c => gi c i < q.2.2.2) q.2.1 q.2.2.1))) (fun q => (ts.length - q.2.2.2).toNat) _ ?_ FUEL _ ⟨rfl, by simp only; omega, by simp only; omega, .inl ⟨rfl, rfl, rfl⟩⟩ (fuel_of (by simp only; omega))
      rintro c ⟨nx, jo, em, k⟩ ⟨hnx, hk0, hk1, hinv⟩ hc
      simp only at hnx hk0 hk1 hinv hc
      subst hnx
      simp only [ref24_best_b1]
      refine wp_ite (fun hlt => ?_) (fun hlt => ?_)
      · simp only [decide_eq_true_eq] at hlt
        -- a value that no circulation has there is passed over
        have pass : 0 ≤ k → (∀ c', Circ ts r c' → Ext nx i c' → gi c' i ≠ k) → WP (ref24_best_k2 k c (nx, jo, em)) (fun y => y.2.2 = nx ∧ BestOf ts r nx i (fun _ => True) y.1 y.2.1) := by
          intro k0 hno
          unfold ref24_best_k2
          simp only
          refine wp_i64 (by omega) (hc _ ⟨rfl, by simp only; omega, by simp only; omega, .inr ⟨by simp only; omega, ?_⟩⟩ (by simp only; omega))
          simp only
          rcases hinv with ⟨e, _⟩ | ⟨_, c0, C0, X0, P0, j0, e0, M0⟩
          · omega
          · exact ⟨c0, C0, X0, by omega, j0, e0, fun c' C' X' P' => M0 c' C' X' (by have := hno c' C' X'; omega)⟩
        -- a value that may stand there
        have go : (k = -1 ∨ (0 ≤ k ∧ fok ts r i k = true ∧ ∀ a : Int, 0 ≤ a → a < i → gi nx a ≠ k)) → WP (ref24_best_k3 nx i (ref24_best_f m) ts r k jo em c ()) (fun y => y.2.2 = nx ∧ BestOf ts r nx i (fun _ => True) y.1 y.2.1) := by
          intro hk
          unfold ref24_best_k3
          refine wp_idxi (by omega) (wp_i64 (by omega) ?_)
          have gs : ∀ a : Int, 0 ≤ a → gi (nx.set (i : Int).toNat k) a = if a = i then k else gi nx a := fun a a0 => gi_set nx i a k (by omega) a0 (by omega)
          have C1 : Circ ts r (nx.set (i : Int).toNat k) := by
            refine ⟨by rw [List.length_set, cl], fun a a0 a1 => ?_, fun a b a0 a1 b0 b1 e hne => ?_⟩
            · rw [gs a a0]
              by_cases ea : a = i
              · rw [if_pos ea]
                rcases hk with h1 | ⟨h1, h2, _⟩
                · exact .inl h1
                · exact .inr ⟨h1, by omega, by rw [ea]; exact h2⟩
              · rw [if_neg ea]; exact C.ok a a0 a1
            · rw [gs a a0, gs b b0] at e
              rw [gs a a0] at hne
              by_cases ea : a = i
              · by_cases eb : b = i
                · omega
                · rw [if_pos ea, if_neg eb] at e
                  rw [if_pos ea] at hne
                  rcases hk with h1 | ⟨h1, _, h3⟩
                  · omega
                  · by_cases hb : b < i
                    · exact absurd e.symm (h3 b b0 hb)
                    · have := hz b (by omega) b1; omega
              · rw [if_neg ea] at e hne
                by_cases eb : b = i
                · rw [if_pos eb] at e
                  rcases hk with h1 | ⟨h1, _, h3⟩
                  · omega
                  · by_cases ha : a < i
                    · exact absurd e (h3 a a0 ha)
                    · have := hz a (by omega) a1; omega
                · rw [if_neg eb] at e
                  exact C.inj a b a0 a1 b0 b1 e hne
          have W := ih (nx.set (i : Int).toNat k) (i + 1) (by omega) (by omega) C1 (fun a a0 a1 => by rw [gs a (by omega), if_neg (by omega)]; exact hz a (by omega) a1)
          rw [show ((i + 1 : Nat) : Int) = (i : Int) + 1 by omega] at W
          refine wp_bind _ W ?_
          rintro ⟨yk, ys, yn⟩ ⟨hyn, c1, D1, X1, _, hj1, he1, M1⟩
          simp only at hyn hj1 he1 X1 M1
          subst hyn
          refine wp_chk (by simp) ?_
          have back : (nx.set (i : Int).toNat k).set (i : Int).toNat (-1) = nx := by
            refine gi_ext (by simp) fun a a0 _ => ?_
            rw [gi_set _ i a _ (by omega) a0 (by rw [List.length_set]; omega), gs a a0]
            by_cases ea : a = i
            · rw [if_pos ea, ea, hz i (by omega) (by omega)]
            · rw [if_neg ea, if_neg ea]
          have exi : ∀ c', Ext nx i c' → gi c' i = k → Ext (nx.set (i : Int).toNat k) (i + 1) c' := by
            intro c' X' e' a a0 a1
            rw [gs a a0]
            by_cases ea : a = i
            · rw [if_pos ea, ea, e']
            · rw [if_neg ea]; exact X' a a0 (by omega)
          have c1k : gi c1 i = k := by
            rw [X1 i (by omega) (by omega), gs i (by omega), if_pos rfl]
          have c1x : Ext nx i c1 := by
            intro a a0 a1
            rw [X1 a a0 (by omega), gs a a0, if_neg (by omega)]
          have fin : ∀ jo' em' : Int, BestOf ts r nx i (fun c => gi c i < k + 1) jo' em' → WP (ref24_best_k4 (yk, ys, nx.set (i : Int).toNat k) i k c (jo', em')) (fun y => y.2.2 = nx ∧ BestOf ts r nx i (fun _ => True) y.1 y.2.1) := by
            intro jo' em' B
            unfold ref24_best_k4
            simp only
            refine wp_idxi (by rw [List.length_set]; omega) ?_
            unfold ref24_best_k2
            simp only
            rw [back]
            exact wp_i64 (by omega) (hc _ ⟨rfl, by simp only; omega, by simp only; omega, .inr ⟨by simp only; omega, B⟩⟩ (by simp only; omega))
          have b1 := emp_bd T c1 ts.length
          have b2 := jn_bd c1 ts.length
          refine wp_ite (fun hb => ?_) (fun hb => ?_)
          · refine fin yk ys ⟨c1, D1, c1x, by omega, hj1, he1, fun c' C' X' P' => ?_⟩
            by_cases ek : gi c' i = k
            · exact M1 c' C' (exi c' X' ek) trivial
            · rcases hinv with ⟨e, _⟩ | ⟨_, c0, C0, X0, P0, j0, e0, M0⟩
              · have := C'.ok i (by omega) (by omega); omega
              · have h0 := M0 c' C' X' (by omega)
                have d1 := emp_bd T c0 ts.length
                have d2 := jn_bd c0 ts.length
                simp only [Bool.or_eq_true, Bool.and_eq_true, decide_eq_true_eq] at hb
                have : vl ts r c1 ≤ vl ts r c0 := by unfold vl; omega
                omega
          · simp only [Bool.or_eq_false_iff, Bool.and_eq_false_iff, decide_eq_false_iff_not] at hb
            rcases hinv with ⟨_, e, _⟩ | ⟨k0, c0, C0, X0, P0, j0, e0, M0⟩
            · omega
            · refine fin jo em ⟨c0, C0, X0, by omega, j0, e0, fun c' C' X' P' => ?_⟩
              by_cases ek : gi c' i = k
              · have h1 := M1 c' C' (exi c' X' ek) trivial
                have d1 := emp_bd T c0 ts.length
                have d2 := jn_bd c0 ts.length
                have : vl ts r c0 ≤ vl ts r c1 := by unfold vl; omega
                omega
              · exact M0 c' C' X' (by omega)
        refine wp_whn (fun hk => ?_) (fun hk => ?_)
        · simp only [decide_eq_true_eq] at hk
          have hs : sub nx 0 (i : Int) = some ((nx.take (i : Int).toNat).drop 0) := by
            unfold sub; rw [if_pos (by omega)]; rfl
          refine wp_is hs ?_
          refine wp_whn (fun _ => ?_) (fun h => by simp at h; omega)
          refine wp_bind _ (member_wp _ k (by simp; omega)) ?_
          intro b hb
          refine wp_ite (fun h => ?_) (fun h => ?_)
          · simp only [Bool.and_eq_true, decide_eq_true_eq] at h
            obtain ⟨a, a0, a1, ea⟩ := mem_take_gi (by omega) (by omega) (hb.1 h.2)
            exact pass hk fun c' C' X' e' => by
              have h1 := X' a a0 a1
              have h2 := C'.inj a i a0 (by omega) (by omega) (by omega) (by omega) (by omega)
              omega
          · have hnb : b ≠ true := by
              intro e; subst e; simp at h; omega
            refine wp_ite (fun _ => ?_) (fun h => by simp at h; omega)
            refine wp_idxt (by omega) (wp_idxt (by omega) ?_)
            refine wp_is (T.fo k (by omega) (by omega)).2 ?_
            refine wp_ite (fun hf => ?_) (fun hf => ?_)
            · exact pass hk fun c' C' X' e' => by
                have h1 := C'.ok i (by omega) (by omega)
                rw [e'] at h1
                rcases h1 with h1 | ⟨_, _, h1⟩
                · omega
                · unfold fok at h1; rw [h1] at hf; simp at hf
            · refine go (.inr ⟨hk, by unfold fok; simpa using hf, fun a a0 a1 e => hnb (hb.2 ?_)⟩)
              rw [← e]; exact gi_mem_take a0 a1 (by omega)
        · simp only [decide_eq_false_iff_not] at hk
          refine wp_whn (fun h => by simp at h; omega) (fun _ => ?_)
          refine wp_ite (fun h => by simp at h) (fun _ => ?_)
          refine wp_ite (fun h => by simp at h; omega) (fun _ => ?_)
          exact go (.inl (by omega))
      · simp only [decide_eq_false_iff_not] at hlt
        unfold ref24_best_k1
        rcases hinv with ⟨e, _⟩ | ⟨_, c0, C0, X0, P0, j0, e0, M0⟩
        · omega
        · refine wp_some ⟨rfl, c0, C0, X0, trivial, j0, e0, fun c' C' X' _ => M0 c' C' X' ?_⟩
          have := C'.ok i (by omega) (by omega)
          omega

theorem bestC_wp {ts : List Task} {r : Rules} (T : TV ts r) : WP (ref24_BestCirculation_m ts r) (fun y => ∃ c, Circ ts r c ∧ y = ((ts.length : Int) - jn c ts.length, emp ts r c ts.length) ∧ ∀ c', Circ ts r c' → vl ts r c ≤ vl ts r c') := by
  have hn := T.len
  unfold ref24_BestCirculation_m
  have hm : mk (α := Int) 0 (ts.length : Int) = some (List.replicate ts.length 0) := by
    unfold mk
    rw [if_pos (by simp [GoRep.bytes]; omega)]
    simp
  refine wp_is hm ?_
  refine wp_iter (fun (q : List Int × Nat) => q.1.length = ts.length ∧ q.2 ≤ ts.length ∧ ∀ a : Int, 0 ≤ a → a < q.2 → gi q.1 a = -1) (fun q => ts.length - q.2) _ ?_ FUEL _ ⟨by simp, by simp only; omega, fun a _ h => by simp only at h; omega⟩ (fuel_of (by simp only; omega))
  rintro c ⟨nx, t⟩ ⟨hl, ht, hz⟩ hc
  simp only at hl ht hz hc
  simp only [ref24_BestCirculation_b1, List.length_replicate]
  refine wp_ite (fun h => ?_) (fun h => ?_)
  · simp only [decide_eq_true_eq] at h
    refine wp_idxi (by omega) (hc _ ⟨by simp [hl], by simp only; omega, fun a a0 a1 => ?_⟩ (by simp only; omega))
    simp only at a1 ⊢
    rw [gi_set nx t a _ (by omega) a0 (by omega)]
    by_cases e : a = t
    · rw [if_pos e]
    · rw [if_neg e]; exact hz a a0 (by omega)
  · simp only [decide_eq_false_iff_not] at h
    unfold ref24_BestCirculation_k1 ref24_best_m
    have hz' : ∀ a : Int, 0 ≤ a → a < ts.length → gi nx a = -1 := fun a a0 a1 => hz a a0 (by omega)
    have C : Circ ts r nx := ⟨hl, fun a a0 a1 => .inl (hz' a a0 a1), fun a b a0 a1 _ _ _ hne => absurd (hz' a a0 a1) hne⟩
    have W := best_wp T FUEL nx 0 (by omega) (by have : 41 < FUEL := fuel_of (by omega); omega) C (fun a a0 a1 => hz' a (by omega) a1)
    refine wp_bind _ W ?_
    rintro ⟨yk, ys, yn⟩ ⟨hyn, c1, D1, X1, _, hj1, he1, M1⟩
    simp only at hyn hj1 he1
    subst hyn
    have b2 := jn_bd c1 ts.length
    refine wp_chk (by simp) (wp_i64 (by simp only; omega) (wp_some ⟨c1, D1, by simp only [hj1, he1], fun c' C' => M1 c' C' (fun a a0 a1 => by omega) trivial⟩))

theorem circBuild_plain (l : List Int) (hl : Wf.wf l) : law28_CirculationBuild_m l = some true := by
  have k : WP (law28_CirculationBuild_m l) (fun b => b = true) := by
    obtain ⟨⟨ts, r⟩, hy, hg, g1, g2, g3⟩ := tasks_m l (wf_len hl)
    simp only at hg g1
    have T : TV ts r := ⟨hg⟩
    have hn := T.len
    unfold law28_CirculationBuild_m
    refine wp_is hy ?_
    simp only
    refine wp_bind _ (build_wp T (by omega)) ?_
    rintro ⟨m, cv, e⟩ ⟨he, B⟩
    simp only at he B
    subst he
    have ml := B.cov.ci.len
    have ll := B.cov.la
    refine wp_whn (fun _ => ?_) (fun h => by simp at h)
    obtain ⟨b4, f4, g4⟩ := verifyC_wp T m cv (by omega) (by have := asc_lenB B.cov.la; omega) (by have := asc_lenB B.cov.ra; omega)
    have h4 : b4 = true := g4.2 B.cov
    subst h4
    refine wp_is f4 ?_
    refine wp_ite (fun h => by simp at h) (fun _ => ?_)
    refine wp_bind _ (bestC_wp T) ?_
    rintro y12 ⟨c, C, rfl, M⟩
    obtain ⟨x1, e1, p1, _⟩ := empty_wp T m
    refine wp_is e1 (wp_is awake28 ?_)
    refine wp_whn (fun _ => ?_) (fun h => by cases h)
    refine wp_bind _ (joined_wp m (by omega)) ?_
    rintro k rfl
    have b1 := jn_bd m m.length
    have h1 := M m B.cov.ci
    have h2 := B.best c C
    have c1 := emp_bd T m ts.length
    have c2 := emp_bd T c ts.length
    rw [ml] at b1 ⊢
    have j1 := jn_bd c ts.length
    unfold vl at h1
    have ej : jn m ts.length = jn c ts.length := by omega
    have ee : emp ts r m ts.length = emp ts r c ts.length := by omega
    rw [p1 B.cov.ci]
    refine wp_chk (by simp [i64b]; omega) (wp_some ?_)
    simp [ej, ee]
  obtain ⟨b, h1, rfl⟩ := k
  exact h1
end Go.Proofs.Ytedocibniankjaa
