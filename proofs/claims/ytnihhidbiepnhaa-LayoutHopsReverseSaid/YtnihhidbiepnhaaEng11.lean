/- Engine, part 11: equality of structs of integers, bools, strings and such structs. -/
import Derived.Test.YtnihhidbiepnhaaEng10
namespace Go.Eng
open Go.RowKit

/-- What a cell may hold. -/
inductive PK where
  | int (k : IntKind)
  | bool
  | string
def PK.fit : PK → Value → Bool
  | .int k, .int k' _ => k == k'
  | .bool, .bool _ => true
  | .string, .string _ => true
  | _, _ => false
def fit : List PK → List Value → Bool
  | [], [] => true
  | k :: ks, v :: vs => k.fit v && fit ks vs
  | _, _ => false
theorem fit_len : ∀ {ks : List PK} {vs : List Value}, fit ks vs = true → vs.length = ks.length
  | [], [], _ => rfl
  | _ :: ks, _ :: vs, h => by simp only [fit, Bool.and_eq_true] at h; simp [fit_len h.2]
  | [], _ :: _, h => by simp [fit] at h
  | _ :: _, [], h => by simp [fit] at h
theorem fit_append : ∀ {k1 k2 : List PK} {vs : List Value}, fit (k1 ++ k2) vs = true → fit k1 (vs.take k1.length) = true ∧ fit k2 (vs.drop k1.length) = true
  | [], k2, vs, h => by simpa [fit] using h
  | _ :: ks, k2, [], h => by simp [fit] at h
  | k :: ks, k2, v :: vs, h => by
    simp only [List.cons_append, fit, Bool.and_eq_true] at h
    have := fit_append h.2
    simp [fit, h.1, this.1, this.2]

section
variable {P : Program}
def flatF (rec : TypeId → Option (List PK)) : List Field → Nat → Option (List PK)
  | [], _ => some []
  | f :: fs, o => if (f.name != "_" && f.offset == o) = true then (match rec f.type with
    | some ks => (match flatF rec fs (o + ks.length) with | some r => some (ks ++ r) | none => none)
    | none => none) else none
def flat (P : Program) : Nat → TypeId → Option (List PK)
  | 0, _ => none
  | d + 1, t => match P.underlying t with
    | some (.int k) => some [.int k]
    | some .bool => some [.bool]
    | some .string => some [.string]
    | some (.struct fs) => if P.stoodInHeld t = true then none else (match flatF (flat P d) fs.toList 0 with
      | some ks => if P.cellsOf t = ks.length ∧ (P.info? t).isSome = true then some ks else none
      | none => none)
    | _ => none

def EqA (P : Program) (D : Nat) (t : TypeId) (ks : List PK) : Prop := ∀ (xs ys : Array Value) (o : Nat) (w : World), fit ks ((xs.toList.drop o).take ks.length) = true → fit ks ((ys.toList.drop o).take ks.length) = true →
  ∃ a b r, (part t xs o).run P w = .ok a w ∧ (part t ys o).run P w = .ok b w ∧ (Op.equalIn D t a b).run P w = .ok r w ∧ (r = true ↔ (xs.toList.drop o).take ks.length = (ys.toList.drop o).take ks.length)

theorem eqFields_flat {D : Nat} {rec : TypeId → Option (List PK)} (IH : ∀ t ks, rec t = some ks → EqA P D t ks) (xs ys : Array Value) (w : World) :
    ∀ (fs : List Field) (o : Nat) (ks : List PK), flatF rec fs o = some ks → fit ks (xs.toList.drop o) = true → fit ks (ys.toList.drop o) = true →
      ∃ r, (Op.eqFields D xs ys fs).run P w = .ok r w ∧ (r = true ↔ xs.toList.drop o = ys.toList.drop o)
  | [], o, ks, h, hx, hy => by
    simp only [flatF, Option.some.injEq] at h
    subst h
    refine ⟨true, rfl, ?_⟩
    have e1 := fit_len hx
    have e2 := fit_len hy
    simp only [List.length_nil] at e1 e2
    rw [List.length_eq_zero_iff.1 e1, List.length_eq_zero_iff.1 e2]
    simp
  | f :: fs, o, ks, h, hx, hy => by
    unfold flatF at h
    split at h
    · rename_i hn
      simp only [Bool.and_eq_true, bne_iff_ne, ne_eq, beq_iff_eq] at hn
      obtain ⟨hn, rfl⟩ := hn
      split at h
      · rename_i k1 hr
        split at h
        · rename_i k2 hr2
          simp only [Option.some.injEq] at h
          subst h
          have fx := fit_append hx
          have fy := fit_append hy
          obtain ⟨a, b, r, pa, pb, pr, hiff⟩ := IH _ _ hr xs ys f.offset w fx.1 fy.1
          obtain ⟨r2, pr2, hiff2⟩ := eqFields_flat IH xs ys w fs (f.offset + k1.length) k2 hr2 (by rw [← List.drop_drop]; exact fx.2) (by rw [← List.drop_drop]; exact fy.2)
          have hsplit : ∀ l l' : List Value, (l = l' ↔ l.take k1.length = l'.take k1.length ∧ l.drop k1.length = l'.drop k1.length) := fun l l' => ⟨fun e => by rw [e]; exact ⟨rfl, rfl⟩, fun ⟨e1, e2⟩ => by rw [← List.take_append_drop k1.length l, e1, e2, List.take_append_drop]⟩
          simp only [Op.eqFields, ne_eq, hn, not_false_eq_true, if_true]
          rw [run_bind_ok pa, run_bind_ok pb, run_bind_ok pr]
          cases hrr : r with
          | false =>
            refine ⟨false, by simp [go_sem], ?_⟩
            rw [hsplit]
            rw [hrr] at hiff
            simp at hiff ⊢
            exact fun e => absurd e hiff
          | true =>
            refine ⟨r2, by simpa using pr2, ?_⟩
            rw [hsplit, hiff2, List.drop_drop, List.drop_drop]
            rw [hrr] at hiff
            simp at hiff
            exact ⟨fun e => ⟨hiff, e⟩, fun e => e.2⟩
        · cases h
      · cases h
    · cases h

theorem take1 {xs : Array Value} {o : Nat} {v : Value} (h : (xs.toList.drop o).take 1 = [v]) : xs[o]? = some v := by
  have : (xs.toList.drop o)[0]? = some v := by
    cases hd : xs.toList.drop o with
    | nil => rw [hd] at h; simp at h
    | cons a r => rw [hd] at h; simp at h; subst h; rfl
  simpa [List.getElem?_drop] using this

theorem run_part_one {t : TypeId} {cs : Array Value} {o : Nat} {v : Value} {w : World} (hu : oneT P t = true) (hv : cs[o]? = some v) : (part t cs o).run P w = .ok v w := by
  unfold part
  rw [run_bind_ok (run_isAgg_false hu w)]
  simp [hv, go_sem]

theorem flat_eq : ∀ (d D : Nat) (t : TypeId) (ks : List PK), d ≤ D → flat P d t = some ks → EqA P D t ks
  | 0, D, t, ks, _, h => by simp [flat] at h
  | d + 1, 0, t, ks, hd, _ => by omega
  | d + 1, D + 1, t, ks, hd, h => by
    intro xs ys o w hx hy
    unfold flat at h
    split at h
    · rename_i k hu
      simp only [Option.some.injEq] at h
      subst h
      have get : ∀ (zs : Array Value), fit [.int k] ((zs.toList.drop o).take 1) = true → ∃ n, (zs.toList.drop o).take 1 = [.int k n] := fun zs hz => by
        match hl : (zs.toList.drop o).take 1, hz with
        | [v], hz =>
          cases v <;> simp [fit, PK.fit] at hz
          subst hz
          exact ⟨_, rfl⟩
        | [], hz => simp [fit] at hz
        | _ :: _ :: _, hz => simp [fit] at hz
      obtain ⟨n, e1⟩ := get xs hx
      obtain ⟨m, e2⟩ := get ys hy
      refine ⟨_, _, _, run_part_one (by simp [oneT, hu]) (take1 e1), run_part_one (by simp [oneT, hu]) (take1 e2), run_equalIn_int w D t k k n m hu, ?_⟩
      show _ ↔ (xs.toList.drop o).take 1 = (ys.toList.drop o).take 1
      rw [e1, e2]
      simp
    · rename_i hu
      simp only [Option.some.injEq] at h
      subst h
      have get : ∀ (zs : Array Value), fit [.bool] ((zs.toList.drop o).take 1) = true → ∃ n, (zs.toList.drop o).take 1 = [.bool n] := fun zs hz => by
        match hl : (zs.toList.drop o).take 1, hz with
        | [v], hz =>
          cases v <;> simp [fit, PK.fit] at hz
          exact ⟨_, rfl⟩
        | [], hz => simp [fit] at hz
        | _ :: _ :: _, hz => simp [fit] at hz
      obtain ⟨n, e1⟩ := get xs hx
      obtain ⟨m, e2⟩ := get ys hy
      refine ⟨_, _, _, run_part_one (by simp [oneT, hu]) (take1 e1), run_part_one (by simp [oneT, hu]) (take1 e2), run_equalIn_bool w D t n m hu, ?_⟩
      show _ ↔ (xs.toList.drop o).take 1 = (ys.toList.drop o).take 1
      rw [e1, e2]
      simp
    · rename_i hu
      simp only [Option.some.injEq] at h
      subst h
      have get : ∀ (zs : Array Value), fit [.string] ((zs.toList.drop o).take 1) = true → ∃ n, (zs.toList.drop o).take 1 = [.string n] := fun zs hz => by
        match hl : (zs.toList.drop o).take 1, hz with
        | [v], hz =>
          cases v <;> simp [fit, PK.fit] at hz
          exact ⟨_, rfl⟩
        | [], hz => simp [fit] at hz
        | _ :: _ :: _, hz => simp [fit] at hz
      obtain ⟨n, e1⟩ := get xs hx
      obtain ⟨m, e2⟩ := get ys hy
      refine ⟨_, _, _, run_part_one (by simp [oneT, hu]) (take1 e1), run_part_one (by simp [oneT, hu]) (take1 e2), run_equalIn_string w D t n m hu, ?_⟩
      show _ ↔ (xs.toList.drop o).take 1 = (ys.toList.drop o).take 1
      rw [e1, e2]
      simp only [beq_iff_eq, List.cons.injEq, Value.string.injEq, and_true]
      exact ⟨fun e => by rw [ByteArray.toList_eq, ByteArray.toList_eq] at e; cases n; cases m; simp at e; rw [e], fun e => by rw [e]⟩
    · rename_i fs hu
      split at h
      · cases h
      · rename_i hs
        split at h
        · rename_i ks' hff
          split at h
          · rename_i hi
            obtain rfl := Option.some.inj h
            cases hinf : P.info? t with
            | none => rw [hinf] at hi; simp at hi
            | some i =>
              have hi : i.size = ks'.length := by have := hi.1; simpa [Program.cellsOf, hinf] using this
              have ext : ∀ (zs : Array Value), (zs.extract o (o + ks'.length)).toList = (zs.toList.drop o).take ks'.length := fun zs => by
                rw [Array.toList_extract]; simp [List.extract]
              have pt : ∀ (zs : Array Value), (part t zs o).run P w = .ok (.agg (zs.extract o (o + ks'.length))) w := fun zs => by
                simp [part, isAgg, run_underlying hu, run_sizeOf w hinf, Program.cellsOf, hinf, hi]
              have hfs : P.fieldsOf t = fs := by simp [Program.fieldsOf, hu]
              obtain ⟨r, hr, hiff⟩ := eqFields_flat (rec := flat P d) (D := D) (fun t ks h => flat_eq d D t ks (by omega) h) (xs.extract o (o + ks'.length)) (ys.extract o (o + ks'.length)) w fs.toList 0 ks' hff (by rw [ext]; exact hx) (by rw [ext]; exact hy)
              refine ⟨_, _, r, pt xs, pt ys, ?_, ?_⟩
              · rw [run_equalIn_struct w D t _ _ (by rw [hfs]; exact hu) (by simpa using hs), hfs]
                exact hr
              · rw [hiff, ext, ext, List.drop_zero, List.drop_zero]
          · cases h
        · cases h
    · cases h

def structT (P : Program) (t : TypeId) : Bool := match P.underlying t with | some (.struct _) => true | _ => false
theorem flat_top {t : TypeId} {ks : List PK} {l1 l2 : List Value} {w : World} (h : flat P 11 t = some ks) (hst : structT P t = true) (h1 : fit ks l1 = true) (h2 : fit ks l2 = true) :
    ∃ r, (Op.equalIn 10000 t (.agg l1.toArray) (.agg l2.toArray)).run P w = .ok r w ∧ (r = true ↔ l1 = l2) := by
  unfold flat at h
  unfold structT at hst
  cases hu : P.underlying t with
  | none => rw [hu] at hst; cases hst
  | some ds =>
    cases ds with
    | struct fs =>
      simp only [hu] at h
      split at h
      · cases h
      · rename_i hs
        split at h
        · rename_i ks' hff
          split at h
          · obtain rfl := Option.some.inj h
            have hfs : P.fieldsOf t = fs := by simp [Program.fieldsOf, hu]
            obtain ⟨r, hr, hiff⟩ := eqFields_flat (rec := flat P 10) (D := 9999) (fun t ks h => flat_eq 10 9999 t ks (by omega) h) l1.toArray l2.toArray w fs.toList 0 ks' hff (by simpa using h1) (by simpa using h2)
            refine ⟨r, ?_, by simpa using hiff⟩
            rw [run_equalIn_struct w 9999 t _ _ (by rw [hfs]; exact hu) (by simpa using hs), hfs]
            exact hr
          · cases h
        · cases h
    | _ => rw [hu] at hst; cases hst

variable {n : Nat} {w0 : World} {ρ : Env} {H : List Chunk} {g : Bool}
theorem ev_eqlF {x y : Operand} {t u : TypeId} {l1 l2 : List Value} (ks : List PK) (r : Bool) (hr : r = true ↔ l1 = l2)
    (hx : Gets ρ g x (.agg l1.toArray) := by first | exact .plain rfl | exact .cond rfl id | exact .cond rfl gl) (hy : Gets ρ g y (.agg l2.toArray) := by first | exact .plain rfl | exact .cond rfl id | exact .cond rfl gl)
    (hf1 : fit ks l1 = true := by rfl) (hf2 : fit ks l2 = true := by rfl) (hk : flat P 11 t = some ks := by kernel_rfl) (hst : structT P t = true := by kernel_rfl) (hgt : P.eqGuardType P.depth t = false := by kernel_rfl) :
    Ev P n w0 H ρ g (.binOp .eql t x y u) (.bool r) := by
  intro w act dst ty pos aft gd hm ho hg
  obtain ⟨r', h1, h2⟩ := flat_top (w := w) hk hst hf1 hf2
  have : r' = r := by rw [Bool.eq_iff_iff, h2, hr]
  subst this
  simp only [execOp, hx.eval ho hg, hy.eval ho hg]
  refine run_value ?_
  rw [run_bind_ok (run_eqGuard_agg (P := P) w .eql t x y _ _ hgt), run_eql_struct, h1]
  rfl
theorem ev_neqF {x y : Operand} {t u : TypeId} {l1 l2 : List Value} (ks : List PK) (r : Bool) (hr : r = true ↔ l1 = l2)
    (hx : Gets ρ g x (.agg l1.toArray) := by first | exact .plain rfl | exact .cond rfl id | exact .cond rfl gl) (hy : Gets ρ g y (.agg l2.toArray) := by first | exact .plain rfl | exact .cond rfl id | exact .cond rfl gl)
    (hf1 : fit ks l1 = true := by rfl) (hf2 : fit ks l2 = true := by rfl) (hk : flat P 11 t = some ks := by kernel_rfl) (hst : structT P t = true := by kernel_rfl) (hgt : P.eqGuardType P.depth t = false := by kernel_rfl) :
    Ev P n w0 H ρ g (.binOp .neq t x y u) (.bool (!r)) := by
  intro w act dst ty pos aft gd hm ho hg
  obtain ⟨r', h1, h2⟩ := flat_top (w := w) hk hst hf1 hf2
  have : r' = r := by rw [Bool.eq_iff_iff, h2, hr]
  subst this
  simp only [execOp, hx.eval ho hg, hy.eval ho hg]
  refine run_value ?_
  rw [run_bind_ok (run_eqGuard_agg (P := P) w .neq t x y _ _ hgt), run_neq_struct, h1]
  rfl
end
end Go.Eng
