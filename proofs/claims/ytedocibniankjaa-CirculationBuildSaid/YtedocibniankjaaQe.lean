/- Plain laws of chapter 28: circulations, covers, empty seconds. -/
import Derived.Test.YtedocibniankjaaQ1
import Derived.Test.YtedocibniankjaaPg
import Derived.Test.YtedocibniankjaaPf
import Derived.Test.YtedocibniankjaaCc
namespace Go.Proofs.Ytedocibniankjaa
open Go.Dc

def tk (ts : List Task) (i : Int) : Task := ts.getD i.toNat default
theorem wp_idxt {β : Type} {xs : List Task} {i : Int} {K : Task → Option β} {Q : β → Prop} (h : 0 ≤ i ∧ i < xs.length) (hk : WP (K (tk xs i)) Q) : WP ((idx xs i).bind K) Q := by
  have e : idx xs i = some (tk xs i) := by
    have : i.toNat < xs.length := by omega
    simp [idx, h.1, tk, this]
  rw [e]; exact hk
theorem wp_is {α β : Type} {o : Option α} {y : α} {K : α → Option β} {Q : β → Prop} (h : o = some y) (hk : WP (K y) Q) : WP (o.bind K) Q := by rw [h]; exact hk

/-- Valid tasks and rules. -/
structure TV (ts : List Task) (r : Rules) : Prop where
  h : tasksB ts r = true
theorem TV.len {ts : List Task} {r : Rules} (T : TV ts r) : ts.length ≤ 40 := by
  have h := T.h
  simp [tasksB, lenB] at h
  exact h.1.1.1
theorem TV.fo {ts : List Task} {r : Rules} (T : TV ts r) {a : Int} (b : Int) (a0 : 0 ≤ a) (a1 : a < ts.length) : circulation_Follows_m r (tk ts a) (tk ts b) = some (fw r (tk ts a) (tk ts b)) ∧ ref24_Follows_m r (tk ts a) (tk ts b) = some (fw r (tk ts a) (tk ts b)) := by
  have h := T.h
  simp only [tasksB, lenB, Bool.and_eq_true, decide_eq_true_eq] at h
  obtain ⟨⟨⟨_, h2⟩, _⟩, h3, h4, _, h6⟩ := h
  have hm : tk ts a ∈ ts := by
    have : a.toNat < ts.length := by omega
    unfold tk; simp [this]
  have ha := List.all_eq_true.1 h3 _ hm
  exact ⟨follows_m r _ _ ha h6 h4 h2, followsR_m r _ _ ha h6 h4 h2⟩
theorem TV.sec {ts : List Task} {r : Rules} (T : TV ts r) (a b : Int) : 0 ≤ (fw r (tk ts a) (tk ts b)).1 ∧ (fw r (tk ts a) (tk ts b)).1 ≤ 7200 := by
  have h := T.h
  simp only [tasksB, Bool.and_eq_true] at h
  exact fw_bd r _ _ h.2.2.1

def fok (ts : List Task) (r : Rules) (a b : Int) : Bool := (fw r (tk ts a) (tk ts b)).2
def sec (ts : List Task) (r : Rules) (a b : Int) : Int := (fw r (tk ts a) (tk ts b)).1

structure Circ (ts : List Task) (r : Rules) (next : List Int) : Prop where
  len : next.length = ts.length
  ok : ∀ a : Int, 0 ≤ a → a < ts.length → gi next a = -1 ∨ (0 ≤ gi next a ∧ gi next a < ts.length ∧ fok ts r a (gi next a) = true)
  inj : ∀ a b : Int, 0 ≤ a → a < ts.length → 0 ≤ b → b < ts.length → gi next a = gi next b → gi next a ≠ -1 → a = b

def emp (ts : List Task) (r : Rules) (next : List Int) (n : Nat) : Int := sumTo (fun a => if 0 ≤ gi next a then sec ts r a (gi next a) else 0) n
theorem emp_bd {ts : List Task} {r : Rules} (T : TV ts r) (next : List Int) (n : Nat) : 0 ≤ emp ts r next n ∧ emp ts r next n ≤ 7200 * (n : Int) := by
  constructor
  · exact sumTo_nonneg (fun a _ _ => by
      have := (T.sec a (gi next a)).1
      unfold sec; split <;> omega)
  · have := sumTo_le (f := fun a => if 0 ≤ gi next a then sec ts r a (gi next a) else 0) (g := fun _ => 7200) (n := n) (fun a _ _ => by
      have := (T.sec a (gi next a)).2
      unfold sec; split <;> omega)
    rw [sumTo_const] at this
    unfold emp
    omega

end Go.Proofs.Ytedocibniankjaa
