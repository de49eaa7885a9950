/- Plain laws: the changed plan is there. -/
import Derived.Test.YtcalibhfgdncaaaKp
import Derived.Test.YtcalibhfgdncaaaPv
set_option linter.all false
namespace Go.Proofs.Ytcalibhfgdncaaa
open Go.Dc
set_option maxRecDepth 10000
theorem aes {v k : Int} (h : -9223372036854775808 ≤ v ∧ v ≤ 9223372036854775807) (hk : 2 ≤ k) : bP (v.tdiv k) = true := by
 rcases Int.le_total 0 v with h0 | h0
 ·have a := Int.tdiv_nonneg h0 (show (0 : Int) ≤ k by omega)
  have b := Int.ediv_le_self k h0
  rw [Int.tdiv_eq_ediv_of_nonneg h0] at a ⊢
  exact mF (by omega) (by omega)
 ·have e : v.tdiv k = -((-v).tdiv k) := by rw [Int.neg_tdiv, Int.neg_neg]
  have a := Int.tdiv_nonneg (a := -v) (by omega) (show (0 : Int) ≤ k by omega)
  have b := Int.ediv_le_self k (show (0 : Int) ≤ -v by omega)
  rw [e]
  rw [Int.tdiv_eq_ediv_of_nonneg (by omega)] at a ⊢
  exact mF (by omega) (by omega)
theorem lu {β : Type} {v n : Int} {K : Int → Option β} {Q : β → Prop} (h : 1 ≤ n ∧ n ≤ 4611686018427387904) (hk : ∀ k, 0 ≤ k → k < n → WP (K k) Q) : WP ((jH v n).bind K) Q := by
 obtain ⟨k, e, a, b⟩ := Vj v n h.1 h.2
 rw [e]; exact hk k a b
theorem ac1 {p : Plan} (b : RS p) (hr : ∀ r ∈ p.Routes, 0 < r.Steps.length ∧ r.Steps.length ≤ 10) (hx : ∀ x ∈ p.Lines, x.ay.length ≤ 100) {how at_ v : Int}
  (hv : -9223372036854775808 ≤ v ∧ v ≤ 9223372036854775807) : WP (Ii p how at_ v) (fun _ => True) := by
 have b1 := b.st; have b2 := b.ro; have b3 := b.li; have b4 := b.ch; have b5 := b.tu; have b6 := b.sy; have b7 := b.de; have b8 := b.per
 have hd : ∀ (k : Int), 2 ≤ k → bP (v.tdiv k) = true := fun k hk => aes hv hk
 have kk : ∀ z, WP (qN p z) (fun _ => True) := fun ⟨_, _, _, _, _, _, _⟩ => ⟨_, rfl, trivial⟩
 unfold Ii
 simp only [List.nil_append, List.length_nil, Nat.zero_add]
 refine gX (by simp; omega) (gX (by simp; omega) (gX (by simp; omega) (gX (by simp; omega) (gX (by simp; omega) (gX (by simp; omega) (gX (by simp; omega) ?_))))))
 refine ko (fun _ => wX trivial) (fun h0 => ?_)
 simp only [Bool.or_eq_false_iff, decide_eq_false_iff_not] at h0
 refine lu (by omega) fun aD a0 a1 => jI (by omega) fun x28 m28 => ?_
 have IY := hx x28 m28
 refine gX (by simp; omega) (jI (by omega) fun ak _ => ko (fun _ => wX trivial) (fun h1 => ?_))
 simp only [decide_eq_false_iff_not] at h1
 refine lu (by omega) fun y38 c0 c1 => lu (by omega) fun oN _ _ => ?_
 refine ko (fun _ => lu (by omega) fun _ _ _ => fE (by omega) (kk _)) (fun _ => ?_)
 refine ko (fun _ => lu (by omega) fun _ _ _ => jI (by simp; omega) fun _ _ => lu (by omega) fun _ _ _ => lu (by omega) fun _ _ _ => gX (by simp; omega) (kk _)) (fun _ => ?_)
 refine ko (fun _ => lu (by omega) fun _ _ _ => fE (by omega) (jI (by omega) fun _ _ => kk _)) (fun _ => ?_)
 refine ko (fun _ => jI (by omega) fun jX m70 => ?_) (fun _ => ?_)
 ·have s70 := hr jX m70
  exact gX (by simp; omega) (jI (by omega) fun _ _ => gX (by rw [hd 8 (by omega)]; rfl) (lu (by omega) fun _ _ _ => lu (by omega) fun _ _ _ => jI (by omega) fun _ _ => kk _))
 refine ko (fun _ => lu (by omega) fun _ _ _ => fE (by omega) (kk _)) (fun _ => ?_)
 refine ko (fun _ => lu (by omega) fun _ _ _ => fE (by omega) (kk _)) (fun _ => ?_)
 refine ko (fun _ => fE (by omega) ?_) (fun _ => ?_)
 ·have e : sub x28.ay 0 ((x28.ay.length : Int) - 1) = some (x28.ay.take ((x28.ay.length : Int) - 1).toNat) := by
   unfold sub
   rw [if_pos (by omega)]; simp
  rw [e, Option.bind_some]; exact kk _
 refine ko (fun _ => gX (by rw [hd 4 (by omega)]; rfl) (fE (by omega) (lu (by omega) fun _ _ _ => lu (by omega) fun _ _ _ => fE (by omega) (jI (by omega) fun _ _ => kk _)))) (fun _ => ?_)
 refine ko (fun _ => gX (by rw [hd 4 (by omega)]; rfl) (fE (by omega) (lu (by omega) fun _ _ _ => lu (by omega) fun _ _ _ => fE (by omega) (jI (by omega) fun _ _ => kk _)))) (fun _ => ?_)
 refine ko (fun _ => lu (by omega) fun _ _ _ => gX (by rw [hd 4 (by omega)]; rfl) (gX (by rw [hd 80 (by omega)]; rfl) (fE (by split <;> omega) (lu (by omega) fun _ _ _ => fE (by omega) (lu (by split <;> omega) fun _ _ _ => jI (by omega) fun _ _ => jI (by simp; omega) fun _ _ => kk _))))) (fun _ => ?_)
 refine ko (fun _ => fE (by omega) (gX (by rw [hd 4 (by omega)]; rfl) (gX (by rw [hd 120 (by omega)]; rfl) (lu (by omega) fun _ _ _ => lu (by omega) fun _ _ _ => lu (by omega) fun _ _ _ => fE (by omega) (gX (by simp; omega) (kk _)))))) (fun _ => ?_)
 refine ko (fun _ => gX (by rw [hd 3 (by omega)]; rfl) (fE (by omega) (gX (by rw [hd 12 (by omega)]; rfl) (lu (by omega) fun _ _ _ => lu (by omega) fun _ _ _ => lu (by omega) fun _ _ _ => lu (by omega) fun _ _ _ => fE (by omega) (gX (by simp; omega) (kk _)))))) (fun _ => ?_)
 refine ko (fun _ => gX (by rw [hd 2 (by omega)]; rfl) (gX (by rw [hd 8 (by omega)]; rfl) (gX (by rw [hd 16 (by omega)]; rfl) (fE (by omega) (lu (by omega) fun _ _ _ => lu (by omega) fun _ _ _ => lu (by omega) fun _ _ _ => lu (by omega) fun _ _ _ => fE (by omega) (gX (by simp; omega) (kk _))))))) (fun _ => ?_)
 exact lu (by omega) fun _ _ _ => jI (by simp; omega) fun _ _ => kk _
end Go.Proofs.Ytcalibhfgdncaaa
