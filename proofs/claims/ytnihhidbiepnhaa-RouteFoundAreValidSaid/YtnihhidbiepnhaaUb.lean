/- The reference's search; Find of both; the routes that are found are the same. -/
import Derived.Test.YtnihhidbiepnhaaUa
namespace Go.Proofs.Ytnihhidbiepnhaa
open Go.Dc

/-- What Find returns. -/
def findE (r : Option (Int × List Route)) : List Route × Int × Int :=
  match r with
  | none => ([], 0, 15)
  | some q => if q.2.length = 0 then ([], 0, 6) else (q.2, q.1, 0)
def findR (l : Layout) (a : Step) (to_ b : Int) : List Route × Int × Int :=
  if checkL (layOf l) ≠ 0 then ([], 0, 1) else
  if ¬ (isS l a = true) ∨ to_ < 0 ∨ (l.Sections.length : Int) ≤ to_ ∨ b < 1 ∨ 1048576 < b then ([], 0, 4) else
  findE (ext (hopsF l) to_ b 23 [a] 1 [])

theorem isStep_m (l : Layout) (s : Step) : route_isStep_m l s = some (isS l s) := by
  unfold route_isStep_m isS
  rfl

theorem find_m (l : Layout) (a : Step) (to_ b : Int) : route_Find_m l a to_ b = some (findR l a to_ b) := by
  unfold route_Find_m layout_Check_m
  rw [Option.bind_some]
  by_cases ck : checkL (layOf l) = 0
  · have hR : findR l a to_ b = if ¬ (isS l a = true) ∨ to_ < 0 ∨ (l.Sections.length : Int) ≤ to_ ∨ b < 1 ∨ 1048576 < b then ([], 0, 4) else findE (ext (hopsF l) to_ b 23 [a] 1 []) := by
      unfold findR; rw [if_neg (by simpa using ck)]
    rw [hR, if_neg (by simpa using ck), isStep_m, Option.bind_some]
    by_cases h1 : isS l a = true
    · rw [if_neg (by simp [h1])]
      by_cases h2 : to_ < 0
      · rw [if_pos (by simpa using h2), if_pos (.inr (.inl h2))]
        simp [route_Find_k1, h2]
      · rw [if_neg (by simpa using h2)]
        by_cases h3 : (l.Sections.length : Int) ≤ to_
        · rw [if_pos (by simpa using h3), if_pos (.inr (.inr (.inl h3)))]
          simp [route_Find_k1, h3]
        · rw [if_neg (by simpa using h3)]
          by_cases h4 : b < 1
          · rw [if_pos (by simpa using h4), if_pos (.inr (.inr (.inr (.inl h4))))]
            simp [route_Find_k1, h4]
          · rw [if_neg (by simpa using h4)]
            by_cases h5 : 1048576 < b
            · rw [if_pos (.inr (.inr (.inr (.inr h5))))]
              simp [route_Find_k1, h5]
            · rw [if_neg (by simp [h1]; omega)]
              unfold route_Find_k1
              rw [if_neg (by simpa using h5)]
              have v := val_of ck
              have hf := v.full
              obtain ⟨a0, a1, _⟩ := isS_rng h1
              rw [mk_bool (by omega) (by omega), Option.bind_some]
              have e0 : List.replicate (l.Sections.length : Int).toNat false = uOf l.Sections.length [] := by rw [← uOf_nil]; rfl
              unfold route_Find_k2
              rw [e0, append_m _ a [] l.Sections.length rfl a0 a1 (by simp) ⟨by simp, by simp⟩, Option.bind_some]
              dsimp only
              rw [if_pos (by simp; omega)]
              have := prog_ext ck to_ b (by omega) 23 [a] 1 [] [] FUEL (by simp) (by simp) (by intro s hs; rw [List.mem_singleton] at hs; subst hs; exact h1) ⟨by omega, by omega, by simp⟩ (by intro e he; simp at he) (fuel_of (by omega))
              obtain ⟨y, hy, hq⟩ := this
              have hy' : route_search_extend_m ⟨l, to_, b, 0 + 1, [] ++ [a], uOf l.Sections.length ([] ++ [a.Section]), ⟨[]⟩, []⟩ = some y := hy
              rw [hy', Option.bind_some]
              have hd : decide ((0 : Int) + 1 ≤ b) = true := by simp; omega
              rw [hd]
              cases hex : ext (hopsF l) to_ b 23 [a] 1 [] with
              | none =>
                rw [hex] at hq
                have hq : y.1 = false := hq
                rw [if_pos (by simp [hq])]
                rfl
              | some q =>
                rw [hex] at hq
                obtain ⟨m', _, rfl⟩ := hq
                rw [if_neg (by simp)]
                dsimp only [findE]
                by_cases hz : q.2.length = 0
                · rw [if_pos (by simp [hz]), if_pos hz]
                · rw [if_neg (by simp; intro h; exact hz (by simp [h])), if_neg hz]
    · rw [if_pos (by simp [h1]), if_pos (.inl h1)]
      simp [route_Find_k1, h1]
  · unfold findR
    rw [if_pos (by simpa using ck), if_pos (by simpa using ck)]

/-! ### Comparing routes -/
theorem sameS_m (a b : List Step) (h : a.length ≤ 1000000) : keep_Same_api_Step_m a b = some (decide (a = b)) := by
  unfold keep_Same_api_Step_m
  by_cases hl : a.length = b.length
  · rw [if_neg (by simp; omega)]
    have := iter_list (B := keep_Same_api_Step_b1 a b) (fun (_ : Unit) i => i) a (fun _ i => a.take i = b.take i) (fun _ _ => some (decide (a = b))) ?_ ?_ FUEL () 0 rfl (by omega) (fuel_of (by omega))
    · simpa using this
    · intro c _ i x r hp hdr hi hx hk
      simp only [keep_Same_api_Step_b1]
      rw [if_pos (by simp; omega), hx, Option.bind_some, idx_nat, List.getElem?_eq_getElem (by omega), Option.bind_some]
      rw [idx_nat, List.getElem?_eq_getElem hi] at hx
      have hxa : a[i] = x := Option.some.inj hx
      by_cases h1 : x = b[i]'(by omega)
      · rw [if_neg (by simp [h1]), hk () (by rw [List.take_add_one, List.take_add_one, hp, List.getElem?_eq_getElem hi, List.getElem?_eq_getElem (by omega), hxa, h1])]
      · rw [if_pos (by simp [h1])]
        have : a ≠ b := fun e => h1 (by rw [← hxa]; subst e; rfl)
        simp [this]
    · intro c _ hp
      simp only [keep_Same_api_Step_b1]
      rw [if_neg (by simp)]
      rw [List.take_length, hl, List.take_length] at hp
      simp [keep_Same_api_Step_k1, hp]
  · rw [if_pos (by simp; omega)]
    have : a ≠ b := fun e => hl (by rw [e])
    simp [this]
theorem sameR_m (a b : Route) (h : a.Steps.length ≤ 1000000) : keep_SameRoute_m a b = some (decide (a = b)) := by
  unfold keep_SameRoute_m
  rw [sameS_m _ _ h, whn_v, Option.bind_some]
  congr 1
  obtain ⟨s, o⟩ := a
  obtain ⟨t, q⟩ := b
  by_cases h1 : o = q
  · by_cases h2 : s = t <;> simp [h1, h2]
  · simp [h1]
/-! ### What is found -/
/-- All sequences that the search appends, in order. -/
def visL (f : List Step → List (List Step)) (to_ : Int) (p : List Step) : List Hop → List (List Step)
  | [] => []
  | h :: hs => if h.To.Section ∈ secsP p then visL f to_ p hs else
    (p ++ [h.To]) :: ((if h.To.Section = to_ then [] else f (p ++ [h.To])) ++ visL f to_ p hs)
def vis (hp : Step → List Hop) (to_ : Int) : Nat → List Step → List (List Step)
  | 0 => fun _ => []
  | n + 1 => fun p => visL (vis hp to_ n) to_ p (hp (p.getLastD default))
def outs (to_ : Int) (L : List (List Step)) : List Route := (L.filter (fun q => decide ((q.getLastD default).Section = to_))).map fun q => ⟨q, 0⟩
theorem outs_append (to_ : Int) (L M : List (List Step)) : outs to_ (L ++ M) = outs to_ L ++ outs to_ M := by simp [outs]

theorem extL_vis {f : List Step → Int → List Route → Option (Int × List Route)} {g : List Step → List (List Step)} {to_ b : Int}
    (hf : ∀ p u o, u ≤ b → f p u o = if u + (g p).length ≤ b then some (u + (g p).length, o ++ outs to_ (g p)) else none) (p : List Step) : ∀ (hs : List Hop) (u : Int) (o : List Route), u ≤ b →
    extL f to_ b p hs u o = if u + (visL g to_ p hs).length ≤ b then some (u + (visL g to_ p hs).length, o ++ outs to_ (visL g to_ p hs)) else none
  | [], u, o, hu => by simp [extL, visL, outs, hu]
  | h :: hs, u, o, hu => by
    rw [extL_cons]
    unfold visL
    by_cases h1 : h.To.Section ∈ secsP p
    · rw [if_pos h1, if_pos h1]; exact extL_vis hf p hs u o hu
    · rw [if_neg h1, if_neg h1]
      by_cases h2 : b < u + 1
      · rw [if_pos h2, if_neg (by simp; omega)]
      · rw [if_neg h2]
        by_cases h3 : h.To.Section = to_
        · rw [if_pos h3, if_pos h3, extL_vis hf p hs _ _ (by omega), List.nil_append]
          have e : outs to_ ((p ++ [h.To]) :: visL g to_ p hs) = [⟨p ++ [h.To], 0⟩] ++ outs to_ (visL g to_ p hs) := by
            rw [show (p ++ [h.To]) :: visL g to_ p hs = [p ++ [h.To]] ++ visL g to_ p hs from rfl, outs_append]
            congr 1
            simp [outs, h3]
          rw [e]
          simp only [List.length_cons, List.append_assoc]
          have e2 : u + 1 + ((visL g to_ p hs).length : Int) = u + ((visL g to_ p hs).length + 1 : Nat) := by omega
          rw [e2]
        · rw [if_neg h3, if_neg h3, hf _ _ _ (by omega)]
          have e : outs to_ ((p ++ [h.To]) :: (g (p ++ [h.To]) ++ visL g to_ p hs)) = outs to_ (g (p ++ [h.To])) ++ outs to_ (visL g to_ p hs) := by
            rw [show (p ++ [h.To]) :: (g (p ++ [h.To]) ++ visL g to_ p hs) = [p ++ [h.To]] ++ (g (p ++ [h.To]) ++ visL g to_ p hs) from rfl, outs_append, outs_append]
            have : outs to_ [p ++ [h.To]] = [] := by simp [outs, h3]
            rw [this, List.nil_append]
          rw [e]
          simp only [List.length_cons, List.length_append]
          by_cases h4 : u + 1 + ((g (p ++ [h.To])).length : Int) ≤ b
          · rw [if_pos h4, Option.bind_some, extL_vis hf p hs _ _ (by simpa using h4)]
            have e2 : u + 1 + ((g (p ++ [h.To])).length : Int) + ((visL g to_ p hs).length : Int) = u + ((g (p ++ [h.To])).length + (visL g to_ p hs).length + 1 : Nat) := by omega
            simp only [List.append_assoc]
            rw [e2]
          · rw [if_neg h4, if_neg (by omega)]; rfl
theorem ext_vis (hp : Step → List Hop) (to_ b : Int) : ∀ (n : Nat) (p : List Step) (u : Int) (o : List Route), u ≤ b →
    ext hp to_ b n p u o = if u + (vis hp to_ n p).length ≤ b then some (u + (vis hp to_ n p).length, o ++ outs to_ (vis hp to_ n p)) else none
  | 0, p, u, o, hu => by simp [ext, vis, outs, hu]
  | n + 1, p, u, o, hu => extL_vis (ext_vis hp to_ b n) p _ u o hu

theorem visL_mem {f : List Step → List (List Step)} {to_ : Int} {p q : List Step} : ∀ {hs : List Hop}, q ∈ visL f to_ p hs → ∃ h ∈ hs, h.To.Section ∉ secsP p ∧ (q = p ++ [h.To] ∨ (h.To.Section ≠ to_ ∧ q ∈ f (p ++ [h.To])))
  | [], h => by simp [visL] at h
  | x :: hs, h => by
    unfold visL at h
    by_cases h1 : x.To.Section ∈ secsP p
    · rw [if_pos h1] at h
      obtain ⟨y, hy, r⟩ := visL_mem h
      exact ⟨y, List.mem_cons_of_mem _ hy, r⟩
    · rw [if_neg h1] at h
      rcases List.mem_cons.1 h with h | h
      · exact ⟨x, List.mem_cons_self, h1, .inl h⟩
      · rcases List.mem_append.1 h with h | h
        · by_cases h3 : x.To.Section = to_
          · rw [if_pos h3] at h; simp at h
          · rw [if_neg h3] at h
            exact ⟨x, List.mem_cons_self, h1, .inr ⟨h3, h⟩⟩
        · obtain ⟨y, hy, r⟩ := visL_mem h
          exact ⟨y, List.mem_cons_of_mem _ hy, r⟩
theorem vis_len (hp : Step → List Hop) (to_ : Int) : ∀ (n : Nat) (p q : List Step), q ∈ vis hp to_ n p → q.length ≤ p.length + n ∧ ∃ r, r ≠ [] ∧ q = p ++ r
  | 0, p, q, h => by simp [vis] at h
  | n + 1, p, q, h => by
    obtain ⟨x, _, _, h | ⟨_, h⟩⟩ := visL_mem h
    · subst h; exact ⟨by simp, _, by simp, rfl⟩
    · obtain ⟨h1, r, _, rfl⟩ := vis_len hp to_ n _ _ h
      exact ⟨by simp at h1 ⊢; omega, [x.To] ++ r, by simp, by simp⟩

end Go.Proofs.Ytnihhidbiepnhaa
