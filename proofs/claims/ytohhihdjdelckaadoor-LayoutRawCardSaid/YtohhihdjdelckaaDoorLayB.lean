/- layout.Check, proved over the first engine, as a contract of the decompiler's form. -/
import Derived.Test.YtohhihdjdelckaaDoorTypes
import Derived.Test.YtohhihdjdelckaaDoorLay2
set_option linter.all false
namespace Go.Proofs.YtohhihdjdelckaaDoor
open Go.Dc Go.RowKit

theorem sl_of {α : Type} [GoRep α] {S : Soup} {w : World} {r : SR (GoRep.R α)} {xs : List α} (f : α → List Value) (hf : ∀ (q : GoRep.R α) x, GoRep.enc q x = f x) (hS : ∀ k, S k → k < w.heap.size) (h : SlOk S w r xs) :
    Go.Eng.Sl 0 w.heap.size w r.a (xs.flatMap f) := by
  have he : ∀ (l : List α) (i : Nat), l.flatMap f = encL r.es l i := by
    intro l
    induction l with
    | nil => intro i; rfl
    | cons x l ih => intro i; rw [List.flatMap_cons, encL, hf, ih (i + 1)]
  intro j v hv
  rw [he xs 0] at hv
  obtain ⟨i, j', x, rfl, hj, hx, hv⟩ := encL_split r.es hv
  obtain ⟨h1, h2, h3, _⟩ := h.2.2 i x hx
  exact ⟨h1, Nat.zero_le _, hS _ h2, h3 j' v hv⟩

def secOf (s : Section) : Sec := ⟨s.Name.ba, s.Length, s.Limit, s.Grade, s.Station⟩
def lnkOf (k : Link) : Lnk := ⟨k.A, k.AEnd, k.B, k.BEnd, k.Point, k.Pos⟩
def layOf (l : Layout) : Lay := ⟨l.Stations.map Str.ba, l.Points.map Str.ba, l.Sections.map secOf, l.Links.map lnkOf⟩
def layout_Check_m (l : Layout) : Option Int := some (checkL (layOf l))

theorem layout_Check_spec (S : Soup) (w : World) (l0 : Layout) (r_l0 : GoRep.R Layout) (y : Int) (hM : layout_Check_m l0 = some y) (hS : ∀ k, S k → k < w.heap.size) (h_l0 : GoRep.ok S w r_l0 l0) :
    Calls Tryd.prog 13 #[.agg #[.slice r_l0.1.a l0.Stations.length r_l0.1.cap, .slice r_l0.2.1.a l0.Points.length r_l0.2.1.cap, .slice r_l0.2.2.1.a l0.Sections.length r_l0.2.2.1.cap, .slice r_l0.2.2.2.a l0.Links.length r_l0.2.2.2.cap]] w (Ret w (.int .i64 y)) := by
  obtain rfl := some_inj hM
  obtain ⟨h1, h2, h3, h4⟩ := h_l0
  have hstr : ∀ l : List Str, strCells (l.map Str.ba) = l.flatMap (fun s => [.string s.ba]) := by
    intro l
    unfold strCells
    induction l with
    | nil => rfl
    | cons x l ih => simp only [List.map_cons, List.flatMap_cons, ih]; rfl
  have := check_spec w ⟨r_l0.1.a, r_l0.1.cap, r_l0.2.1.a, r_l0.2.1.cap, r_l0.2.2.1.a, r_l0.2.2.1.cap, r_l0.2.2.2.a, r_l0.2.2.2.cap⟩ (layOf l0)
    ⟨by show Go.Eng.Sl _ _ _ r_l0.1.a (strCells (l0.Stations.map Str.ba)); rw [hstr]; exact sl_of _ (fun _ _ => rfl) hS h1,
     by show Go.Eng.Sl _ _ _ r_l0.2.1.a (strCells (l0.Points.map Str.ba)); rw [hstr]; exact sl_of _ (fun _ _ => rfl) hS h2,
     by show Go.Eng.Sl _ _ _ r_l0.2.2.1.a ((l0.Sections.map secOf).flatMap Sec.cells); rw [List.flatMap_map]; exact sl_of _ (fun _ _ => rfl) hS h3,
     by show Go.Eng.Sl _ _ _ r_l0.2.2.2.a ((l0.Links.map lnkOf).flatMap Lnk.cells); rw [List.flatMap_map]; exact sl_of _ (fun _ _ => rfl) hS h4⟩
  have hc : (LayV.cells ⟨r_l0.1.a, r_l0.1.cap, r_l0.2.1.a, r_l0.2.1.cap, r_l0.2.2.1.a, r_l0.2.2.1.cap, r_l0.2.2.2.a, r_l0.2.2.2.cap⟩ (layOf l0)) = [.slice r_l0.1.a l0.Stations.length r_l0.1.cap, .slice r_l0.2.1.a l0.Points.length r_l0.2.1.cap, .slice r_l0.2.2.1.a l0.Sections.length r_l0.2.2.1.cap, .slice r_l0.2.2.2.a l0.Links.length r_l0.2.2.2.cap] := by
    simp [LayV.cells, layOf]
  rw [hc] at this
  exact this
end Go.Proofs.YtohhihdjdelckaaDoor
