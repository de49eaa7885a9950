/- Valid layouts, in full: names, places, ends. -/
import Derived.Test.YtohhihdjdelckaaDoorTk
import Derived.Test.YtohhihdjdelckaaDoorVf
namespace Go.Proofs.YtohhihdjdelckaaDoor
open Go.Dc
set_option linter.unusedSimpArgs false

structure ValN (l : Layout) : Prop extends Val l where
  stw : ∀ s ∈ l.Stations, wordB s = true ∧ s.l.length ≤ 12
  ptw : ∀ s ∈ l.Points, wordB s = true ∧ s.l.length ≤ 12
  scw : ∀ s ∈ l.Sections, wordB s.Name = true ∧ s.Name.l.length ≤ 12
  std : l.Stations.Nodup
  ptd : l.Points.Nodup
  scd : (l.Sections.map (·.Name)).Nodup
  scs : ∀ s ∈ l.Sections, -1 ≤ s.Station ∧ s.Station < l.Stations.length
  pos : ∀ k ∈ l.Links, k.Pos = 0 ∨ k.Pos = 1 ∧ k.Point ≠ -1
end Go.Proofs.YtohhihdjdelckaaDoor
