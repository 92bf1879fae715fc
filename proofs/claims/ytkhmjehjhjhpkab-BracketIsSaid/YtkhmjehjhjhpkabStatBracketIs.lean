/- The pure statement that is left of the law BracketIs. -/
import Derived.Test.YtkhmjehjhjhpkabPBracketIsx1
namespace Go.Proofs.Ytkhmjehjhjhpkab.PBracketIs
open Go.RowKit Go.Proofs.YtkhmjehjhjhpkabW.PrintWords
/-- The pure statement of the law BracketIs: over numbers and lists alone. -/
def coppicerlaw_BracketIs.Pure : Prop := ∀ (l0 : List Bool), (l0.length ≤ maxLen ∧ ∀ x ∈ l0, True) → l0.length * 1 ≤ 140737488351232 → ∃ k, coppicerlaw_BracketIs.f k l0 = some true
end Go.Proofs.Ytkhmjehjhjhpkab.PBracketIs
