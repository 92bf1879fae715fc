/- The pure statement that is left of the law BracketTurns. -/
import Derived.Test.YtkhmjehjhjhpkabPBracketTurnsx2
namespace Go.Proofs.Ytkhmjehjhjhpkab.PBracketTurns
open Go.RowKit Go.Proofs.YtkhmjehjhjhpkabW.PrintWords
/-- The pure statement of the law BracketTurns: over numbers and lists alone. -/
def coppicerlaw_BracketTurns.Pure : Prop := ∀ (l0 : List Bool), (l0.length ≤ maxLen ∧ ∀ x ∈ l0, True) → l0.length * 1 ≤ 140737488351232 → ∃ k, coppicerlaw_BracketTurns.f k l0 = some true
end Go.Proofs.Ytkhmjehjhjhpkab.PBracketTurns
