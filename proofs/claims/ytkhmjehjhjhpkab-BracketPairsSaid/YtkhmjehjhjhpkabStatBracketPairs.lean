/- The pure statement that is left of the law BracketPairs. -/
import Derived.Test.YtkhmjehjhjhpkabPBracketPairsx3
namespace Go.Proofs.Ytkhmjehjhjhpkab.PBracketPairs
open Go.RowKit Go.Proofs.YtkhmjehjhjhpkabW.PrintWords
/-- The pure statement of the law BracketPairs: over numbers and lists alone. -/
def coppicerlaw_BracketPairs.Pure : Prop := ∀ (l0 : List Bool), (l0.length ≤ maxLen ∧ ∀ x ∈ l0, True) → l0.length * 1 ≤ 140737488351232 → ∃ k, coppicerlaw_BracketPairs.f k l0 = some true
end Go.Proofs.Ytkhmjehjhjhpkab.PBracketPairs
