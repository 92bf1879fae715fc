/- The pure statement that is left of the law BracketRanks. -/
import Derived.Test.YtkhmjehjhjhpkabPBracketRanksx3
namespace Go.Proofs.Ytkhmjehjhjhpkab.PBracketRanks
open Go.RowKit Go.Proofs.YtkhmjehjhjhpkabW.PrintWords
/-- The pure statement of the law BracketRanks: over numbers and lists alone. -/
def coppicerlaw_BracketRanks.Pure : Prop := ∀ (l0 : List Bool), (l0.length ≤ maxLen ∧ ∀ x ∈ l0, True) → l0.length * 1 ≤ 140737488351232 → ∃ k, coppicerlaw_BracketRanks.f k l0 = some true
end Go.Proofs.Ytkhmjehjhjhpkab.PBracketRanks
