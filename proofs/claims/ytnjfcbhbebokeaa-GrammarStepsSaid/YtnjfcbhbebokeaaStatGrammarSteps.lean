/- The pure statement that is left of the law GrammarSteps. -/
import Derived.Test.YtnjfcbhbebokeaaPGrammarStepsx8
namespace Go.Proofs.Ytnjfcbhbebokeaa.PGrammarSteps
open Go.RowKit Go.Proofs.YtnjfcbhbebokeaaW.PrintWords
/-- The pure statement of the law GrammarSteps: over numbers and lists alone. -/
def coppicerlaw_GrammarSteps.Pure : Prop := ∀ (a0_0 : Int) (a0_1 : Int) (a0_2 : Int) (l0_3 : List S38) (l1 : List Int) (a2 : Int) (a3 : Int), (Lit.int .i64 a0_0).wf = true → (Lit.int .i64 a0_1).wf = true → (Lit.int .i64 a0_2).wf = true → (l0_3.length ≤ maxLen ∧ ∀ x ∈ l0_3, ((Lit.int .i64 x.f0).wf = true ∧ (x.f1.length ≤ maxLen ∧ ∀ y ∈ x.f1, (Lit.int .i64 y).wf = true))) → (l1.length ≤ maxLen ∧ ∀ x ∈ l1, (Lit.int .i64 x).wf = true) → (Lit.int .i64 a2).wf = true → (Lit.int .i64 a3).wf = true → l1.length * 8 ≤ 140737488351232 → ∃ k, coppicerlaw_GrammarSteps.f k a0_0 a0_1 a0_2 l0_3 l1 a2 a3 = some true
end Go.Proofs.Ytnjfcbhbebokeaa.PGrammarSteps
