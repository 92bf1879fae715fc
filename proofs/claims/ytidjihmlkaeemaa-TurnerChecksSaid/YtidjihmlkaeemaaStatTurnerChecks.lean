/- The pure statement that is left of the law TurnerChecks. -/
import Derived.Test.YtidjihmlkaeemaaPTurnerChecksx4
namespace Go.Proofs.Ytidjihmlkaeemaa.PTurnerChecks
open Go.RowKit Go.Proofs.YtidjihmlkaeemaaW.PrintWords
/-- The pure statement of the law TurnerChecks: over numbers and lists alone. -/
def coppicerlaw_TurnerChecks.Pure : Prop := ∀ (a0_0 : Int) (a0_1 : Int) (a0_2 : Int) (l0_3 : List (List Int)) (l0_4 : List (List (List Int))) (a0_5 : Int), (Lit.int .i64 a0_0).wf = true → (Lit.int .i64 a0_1).wf = true → (Lit.int .i64 a0_2).wf = true → (l0_3.length ≤ maxLen ∧ ∀ x ∈ l0_3, (x.length ≤ maxLen ∧ ∀ y ∈ x, (Lit.int .i64 y).wf = true)) → (l0_4.length ≤ maxLen ∧ ∀ x ∈ l0_4, (x.length ≤ maxLen ∧ ∀ y ∈ x, (y.length ≤ maxLen ∧ ∀ z ∈ y, (Lit.int .i64 z).wf = true))) → (Lit.int .i64 a0_5).wf = true → ∃ k, coppicerlaw_TurnerChecks.f k a0_0 a0_1 a0_2 l0_3 l0_4 a0_5 = some true
end Go.Proofs.Ytidjihmlkaeemaa.PTurnerChecks
