/- The pure statement that is left of the law TurnerRuns. -/
import Derived.Test.YtlmagjgjaajeiaaPTurnerRunsx5
namespace Go.Proofs.Ytlmagjgjaajeiaa.PTurnerRuns
open Go.RowKit Go.Proofs.YtlmagjgjaajeiaaW.PrintWords
/-- The pure statement of the law TurnerRuns: over numbers and lists alone. -/
def coppicerlaw_TurnerRuns.Pure : Prop := ∀ (a0_0 : Int) (a0_1 : Int) (a0_2 : Int) (l0_3 : List (List Int)) (l0_4 : List (List (List Int))) (a0_5 : Int) (l1 : List Int), (Lit.int .i64 a0_0).wf = true → (Lit.int .i64 a0_1).wf = true → (Lit.int .i64 a0_2).wf = true → (l0_3.length ≤ maxLen ∧ ∀ x ∈ l0_3, (x.length ≤ maxLen ∧ ∀ y ∈ x, (Lit.int .i64 y).wf = true)) → (l0_4.length ≤ maxLen ∧ ∀ x ∈ l0_4, (x.length ≤ maxLen ∧ ∀ y ∈ x, (y.length ≤ maxLen ∧ ∀ z ∈ y, (Lit.int .i64 z).wf = true))) → (Lit.int .i64 a0_5).wf = true → (l1.length ≤ maxLen ∧ ∀ x ∈ l1, (Lit.int .i64 x).wf = true) → l1.length * 8 ≤ 140737488351232 → ∃ k, coppicerlaw_TurnerRuns.f k a0_0 a0_1 a0_2 l0_3 l0_4 a0_5 l1 = some true
end Go.Proofs.Ytlmagjgjaajeiaa.PTurnerRuns
