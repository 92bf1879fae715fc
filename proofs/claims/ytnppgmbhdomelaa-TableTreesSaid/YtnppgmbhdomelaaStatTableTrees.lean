/- The pure statement that is left of the law TableTrees. -/
import Derived.Test.YtnppgmbhdomelaaPTableTreesx15
namespace Go.Proofs.Ytnppgmbhdomelaa.PTableTrees
open Go.RowKit Go.Proofs.YtnppgmbhdomelaaW.PrintWords
/-- The pure statement of the law TableTrees: over numbers and lists alone. -/
def coppicerlaw_TableTrees.Pure : Prop := ∀ (a0_0 : Int) (a0_1 : Int) (a0_2 : Int) (l0_3 : List S45) (l1 : List Int), (Lit.int .i64 a0_0).wf = true → (Lit.int .i64 a0_1).wf = true → (Lit.int .i64 a0_2).wf = true → (l0_3.length ≤ maxLen ∧ ∀ x ∈ l0_3, ((Lit.int .i64 x.f0).wf = true ∧ (x.f1.length ≤ maxLen ∧ ∀ y ∈ x.f1, (Lit.int .i64 y).wf = true))) → (l1.length ≤ maxLen ∧ ∀ x ∈ l1, (Lit.int .i64 x).wf = true) → l1.length * 8 ≤ 140737488351232 → ∃ k, coppicerlaw_TableTrees.f k a0_0 a0_1 a0_2 l0_3 l1 = some true
end Go.Proofs.Ytnppgmbhdomelaa.PTableTrees
