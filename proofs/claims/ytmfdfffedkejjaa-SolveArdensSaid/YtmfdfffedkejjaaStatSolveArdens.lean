/- The pure statement that is left of the law SolveArdens. -/
import Derived.Test.YtmfdfffedkejjaaPSolveArdensx4
namespace Go.Proofs.Ytmfdfffedkejjaa.PSolveArdens
open Go.RowKit Go.Proofs.YtmfdfffedkejjaaW.PrintWords
/-- The pure statement of the law SolveArdens: over numbers and lists alone. -/
def coppicerlaw_SolveArdens.Pure : Prop := ∀ (a0 : Int) (l1 : List S67) (l2 : List S67) (l3 : List Int), (Lit.int .i64 a0).wf = true → (l1.length ≤ maxLen ∧ ∀ x ∈ l1, ((Lit.int .i64 x.f0).wf = true ∧ (Lit.int .i64 x.f1).wf = true ∧ (Lit.int .i64 x.f2).wf = true)) → (l2.length ≤ maxLen ∧ ∀ x ∈ l2, ((Lit.int .i64 x.f0).wf = true ∧ (Lit.int .i64 x.f1).wf = true ∧ (Lit.int .i64 x.f2).wf = true)) → (l3.length ≤ maxLen ∧ ∀ x ∈ l3, (Lit.int .i64 x).wf = true) → l1.length * 24 ≤ 140737488351232 → l2.length * 24 ≤ 140737488351232 → l3.length * 8 ≤ 140737488351232 → ∃ k, coppicerlaw_SolveArdens.f k a0 l1 l2 l3 = some true
end Go.Proofs.Ytmfdfffedkejjaa.PSolveArdens
