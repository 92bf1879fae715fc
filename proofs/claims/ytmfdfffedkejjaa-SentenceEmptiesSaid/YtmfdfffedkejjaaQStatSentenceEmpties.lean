/- The pure statement that is left of the law SentenceEmpties. -/
import Derived.Test.YtmfdfffedkejjaaQPSentenceEmptiesx7
namespace Go.Proofs.Ytmfdfffedkejjaa.PSentenceEmpties
open Go.RowKit Go.Proofs.YtmfdfffedkejjaaW.PrintWords
def coppicerlaw_SentenceEmpties.Pure : Prop := ∀ (a0 : Int) (l1 : List S67), (Lit.int .i64 a0).wf = true → (l1.length ≤ maxLen ∧ ∀ x ∈ l1, ((Lit.int .i64 x.f0).wf = true ∧ (Lit.int .i64 x.f1).wf = true ∧ (Lit.int .i64 x.f2).wf = true)) → l1.length * 24 ≤ 140737488351232 → ∃ k, coppicerlaw_SentenceEmpties.f k a0 l1 = some true
end Go.Proofs.Ytmfdfffedkejjaa.PSentenceEmpties
