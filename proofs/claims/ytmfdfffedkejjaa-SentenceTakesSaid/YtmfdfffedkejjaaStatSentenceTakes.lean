/- The pure statement that is left of the law SentenceTakes. -/
import Derived.Test.YtmfdfffedkejjaaPSentenceTakesx7
namespace Go.Proofs.Ytmfdfffedkejjaa.PSentenceTakes
open Go.RowKit Go.Proofs.YtmfdfffedkejjaaW.PrintWords
/-- The pure statement of the law SentenceTakes: over numbers and lists alone. -/
def coppicerlaw_SentenceTakes.Pure : Prop := ∀ (a0 : Int) (l1 : List S67) (l2 : List Int), (Lit.int .i64 a0).wf = true → (l1.length ≤ maxLen ∧ ∀ x ∈ l1, ((Lit.int .i64 x.f0).wf = true ∧ (Lit.int .i64 x.f1).wf = true ∧ (Lit.int .i64 x.f2).wf = true)) → (l2.length ≤ maxLen ∧ ∀ x ∈ l2, (Lit.int .i64 x).wf = true) → l1.length * 24 ≤ 140737488351232 → l2.length * 8 ≤ 140737488351232 → ∃ k, coppicerlaw_SentenceTakes.f k a0 l1 l2 = some true
end Go.Proofs.Ytmfdfffedkejjaa.PSentenceTakes
