/- The pure statement that is left of the law SentenceChecks. -/
import Derived.Test.YtndffegibjhdnaaPSentenceChecksx2
namespace Go.Proofs.Ytndffegibjhdnaa.PSentenceChecks
open Go.RowKit Go.Proofs.YtndffegibjhdnaaW.PrintWords
/-- The pure statement of the law SentenceChecks: over numbers and lists alone. -/
def coppicerlaw_SentenceChecks.Pure : Prop := ∀ (a0 : Int) (l1 : List S38), (Lit.int .i64 a0).wf = true → (l1.length ≤ maxLen ∧ ∀ x ∈ l1, ((Lit.int .i64 x.f0).wf = true ∧ (Lit.int .i64 x.f1).wf = true ∧ (Lit.int .i64 x.f2).wf = true)) → l1.length * 24 ≤ 140737488351232 → ∃ k, coppicerlaw_SentenceChecks.f k a0 l1 = some true
end Go.Proofs.Ytndffegibjhdnaa.PSentenceChecks
