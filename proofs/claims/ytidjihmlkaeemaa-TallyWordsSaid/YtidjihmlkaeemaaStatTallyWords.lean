/- The pure statement that is left of the law TallyWords. -/
import Derived.Test.YtidjihmlkaeemaaPTallyWordsx10
namespace Go.Proofs.Ytidjihmlkaeemaa.PTallyWords
open Go.RowKit Go.Proofs.YtidjihmlkaeemaaW.PrintWords
/-- The pure statement of the law TallyWords: over numbers and lists alone. -/
def coppicerlaw_TallyWords.Pure : Prop := ∀ (a0_0 : Int) (a0_1 : Int) (l0_2 : List (List Int)) (a0_3 : Int) (a0_4 : Int) (a1 : Int) (a2 : Int), (Lit.int .i64 a0_0).wf = true → (Lit.int .i64 a0_1).wf = true → (l0_2.length ≤ maxLen ∧ ∀ x ∈ l0_2, (x.length ≤ maxLen ∧ ∀ y ∈ x, (Lit.int .i64 y).wf = true)) → (Lit.int .i64 a0_3).wf = true → (Lit.int .u32 a0_4).wf = true → (Lit.int .i64 a1).wf = true → (Lit.int .i64 a2).wf = true → ∃ k, coppicerlaw_TallyWords.f k a0_0 a0_1 l0_2 a0_3 a0_4 a1 a2 = some true
end Go.Proofs.Ytidjihmlkaeemaa.PTallyWords
