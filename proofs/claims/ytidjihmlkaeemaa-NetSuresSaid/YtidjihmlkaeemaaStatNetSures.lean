/- The pure statement that is left of the law NetSures. -/
import Derived.Test.YtidjihmlkaeemaaPNetSuresx7
namespace Go.Proofs.Ytidjihmlkaeemaa.PNetSures
open Go.RowKit Go.Proofs.YtidjihmlkaeemaaW.PrintWords
/-- The pure statement of the law NetSures: over numbers and lists alone. -/
def coppicerlaw_NetSures.Pure : Prop := ∀ (a0_0 : Int) (a0_1 : Int) (l0_2 : List S31) (a0_3 : Int) (a0_4 : Int), (Lit.int .i64 a0_0).wf = true → (Lit.int .i64 a0_1).wf = true → (l0_2.length ≤ maxLen ∧ ∀ x ∈ l0_2, ((Lit.int .i64 x.f0).wf = true ∧ (Lit.int .i64 x.f1).wf = true ∧ (Lit.int .i64 x.f2).wf = true)) → (Lit.int .u32 a0_3).wf = true → (Lit.int .u32 a0_4).wf = true → ∃ k, coppicerlaw_NetSures.f k a0_0 a0_1 l0_2 a0_3 a0_4 = some true
end Go.Proofs.Ytidjihmlkaeemaa.PNetSures
