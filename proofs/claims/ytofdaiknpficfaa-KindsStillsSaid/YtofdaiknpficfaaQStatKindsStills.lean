/- The pure statement that is left of the law KindsStills. -/
import Derived.Test.YtofdaiknpficfaaQPKindsStillsx19
namespace Go.Proofs.Ytofdaiknpficfaa.PKindsStills
open Go.RowKit Go.Proofs.YtofdaiknpficfaaW.PrintWords
def Zd1.Pure : Prop := ∀ (a0_0 : Int) (a0_1 : Int) (l0_2 : List (List Int)) (a0_3 : Int) (a0_4 : Int), (Lit.int .i64 a0_0).wf = true → (Lit.int .i64 a0_1).wf = true → (l0_2.length ≤ maxLen ∧ ∀ x ∈ l0_2, (x.length ≤ maxLen ∧ ∀ y ∈ x, (Lit.int .i64 y).wf = true)) → (Lit.int .i64 a0_3).wf = true → (Lit.int .u32 a0_4).wf = true → ∃ k, Zd1.f k a0_0 a0_1 l0_2 a0_3 a0_4 = some true
end Go.Proofs.Ytofdaiknpficfaa.PKindsStills
