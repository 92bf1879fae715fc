/- The pure statement that is left of the law KindsSames. -/
import Derived.Test.YtofdaiknpficfaaQPKindsSamesx16
namespace Go.Proofs.Ytofdaiknpficfaa.PKindsSames
open Go.RowKit Go.Proofs.YtofdaiknpficfaaW.PrintWords
def Zd1.Pure : Prop := ∀ (a0_0 : Int) (a0_1 : Int) (l0_2 : List (List Int)) (a0_3 : Int) (a0_4 : Int) (l1 : List Int) (l2 : List Int), (Lit.int .i64 a0_0).wf = true → (Lit.int .i64 a0_1).wf = true → (l0_2.length ≤ maxLen ∧ ∀ x ∈ l0_2, (x.length ≤ maxLen ∧ ∀ y ∈ x, (Lit.int .i64 y).wf = true)) → (Lit.int .i64 a0_3).wf = true → (Lit.int .u32 a0_4).wf = true → (l1.length ≤ maxLen ∧ ∀ x ∈ l1, (Lit.int .i64 x).wf = true) → (l2.length ≤ maxLen ∧ ∀ x ∈ l2, (Lit.int .i64 x).wf = true) → l1.length * 8 ≤ 140737488351232 → l2.length * 8 ≤ 140737488351232 → ∃ k, Zd1.f k a0_0 a0_1 l0_2 a0_3 a0_4 l1 l2 = some true
end Go.Proofs.Ytofdaiknpficfaa.PKindsSames
