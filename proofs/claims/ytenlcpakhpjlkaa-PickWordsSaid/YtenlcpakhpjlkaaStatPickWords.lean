/- The pure statement that is left of the law PickWords. -/
import Derived.Test.YtenlcpakhpjlkaaPPickWordsx7
namespace Go.Proofs.Ytenlcpakhpjlkaa.PPickWords
open Go.RowKit Go.Proofs.YtenlcpakhpjlkaaW.PrintWords
/-- The pure statement of the law PickWords: over numbers and lists alone. -/
def coppicerlaw_PickWords.Pure : Prop := ∀ (a0_0 : Int) (a0_1 : Int) (a0_2 : Int) (l0_3 : List S40) (l1 : List Int), (Lit.int .i64 a0_0).wf = true → (Lit.int .i64 a0_1).wf = true → (Lit.int .i64 a0_2).wf = true → (l0_3.length ≤ maxLen ∧ ∀ x ∈ l0_3, ((Lit.int .i64 x.f0).wf = true ∧ (x.f1.length ≤ maxLen ∧ ∀ y ∈ x.f1, (Lit.int .i64 y).wf = true))) → (l1.length ≤ maxLen ∧ ∀ x ∈ l1, (Lit.int .i64 x).wf = true) → l1.length * 8 ≤ 140737488351232 → ∃ k, coppicerlaw_PickWords.f k a0_0 a0_1 a0_2 l0_3 l1 = some true
end Go.Proofs.Ytenlcpakhpjlkaa.PPickWords
