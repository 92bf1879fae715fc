/- The pure statement that is left of the law LeastAparts. -/
import Derived.Test.YtdoenjnjpenboaaQPLeastApartsx10
namespace Go.Proofs.Ytdoenjnjpenboaa.PLeastAparts
open Go.RowKit Go.Proofs.YtdoenjnjpenboaaW.PrintWords
def Zi1.Pure : Prop := ∀ (a0_0 : Int) (a0_1 : Int) (l0_2 : List (List Int)) (a0_3 : Int) (a0_4 : Int) (a1_0 : Int) (a1_1 : Int) (l1_2 : List (List Int)) (a1_3 : Int) (a1_4 : Int), (Lit.int .i64 a0_0).wf = true → (Lit.int .i64 a0_1).wf = true → (l0_2.length ≤ maxLen ∧ ∀ x ∈ l0_2, (x.length ≤ maxLen ∧ ∀ y ∈ x, (Lit.int .i64 y).wf = true)) → (Lit.int .i64 a0_3).wf = true → (Lit.int .u32 a0_4).wf = true → (Lit.int .i64 a1_0).wf = true → (Lit.int .i64 a1_1).wf = true → (l1_2.length ≤ maxLen ∧ ∀ x ∈ l1_2, (x.length ≤ maxLen ∧ ∀ y ∈ x, (Lit.int .i64 y).wf = true)) → (Lit.int .i64 a1_3).wf = true → (Lit.int .u32 a1_4).wf = true → ∃ k, Zi1.f k a0_0 a0_1 l0_2 a0_3 a0_4 a1_0 a1_1 l1_2 a1_3 a1_4 = some true
end Go.Proofs.Ytdoenjnjpenboaa.PLeastAparts
