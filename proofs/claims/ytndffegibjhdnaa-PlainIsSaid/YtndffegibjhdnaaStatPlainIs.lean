/- The pure statement that is left of the law PlainIs. -/
import Derived.Test.YtndffegibjhdnaaPPlainIsx5
namespace Go.Proofs.Ytndffegibjhdnaa.PPlainIs
open Go.RowKit Go.Proofs.YtndffegibjhdnaaW.PrintWords
/-- The pure statement of the law PlainIs: over numbers and lists alone. -/
def coppicerlaw_PlainIs.Pure : Prop := ∀ (a0_0 : Int) (a0_1 : Int) (a0_2 : Int) (l0_3 : List S35), (Lit.int .i64 a0_0).wf = true → (Lit.int .i64 a0_1).wf = true → (Lit.int .i64 a0_2).wf = true → (l0_3.length ≤ maxLen ∧ ∀ x ∈ l0_3, ((Lit.int .i64 x.f0).wf = true ∧ (x.f1.length ≤ maxLen ∧ ∀ y ∈ x.f1, (Lit.int .i64 y).wf = true))) → ∃ k, coppicerlaw_PlainIs.f k a0_0 a0_1 a0_2 l0_3 = some true
end Go.Proofs.Ytndffegibjhdnaa.PPlainIs
