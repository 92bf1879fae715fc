/- The pure statement that is left of the law StorePacks. -/
import Derived.Test.YtdbomblcijejcaaPStorePacksx6
namespace Go.Proofs.Ytdbomblcijejcaa.PStorePacks
open Go.RowKit Go.Proofs.YtdbomblcijejcaaW.PrintWords
/-- The pure statement of the law StorePacks: over numbers and lists alone. -/
def coppicerlaw_StorePacks.Pure : Prop := ∀ (l0_0 : List S40) (a0_1 : Int), (l0_0.length ≤ maxLen ∧ ∀ x ∈ l0_0, ((Lit.int .i64 x.f0).wf = true ∧ (Lit.int .i64 x.f1).wf = true ∧ (Lit.int .i64 x.f2).wf = true ∧ (x.f3.length ≤ maxLen ∧ ∀ y ∈ x.f3, (y.length ≤ maxLen ∧ ∀ z ∈ y, (Lit.int .i64 z).wf = true)))) → (Lit.int .i64 a0_1).wf = true → (l0_0.map fun x : S40 => (1 + (1 + (1 + ((x.f3.map fun l : List Int => (l.map fun _ => 1).sum + 1).sum + 1)))) + 1).sum + 1 + 1 + 1 ≤ 1048576 → ∃ k, coppicerlaw_StorePacks.f k l0_0 a0_1 = some true
end Go.Proofs.Ytdbomblcijejcaa.PStorePacks
