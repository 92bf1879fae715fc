-- Printed by a turn of a template of the kit, and shortened: remarks and what nothing here uses are left out.
import Derived.Test.YtmfdfffedkejjaaQWInv
import Derived.Test.YtmfdfffedkejjaaQWFootNe
namespace Go.Proofs.YtmfdfffedkejjaaW.PrintWords
open Go.RowKit
end Go.Proofs.YtmfdfffedkejjaaW.PrintWords
namespace Go.Proofs.YtmfdfffedkejjaaW.PrintLast
section
variable {ops : Array Oper} {a : Act} {o og : Oper} {g : Nat} {t : Tmp} {u : Bool}
end
end Go.Proofs.YtmfdfffedkejjaaW.PrintLast
