-- Printed by a turn of a template of the kit, and shortened: remarks and what nothing here uses are left out.
import Derived.Test.YtdoenjnjpenboaaQWInv
import Derived.Test.YtdoenjnjpenboaaQWFootNe
namespace Go.Proofs.YtdoenjnjpenboaaW.PrintWords
open Go.RowKit
end Go.Proofs.YtdoenjnjpenboaaW.PrintWords
namespace Go.Proofs.YtdoenjnjpenboaaW.PrintLast
section
variable {ops : Array Oper} {a : Act} {o og : Oper} {g : Nat} {t : Tmp} {u : Bool}
end
end Go.Proofs.YtdoenjnjpenboaaW.PrintLast
