-- Printed by a turn of a template of the kit, and shortened: remarks and what nothing here uses are left out.
import Derived.Test.YtnjfcbhbebokeaaQWInv
import Derived.Test.YtnjfcbhbebokeaaQWFootNe
namespace Go.Proofs.YtnjfcbhbebokeaaW.PrintWords
open Go.RowKit
end Go.Proofs.YtnjfcbhbebokeaaW.PrintWords
namespace Go.Proofs.YtnjfcbhbebokeaaW.PrintLast
section
variable {ops : Array Oper} {a : Act} {o og : Oper} {g : Nat} {t : Tmp} {u : Bool}
end
end Go.Proofs.YtnjfcbhbebokeaaW.PrintLast
