-- Printed by a turn of a template of the kit, and shortened: remarks and what nothing here uses are left out.
import Derived.Test.YtcfodnildhhocaaQWInv
import Derived.Test.YtcfodnildhhocaaQWFootNe
namespace Go.Proofs.YtcfodnildhhocaaW.PrintWords
open Go.RowKit
end Go.Proofs.YtcfodnildhhocaaW.PrintWords
namespace Go.Proofs.YtcfodnildhhocaaW.PrintLast
section
variable {ops : Array Oper} {a : Act} {o og : Oper} {g : Nat} {t : Tmp} {u : Bool}
end
end Go.Proofs.YtcfodnildhhocaaW.PrintLast
