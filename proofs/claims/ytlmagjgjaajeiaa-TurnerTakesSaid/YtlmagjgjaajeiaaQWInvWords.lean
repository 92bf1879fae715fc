-- Printed by a turn of a template of the kit, and shortened: remarks and what nothing here uses are left out.
import Derived.Test.YtlmagjgjaajeiaaQWInv
import Derived.Test.YtlmagjgjaajeiaaQWFootNe
namespace Go.Proofs.YtlmagjgjaajeiaaW.PrintWords
open Go.RowKit
end Go.Proofs.YtlmagjgjaajeiaaW.PrintWords
namespace Go.Proofs.YtlmagjgjaajeiaaW.PrintLast
section
variable {ops : Array Oper} {a : Act} {o og : Oper} {g : Nat} {t : Tmp} {u : Bool}
end
end Go.Proofs.YtlmagjgjaajeiaaW.PrintLast
