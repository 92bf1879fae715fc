-- Printed by a turn of a template of the kit, and shortened: remarks and what nothing here uses are left out.
import Derived.Test.YtlljiegdhelmiaaQWInv
import Derived.Test.YtlljiegdhelmiaaQWFootNe
namespace Go.Proofs.YtlljiegdhelmiaaW.PrintWords
open Go.RowKit
end Go.Proofs.YtlljiegdhelmiaaW.PrintWords
namespace Go.Proofs.YtlljiegdhelmiaaW.PrintLast
section
variable {ops : Array Oper} {a : Act} {o og : Oper} {g : Nat} {t : Tmp} {u : Bool}
end
end Go.Proofs.YtlljiegdhelmiaaW.PrintLast
