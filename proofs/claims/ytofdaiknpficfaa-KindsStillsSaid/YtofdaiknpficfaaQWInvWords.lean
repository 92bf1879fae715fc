-- Printed by a turn of a template of the kit.
import Derived.Test.YtofdaiknpficfaaQWInv
import Derived.Test.YtofdaiknpficfaaQWFootNe
namespace Go.Proofs.YtofdaiknpficfaaW.PrintWords
open Go.RowKit
end Go.Proofs.YtofdaiknpficfaaW.PrintWords
namespace Go.Proofs.YtofdaiknpficfaaW.PrintLast
section
variable {ops : Array Oper} {a : Act} {o og : Oper} {g : Nat} {t : Tmp} {u : Bool}
end
end Go.Proofs.YtofdaiknpficfaaW.PrintLast
