-- Printed by a turn of a template of the kit, and shortened: remarks and what nothing here uses are left out.
import Derived.Test.YtdoenjnjpenboaaQWTab
namespace Go.Proofs.YtdoenjnjpenboaaW.PrintLast
section
variable {P : Program} {ops : Array Oper} {Q : Exit → Act → World → Prop} {md : Region.Mode} {S : World → Prop} {ds : List Nat} {T : Bool × List (List Nat × List Nat)}
end
end Go.Proofs.YtdoenjnjpenboaaW.PrintLast
