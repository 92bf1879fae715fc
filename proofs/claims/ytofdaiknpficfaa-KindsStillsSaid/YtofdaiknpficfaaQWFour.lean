-- Printed by a turn of a template of the kit.
import Derived.Test.YtofdaiknpficfaaQWTab
namespace Go.Proofs.YtofdaiknpficfaaW.PrintLast
section
variable {P : Program} {ops : Array Oper} {Q : Exit → Act → World → Prop} {md : Region.Mode} {S : World → Prop} {ds : List Nat} {T : Bool × List (List Nat × List Nat)}
end
end Go.Proofs.YtofdaiknpficfaaW.PrintLast
