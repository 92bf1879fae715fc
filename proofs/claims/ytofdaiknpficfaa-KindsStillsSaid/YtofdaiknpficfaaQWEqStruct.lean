-- Printed by a turn of a template of the kit.
import Derived.Test.YtofdaiknpficfaaQWWords
import Derived.Laws.StructEq
namespace Go.Proofs.YtofdaiknpficfaaW.PrintWords
open Go.RowKit
section
variable {P : Program} {d : Nat} {xs ys : Array Value} {f : Field} {fs : List Field} {a b : Value} {r s : Bool} {w : World}
end
end Go.Proofs.YtofdaiknpficfaaW.PrintWords
