-- By a program.
import Derived.Test.YtbifocddbgleeaaQWInv
import Derived.Test.YtbifocddbgleeaaQWFootNe
namespace Go.Proofs.YtbifocddbgleeaaW.PrintWords
open Go.RowKit
end Go.Proofs.YtbifocddbgleeaaW.PrintWords
namespace Go.Proofs.YtbifocddbgleeaaW.PrintLast
section
variable {ops:Array Oper} {a:Act} {o og:Oper} {g:Nat} {t:Tmp} {u:Bool}
end
end Go.Proofs.YtbifocddbgleeaaW.PrintLast
