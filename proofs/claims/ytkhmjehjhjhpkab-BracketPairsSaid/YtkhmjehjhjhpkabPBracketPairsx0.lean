-- Written by a program of this session: a turn of the print kit's own.
import Derived.Test.YtkhmjehjhjhpkabProg
import Derived.Below
import Derived.Deep.Draws
import Derived.Deep.AppendLies
import Derived.Maps.AppendAt
import Derived.OwnWalk
import Derived.Laws.BytesArg
import Derived.Laws.MakeOwn
import Derived.Laws.OwnMore
import Derived.Deep.OwnRows
import Derived.Tactics
import Derived.Lib.ConvBytes
import Derived.Laws.Slices
import Derived.WalkKit
import Derived.KernelRfl
import Derived.RowKit3
import Derived.Deep.LoopGhost
import Derived.Deep.QuietTactic
import Derived.BigQuiet
import Derived.WideLaws
import Derived.Deep.DeepCutAuto
import Derived.Deep.CutBlock
import Derived.Deep.RegionHeld3
import Derived.Laws.Rows
import Derived.Lib.AppendStr
import Derived.ArgAppend
import Derived.Laws.IdiomCopy
import Derived.OrdersHeld
import Derived.Laws.BitsLemmas
import Derived.RowKit
import Derived.Test.YtkhmjehjhjhpkabWWords
import Derived.Test.YtkhmjehjhjhpkabWLast
import Derived.Test.YtkhmjehjhjhpkabWTab
import Derived.Test.YtkhmjehjhjhpkabWFour
import Derived.Test.YtkhmjehjhjhpkabWQPut
import Derived.Test.YtkhmjehjhjhpkabWApart
import Derived.Test.YtkhmjehjhjhpkabWArr
import Derived.Test.YtkhmjehjhjhpkabWZeros
import Derived.Test.YtkhmjehjhjhpkabWFoot
import Derived.Test.YtkhmjehjhjhpkabWKept
import Derived.Test.YtkhmjehjhjhpkabWShare
import Derived.Test.YtkhmjehjhjhpkabWN
import Derived.Test.YtkhmjehjhjhpkabWFootNe
import Derived.Test.YtkhmjehjhjhpkabWAt
import Derived.Test.YtkhmjehjhjhpkabWEqStruct
import Derived.Test.YtkhmjehjhjhpkabWRepsOne
import Derived.Test.YtkhmjehjhjhpkabWInv
import Derived.Test.YtkhmjehjhjhpkabWInvWords
import Derived.Test.YtkhmjehjhjhpkabWGuard
import Derived.Test.YtkhmjehjhjhpkabWNEv
import Derived.Test.YtkhmjehjhjhpkabWMore
namespace Go.Proofs.Ytkhmjehjhjhpkab.PBracketPairs
open Go.RowKit Go.Proofs.YtkhmjehjhjhpkabW.PrintWords Go.Proofs.YtkhmjehjhjhpkabW.PrintLast Go.Proofs.YtkhmjehjhjhpkabW.PrintMore
attribute [local go_sem] max2_int min2_int max_two min_two max_three min_three max_four min_four   -- for this text's walks alone
set_option linter.unusedVariables false
set_option linter.unusedSimpArgs false



def errW : Option Int → Value
  | none => .nilIface
  | some c => .iface 0 (.int .i64 c)
theorem errW_none : errW none = .nilIface := rfl
theorem errW_some (c : Int) : errW (some c) = .iface 0 (.int .i64 c) := rfl

theorem info3 : (Try.prog.info? 3).map (fun i => (i.zero, i.size, i.bytes)) = some (some (.int .i64 0), 1, 8) := by kernel_rfl
theorem info4 : (Try.prog.info? 4).map (fun i => (i.zero, i.size, i.bytes)) = some (some (.bool false), 1, 1) := by kernel_rfl
-- the values' own types

end Go.Proofs.Ytkhmjehjhjhpkab.PBracketPairs
