-- Written by a program of this session: a turn of the print kit's own.
import Derived.Test.YtpcphfbjnaikhaaProg
import Derived.Below
import Derived.Deep.Draws
import Derived.Deep.AppendLies
import Derived.Maps.AppendAt
import Derived.OwnWalk
import Derived.Laws.BytesArg
import Derived.Laws.MakeOwn
import Derived.Laws.OwnMore
import Derived.Deep.OwnRows
import Derived.Tactics
import Derived.Lib.ConvBytes
import Derived.Laws.Slices
import Derived.WalkKit
import Derived.KernelRfl
import Derived.RowKit3
import Derived.Deep.LoopGhost
import Derived.Deep.QuietTactic
import Derived.BigQuiet
import Derived.WideLaws
import Derived.Deep.DeepCutAuto
import Derived.Deep.CutBlock
import Derived.Deep.RegionHeld3
import Derived.Laws.Rows
import Derived.Lib.AppendStr
import Derived.ArgAppend
import Derived.Laws.IdiomCopy
import Derived.OrdersHeld
import Derived.Laws.BitsLemmas
import Derived.Lib.SliceRun
import Derived.Lib.BytesEntry
import Derived.Lib.SlBy
import Derived.Shelf.Abstract
import Derived.Maps.OwnSet
import Derived.Shelf.SlSortCmp.NoneTotal
import Derived.Shelf.SlSorted.Search
import Derived.RowKit
import Derived.Test.YtpcphfbjnaikhaaWWords
import Derived.Test.YtpcphfbjnaikhaaWLast
import Derived.Test.YtpcphfbjnaikhaaWTab
import Derived.Test.YtpcphfbjnaikhaaWFour
import Derived.Test.YtpcphfbjnaikhaaWQPut
import Derived.Test.YtpcphfbjnaikhaaWApart
import Derived.Test.YtpcphfbjnaikhaaWArr
import Derived.Test.YtpcphfbjnaikhaaWZeros
import Derived.Test.YtpcphfbjnaikhaaWFoot
import Derived.Test.YtpcphfbjnaikhaaWKept
import Derived.Test.YtpcphfbjnaikhaaWShare
import Derived.Test.YtpcphfbjnaikhaaWN
import Derived.Test.YtpcphfbjnaikhaaWFootNe
import Derived.Test.YtpcphfbjnaikhaaWAt
import Derived.Test.YtpcphfbjnaikhaaWEqStruct
import Derived.Test.YtpcphfbjnaikhaaWRepsOne
import Derived.Test.YtpcphfbjnaikhaaWInv
import Derived.Test.YtpcphfbjnaikhaaWInvWords
import Derived.Test.YtpcphfbjnaikhaaWGuard
import Derived.Test.YtpcphfbjnaikhaaWNEv
import Derived.Test.YtpcphfbjnaikhaaWMore
namespace Go.Proofs.Ytpcphfbjnaikhaa.PEndsCounts
open Go.RowKit Go.Proofs.YtpcphfbjnaikhaaW.PrintWords Go.Proofs.YtpcphfbjnaikhaaW.PrintLast Go.Proofs.YtpcphfbjnaikhaaW.PrintMore
attribute [local go_sem] max2_int min2_int max_two min_two max_three min_three max_four min_four   -- for this text's walks alone
set_option linter.unusedVariables false
set_option linter.unusedSimpArgs false



def anyO {α : Type} (p : α → Option Bool) : List α → Option Bool
  | [] => some false
  | x :: l => (p x).bind fun b => if b = true then some true else anyO p l
def idxO {α : Type} (p : α → Option Bool) : List α → Int → Option Int
  | [], _ => some (-1)
  | x :: l, i => (p x).bind fun b => if b = true then some i else idxO p l (i + 1)
theorem idx_anyO {α : Type} (p : α → Option Bool) : ∀ (l : List α) (i : Int) (q : Bool), 0 ≤ i → anyO p l = some q → ∃ j, idxO p l i = some j ∧ q = decide (0 ≤ j)
  | [], i, q, _, h => ⟨-1, rfl, by cases h; rfl⟩
  | x :: l, i, q, h0, h => by
    unfold anyO at h; unfold idxO
    cases hp : p x with
    | none => rw [hp] at h; cases h
    | some b =>
      rw [hp] at h; simp only [Option.bind_some] at h ⊢
      cases b with
      | true => refine ⟨i, rfl, ?_⟩; cases h; simp [h0]
      | false => exact idx_anyO p l (i + 1) q (by omega) h
theorem LeO.anyO {α : Type} {p q : α → Option Bool} (h : ∀ x, LeO (p x) (q x)) : ∀ l : List α, LeO (anyO p l) (anyO q l)
  | [] => LeO.refl _
  | x :: l => LeO.bind (h x) (fun _ => LeO.ite (LeO.refl _) (LeO.anyO h l))
def errW : Option Int → Value
  | none => .nilIface
  | some c => .iface 0 (.int .i64 c)
theorem errW_none : errW none = .nilIface := rfl
theorem errW_some (c : Int) : errW (some c) = .iface 0 (.int .i64 c) := rfl

theorem info3 : (Try.prog.info? 3).map (fun i => (i.zero, i.size, i.bytes)) = some (some (.int .i64 0), 1, 8) := by kernel_rfl
theorem info5 : (Try.prog.info? 5).map (fun i => (i.zero, i.size, i.bytes)) = some (some (.int .u8 0), 1, 1) := by kernel_rfl
-- the values' own types

end Go.Proofs.Ytpcphfbjnaikhaa.PEndsCounts
