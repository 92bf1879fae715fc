-- Written by a program of this session: a turn of the print kit's own.
import Derived.Test.YtejmnldedkllnaaProg
import Derived.Below
import Derived.Deep.Draws
import Derived.Deep.AppendLies
import Derived.Maps.AppendAt
import Derived.OwnWalk
import Derived.Laws.BytesArg
import Derived.Laws.MakeOwn
import Derived.Laws.OwnMore
import Derived.Deep.OwnRows
import Derived.Tactics
import Derived.Lib.ConvBytes
import Derived.Laws.Slices
import Derived.WalkKit
import Derived.KernelRfl
import Derived.RowKit3
import Derived.Deep.LoopGhost
import Derived.Deep.QuietTactic
import Derived.BigQuiet
import Derived.WideLaws
import Derived.Deep.DeepCutAuto
import Derived.Deep.CutBlock
import Derived.Deep.RegionHeld3
import Derived.Laws.Rows
import Derived.Lib.AppendStr
import Derived.ArgAppend
import Derived.Laws.IdiomCopy
import Derived.OrdersHeld
import Derived.Laws.BitsLemmas
import Derived.Lib.SliceRun
import Derived.Lib.BytesEntry
import Derived.Lib.SlBy
import Derived.Shelf.Abstract
import Derived.Maps.OwnSet
import Derived.RowKit
import Derived.Test.YtejmnldedkllnaaWWords
import Derived.Test.YtejmnldedkllnaaWLast
import Derived.Test.YtejmnldedkllnaaWTab
import Derived.Test.YtejmnldedkllnaaWFour
import Derived.Test.YtejmnldedkllnaaWQPut
import Derived.Test.YtejmnldedkllnaaWApart
import Derived.Test.YtejmnldedkllnaaWArr
import Derived.Test.YtejmnldedkllnaaWZeros
import Derived.Test.YtejmnldedkllnaaWFoot
import Derived.Test.YtejmnldedkllnaaWKept
import Derived.Test.YtejmnldedkllnaaWShare
import Derived.Test.YtejmnldedkllnaaWN
import Derived.Test.YtejmnldedkllnaaWFootNe
import Derived.Test.YtejmnldedkllnaaWAt
import Derived.Test.YtejmnldedkllnaaWEqStruct
import Derived.Test.YtejmnldedkllnaaWRepsOne
import Derived.Test.YtejmnldedkllnaaWInv
import Derived.Test.YtejmnldedkllnaaWInvWords
import Derived.Test.YtejmnldedkllnaaWGuard
import Derived.Test.YtejmnldedkllnaaWNEv
import Derived.Test.YtejmnldedkllnaaWMore
namespace Go.Proofs.Ytejmnldedkllnaa.PTallyPumps
open Go.RowKit Go.Proofs.YtejmnldedkllnaaW.PrintWords Go.Proofs.YtejmnldedkllnaaW.PrintLast Go.Proofs.YtejmnldedkllnaaW.PrintMore
attribute [local go_sem] max2_int min2_int max_two min_two max_three min_three max_four min_four   -- for this text's walks alone
set_option linter.unusedVariables false
set_option linter.unusedSimpArgs false



def anyO {α : Type} (p : α → Option Bool) : List α → Option Bool
  | [] => some false
  | x :: l => (p x).bind fun b => if b = true then some true else anyO p l
def idxO {α : Type} (p : α → Option Bool) : List α → Int → Option Int
  | [], _ => some (-1)
  | x :: l, i => (p x).bind fun b => if b = true then some i else idxO p l (i + 1)
theorem idx_anyO {α : Type} (p : α → Option Bool) : ∀ (l : List α) (i : Int) (q : Bool), 0 ≤ i → anyO p l = some q → ∃ j, idxO p l i = some j ∧ q = decide (0 ≤ j)
  | [], i, q, _, h => ⟨-1, rfl, by cases h; rfl⟩
  | x :: l, i, q, h0, h => by
    unfold anyO at h; unfold idxO
    cases hp : p x with
    | none => rw [hp] at h; cases h
    | some b =>
      rw [hp] at h; simp only [Option.bind_some] at h ⊢
      cases b with
      | true => refine ⟨i, rfl, ?_⟩; cases h; simp [h0]
      | false => exact idx_anyO p l (i + 1) q (by omega) h
theorem LeO.anyO {α : Type} {p q : α → Option Bool} (h : ∀ x, LeO (p x) (q x)) : ∀ l : List α, LeO (anyO p l) (anyO q l)
  | [] => LeO.refl _
  | x :: l => LeO.bind (h x) (fun _ => LeO.ite (LeO.refl _) (LeO.anyO h l))
def errW : Option Int → Value
  | none => .nilIface
  | some c => .iface 0 (.int .i64 c)
theorem errW_none : errW none = .nilIface := rfl
theorem errW_some (c : Int) : errW (some c) = .iface 0 (.int .i64 c) := rfl

theorem info3 : (Try.prog.info? 3).map (fun i => (i.zero, i.size, i.bytes)) = some (some (.int .i64 0), 1, 8) := by kernel_rfl
-- the values' own types
def rd_L1 (xs : List (List Int)) (i : Int) : (List Int) := xs.getD i.toNat ([] : List Int)
theorem at_L1 {w : World} {A : Option Addr} {n : Nat} {xs : List (List Int)} (h : Kd.C (Kd.slice 3 (Kd.int .i64)) w A n xs) (i : Int) (h0 : 0 ≤ i) (h1 : i < n) : ∃ ad A0 c0, A = some ad ∧ w.cell? (ad.add i.toNat) = some (.slice A0 (rd_L1 xs i).length c0) ∧ (rd_L1 xs i).length ≤ c0 ∧ (Kd.int .i64).C w A0 (rd_L1 xs i).length (rd_L1 xs i) := by
  obtain ⟨ad, c, e, _, hK, hc0⟩ := Kd.C_get h ([] : List Int) i h0 h1
  have hc : ∀ j u, c[j]? = some u → w.cell? (ad.add (i.toNat * 1 + j)) = some u := hc0
  obtain ⟨A0, c0, rfl, l0, g0⟩ := hK
  exact ⟨ad, A0, c0, e, by have hq := hc 0 _ rfl; rwa [Nat.mul_one, Nat.add_zero] at hq, l0, g0⟩

end Go.Proofs.Ytejmnldedkllnaa.PTallyPumps
