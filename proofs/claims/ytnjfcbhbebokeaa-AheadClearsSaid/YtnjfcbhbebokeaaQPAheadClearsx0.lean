-- Printed by a turn of a template of the kit, and shortened: remarks and what nothing here uses are left out.
import Derived.Test.YtnjfcbhbebokeaaProg
import Derived.Below
import Derived.Deep.Draws
import Derived.Deep.AppendLies
import Derived.Maps.AppendAt
import Derived.OwnWalk
import Derived.Laws.BytesArg
import Derived.Laws.MakeOwn
import Derived.Laws.OwnMore
import Derived.Deep.OwnRows
import Derived.Tactics
import Derived.Lib.ConvBytes
import Derived.Laws.Slices
import Derived.WalkKit
import Derived.KernelRfl
import Derived.RowKit3
import Derived.Deep.LoopGhost
import Derived.Deep.QuietTactic
import Derived.BigQuiet
import Derived.WideLaws
import Derived.Deep.DeepCutAuto
import Derived.Deep.CutBlock
import Derived.Deep.RegionHeld3
import Derived.Laws.Rows
import Derived.Lib.AppendStr
import Derived.ArgAppend
import Derived.Laws.IdiomCopy
import Derived.OrdersHeld
import Derived.Laws.BitsLemmas
import Derived.Lib.SliceRun
import Derived.Lib.BytesEntry
import Derived.Lib.SlBy
import Derived.Shelf.Abstract
import Derived.RowKit
import Derived.Test.YtnjfcbhbebokeaaQWWords
import Derived.Test.YtnjfcbhbebokeaaQWLast
import Derived.Test.YtnjfcbhbebokeaaQWTab
import Derived.Test.YtnjfcbhbebokeaaQWFour
import Derived.Test.YtnjfcbhbebokeaaQWQPut
import Derived.Test.YtnjfcbhbebokeaaQWApart
import Derived.Test.YtnjfcbhbebokeaaQWArr
import Derived.Test.YtnjfcbhbebokeaaQWZeros
import Derived.Test.YtnjfcbhbebokeaaQWFoot
import Derived.Test.YtnjfcbhbebokeaaQWKept
import Derived.Test.YtnjfcbhbebokeaaQWShare
import Derived.Test.YtnjfcbhbebokeaaQWN
import Derived.Test.YtnjfcbhbebokeaaQWFootNe
import Derived.Test.YtnjfcbhbebokeaaQWAt
import Derived.Test.YtnjfcbhbebokeaaQWEqStruct
import Derived.Test.YtnjfcbhbebokeaaQWRepsOne
import Derived.Test.YtnjfcbhbebokeaaQWInv
import Derived.Test.YtnjfcbhbebokeaaQWInvWords
import Derived.Test.YtnjfcbhbebokeaaQWGuard
import Derived.Test.YtnjfcbhbebokeaaQWNEv
import Derived.Test.YtnjfcbhbebokeaaQWMore
namespace Go.Proofs.Ytnjfcbhbebokeaa.PAheadClears
open Go.RowKit Go.Proofs.YtnjfcbhbebokeaaW.PrintWords Go.Proofs.YtnjfcbhbebokeaaW.PrintLast Go.Proofs.YtnjfcbhbebokeaaW.PrintMore
attribute [local go_sem] max2_int min2_int max_two min_two max_three min_three max_four min_four
set_option linter.unusedVariables false
set_option linter.unusedSimpArgs false
def anyO {α : Type} (p : α → Option Bool) : List α → Option Bool
  | [] => some false
  | x :: l => (p x).bind fun b => if b = true then some true else anyO p l
def idxO {α : Type} (p : α → Option Bool) : List α → Int → Option Int
  | [], _ => some (-1)
  | x :: l, i => (p x).bind fun b => if b = true then some i else idxO p l (i + 1)
theorem idx_anyO {α : Type} (p : α → Option Bool) : ∀ (l : List α) (i : Int) (q : Bool), 0 ≤ i → anyO p l = some q → ∃ j, idxO p l i = some j ∧ q = decide (0 ≤ j)
  | [], i, q, _, h => ⟨-1, rfl, by cases h; rfl⟩
  | x :: l, i, q, h0, h => by
    unfold anyO at h; unfold idxO
    cases hp : p x with
    | none => rw [hp] at h; cases h
    | some b =>
      rw [hp] at h; simp only [Option.bind_some] at h ⊢
      cases b with
      | true => refine ⟨i, rfl, ?_⟩; cases h; simp [h0]
      | false => exact idx_anyO p l (i + 1) q (by omega) h
theorem LeO.anyO {α : Type} {p q : α → Option Bool} (h : ∀ x, LeO (p x) (q x)) : ∀ l : List α, LeO (anyO p l) (anyO q l)
  | [] => LeO.refl _
  | x :: l => LeO.bind (h x) (fun _ => LeO.ite (LeO.refl _) (LeO.anyO h l))
def errW : Option Int → Value
  | none => .nilIface
  | some c => .iface 0 (.int .i64 c)
theorem Zu : errW none = .nilIface := rfl
theorem Zt (c : Int) : errW (some c) = .iface 0 (.int .i64 c) := rfl
theorem info3 : (Try.prog.info? 3).map (fun i => (i.zero, i.size, i.bytes)) = some (some (.int .i64 0), 1, 8) := by kernel_rfl
theorem info28 : (Try.prog.info? 28).map (fun i => (i.zero, i.size, i.bytes)) = some (some (.int .u32 0), 1, 4) := by kernel_rfl
structure S38 where
  f0 : Int
  f1 : (List Int)
def z38 : S38 := ⟨(0 : Int), ([] : List Int)⟩
def k38 : Kd S38 := Kd.iso (Kd.pair (Kd.int .i64) (Kd.slice 3 (Kd.int .i64))) (fun x : S38 => (x.f0, x.f1))
theorem k38_open {w : World} {x : S38} {cs : List Value} (h : k38.K w x cs) : ∃ A1 c1, cs = [.int .i64 x.f0, .slice A1 x.f1.length c1] ∧ x.f1.length ≤ c1 ∧ (Kd.int .i64).C w A1 x.f1.length x.f1 := by
  obtain ⟨_, _, rfl, rfl, ⟨A1, c1, rfl, l1, g1⟩⟩ := h
  exact ⟨A1, c1, rfl, l1, g1⟩
def Zb (xs : List S38) (i : Int) : S38 := xs.getD i.toNat z38
theorem at_T38 {w : World} {A : Option Addr} {n : Nat} {xs : List S38} (h : Kd.C k38 w A n xs) (i : Int) (h0 : 0 ≤ i) (h1 : i < n) : ∃ ad A1 c1, A = some ad ∧ w.cell? (ad.add (i.toNat * 2)) = some (.int .i64 (Zb xs i).f0) ∧ w.cell? ⟨(ad.add (i.toNat * 2)).block, (ad.add (i.toNat * 2)).off + 1, none⟩ = some (.slice A1 (Zb xs i).f1.length c1) ∧ (Zb xs i).f1.length ≤ c1 ∧ (Kd.int .i64).C w A1 (Zb xs i).f1.length (Zb xs i).f1 := by
  obtain ⟨ad, c, e, _, hK, hc0⟩ := Kd.C_get h z38 i h0 h1
  have hc : ∀ j u, c[j]? = some u → w.cell? (ad.add (i.toNat * 2 + j)) = some u := hc0
  obtain ⟨A1, c1, rfl, l1, g1⟩ := k38_open hK
  exact ⟨ad, A1, c1, e, hc 0 _ rfl, by rw [← add_field _ _ 1 (by omega)]; exact hc 1 _ rfl, l1, g1⟩
end Go.Proofs.Ytnjfcbhbebokeaa.PAheadClears
