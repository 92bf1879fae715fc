-- Written by a program of this session: a turn of the print kit's own.
import Derived.Test.YtnppgmbhdomelaaProg
import Derived.Below
import Derived.Deep.Draws
import Derived.Deep.AppendLies
import Derived.Maps.AppendAt
import Derived.OwnWalk
import Derived.Laws.BytesArg
import Derived.Laws.MakeOwn
import Derived.Laws.OwnMore
import Derived.Deep.OwnRows
import Derived.Tactics
import Derived.Lib.ConvBytes
import Derived.Laws.Slices
import Derived.WalkKit
import Derived.KernelRfl
import Derived.RowKit3
import Derived.Deep.LoopGhost
import Derived.Deep.QuietTactic
import Derived.BigQuiet
import Derived.WideLaws
import Derived.Deep.DeepCutAuto
import Derived.Deep.CutBlock
import Derived.Deep.RegionHeld3
import Derived.Laws.Rows
import Derived.Lib.AppendStr
import Derived.ArgAppend
import Derived.Laws.IdiomCopy
import Derived.OrdersHeld
import Derived.Laws.BitsLemmas
import Derived.Lib.SliceRun
import Derived.Lib.BytesEntry
import Derived.Lib.SlBy
import Derived.Shelf.Abstract
import Derived.Maps.OwnSet
import Derived.RowKit
import Derived.Test.YtnppgmbhdomelaaWWords
import Derived.Test.YtnppgmbhdomelaaWLast
import Derived.Test.YtnppgmbhdomelaaWTab
import Derived.Test.YtnppgmbhdomelaaWFour
import Derived.Test.YtnppgmbhdomelaaWQPut
import Derived.Test.YtnppgmbhdomelaaWApart
import Derived.Test.YtnppgmbhdomelaaWArr
import Derived.Test.YtnppgmbhdomelaaWZeros
import Derived.Test.YtnppgmbhdomelaaWFoot
import Derived.Test.YtnppgmbhdomelaaWKept
import Derived.Test.YtnppgmbhdomelaaWShare
import Derived.Test.YtnppgmbhdomelaaWN
import Derived.Test.YtnppgmbhdomelaaWFootNe
import Derived.Test.YtnppgmbhdomelaaWAt
import Derived.Test.YtnppgmbhdomelaaWEqStruct
import Derived.Test.YtnppgmbhdomelaaWRepsOne
import Derived.Test.YtnppgmbhdomelaaWInv
import Derived.Test.YtnppgmbhdomelaaWInvWords
import Derived.Test.YtnppgmbhdomelaaWGuard
import Derived.Test.YtnppgmbhdomelaaWNEv
import Derived.Test.YtnppgmbhdomelaaWMore
namespace Go.Proofs.Ytnppgmbhdomelaa.PTableTrees
open Go.RowKit Go.Proofs.YtnppgmbhdomelaaW.PrintWords Go.Proofs.YtnppgmbhdomelaaW.PrintLast Go.Proofs.YtnppgmbhdomelaaW.PrintMore
attribute [local go_sem] max2_int min2_int max_two min_two max_three min_three max_four min_four   -- for this text's walks alone
set_option linter.unusedVariables false
set_option linter.unusedSimpArgs false



def anyO {α : Type} (p : α → Option Bool) : List α → Option Bool
  | [] => some false
  | x :: l => (p x).bind fun b => if b = true then some true else anyO p l
def idxO {α : Type} (p : α → Option Bool) : List α → Int → Option Int
  | [], _ => some (-1)
  | x :: l, i => (p x).bind fun b => if b = true then some i else idxO p l (i + 1)
theorem idx_anyO {α : Type} (p : α → Option Bool) : ∀ (l : List α) (i : Int) (q : Bool), 0 ≤ i → anyO p l = some q → ∃ j, idxO p l i = some j ∧ q = decide (0 ≤ j)
  | [], i, q, _, h => ⟨-1, rfl, by cases h; rfl⟩
  | x :: l, i, q, h0, h => by
    unfold anyO at h; unfold idxO
    cases hp : p x with
    | none => rw [hp] at h; cases h
    | some b =>
      rw [hp] at h; simp only [Option.bind_some] at h ⊢
      cases b with
      | true => refine ⟨i, rfl, ?_⟩; cases h; simp [h0]
      | false => exact idx_anyO p l (i + 1) q (by omega) h
theorem LeO.anyO {α : Type} {p q : α → Option Bool} (h : ∀ x, LeO (p x) (q x)) : ∀ l : List α, LeO (anyO p l) (anyO q l)
  | [] => LeO.refl _
  | x :: l => LeO.bind (h x) (fun _ => LeO.ite (LeO.refl _) (LeO.anyO h l))
def errW : Option Int → Value
  | none => .nilIface
  | some c => .iface 0 (.int .i64 c)
theorem errW_none : errW none = .nilIface := rfl
theorem errW_some (c : Int) : errW (some c) = .iface 0 (.int .i64 c) := rfl

theorem info45 : (Try.prog.info? 45).map (fun i => (i.zero, i.size, i.bytes)) = some (some (.agg #[(.int .i64 0), (.slice none 0 0)]), 2, 32) := by kernel_rfl
-- the values' own types
def rd_L1 (xs : List (List Int)) (i : Int) : (List Int) := xs.getD i.toNat ([] : List Int)
theorem at_L1 {w : World} {A : Option Addr} {n : Nat} {xs : List (List Int)} (h : Kd.C (Kd.slice 3 (Kd.int .i64)) w A n xs) (i : Int) (h0 : 0 ≤ i) (h1 : i < n) : ∃ ad A0 c0, A = some ad ∧ w.cell? (ad.add i.toNat) = some (.slice A0 (rd_L1 xs i).length c0) ∧ (rd_L1 xs i).length ≤ c0 ∧ (Kd.int .i64).C w A0 (rd_L1 xs i).length (rd_L1 xs i) := by
  obtain ⟨ad, c, e, _, hK, hc0⟩ := Kd.C_get h ([] : List Int) i h0 h1
  have hc : ∀ j u, c[j]? = some u → w.cell? (ad.add (i.toNat * 1 + j)) = some u := hc0
  obtain ⟨A0, c0, rfl, l0, g0⟩ := hK
  exact ⟨ad, A0, c0, e, by have hq := hc 0 _ rfl; rwa [Nat.mul_one, Nat.add_zero] at hq, l0, g0⟩

/-! #### struct type 45 -/
structure S45 where
  f0 : Int
  f1 : (List Int)
def z45 : S45 := ⟨(0 : Int), ([] : List Int)⟩
def k45 : Kd S45 := Kd.iso (Kd.pair (Kd.int .i64) (Kd.slice 3 (Kd.int .i64))) (fun x : S45 => (x.f0, x.f1))
theorem k45_open {w : World} {x : S45} {cs : List Value} (h : k45.K w x cs) : ∃ A1 c1, cs = [.int .i64 x.f0, .slice A1 x.f1.length c1] ∧ x.f1.length ≤ c1 ∧ (Kd.int .i64).C w A1 x.f1.length x.f1 := by
  obtain ⟨_, _, rfl, rfl, ⟨A1, c1, rfl, l1, g1⟩⟩ := h
  exact ⟨A1, c1, rfl, l1, g1⟩
theorem k45_openM {w : World} {base : Nat} {ok : Nat → Prop} {x : S45} {cs : List Value} (h : k45.M w base ok x cs) : ∃ v1, cs = [.int .i64 x.f0, v1] ∧ (Kd.int .i64).R 3 w base ok v1 x.f1 := by
  obtain ⟨_, _, rfl, rfl, ⟨v1, rfl, g1⟩⟩ := h
  exact ⟨v1, rfl, g1⟩
theorem k45_mk (w : World) (x : S45) {A1 : Option Addr} {c1 : Nat} (l1 : x.f1.length ≤ c1) (g1 : (Kd.int .i64).C w A1 x.f1.length x.f1) : k45.K w x [.int .i64 x.f0, .slice A1 x.f1.length c1] := ⟨[.int .i64 x.f0], [.slice A1 x.f1.length c1], rfl, rfl, ⟨A1, c1, rfl, l1, g1⟩⟩
theorem k45_mkM (w : World) (base : Nat) (ok : Nat → Prop) (x : S45) {v1 : Value} (g1 : (Kd.int .i64).R 3 w base ok v1 x.f1) : k45.M w base ok x [.int .i64 x.f0, v1] := ⟨[.int .i64 x.f0], [v1], rfl, rfl, ⟨v1, rfl, g1⟩⟩
def rd_T45 (xs : List S45) (i : Int) : S45 := xs.getD i.toNat z45
theorem at_T45 {w : World} {A : Option Addr} {n : Nat} {xs : List S45} (h : Kd.C k45 w A n xs) (i : Int) (h0 : 0 ≤ i) (h1 : i < n) : ∃ ad A1 c1, A = some ad ∧ w.cell? (ad.add (i.toNat * 2)) = some (.int .i64 (rd_T45 xs i).f0) ∧ w.cell? ⟨(ad.add (i.toNat * 2)).block, (ad.add (i.toNat * 2)).off + 1, none⟩ = some (.slice A1 (rd_T45 xs i).f1.length c1) ∧ (rd_T45 xs i).f1.length ≤ c1 ∧ (Kd.int .i64).C w A1 (rd_T45 xs i).f1.length (rd_T45 xs i).f1 := by
  obtain ⟨ad, c, e, _, hK, hc0⟩ := Kd.C_get h z45 i h0 h1
  have hc : ∀ j u, c[j]? = some u → w.cell? (ad.add (i.toNat * 2 + j)) = some u := hc0
  obtain ⟨A1, c1, rfl, l1, g1⟩ := k45_open hK
  exact ⟨ad, A1, c1, e, hc 0 _ rfl, by rw [← add_field _ _ 1 (by omega)]; exact hc 1 _ rfl, l1, g1⟩

end Go.Proofs.Ytnppgmbhdomelaa.PTableTrees
