-- Printed by a turn of a template of the kit, and shortened: remarks and what nothing here uses are left out.
import Derived.Test.YtlmagjgjaajeiaaQPTurnerTakesx0
import Derived.Test.YtlmagjgjaajeiaaQPTurnerTakesx2
namespace Go.Proofs.Ytlmagjgjaajeiaa.PTurnerTakes
open Go.RowKit Go.Proofs.YtlmagjgjaajeiaaW.PrintWords Go.Proofs.YtlmagjgjaajeiaaW.PrintLast Go.Proofs.YtlmagjgjaajeiaaW.PrintMore
attribute [local go_sem] max2_int min2_int max_two min_two max_three min_three max_four min_four
set_option linter.unusedVariables false
set_option linter.unusedSimpArgs false
def machine_Check_1.f (l0 : List Int) (a1_0 : Int) (a1_1 : Int) (l1_2 : List (List Int)) (a1_3 : Int) (a1_4 : Int) : Option (Bool) := some ((l0.length : Int) != a1_1)
set_option maxHeartbeats 8000000 in
set_option maxRecDepth 100000 in
theorem machine_Check_1.calls (A0 : Option Addr) (c0 : Nat) (l0 : List Int) (a1_0 : Int) (a1_1 : Int) (A1_2 : Option Addr) (c1_2 : Nat) (l1_2 : List (List Int)) (a1_3 : Int) (a1_4 : Int) (g1 : Nat) (r : Bool) (w : World) (hr0 : Kd.C (Kd.int .i64) w A0 l0.length l0) (hc0 : l0.length ≤ c0) (hr1_2 : Kd.C (Kd.slice 3 (Kd.int .i64)) w A1_2 l1_2.length l1_2) (hc1_2 : l1_2.length ≤ c1_2) (hbk1 : w.heap[g1]? = some (.cells #[.int .i64 a1_0, .int .i64 a1_1, .slice A1_2 l1_2.length c1_2, .int .i64 a1_3, .int .u32 a1_4] 43 (0, 0))) (h : machine_Check_1.f l0 a1_0 a1_1 l1_2 a1_3 a1_4 = some r) :
    Calls Try.prog 67 #[.slice A0 l0.length c0, .pointer (some ⟨g1, 0, none⟩)] w fun e w' => e = .returned (.bool r) ∧ Drawn0 w w' := by
  (have HR0 := Aside0.mk hr0); (have HC0 := Aside0.mk hc0); (clear hr0 hc0); (have HR1_2 := Aside0.mk hr1_2); (have HC1_2 := Aside0.mk hc1_2); (clear hr1_2 hc1_2); (have BK1 := Aside0.mk hbk1); (clear hbk1); (have H : (some ((l0.length : Int) != a1_1)) = some r := h); (clear h); (obtain rfl := Option.some.inj H); (have hcz3_0 : w.cell? ⟨g1, 0, none⟩ = some (.int .i64 a1_0) := (blk_cell BK1.out 0).trans rfl); (have hcz3_1 : w.cell? ⟨g1, 1, none⟩ = some (.int .i64 a1_1) := (blk_cell BK1.out 1).trans rfl); (have hcz3_2 : w.cell? ⟨g1, 2, none⟩ = some (.slice A1_2 l1_2.length c1_2) := (blk_cell BK1.out 2).trans rfl); (have hcz3_3 : w.cell? ⟨g1, 3, none⟩ = some (.int .i64 a1_3) := (blk_cell BK1.out 3).trans rfl); (have hcz3_4 : w.cell? ⟨g1, 4, none⟩ = some (.int .u32 a1_4) := (blk_cell BK1.out 4).trans rfl); (have hfz3_0 := blk_frozen BK1.out 0); (have hfz3_1 := blk_frozen BK1.out 1); (have hfz3_2 := blk_frozen BK1.out 2); (have hfz3_3 := blk_frozen BK1.out 3); (have hfz3_4 := blk_frozen BK1.out 4)
  go_enter Try.func67, Try.ntmps67
  go_wp2
  go_ret
  exact ⟨by first | rfl | (simp; done) | (simp [*]; done), by repeat (first | exact Drawn0.refl _ | apply Drawn0.step)⟩
def machine_Check_1_any.f (l0 : List (List Int)) (a1_0 : Int) (a1_1 : Int) (l1_2 : List (List Int)) (a1_3 : Int) (a1_4 : Int) : Option Bool := anyO (fun x : List Int => machine_Check_1.f x a1_0 a1_1 l1_2 a1_3 a1_4) l0
set_option maxHeartbeats 8000000 in
set_option maxRecDepth 100000 in
theorem machine_Check_1_any.calls (A0 : Option Addr) (c0 : Nat) (l0 : List (List Int)) (a1_0 : Int) (a1_1 : Int) (A1_2 : Option Addr) (c1_2 : Nat) (l1_2 : List (List Int)) (a1_3 : Int) (a1_4 : Int) (g1 : Nat) (r : Bool) (w : World) (hr0 : Kd.C (Kd.slice 3 (Kd.int .i64)) w A0 l0.length l0) (hc0 : l0.length ≤ c0) (hr1_2 : Kd.C (Kd.slice 3 (Kd.int .i64)) w A1_2 l1_2.length l1_2) (hc1_2 : l1_2.length ≤ c1_2) (hbk1 : w.heap[g1]? = some (.cells #[.int .i64 a1_0, .int .i64 a1_1, .slice A1_2 l1_2.length c1_2, .int .i64 a1_3, .int .u32 a1_4] 43 (0, 0))) (h : machine_Check_1_any.f l0 a1_0 a1_1 l1_2 a1_3 a1_4 = some r) :
    Calls Try.prog 62 #[.slice A0 l0.length c0, .func (.func 67) #[] #[.pointer (some ⟨g1, 0, none⟩)]] w fun e w' => e = .returned (.bool r) ∧ Below w.heap.size w w' := by
  refine slices_ContainsFunc_SSint_Sint.anyO (fun x : List Int => machine_Check_1.f x a1_0 a1_1 l1_2 a1_3 a1_4) 67 #[.pointer (some ⟨g1, 0, none⟩)] (enters_of Try.func67 (by kernel_rfl) rfl) A0 c0 l0 w r h hr0 ?_
  intro W x cs b hx hB hK hp
  obtain ⟨A, c, rfl, hc, hr⟩ := hK
  refine (machine_Check_1.calls A c x a1_0 a1_1 A1_2 c1_2 l1_2 a1_3 a1_4 g1 b W hr hc (Kd.C_below hr1_2 hB) hc1_2 (blk_below hbk1 hB) hp).mono ?_
  rintro e w' ⟨rfl, h2⟩
  exact ⟨rfl, below_step hB h2.below⟩
end Go.Proofs.Ytlmagjgjaajeiaa.PTurnerTakes
