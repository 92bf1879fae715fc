-- Written by a program of this session: a turn of the print kit's own.
import Derived.Test.YtpcphfbjnaikhaaPEndsCountsx0
namespace Go.Proofs.Ytpcphfbjnaikhaa.PEndsCounts
open Go.RowKit Go.Proofs.YtpcphfbjnaikhaaW.PrintWords Go.Proofs.YtpcphfbjnaikhaaW.PrintLast Go.Proofs.YtpcphfbjnaikhaaW.PrintMore
attribute [local go_sem] max2_int min2_int max_two min_two max_three min_three max_four min_four   -- for this text's walks alone
set_option linter.unusedVariables false
set_option linter.unusedSimpArgs false

-- NOT PRINTED: function 31 (slices_insertionSortCmpFunc_int)

-- NOT PRINTED: function 41 (slices_siftDownCmpFunc_int)

-- NOT PRINTED: function 32 (slices_heapSortCmpFunc_int)

-- NOT PRINTED: function 39 (bits_Len32)

-- NOT PRINTED: function 40 (bits_Len64)

-- NOT PRINTED: function 30 (bits_Len)

-- NOT PRINTED: function 42 (slices_nextPowerOfTwo)

-- NOT PRINTED: function 43 (slices_xorshift_Next)

-- NOT PRINTED: function 33 (slices_breakPatternsCmpFunc_int)

-- NOT PRINTED: function 46 (slices_order2CmpFunc_int)

-- NOT PRINTED: function 45 (slices_medianCmpFunc_int)

-- NOT PRINTED: function 44 (slices_medianAdjacentCmpFunc_int)

-- NOT PRINTED: function 34 (slices_choosePivotCmpFunc_int)

-- NOT PRINTED: function 35 (slices_reverseRangeCmpFunc_int)

-- NOT PRINTED: function 36 (slices_partialInsertionSortCmpFunc_int)

-- NOT PRINTED: function 37 (slices_partitionEqualCmpFunc_int)

-- NOT PRINTED: function 38 (slices_partitionCmpFunc_int)

-- NOT PRINTED: function 29 (slices_pdqsortCmpFunc_int)

-- NOT PRINTED: function 25 (slices_SortFunc_Sint_int)

-- NOT PRINTED: function 27 (bytealg_Compare)

/-! ### bytes_Compare: function 21 -/
def bytes_Compare.f (l0 : List Int) (l1 : List Int) : Option Int := some (Lib.compareBytes (Lib.bytesOf l0) (Lib.bytesOf l1))
theorem bytes_Compare.bytes (A : Option Addr) (c : Nat) (l : List Int) (w : World) (hr : Kd.C (Kd.int .u8) w A l.length l) : (Extern.Bytes.bytesOf (.slice A l.length c)).run Try.prog w = .ok (strOfNums l) w := by
  obtain ⟨_, _, h⟩ := Kd.reads_of_C (enc := Value.int .u8) (d := (0 : Int)) (h1 := fun _ => rfl) hr
  have nil : ∀ l : List Int, l = [] → ByteArray.empty = strOfNums l := by rintro l rfl; rfl
  cases A with
  | none =>
    have e : l = [] := by
      cases l with
      | nil => rfl
      | cons a l => obtain ⟨_, hx, _⟩ := h (by simp); cases hx
    show Sem.run Try.prog (pure ByteArray.empty) w = _
    rw [Sem.run_pure, nil l e]
  | some ad =>
    show (Extern.Bytes.loadBytes ad l.length .empty).run Try.prog w = _
    rw [Lib.run_loadBytesX (P := Try.prog) w l ad .empty (fun j x hj => by
      have hjl : j < l.length := (List.getElem?_eq_some_iff.1 hj).1
      obtain ⟨ad', e', hc⟩ := h (by omega)
      cases e'
      rw [hc j hjl, List.getD_eq_getElem?_getD, hj]; rfl)]
    congr 1
    apply ByteArray.ext
    show (#[] : Array UInt8) ++ (Lib.bytesOf l).toArray = (Lib.bytesOf l).toArray
    simp
theorem bytes_Compare.run (A0 : Option Addr) (c0 : Nat) (l0 : List Int) (A1 : Option Addr) (c1 : Nat) (l1 : List Int) (w : World) (hr0 : Kd.C (Kd.int .u8) w A0 l0.length l0) (hr1 : Kd.C (Kd.int .u8) w A1 l1.length l1) :
    (Extern.BytealgCompare.compare #[.slice A0 l0.length c0, .slice A1 l1.length c1]).run Try.prog w = .ok (.int .i64 (Lib.compareBytes (Lib.bytesOf l0) (Lib.bytesOf l1))) w := by
  change Sem.run Try.prog (do pure (goInt (Extern.BytealgCompare.cmp (← Extern.Bytes.bytesOf (.slice A0 l0.length c0)) (← Extern.Bytes.bytesOf (.slice A1 l1.length c1))))) w = _
  simp only [Sem.run_bind, Sem.run_pure, bytes_Compare.bytes _ _ _ _ hr0, bytes_Compare.bytes _ _ _ _ hr1, Result.andThen]
  rw [Lib.cmp_eq]
  rfl
set_option maxHeartbeats 8000000 in
set_option maxRecDepth 100000 in
theorem bytes_Compare.calls (A0 : Option Addr) (c0 : Nat) (l0 : List Int) (A1 : Option Addr) (c1 : Nat) (l1 : List Int) (r : Int) (w : World) (hr0 : Kd.C (Kd.int .u8) w A0 l0.length l0) (hc0 : l0.length ≤ c0) (hr1 : Kd.C (Kd.int .u8) w A1 l1.length l1) (hc1 : l1.length ≤ c1) (h : bytes_Compare.f l0 l1 = some r) :
    Calls Try.prog 21 #[.slice A0 l0.length c0, .slice A1 l1.length c1] w fun e w' => e = .returned (.int .i64 r) ∧ Drawn0 w w' := by
  have HX := Aside0.mk (bytes_Compare.run A0 c0 l0 A1 c1 l1 w hr0 hr1)
  clear hr0 hr1
  have H : some (Lib.compareBytes (Lib.bytesOf l0) (Lib.bytesOf l1)) = some r := h
  clear h
  obtain rfl := Option.some.inj H
  go_enter Try.func21, Try.ntmps21
  go_wp2
  rw [run_callFunc_extern Try.func27 (by kernel_rfl) (by kernel_rfl) (by kernel_rfl) (e := Extern.BytealgCompare.compare) (by kernel_rfl), HX.out]
  simp only [Result.andThen]
  rw [Oper.upon_value]
  go_wp2
  go_ret
  exact ⟨rfl, Drawn0.refl _⟩


/-! ### ends_order_1: function 26 -/
def ends_order_1.f (a0 : Int) (a1 : Int) (l2_0 : List Int) : Option (Int) := if 0 ≤ a0 then (if a0 ≤ (l2_0.length : Int) then (if 0 ≤ a1 then (if a1 ≤ (l2_0.length : Int) then ((bytes_Compare.f (l2_0.drop (a0 : Int).toNat) (l2_0.drop (a1 : Int).toNat)).bind fun t109 => (some t109)) else (none)) else (none)) else (none)) else (none)
set_option maxHeartbeats 8000000 in
set_option maxRecDepth 100000 in
theorem ends_order_1.calls (a0 : Int) (a1 : Int) (A2_0 : Option Addr) (c2_0 : Nat) (l2_0 : List Int) (g2 : Nat) (r : Int) (w : World) (hr2_0 : Kd.C (Kd.int .u8) w A2_0 l2_0.length l2_0) (hc2_0 : l2_0.length ≤ c2_0) (hbk2 : w.heap[g2]? = some (.cells #[.slice A2_0 l2_0.length c2_0] 22 (0, 0))) (h : ends_order_1.f a0 a1 l2_0 = some r) :
    Calls Try.prog 26 #[.int .i64 a0, .int .i64 a1, .pointer (some ⟨g2, 0, none⟩)] w fun e w' => e = .returned (.int .i64 r) ∧ Drawn0 w w' := by
  have hu22 := Try.underlying22
  have HR2_0 := Aside0.mk hr2_0
  have HC2_0 := Aside0.mk hc2_0
  clear hr2_0 hc2_0
  have BK2 := Aside0.mk hbk2
  clear hbk2
  have H : (if 0 ≤ a0 then (if a0 ≤ (l2_0.length : Int) then (if 0 ≤ a1 then (if a1 ≤ (l2_0.length : Int) then ((bytes_Compare.f (l2_0.drop (a0 : Int).toNat) (l2_0.drop (a1 : Int).toNat)).bind fun t109 => (some t109)) else (none)) else (none)) else (none)) else (none)) = some r := h
  clear h
  by_cases c4 : 0 ≤ a0
  · rw [if_pos c4] at H
    have c4b0 := eq_true c4
    have c4b1 : decide (0 ≤ a0) = true := decide_eq_true c4
    clear c4
    by_cases c5 : a0 ≤ (l2_0.length : Int)
    · rw [if_pos c5] at H
      have c5b0 := eq_true c5
      have c5b1 : decide (a0 ≤ (l2_0.length : Int)) = true := decide_eq_true c5
      clear c5
      obtain ⟨y101, hy101⟩ : ∃ y_ : List Int, y_ = (l2_0.drop (a0 : Int).toNat) := ⟨_, rfl⟩
      replace H : (if 0 ≤ a1 then (if a1 ≤ (l2_0.length : Int) then ((bytes_Compare.f y101 (l2_0.drop (a1 : Int).toNat)).bind fun t109 => (some t109)) else (none)) else (none)) = some r := by first | (rw [hy101]; with_reducible exact H) | (have H2_ := (Option.bind_some _ _).symm.trans H; rw [hy101]; with_reducible exact H2_) | (have H2_ := (Option.bind_some _ _).symm.trans H; with_reducible exact H2_) | with_reducible exact H | (rw [hy101]; exact H) | exact H
      have Ny101 := Aside0.mk hy101
      clear hy101
      by_cases c6 : 0 ≤ a1
      · rw [if_pos c6] at H
        have c6b0 := eq_true c6
        have c6b1 : decide (0 ≤ a1) = true := decide_eq_true c6
        clear c6
        by_cases c7 : a1 ≤ (l2_0.length : Int)
        · rw [if_pos c7] at H
          have c7b0 := eq_true c7
          have c7b1 : decide (a1 ≤ (l2_0.length : Int)) = true := decide_eq_true c7
          clear c7
          obtain ⟨y105, hy105⟩ : ∃ y_ : List Int, y_ = (l2_0.drop (a1 : Int).toNat) := ⟨_, rfl⟩
          replace H : ((bytes_Compare.f y101 y105).bind fun t109 => (some t109)) = some r := by first | (rw [hy105]; with_reducible exact H) | (have H2_ := (Option.bind_some _ _).symm.trans H; rw [hy105]; with_reducible exact H2_) | (have H2_ := (Option.bind_some _ _).symm.trans H; with_reducible exact H2_) | with_reducible exact H | (rw [hy105]; exact H) | exact H
          have Ny105 := Aside0.mk hy105
          clear hy105
          replace H := Option.bind_eq_some_iff.mp H
          obtain ⟨t109, A80, H⟩ := H
          replace H : (some t109) = some r := H
          have A8 := Aside0.mk A80
          clear A80
          obtain rfl := Option.some.inj H
          have hcz9_0 : w.cell? ⟨g2, 0, none⟩ = some (.slice A2_0 l2_0.length c2_0) := (blk_cell BK2.out 0).trans rfl
          have hfz9_0 := blk_frozen BK2.out 0
          have q10 : (a0 : Int) ≤ ((l2_0.length : Int) : Int) := of_decide_eq_true (by first | (with_reducible assumption) | assumption)
          obtain ⟨i010, hi010, _, hsz10, _⟩ := info_parts info5
          have hroom10 : l2_0.length ≤ c2_0 := HC2_0.out
          have hC10 : Kd.C (Kd.int .u8) _ A2_0 l2_0.length l2_0 := HR2_0.out
          have q010 : (0 : Int) ≤ (a0 : Int) := of_decide_eq_true (by first | (with_reducible assumption) | assumption)
          have hcut10 := cut_from (P := Try.prog) 22 5 .i64 Try.underlying22 hi010 1 hsz10 A2_0 l2_0.length c2_0 a0 q010 q10
          have hr10 := Kd.C_drop (m := (a0 : Int).toNat) (c := c2_0) hC10 (by omega) hroom10
          obtain ⟨A10, hA10⟩ : ∃ Aq_, Aq_ = (if c2_0 = (a0 : Int).toNat then A2_0 else (A2_0 : Option Addr).map (·.add ((a0 : Int).toNat * 1))) := ⟨_, rfl⟩
          obtain ⟨c10, hc10⟩ : ∃ cq_, cq_ = c2_0 - (a0 : Int).toNat := ⟨_, rfl⟩
          have hy10 : y101.length = l2_0.length - (a0 : Int).toNat := (by rw [Ny101.out, List.length_drop] <;> omega)
          rw [show (l2_0).drop (a0 : Int).toNat = y101 from Ny101.out.symm] at hr10
          replace hr10 : Kd.C (Kd.int .u8) _ A10 y101.length y101 := (by rw [hA10]; exact hr10)
          rw [← hy10, ← hA10, ← hc10] at hcut10
          have HR104 := Aside0.mk hr10
          have HC104 := Aside0.mk (show y101.length ≤ c10 from by rw [hy10, hc10]; exact Nat.sub_le_sub_right hroom10 _)
          clear hr10 hC10 hroom10 hi010 hsz10 hc10
          have KY10 := Aside0.mk hy10
          have KA10 := Aside0.mk hA10
          clear hy10 hA10
          replace q10 := eq_true q10
          have q11 : (a1 : Int) ≤ ((l2_0.length : Int) : Int) := of_decide_eq_true (by first | (with_reducible assumption) | assumption)
          obtain ⟨i011, hi011, _, hsz11, _⟩ := info_parts info5
          have hroom11 : l2_0.length ≤ c2_0 := HC2_0.out
          have hC11 : Kd.C (Kd.int .u8) _ A2_0 l2_0.length l2_0 := HR2_0.out
          have q011 : (0 : Int) ≤ (a1 : Int) := of_decide_eq_true (by first | (with_reducible assumption) | assumption)
          have hcut11 := cut_from (P := Try.prog) 22 5 .i64 Try.underlying22 hi011 1 hsz11 A2_0 l2_0.length c2_0 a1 q011 q11
          have hr11 := Kd.C_drop (m := (a1 : Int).toNat) (c := c2_0) hC11 (by omega) hroom11
          obtain ⟨A11, hA11⟩ : ∃ Aq_, Aq_ = (if c2_0 = (a1 : Int).toNat then A2_0 else (A2_0 : Option Addr).map (·.add ((a1 : Int).toNat * 1))) := ⟨_, rfl⟩
          obtain ⟨c11, hc11⟩ : ∃ cq_, cq_ = c2_0 - (a1 : Int).toNat := ⟨_, rfl⟩
          have hy11 : y105.length = l2_0.length - (a1 : Int).toNat := (by rw [Ny105.out, List.length_drop] <;> omega)
          rw [show (l2_0).drop (a1 : Int).toNat = y105 from Ny105.out.symm] at hr11
          replace hr11 : Kd.C (Kd.int .u8) _ A11 y105.length y105 := (by rw [hA11]; exact hr11)
          rw [← hy11, ← hA11, ← hc11] at hcut11
          have HR108 := Aside0.mk hr11
          have HC108 := Aside0.mk (show y105.length ≤ c11 from by rw [hy11, hc11]; exact Nat.sub_le_sub_right hroom11 _)
          clear hr11 hC11 hroom11 hi011 hsz11 hc11
          have KY11 := Aside0.mk hy11
          have KA11 := Aside0.mk hA11
          clear hy11 hA11
          replace q11 := eq_true q11
          go_enter Try.func26, Try.ntmps26
          go_wp2_with (first | (go_at_call 21; (with_reducible refine (bytes_Compare.calls _ _ y101 _ _ y105 t109 _ ?side1 ?side2 ?side3 ?side4 A8.out).mono ?_); (case side1 => repeat (first | exact HR104.out | (with_reducible refine Kd.C_alloc ?_ _) | (with_reducible refine Kd.C_drewN ?_ _) | (with_reducible refine Kd.C_drew ?_))); (case side2 => exact HC104.out); (case side3 => repeat (first | exact HR108.out | (with_reducible refine Kd.C_alloc ?_ _) | (with_reducible refine Kd.C_drewN ?_ _) | (with_reducible refine Kd.C_drew ?_))); (case side4 => exact HC108.out); rintro e w' ⟨rfl, ⟨nd, rfl⟩⟩; (try first | exact ⟨rfl, _, World.drewN_drewN _ _ _⟩ | exact ⟨rfl, _, Eq.trans (World.drewN_drewN _ _ _) (congrArg (World.drewN _) (Nat.add_assoc _ _ _))⟩)))
          repeat (go_quiet (first | (go_at_call 21; (with_reducible refine (bytes_Compare.calls _ _ y101 _ _ y105 t109 _ ?side1 ?side2 ?side3 ?side4 A8.out).mono ?_); (case side1 => repeat (first | exact HR104.out | (with_reducible refine Kd.C_alloc ?_ _) | (with_reducible refine Kd.C_drewN ?_ _) | (with_reducible refine Kd.C_drew ?_))); (case side2 => exact HC104.out); (case side3 => repeat (first | exact HR108.out | (with_reducible refine Kd.C_alloc ?_ _) | (with_reducible refine Kd.C_drewN ?_ _) | (with_reducible refine Kd.C_drew ?_))); (case side4 => exact HC108.out); rintro e w' ⟨rfl, ⟨nd, rfl⟩⟩; (try first | exact ⟨rfl, _, World.drewN_drewN _ _ _⟩ | exact ⟨rfl, _, Eq.trans (World.drewN_drewN _ _ _) (congrArg (World.drewN _) (Nat.add_assoc _ _ _))⟩))); try go_wp2_with (first | (go_at_call 21; (with_reducible refine (bytes_Compare.calls _ _ y101 _ _ y105 t109 _ ?side1 ?side2 ?side3 ?side4 A8.out).mono ?_); (case side1 => repeat (first | exact HR104.out | (with_reducible refine Kd.C_alloc ?_ _) | (with_reducible refine Kd.C_drewN ?_ _) | (with_reducible refine Kd.C_drew ?_))); (case side2 => exact HC104.out); (case side3 => repeat (first | exact HR108.out | (with_reducible refine Kd.C_alloc ?_ _) | (with_reducible refine Kd.C_drewN ?_ _) | (with_reducible refine Kd.C_drew ?_))); (case side4 => exact HC108.out); rintro e w' ⟨rfl, ⟨nd, rfl⟩⟩; (try first | exact ⟨rfl, _, World.drewN_drewN _ _ _⟩ | exact ⟨rfl, _, Eq.trans (World.drewN_drewN _ _ _) (congrArg (World.drewN _) (Nat.add_assoc _ _ _))⟩))))
          go_ret
          exact ⟨by first | rfl | (simp; done) | (simp [*]; done), by repeat (first | exact Drawn0.refl _ | apply Drawn0.step)⟩
        · rw [if_neg c7] at H
          exact absurd H (by simp)
      · rw [if_neg c6] at H
        exact absurd H (by simp)
    · rw [if_neg c5] at H
      exact absurd H (by simp)
  · rw [if_neg c4] at H
    exact absurd H (by simp)

/-! ### the order of rows of bytes -/
theorem cb_cons (a b : UInt8) (x y : List UInt8) : Lib.compareBytes (a :: x) (b :: y) = if a < b then -1 else if b < a then 1 else Lib.compareBytes x y := rfl
theorem cb_self : ∀ x : List UInt8, Lib.compareBytes x x = 0
  | [] => rfl
  | a :: x => by rw [cb_cons, if_neg (UInt8.lt_irrefl a), if_neg (UInt8.lt_irrefl a)]; exact cb_self x
theorem cb_eq : ∀ x y : List UInt8, Lib.compareBytes x y = 0 → x = y
  | [], [], _ => rfl
  | [], _ :: _, h => by cases h
  | _ :: _, [], h => by cases h
  | a :: x, b :: y, h => by
    rw [cb_cons] at h
    by_cases h1 : a < b
    · rw [if_pos h1] at h; cases h
    · by_cases h2 : b < a
      · rw [if_neg h1, if_pos h2] at h; cases h
      · rw [if_neg h1, if_neg h2] at h
        rw [cb_eq x y h, UInt8.le_antisymm (UInt8.not_lt.mp h2) (UInt8.not_lt.mp h1)]
theorem cb_swap : ∀ x y : List UInt8, Lib.compareBytes y x = - Lib.compareBytes x y
  | [], [] => rfl
  | [], _ :: _ => rfl
  | _ :: _, [] => rfl
  | a :: x, b :: y => by
    rw [cb_cons, cb_cons]
    by_cases h1 : a < b
    · rw [if_neg (UInt8.lt_asymm h1), if_pos h1, if_pos h1]; rfl
    · by_cases h2 : b < a
      · rw [if_pos h2, if_neg h1, if_pos h2]
      · rw [if_neg h2, if_neg h1, if_neg h1, if_neg h2]; exact cb_swap x y
theorem cb_trans : ∀ x y z : List UInt8, Lib.compareBytes x y < 0 → Lib.compareBytes y z < 0 → Lib.compareBytes x z < 0
  | [], y, [], h1, h2 => by cases y <;> simp [Lib.compareBytes] at h1 h2
  | [], _, _ :: _, _, _ => by simp [Lib.compareBytes]
  | _ :: _, [], _, h1, _ => by simp [Lib.compareBytes] at h1
  | _ :: _, _ :: _, [], _, h2 => by simp [Lib.compareBytes] at h2
  | a :: x, b :: y, c :: z, h1, h2 => by
    rw [cb_cons] at h1 h2 ⊢
    by_cases p1 : a < b
    · by_cases p2 : b < c
      · rw [if_pos (UInt8.lt_trans p1 p2)]; decide
      · by_cases p3 : c < b
        · rw [if_neg p2, if_pos p3] at h2; simp at h2
        · have e := UInt8.le_antisymm (UInt8.not_lt.mp p3) (UInt8.not_lt.mp p2)
          subst e
          rw [if_pos p1]; decide
    · by_cases p4 : b < a
      · rw [if_neg p1, if_pos p4] at h1; simp at h1
      · have e := UInt8.le_antisymm (UInt8.not_lt.mp p4) (UInt8.not_lt.mp p1)
        subst e
        rw [if_neg p1, if_neg p1] at h1
        by_cases p2 : a < c
        · rw [if_pos p2]; decide
        · by_cases p3 : c < a
          · rw [if_neg p2, if_pos p3] at h2; simp at h2
          · rw [if_neg p2, if_neg p3] at h2 ⊢
            exact cb_trans x y z h1 h2
/-! ### a row of numbers behind a sort -/
section
variable {α : Type} [Inhabited α]
theorem putCells_size (enc : α → Value) (d : Array α) (c : Array Value) : (Sort.putCells enc 0 d c).size = c.size := by simp [Sort.putCells]
theorem putCells_take (enc : α → Value) (d : List α) (c : Array Value) (h : d.length ≤ c.size) : (Sort.putCells enc 0 d.toArray c).toList.take d.length = d.map enc := by
  apply List.ext_getElem?
  intro j
  by_cases hj : j < d.length
  · have hc : j < c.size := by omega
    rw [List.getElem?_take_of_lt hj, Array.getElem?_toList]
    simp only [Sort.putCells, Array.getElem?_mapIdx, Array.getElem?_eq_getElem hc, Option.map_some, List.size_toArray, Nat.zero_le, true_and, Nat.zero_add, if_pos hj, Nat.sub_zero]
    rw [List.getElem?_map, List.getElem?_eq_getElem hj]
    simp [hj]
  · rw [List.getElem?_eq_none (by simp; omega), List.getElem?_eq_none (by simp; omega)]
theorem sorted_blk {w : World} {g e m : Nat} {c : Array Value} (enc : α → Value) (d : List α) (os : Array Obj) (h : w.heap[g]? = some (.cells c e (0, 0))) :
    (sortWorld enc w g 0 m d.toArray os).heap[g]? = some (.cells (Sort.putCells enc 0 d.toArray c) e (0, 0)) := by
  have hlt : g < w.heap.size := (Array.getElem?_eq_some_iff.1 h).1
  unfold sortWorld
  rw [Sort.heap_grow_old _ _ (by simpa using hlt)]
  simp [Sort.putRow, Sort.mapBlock, Array.getElem?_modify, h, Sort.onCells]
theorem sorted_below {w0 w : World} {B g m : Nat} (enc : α → Value) (d : List α) (os : Array Obj) (hB : Below B w0 w) (hg : B ≤ g) (hs : B ≤ w.heap.size) : Below B w0 (sortWorld enc w g 0 m d.toArray os) := by
  refine hB.trans ⟨rfl, rfl, rfl, ?_, fun k hk => ?_⟩
  · unfold sortWorld Sort.grow
    simp [Sort.putRow, Sort.mapBlock]
  · unfold sortWorld
    rw [Sort.heap_grow_old _ _ (by simp; omega)]
    simp only [Sort.putRow, Sort.mapBlock, Array.getElem?_modify]
    rw [if_neg (by omega)]
    rfl
end
def Try.sortInts_ren : Go.Shelf.Ren := ⟨fun | 6 => 25 | 15 => 30 | 14 => 29 | 28 => 39 | 29 => 40 | 20 => 31 | 21 => 32 | 22 => 33 | 23 => 34 | 24 => 35 | 25 => 36 | 26 => 37 | 27 => 38 | 46 => 41 | 47 => 42 | 48 => 43 | 49 => 44 | 50 => 45 | 57 => 46 | n => n, fun | 22 => 23 | 24 => 3 | 25 => 44 | 3 => 3 | 39 => 45 | 0 => 0 | 53 => 57 | 55 => 59 | 4 => 4 | 46 => 50 | 45 => 49 | 50 => 54 | 5 => 5 | 9 => 9 | 66 => 60 | 70 => 64 | 76 => 66 | 77 => 67 | n => n, fun | n => n⟩
theorem Try.sortInts : Go.Proofs.SlLaysF.n6 Try.prog Try.sortInts_ren := {
  mixed := by kernel_rfl
  f6 := ⟨Try.f25.name, by decide, Try.func25.trans (congrArg some (by kernel_rfl))⟩
  f14 := ⟨Try.f29.name, by decide, Try.func29.trans (congrArg some (by kernel_rfl))⟩
  f15 := Try.func30.trans (congrArg some (by kernel_rfl))
  f20 := ⟨Try.f31.name, by decide, Try.func31.trans (congrArg some (by kernel_rfl))⟩
  f21 := ⟨Try.f32.name, by decide, Try.func32.trans (congrArg some (by kernel_rfl))⟩
  f22 := ⟨Try.f33.name, by decide, Try.func33.trans (congrArg some (by kernel_rfl))⟩
  f23 := ⟨Try.f34.name, by decide, Try.func34.trans (congrArg some (by kernel_rfl))⟩
  f24 := ⟨Try.f35.name, by decide, Try.func35.trans (congrArg some (by kernel_rfl))⟩
  f25 := ⟨Try.f36.name, by decide, Try.func36.trans (congrArg some (by kernel_rfl))⟩
  f26 := ⟨Try.f37.name, by decide, Try.func37.trans (congrArg some (by kernel_rfl))⟩
  f27 := ⟨Try.f38.name, by decide, Try.func38.trans (congrArg some (by kernel_rfl))⟩
  f28 := Try.func39.trans (congrArg some (by kernel_rfl))
  f29 := Try.func40.trans (congrArg some (by kernel_rfl))
  f46 := ⟨Try.f41.name, by decide, Try.func41.trans (congrArg some (by kernel_rfl))⟩
  f47 := Try.func42.trans (congrArg some (by kernel_rfl))
  f48 := Try.func43.trans (congrArg some (by kernel_rfl))
  f49 := ⟨Try.f44.name, by decide, Try.func44.trans (congrArg some (by kernel_rfl))⟩
  f50 := ⟨Try.f45.name, by decide, Try.func45.trans (congrArg some (by kernel_rfl))⟩
  f57 := ⟨Try.f46.name, by decide, Try.func46.trans (congrArg some (by kernel_rfl))⟩
  t0 := Try.underlying0
  a0 := Try.isAgg0
  z0 := Try.sizeOf0
  v0 := Try.zeroValue0
  t3 := Try.underlying3
  a3 := Try.isAgg3
  z3 := Try.sizeOf3
  v3 := Try.zeroValue3
  t4 := Try.underlying4
  a4 := Try.isAgg4
  z4 := Try.sizeOf4
  v4 := Try.zeroValue4
  t5 := Try.underlying5
  a5 := Try.isAgg5
  z5 := Try.sizeOf5
  v5 := Try.zeroValue5
  t9 := Try.underlying9
  a9 := Try.isAgg9
  z9 := Try.sizeOf9
  v9 := Try.zeroValue9
  t22 := Try.underlying23
  a22 := Try.isAgg23
  z22 := Try.sizeOf23
  v22 := Try.zeroValue23
  a24 := Try.isAgg3
  z24 := Try.sizeOf3
  t25 := Try.underlying44
  a25 := Try.isAgg44
  z25 := Try.sizeOf44
  v25 := Try.zeroValue44
  t39 := Try.underlying45
  a39 := Try.isAgg45
  z39 := Try.sizeOf45
  v39 := Try.zeroValue45
  t45 := Try.underlying49
  a45 := Try.isAgg49
  z45 := Try.sizeOf49
  v45 := Try.zeroValue49
  t46 := Try.underlying50
  a46 := Try.isAgg50
  z46 := Try.sizeOf50
  v46 := Try.zeroValue50
  t50 := Try.underlying54
  a50 := Try.isAgg54
  z50 := Try.sizeOf54
  v50 := Try.zeroValue54
  t53 := Try.underlying57
  a53 := Try.isAgg57
  z53 := Try.sizeOf57
  v53 := Try.zeroValue57
  t55 := Try.underlying59
  a55 := Try.isAgg59
  z55 := Try.sizeOf59
  v55 := Try.zeroValue59
  t66 := Try.underlying60
  a66 := Try.isAgg60
  z66 := Try.sizeOf60
  v66 := Try.zeroValue60
  t70 := Try.underlying64
  a70 := Try.isAgg64
  z70 := Try.sizeOf64
  v70 := Try.zeroValue64
  t76 := Try.underlying66
  a76 := Try.isAgg66
  z76 := Try.sizeOf66
  v76 := Try.zeroValue66
  t77 := Try.underlying67
  a77 := Try.isAgg67
  z77 := Try.sizeOf67
  v77 := Try.zeroValue67 }

theorem sorted_other {α : Type} [Inhabited α] {w : World} {g m i : Nat} (enc : α → Value) (d : List α) (os : Array Obj) (hi : i < w.heap.size) (hne : i ≠ g) : (sortWorld enc w g 0 m d.toArray os).heap[i]? = w.heap[i]? := by
  unfold sortWorld
  rw [Sort.heap_grow_old _ _ (by simpa using hi)]
  simp only [Sort.putRow, Sort.mapBlock, Array.getElem?_modify]
  rw [if_neg (fun e => hne e.symm)]
  rfl
/-! ### ends_order: function 16 -/
def cmpE (l : List Int) (x y : Nat) : Int := Lib.compareBytes (Lib.bytesOf (l.drop x)) (Lib.bytesOf (l.drop y))
def endsOf (l : List Int) : List Int := ((List.finRange l.length).mergeSort fun x y => !decide (cmpE l y.val x.val < 0)).map fun i => (i.val : Int)
def ends_order.f (l0 : List Int) : Option (List Int) := if l0.length ≤ 1000000 then some (endsOf l0) else none
theorem lt_cmpE (l : List Int) (x y : Fin l.length) : ltOf (fun x y : Fin l.length => cmpE l x.val y.val) x y = true ↔ cmpE l x.val y.val < 0 := ⟨fun h => of_decide_eq_true h, fun h => decide_eq_true h⟩
theorem nlt_cmpE (l : List Int) (x y : Fin l.length) : ltOf (fun x y : Fin l.length => cmpE l x.val y.val) x y = false ↔ ¬ cmpE l x.val y.val < 0 := ⟨fun h => of_decide_eq_false h, fun h => decide_eq_false h⟩
theorem swoE (l : List Int) : Sort.SWO (ltOf fun x y : Fin l.length => cmpE l x.val y.val) where
  irrefl x := by rw [nlt_cmpE]; unfold cmpE; rw [cb_self]; decide
  trans x y z h1 h2 := by
    rw [lt_cmpE] at h1 h2 ⊢
    exact cb_trans _ _ _ h1 h2
  ntrans x y z h1 h2 := by
    rw [nlt_cmpE] at h1 h2 ⊢
    unfold cmpE at h1 h2 ⊢
    intro h
    have s1 := cb_swap (Lib.bytesOf (l.drop x.val)) (Lib.bytesOf (l.drop y.val))
    by_cases e : Lib.compareBytes (Lib.bytesOf (l.drop x.val)) (Lib.bytesOf (l.drop y.val)) = 0
    · rw [cb_eq _ _ e] at h
      exact h2 h
    · exact h2 (cb_trans _ _ _ (by omega : Lib.compareBytes (Lib.bytesOf (l.drop y.val)) (Lib.bytesOf (l.drop x.val)) < 0) h)
theorem totE (l : List Int) (x y : Fin l.length) (h1 : ltOf (fun x y : Fin l.length => cmpE l x.val y.val) x y = false) (h2 : ltOf (fun x y : Fin l.length => cmpE l x.val y.val) y x = false) : x = y := by
  rw [nlt_cmpE] at h1 h2
  unfold cmpE at h1 h2
  have s1 := cb_swap (Lib.bytesOf (l.drop x.val)) (Lib.bytesOf (l.drop y.val))
  have e := cb_eq _ _ (show Lib.compareBytes (Lib.bytesOf (l.drop x.val)) (Lib.bytesOf (l.drop y.val)) = 0 by omega)
  have e2 := congrArg List.length e
  simp only [Lib.bytesOf, List.length_map, List.length_drop] at e2
  have hx := x.2
  have hy := y.2
  exact Fin.ext (by omega)
set_option maxHeartbeats 8000000 in
theorem ends_sorts (A0 : Option Addr) (c0 : Nat) (l0 : List Int) (gb base : Nat) (w wr : World) (u3 : Value) (hr0 : Kd.C (Kd.int .u8) w A0 l0.length l0) (hc0 : l0.length ≤ c0) (hn : l0.length ≤ 1000000)
    (hbk : wr.heap[gb]? = some (.cells #[.slice A0 l0.length c0] 22 (0, 0))) (HB : Below w.heap.size w wr) (HO : Kd.R (Kd.int .i64) 3 wr w.heap.size (fun _ => True) u3 ((List.range l0.length).map fun j : Nat => (j : Int))) :
    Calls Try.prog 25 #[u3, .func (.func 26) #[] #[.pointer (some ⟨gb, 0, none⟩)]] wr fun e w' => e = .returned (.tuple #[]) ∧ Kd.R (Kd.int .i64) 3 w' w.heap.size (fun _ => True) u3 (endsOf l0) ∧ Below w.heap.size w w' := by
  rcases Nat.eq_zero_or_pos l0.length with h0 | hpos
  · have hl : l0 = [] := List.length_eq_zero_iff.1 h0
    obtain ⟨A, c, rfl⟩ := Kd.R_slice HO
    have hz : ((List.range l0.length).map fun j : Nat => (j : Int)).length = 0 := by simp [h0]
    rw [hz] at HO ⊢
    refine (AnyF.slices_SortFunc_none { Try.sortInts with } A c (.func (.func 26) #[] #[.pointer (some ⟨gb, 0, none⟩)]) wr).mono ?_
    rintro e w' ⟨rfl, rfl⟩
    refine ⟨rfl, ?_, HB⟩
    have he : endsOf l0 = (List.range l0.length).map fun j : Nat => (j : Int) := by
      have e1 : (endsOf l0).length = 0 := by simp [endsOf, h0]
      rw [List.length_eq_zero_iff.1 e1, List.length_eq_zero_iff.1 hz]
    rw [he]
    exact HO
  · haveI : Inhabited (Fin l0.length) := ⟨⟨0, hpos⟩⟩
    have hne := Kd.R_ne HO hbk (by decide)
    have hown := Kd.own_of_R HO
    obtain ⟨_, ⟨_, hz⟩ | ⟨g, cap, cur, rfl, hbg, hblk, hncap, hcap, hsz, htk⟩⟩ := hown
    · rw [List.length_map, List.length_range] at hz; omega
    have hgb : gb ≠ g := fun e => hne (by rw [e]; rfl)
    have hlen : ((List.range l0.length).map fun j : Nat => (j : Int)).length = l0.length := by simp
    rw [hlen] at hncap htk HO ⊢
    have hglt : g < wr.heap.size := (Array.getElem?_eq_some_iff.1 hblk).1
    have hcur : ∀ j, j < l0.length → cur[j]? = some (.int .i64 (j : Int)) := by
      intro j hj
      have h1 : (cur.toList.take (l0.length * 1))[j]? = some (.int .i64 (j : Int)) := by
        rw [htk]; simp [encs, hj]
      rw [List.getElem?_take_of_lt (by omega)] at h1
      simpa using h1
    have hd : (List.finRange l0.length).toArray.size = l0.length := by simp
    have hH : Sort.Holds (fun i : Fin l0.length => Value.int .i64 (i.val : Int)) wr g 0 (List.finRange l0.length).toArray := by
      intro j hj
      rw [hd] at hj
      refine ⟨?_, by rw [World.frozen?, hblk]; simp⟩
      rw [World.cell?, hblk]
      simp only [Nat.zero_add]
      rw [hcur j hj, getElem!_pos _ j (by rw [hd]; exact hj)]
      simp
    have hcmp : CmpLays1 Try.prog 26 #[.pointer (some ⟨gb, 0, none⟩)] (fun i : Fin l0.length => Value.int .i64 (i.val : Int)) (fun x y : Fin l0.length => cmpE l0 x.val y.val) g 0 (List.finRange l0.length).toArray.size wr := by
      intro m os dk hs x y
      have hB2 : Below w.heap.size w (sortWorld (fun i : Fin l0.length => Value.int .i64 (i.val : Int)) wr g 0 m dk os) := by
        have := sorted_below (m := m) (fun i : Fin l0.length => Value.int .i64 (i.val : Int)) dk.toList os HB hbg HB.size
        simpa using this
      have hk2 : (sortWorld (fun i : Fin l0.length => Value.int .i64 (i.val : Int)) wr g 0 m dk os).heap[gb]? = some (.cells #[.slice A0 l0.length c0] 22 (0, 0)) := by
        have := sorted_other (m := m) (fun i : Fin l0.length => Value.int .i64 (i.val : Int)) dk.toList os (blk_lt hbk) hgb
        rw [Array.toArray_toList] at this
        rw [this]; exact hbk
      refine (ends_order_1.calls (x.val : Int) (y.val : Int) A0 c0 l0 gb (cmpE l0 x.val y.val) _ (Kd.C_below hr0 hB2) hc0 hk2 ?_).mono ?_
      · unfold ends_order_1.f bytes_Compare.f
        have hx := x.2
        have hy := y.2
        rw [if_pos (by omega), if_pos (by omega), if_pos (by omega), if_pos (by omega)]
        simp [cmpE]
      · rintro e w' ⟨rfl, q, rfl⟩
        exact ⟨rfl, q, #[], by rw [Sort.grow_empty]⟩
    have eg : ∀ args w, (callFunc 26 args).run Try.prog w = .ok (.enter 26 args) w := enters_of Try.func26 (by kernel_rfl) rfl
    have hcon := Any.slices_SortFunc_total Try.sortInts (fun i : Fin l0.length => Value.int .i64 (i.val : Int)) (fun _ => rfl) (fun x y : Fin l0.length => cmpE l0 x.val y.val) (swoE l0) 26 #[.pointer (some ⟨gb, 0, none⟩)] g 0 cap (List.finRange l0.length).toArray wr eg hcmp hH hglt (by rw [hd]; omega) (totE l0)
    rw [hd] at hcon
    refine Calls.mono (show Calls Try.prog 25 _ _ _ from hcon) ?_
    rintro e w' ⟨rfl, m, os, rfl⟩
    refine ⟨rfl, ?_, sorted_below _ _ _ HB hbg HB.size⟩
    have hml : ((List.finRange l0.length).mergeSort fun x y => !(ltOf fun x y : Fin l0.length => cmpE l0 x.val y.val) y x).length = l0.length := by simp
    refine Kd.R_of_own ⟨by simp [encs, endsOf], .inr ⟨g, cap, _, by simp [endsOf], hbg, sorted_blk _ _ _ hblk, by simpa [endsOf] using hncap, hcap, by rw [putCells_size]; exact hsz, ?_⟩⟩ (fun _ _ => trivial)
    have ht := putCells_take (fun i : Fin l0.length => Value.int .i64 (i.val : Int)) ((List.finRange l0.length).mergeSort fun x y => !(ltOf fun x y : Fin l0.length => cmpE l0 x.val y.val) y x) cur (by rw [hml]; omega)
    rw [hml] at ht
    have hel : (endsOf l0).length = l0.length := by simp [endsOf]
    rw [hel, Nat.mul_one]
    refine Eq.trans ht ?_
    simp [encs, endsOf, ltOf, Function.comp_def]
set_option maxHeartbeats 8000000 in
set_option maxRecDepth 100000 in
theorem ends_order.calls (A0 : Option Addr) (c0 : Nat) (l0 : List Int) (r : List Int) (w : World) (hr0 : Kd.C (Kd.int .u8) w A0 l0.length l0) (hc0 : l0.length ≤ c0) (h : ends_order.f l0 = some r) :
    Calls Try.prog 16 #[.slice A0 l0.length c0] w fun e w' => ∃ v0_ : Value, e = .returned (v0_) ∧ Kd.R (Kd.int .i64) 3 w' w.heap.size (fun _ => True) v0_ r ∧ Below w.heap.size w w' := by
  have hu22 := Try.underlying22
  have HR0 := Aside0.mk hr0
  have HC0 := Aside0.mk hc0
  clear hr0 hc0
  have HB := Aside0.mk (Below.refl w.heap.size w)
  unfold ends_order.f at h
  by_cases c1 : l0.length ≤ 1000000
  case neg => rw [if_neg c1] at h; cases h
  rw [if_pos c1] at h
  obtain rfl := Option.some.inj h
  clear h
  have L1 := Aside0.mk c1
  clear c1
  go_enter Try.func16, Try.ntmps16
  go_wp2_with (first | ((with_reducible refine gate_dst (N := 1) rfl ?_); refine box_event ?hg (N := 1) ?hd (cs := #[.slice A0 l0.length c0]) (t := 22) ?hr ?_; (case hd => rfl); (case hg => rfl); (case hr => first | (go_simp; done) | (go_simp; rfl)); intro gb hg w7 hbox hb; have n0_ := Aside0.mk (below_step HB.out hb); have BK := Aside0.mk hbox; clear HB; have HB := n0_; clear n0_ hb hbox hg; have hcz8_0 : w7.cell? ⟨gb, 0, none⟩ = some (.slice A0 l0.length c0) := (blk_cell BK.out 0).trans rfl))
  go_loopg [3, 7] (l0.length + 1) (fun kq v3 v7 w' => ∃ j : Nat, v7 = .int .i64 (j : Int) ∧ Aside0 (j ≤ l0.length ∧ l0.length < kq + j) ∧ Aside0 (w'.heap[gb]? = some (.cells #[.slice A0 l0.length c0] 22 (0, 0))) ∧ Aside0 (Kd.R (Kd.int .i64) 3 w' w.heap.size (fun _ => True) v3 ((List.range j).map fun i : Nat => (i : Int))) ∧ Aside0 (Below w.heap.size w w'))
  case atStart => exact ⟨0, rfl, ⟨by omega⟩, BK, ⟨Kd.R_nil _ _ _ _ _⟩, HB⟩
  case round =>
    clear BK HB
    obtain ⟨j, rfl, HJ, BK, HO_3, HB⟩ := hrel
    by_cases c3 : j < l0.length
    · have c3b0 : decide ((j : Int) < (l0.length : Int)) = true := decide_eq_true (by omega)
      have c3b1 : (j : Int) < (l0.length : Int) := by omega
      replace c3b1 := eq_true c3b1
      have C3 := Aside0.mk c3
      clear c3
      cases gk with
      | zero => exact absurd HJ.out (by have := C3.out; omega)
      | succ k1 =>
        go_wp2_with (first | ((with_reducible refine gate_builtin (b := .append) (xs := #[.tmp 10, .tmp 12]) rfl ?_); at_builtin; refine Kd.R_append (Kd.int .i64) (w0 := w) w.heap.size rfl (.tmp 10) (.tmp 12) 23 3 (.int .i64 0) 8 rfl Try.underlying23 info3 rfl (by decide) (by omega) u3 ((List.range j).map fun i : Nat => (i : Int)) (j : Int) [.int .i64 (j : Int)] (fun _ => True) (fun _ => False) rfl rfl ?aP (fun _ hk => hk.elim) ?aF ?aO ?aB ?aS ?aL ?_; (case aP => exact rfl); (case aB => exact HB.out); (case aF => exact (fun _ _ => trivial)); (case aO => exact HO_3.out); (case aS => exact below_size HB.out); (case aL => have := L1.out; have := C3.out; simp; omega); intro v131 w7 ho hb hg hat; have n0_ := Aside0.mk hb; have n1_ := Aside0.mk ho; have n2_ := Aside0.mk (blk_grown BK.out hg (Kd.R_ne HO_3.out BK.out (by decide))); clear HB HO_3 BK; have HB := n0_; have HO := n1_; have BK := n2_; clear n0_ n1_ n2_ ho hb hg hat))
        have e1 : wrap64 ((j : Int) + 1) = ((j + 1 : Nat) : Int) := by have := L1.out; have := C3.out; unfold wrap64; omega
        try rw [e1]
        go_roundg k1
        case measure => omega
        case rel => exact ⟨j + 1, by first | rfl | (rw [e1]; done) | rw [e1], ⟨by have := HJ.out; have := C3.out; omega⟩, BK, ⟨by rw [List.range_succ, List.map_append]; exact HO.out⟩, HB⟩
    · have c3b0 : decide ((j : Int) < (l0.length : Int)) = false := decide_eq_false (by omega)
      have hj : j = l0.length := by have := HJ.out; omega
      subst hj
      have hS := Aside0.mk (ends_sorts A0 c0 l0 gb w.heap.size w wr u3 HR0.out HC0.out L1.out BK.out HB.out HO_3.out)
      clear c3
      go_wp2_with (first | (go_at_call 25; refine hS.out.mono ?_; rintro e w7 ⟨rfl, ho, hb⟩; have HO := Aside0.mk ho; have HB2 := Aside0.mk hb; clear ho hb))
      go_ret
      exact ⟨_, rfl, HO.out, HB2.out⟩

-- NOT PRINTED: function 18 (ends_Count_1)

-- NOT PRINTED: function 19 (sort_Search)

-- NOT PRINTED: function 20 (ends_Count_2)

-- NOT PRINTED: function 22 (ends_Count_3)

/-! ### ends.Count: its closures -/
def cutL (w S : List Int) (m : Nat) (k : Int) : List Int := (w.take (mn (wrap64 (rd S k + (m : Int))) (w.length : Int)).toNat).drop (rd S k).toNat
theorem mn_int (a b : Int) : (if b < a then b else a) = mn a b := rfl
theorem cut_facts {s n m : Int} (s0 : 0 ≤ s) (s1 : s ≤ n) (m0 : 0 ≤ m) (hm : m ≤ 1000000) (hn : n ≤ 1000000) : s ≤ mn (wrap64 (s + m)) n ∧ mn (wrap64 (s + m)) n ≤ n := by
  have e : wrap64 (s + m) = s + m := by unfold wrap64; omega
  rw [e]; unfold mn; split <;> omega
theorem cut_C {A0 : Option Addr} {c0 : Nat} {l0 S : List Int} {m : Nat} {k : Int} {W : World} (hr0 : Kd.C (Kd.int .u8) W A0 l0.length l0) (hc0 : l0.length ≤ c0) (s0 : 0 ≤ rd S k) (s1 : rd S k ≤ (l0.length : Int)) (hm : m ≤ 1000000) (hn : l0.length ≤ 1000000) :
    Kd.C (Kd.int .u8) W (if c0 = (rd S k).toNat then A0 else A0.map (·.add ((rd S k).toNat * 1))) (cutL l0 S m k).length (cutL l0 S m k) ∧ (cutL l0 S m k).length ≤ c0 - (rd S k).toNat ∧ (cutL l0 S m k).length = (mn (wrap64 (rd S k + (m : Int))) (l0.length : Int)).toNat - (rd S k).toNat := by
  obtain ⟨f1, f2⟩ := cut_facts s0 s1 (m := (m : Int)) (by omega) (by omega) (by omega)
  have hl : (cutL l0 S m k).length = (mn (wrap64 (rd S k + (m : Int))) (l0.length : Int)).toNat - (rd S k).toNat := by unfold cutL; rw [List.length_drop, List.length_take]; omega
  refine ⟨Kd.C_mid (c := c0) hr0 (by omega) (by omega) hc0, ?_, hl⟩
  rw [hl]; omega
set_option maxHeartbeats 8000000 in
set_option maxRecDepth 100000 in
theorem cut_calls (A0 : Option Addr) (c0 : Nat) (l0 : List Int) (A1 : Option Addr) (c1 : Nat) (l1 : List Int) (gw gl gu : Nat) (Al : Option Addr) (cl : Nat) (S : List Int) (k : Int) (W : World)
    (hr0 : Kd.C (Kd.int .u8) W A0 l0.length l0) (hc0 : l0.length ≤ c0) (hS : Kd.C (Kd.int .i64) W Al S.length S)
    (hkw : W.heap[gw]? = some (.cells #[.slice A0 l0.length c0] 22 (0, 0))) (hkl : W.heap[gl]? = some (.cells #[.slice Al S.length cl] 23 (0, 0))) (hku : W.heap[gu]? = some (.cells #[.slice A1 l1.length c1] 22 (0, 0)))
    (k0 : 0 ≤ k) (k1 : k < (S.length : Int)) (s0 : 0 ≤ rd S k) (s1 : rd S k ≤ (l0.length : Int)) (hm : l1.length ≤ 1000000) (hn : l0.length ≤ 1000000) (Ac : Option Addr) (cc n' : Nat) (hA : Ac = if c0 = (rd S k).toNat then A0 else A0.map (·.add ((rd S k).toNat * 1))) (hcc : cc = c0 - (rd S k).toNat) (hn' : n' = (cutL l0 S l1.length k).length) :
    Calls Try.prog 18 #[.int .i64 k, .pointer (some ⟨gw, 0, none⟩), .pointer (some ⟨gl, 0, none⟩), .pointer (some ⟨gu, 0, none⟩)] W fun e w' => e = .returned (.slice Ac n' cc) ∧ Drawn0 W w' := by
  obtain ⟨f1, f2⟩ := cut_facts s0 s1 (m := (l1.length : Int)) (by omega) (by omega) (by omega)
  obtain ⟨i0, hi, _, hsz, _⟩ := info_parts info5
  have hcut := cut_mid (P := Try.prog) 22 5 .i64 .i64 Try.underlying22 hi 1 hsz A0 l0.length c0 (rd S k) (mn (wrap64 (rd S k + (l1.length : Int))) (l0.length : Int)) s0 f1 f2 hc0
  rw [← hA, ← hcc, ← (cut_C (W := W) (k := k) (S := S) (m := l1.length) hr0 hc0 s0 s1 hm hn).2.2, ← hn'] at hcut
  obtain ⟨ad, e1, hx⟩ := Kd.at_int hS k k0 k1
  subst e1
  have hcw : W.cell? ⟨gw, 0, none⟩ = some (.slice A0 l0.length c0) := (blk_cell hkw 0).trans rfl
  have hcl : W.cell? ⟨gl, 0, none⟩ = some (.slice (some ad) S.length cl) := (blk_cell hkl 0).trans rfl
  have hcu : W.cell? ⟨gu, 0, none⟩ = some (.slice A1 l1.length c1) := (blk_cell hku 0).trans rfl
  have k0b := eq_true k0
  have k1b := eq_true k1
  clear hr0 hS hkw hkl hku hA hcc hn' hi hsz f1 f2
  obtain ⟨s, hs⟩ : ∃ s, rd S k = s := ⟨_, rfl⟩
  rw [hs] at hcut hx s0 s1
  clear hs
  obtain ⟨hi', hhi⟩ : ∃ q, mn (wrap64 (s + (l1.length : Int))) (l0.length : Int) = q := ⟨_, rfl⟩
  rw [hhi] at hcut
  have hmn : (if (l0.length : Int) < wrap64 (s + (l1.length : Int)) then (l0.length : Int) else wrap64 (s + (l1.length : Int))) = hi' := hhi
  clear hhi s0 s1 hm hn k0 k1 hc0
  go_enter Try.func18, Try.ntmps18
  go_wp2
  repeat (go_quiet (fail); try go_wp2)
  go_ret
  exact ⟨by first | rfl | (simp; done) | (simp [*]; done), by repeat (first | exact Drawn0.refl _ | apply Drawn0.step)⟩
set_option maxHeartbeats 8000000 in
set_option maxRecDepth 100000 in
theorem cut_ge (A0 : Option Addr) (c0 : Nat) (l0 : List Int) (A1 : Option Addr) (c1 : Nat) (l1 : List Int) (gw gl gu gc : Nat) (Al : Option Addr) (cl : Nat) (S : List Int) (k : Int) (W : World)
    (hr0 : Kd.C (Kd.int .u8) W A0 l0.length l0) (hc0 : l0.length ≤ c0) (hr1 : Kd.C (Kd.int .u8) W A1 l1.length l1) (hc1 : l1.length ≤ c1) (hS : Kd.C (Kd.int .i64) W Al S.length S)
    (hkw : W.heap[gw]? = some (.cells #[.slice A0 l0.length c0] 22 (0, 0))) (hkl : W.heap[gl]? = some (.cells #[.slice Al S.length cl] 23 (0, 0))) (hku : W.heap[gu]? = some (.cells #[.slice A1 l1.length c1] 22 (0, 0)))
    (hkc : W.heap[gc]? = some (.cells #[.func (.func 18) #[] #[.pointer (some ⟨gw, 0, none⟩), .pointer (some ⟨gl, 0, none⟩), .pointer (some ⟨gu, 0, none⟩)]] 38 (0, 0)))
    (k0 : 0 ≤ k) (k1 : k < (S.length : Int)) (s0 : 0 ≤ rd S k) (s1 : rd S k ≤ (l0.length : Int)) (hm : l1.length ≤ 1000000) (hn : l0.length ≤ 1000000) :
    Calls Try.prog 20 #[.int .i64 k, .pointer (some ⟨gc, 0, none⟩), .pointer (some ⟨gu, 0, none⟩)] W fun e w' => e = .returned (.bool (decide (Lib.compareBytes (Lib.bytesOf (cutL l0 S l1.length k)) (Lib.bytesOf l1) ≥ 0))) ∧ Drawn0 W w' := by
  obtain ⟨g1, g2, g3⟩ := cut_C (W := W) (k := k) (S := S) (m := l1.length) hr0 hc0 s0 s1 hm hn
  obtain ⟨Ac, hA⟩ : ∃ q, q = (if c0 = (rd S k).toNat then A0 else A0.map (·.add ((rd S k).toNat * 1))) := ⟨_, rfl⟩
  obtain ⟨cc, hcc⟩ : ∃ q, q = c0 - (rd S k).toNat := ⟨_, rfl⟩
  rw [← hA] at g1
  rw [← hcc] at g2
  have HQ := Aside0.mk (fun q => cut_calls A0 c0 l0 A1 c1 l1 gw gl gu Al cl S k (W.drewN q) (Kd.C_drewN hr0 q) hc0 (Kd.C_drewN hS q) hkw hkl hku k0 k1 s0 s1 hm hn Ac cc _ hA hcc rfl)
  have HV := Aside0.mk (fun q => bytes_Compare.calls Ac cc (cutL l0 S l1.length k) A1 c1 l1 _ (W.drewN q) (Kd.C_drewN g1 q) g2 (Kd.C_drewN hr1 q) hc1 rfl)
  generalize cutL l0 S l1.length k = y at HQ HV ⊢
  generalize Lib.compareBytes (Lib.bytesOf y) (Lib.bytesOf l1) = r at HV ⊢
  have hcc' : W.cell? ⟨gc, 0, none⟩ = some (.func (.func 18) #[] #[.pointer (some ⟨gw, 0, none⟩), .pointer (some ⟨gl, 0, none⟩), .pointer (some ⟨gu, 0, none⟩)]) := (blk_cell hkc 0).trans rfl
  have hcu : W.cell? ⟨gu, 0, none⟩ = some (.slice A1 l1.length c1) := (blk_cell hku 0).trans rfl
  clear g1 g2 g3 hA hcc hr0 hr1 hS hkw hkl hku hkc k0 k1 s0 s1 hm hn hc0 hc1
  go_enter Try.func20, Try.ntmps20
  go_wp2
  repeat (go_quiet (first | (go_at_call 18; (first | (with_reducible refine (HQ.out _).mono ?_) | refine (HQ.out 0).mono ?_); rintro e w' ⟨rfl, ⟨nd, rfl⟩⟩; (try first | exact ⟨rfl, _, World.drewN_drewN _ _ _⟩ | exact ⟨rfl, _, Eq.trans (World.drewN_drewN _ _ _) (congrArg (World.drewN _) (Nat.add_assoc _ _ _))⟩)) | (go_at_call 21; (first | (with_reducible refine (HV.out _).mono ?_) | refine (HV.out 0).mono ?_); rintro e w' ⟨rfl, ⟨nd, rfl⟩⟩; (try first | exact ⟨rfl, _, World.drewN_drewN _ _ _⟩ | exact ⟨rfl, _, Eq.trans (World.drewN_drewN _ _ _) (congrArg (World.drewN _) (Nat.add_assoc _ _ _))⟩))); try go_wp2)
  go_ret
  exact ⟨by first | rfl | (simp; done) | (simp [*]; done), by repeat (first | exact Drawn0.refl _ | apply Drawn0.step)⟩
set_option maxHeartbeats 8000000 in
set_option maxRecDepth 100000 in
theorem cut_gt (A0 : Option Addr) (c0 : Nat) (l0 : List Int) (A1 : Option Addr) (c1 : Nat) (l1 : List Int) (gw gl gu gc : Nat) (Al : Option Addr) (cl : Nat) (S : List Int) (k : Int) (W : World)
    (hr0 : Kd.C (Kd.int .u8) W A0 l0.length l0) (hc0 : l0.length ≤ c0) (hr1 : Kd.C (Kd.int .u8) W A1 l1.length l1) (hc1 : l1.length ≤ c1) (hS : Kd.C (Kd.int .i64) W Al S.length S)
    (hkw : W.heap[gw]? = some (.cells #[.slice A0 l0.length c0] 22 (0, 0))) (hkl : W.heap[gl]? = some (.cells #[.slice Al S.length cl] 23 (0, 0))) (hku : W.heap[gu]? = some (.cells #[.slice A1 l1.length c1] 22 (0, 0)))
    (hkc : W.heap[gc]? = some (.cells #[.func (.func 18) #[] #[.pointer (some ⟨gw, 0, none⟩), .pointer (some ⟨gl, 0, none⟩), .pointer (some ⟨gu, 0, none⟩)]] 38 (0, 0)))
    (k0 : 0 ≤ k) (k1 : k < (S.length : Int)) (s0 : 0 ≤ rd S k) (s1 : rd S k ≤ (l0.length : Int)) (hm : l1.length ≤ 1000000) (hn : l0.length ≤ 1000000) :
    Calls Try.prog 22 #[.int .i64 k, .pointer (some ⟨gc, 0, none⟩), .pointer (some ⟨gu, 0, none⟩)] W fun e w' => e = .returned (.bool (decide (Lib.compareBytes (Lib.bytesOf (cutL l0 S l1.length k)) (Lib.bytesOf l1) > 0))) ∧ Drawn0 W w' := by
  obtain ⟨g1, g2, g3⟩ := cut_C (W := W) (k := k) (S := S) (m := l1.length) hr0 hc0 s0 s1 hm hn
  obtain ⟨Ac, hA⟩ : ∃ q, q = (if c0 = (rd S k).toNat then A0 else A0.map (·.add ((rd S k).toNat * 1))) := ⟨_, rfl⟩
  obtain ⟨cc, hcc⟩ : ∃ q, q = c0 - (rd S k).toNat := ⟨_, rfl⟩
  rw [← hA] at g1
  rw [← hcc] at g2
  have HQ := Aside0.mk (fun q => cut_calls A0 c0 l0 A1 c1 l1 gw gl gu Al cl S k (W.drewN q) (Kd.C_drewN hr0 q) hc0 (Kd.C_drewN hS q) hkw hkl hku k0 k1 s0 s1 hm hn Ac cc _ hA hcc rfl)
  have HV := Aside0.mk (fun q => bytes_Compare.calls Ac cc (cutL l0 S l1.length k) A1 c1 l1 _ (W.drewN q) (Kd.C_drewN g1 q) g2 (Kd.C_drewN hr1 q) hc1 rfl)
  generalize cutL l0 S l1.length k = y at HQ HV ⊢
  generalize Lib.compareBytes (Lib.bytesOf y) (Lib.bytesOf l1) = r at HV ⊢
  have hcc' : W.cell? ⟨gc, 0, none⟩ = some (.func (.func 18) #[] #[.pointer (some ⟨gw, 0, none⟩), .pointer (some ⟨gl, 0, none⟩), .pointer (some ⟨gu, 0, none⟩)]) := (blk_cell hkc 0).trans rfl
  have hcu : W.cell? ⟨gu, 0, none⟩ = some (.slice A1 l1.length c1) := (blk_cell hku 0).trans rfl
  clear g1 g2 g3 hA hcc hr0 hr1 hS hkw hkl hku hkc k0 k1 s0 s1 hm hn hc0 hc1
  go_enter Try.func22, Try.ntmps22
  go_wp2
  repeat (go_quiet (first | (go_at_call 18; (first | (with_reducible refine (HQ.out _).mono ?_) | refine (HQ.out 0).mono ?_); rintro e w' ⟨rfl, ⟨nd, rfl⟩⟩; (try first | exact ⟨rfl, _, World.drewN_drewN _ _ _⟩ | exact ⟨rfl, _, Eq.trans (World.drewN_drewN _ _ _) (congrArg (World.drewN _) (Nat.add_assoc _ _ _))⟩)) | (go_at_call 21; (first | (with_reducible refine (HV.out _).mono ?_) | refine (HV.out 0).mono ?_); rintro e w' ⟨rfl, ⟨nd, rfl⟩⟩; (try first | exact ⟨rfl, _, World.drewN_drewN _ _ _⟩ | exact ⟨rfl, _, Eq.trans (World.drewN_drewN _ _ _) (congrArg (World.drewN _) (Nat.add_assoc _ _ _))⟩))); try go_wp2)
  go_ret
  exact ⟨by first | rfl | (simp; done) | (simp [*]; done), by repeat (first | exact Drawn0.refl _ | apply Drawn0.step)⟩
/-! ### the order of stretches -/
theorem cb_take : ∀ (m : Nat) (x y : List UInt8), Lib.compareBytes x y ≤ 0 → Lib.compareBytes (x.take m) (y.take m) ≤ 0
  | 0, _, _, _ => by simp [Lib.compareBytes]
  | m + 1, [], y, _ => by cases y <;> simp [Lib.compareBytes]
  | m + 1, _ :: _, [], h => by simp [Lib.compareBytes] at h
  | m + 1, a :: x, b :: y, h => by
    rw [List.take_succ_cons, List.take_succ_cons, cb_cons]
    rw [cb_cons] at h
    by_cases h1 : a < b
    · rw [if_pos h1]; decide
    · by_cases h2 : b < a
      · rw [if_neg h1, if_pos h2] at h; simp at h
      · rw [if_neg h1, if_neg h2] at h ⊢
        exact cb_take m x y h
theorem cb_up_ge {X Y u : List UInt8} (h : Lib.compareBytes X Y ≤ 0) (hx : Lib.compareBytes X u ≥ 0) : Lib.compareBytes Y u ≥ 0 := by
  by_cases e : Lib.compareBytes X Y = 0
  · rw [← cb_eq _ _ e]; exact hx
  · by_cases hy : Lib.compareBytes Y u < 0
    · have := cb_trans _ _ _ (by omega : Lib.compareBytes X Y < 0) hy
      omega
    · omega
theorem cb_up_gt {X Y u : List UInt8} (h : Lib.compareBytes X Y ≤ 0) (hx : Lib.compareBytes X u > 0) : Lib.compareBytes Y u > 0 := by
  have h1 := cb_up_ge h (show Lib.compareBytes X u ≥ 0 by omega)
  by_cases e : Lib.compareBytes Y u = 0
  · rw [cb_eq _ _ e] at h; omega
  · omega
theorem endsOf_len (l : List Int) : (endsOf l).length = l.length := by simp [endsOf]
theorem endsOf_range {l : List Int} {k : Nat} (h : k < l.length) : 0 ≤ rd (endsOf l) (k : Int) ∧ rd (endsOf l) (k : Int) ≤ (l.length : Int) := by
  have hk : k < ((List.finRange l.length).mergeSort fun x y => !decide (cmpE l y.val x.val < 0)).length := by simpa using h
  have e : rd (endsOf l) (k : Int) = ((((List.finRange l.length).mergeSort fun x y => !decide (cmpE l y.val x.val < 0))[k]).val : Int) := by
    unfold rd endsOf
    rw [Int.toNat_natCast, List.getD_eq_getElem?_getD, List.getElem?_map, List.getElem?_eq_getElem hk]; rfl
  rw [e]
  have := (((List.finRange l.length).mergeSort fun x y => !decide (cmpE l y.val x.val < 0))[k]).2
  omega
theorem endsOf_sorted {l : List Int} {a b : Nat} (h : a < b) (hb : b < l.length) : Lib.compareBytes (Lib.bytesOf (l.drop (rd (endsOf l) (a : Int)).toNat)) (Lib.bytesOf (l.drop (rd (endsOf l) (b : Int)).toNat)) ≤ 0 := by
  have hp : ((List.finRange l.length).mergeSort fun x y => !decide (cmpE l y.val x.val < 0)).Pairwise fun x y => (!decide (cmpE l y.val x.val < 0)) = true := by
    refine List.pairwise_mergeSort ?_ ?_ _
    · intro x y z h1 h2
      simp only [Bool.not_eq_true', decide_eq_false_iff_not] at h1 h2 ⊢
      exact (nlt_cmpE l z x).1 ((swoE l).ntrans z y x ((nlt_cmpE l z y).2 h2) ((nlt_cmpE l y x).2 h1))
    · intro x y
      simp only [Bool.or_eq_true, Bool.not_eq_true', decide_eq_false_iff_not]
      by_cases q : cmpE l y.val x.val < 0
      · right
        have := cb_swap (Lib.bytesOf (l.drop y.val)) (Lib.bytesOf (l.drop x.val))
        unfold cmpE at q ⊢
        omega
      · exact .inl q
  have hA : a < ((List.finRange l.length).mergeSort fun x y => !decide (cmpE l y.val x.val < 0)).length := by simp; omega
  have hB : b < ((List.finRange l.length).mergeSort fun x y => !decide (cmpE l y.val x.val < 0)).length := by simp; omega
  have e : ∀ k (hk : k < ((List.finRange l.length).mergeSort fun x y => !decide (cmpE l y.val x.val < 0)).length), (rd (endsOf l) (k : Int)).toNat = (((List.finRange l.length).mergeSort fun x y => !decide (cmpE l y.val x.val < 0))[k]).val := by
    intro k hk
    unfold rd endsOf
    rw [Int.toNat_natCast, List.getD_eq_getElem?_getD, List.getElem?_map, List.getElem?_eq_getElem hk]; rfl
  rw [e a hA, e b hB]
  have h1 := List.pairwise_iff_getElem.1 hp a b hA hB h
  simp only [Bool.not_eq_true', decide_eq_false_iff_not] at h1
  have := cb_swap (Lib.bytesOf (l.drop (((List.finRange l.length).mergeSort fun x y => !decide (cmpE l y.val x.val < 0))[b]).val)) (Lib.bytesOf (l.drop (((List.finRange l.length).mergeSort fun x y => !decide (cmpE l y.val x.val < 0))[a]).val))
  have h2 : ¬ Lib.compareBytes (Lib.bytesOf (l.drop (((List.finRange l.length).mergeSort fun x y => !decide (cmpE l y.val x.val < 0))[b]).val)) (Lib.bytesOf (l.drop (((List.finRange l.length).mergeSort fun x y => !decide (cmpE l y.val x.val < 0))[a]).val)) < 0 := h1
  omega
theorem cutL_eq {l : List Int} {m : Nat} {k : Nat} (h : k < l.length) (hm : m ≤ 1000000) (hn : l.length ≤ 1000000) : Lib.bytesOf (cutL l (endsOf l) m (k : Int)) = (Lib.bytesOf (l.drop (rd (endsOf l) (k : Int)).toNat)).take m := by
  obtain ⟨s0, s1⟩ := endsOf_range h
  unfold cutL
  generalize rd (endsOf l) (k : Int) = s at s0 s1 ⊢
  have e : wrap64 (s + (m : Int)) = s + (m : Int) := by unfold wrap64; omega
  unfold Lib.bytesOf
  rw [e, ← List.map_take, List.drop_take]
  congr 1
  unfold mn
  split
  · rw [List.take_of_length_le (by rw [List.length_drop]; omega), List.take_of_length_le (by rw [List.length_drop]; omega)]
  · congr 1; omega
theorem cut_mono {l u : List Int} (hm : u.length ≤ 1000000) (hn : l.length ≤ 1000000) {a b : Nat} (h : a ≤ b) (hb : b < l.length) : Lib.compareBytes (Lib.bytesOf (cutL l (endsOf l) u.length (a : Int))) (Lib.bytesOf (cutL l (endsOf l) u.length (b : Int))) ≤ 0 := by
  rcases Nat.lt_or_ge a b with q | q
  · rw [cutL_eq (by omega) hm hn, cutL_eq hb hm hn]
    exact cb_take _ _ _ (endsOf_sorted q hb)
  · rw [show a = b by omega, cb_self]; exact Int.le_refl _
/-! ### sort.Search, of the ends -/
def cntGe (w u : List Int) : Nat := (List.range w.length).countP fun k : Nat => !decide (Lib.compareBytes (Lib.bytesOf (cutL w (endsOf w) u.length (k : Int))) (Lib.bytesOf u) ≥ 0)
def cntGt (w u : List Int) : Nat := (List.range w.length).countP fun k : Nat => !decide (Lib.compareBytes (Lib.bytesOf (cutL w (endsOf w) u.length (k : Int))) (Lib.bytesOf u) > 0)
def Try.search_ren : Go.Shelf.Ren := ⟨fun | 16 => 19 | n => n, fun | 3 => 3 | 35 => 40 | 4 => 4 | 38 => 45 | n => n, fun | n => n⟩
theorem Try.search : Go.Proofs.SlLaysO.n16 Try.prog Try.search_ren := {
  mixed := by kernel_rfl
  f16 := Try.func19.trans (congrArg some (by kernel_rfl))
  t3 := Try.underlying3
  a3 := Try.isAgg3
  z3 := Try.sizeOf3
  v3 := Try.zeroValue3
  t4 := Try.underlying4
  a4 := Try.isAgg4
  z4 := Try.sizeOf4
  v4 := Try.zeroValue4
  t35 := Try.underlying40
  a35 := Try.isAgg40
  z35 := Try.sizeOf40
  v35 := Try.zeroValue40
  t38 := Try.underlying45
  a38 := Try.isAgg45
  z38 := Try.sizeOf45
  v38 := Try.zeroValue45 }

set_option maxHeartbeats 4000000 in
theorem count_ge (A0 : Option Addr) (c0 : Nat) (l0 : List Int) (A1 : Option Addr) (c1 : Nat) (l1 : List Int) (gw gl gu gc : Nat) (Al : Option Addr) (cl : Nat) (W : World)
    (hr0 : Kd.C (Kd.int .u8) W A0 l0.length l0) (hc0 : l0.length ≤ c0) (hr1 : Kd.C (Kd.int .u8) W A1 l1.length l1) (hc1 : l1.length ≤ c1) (hS : Kd.C (Kd.int .i64) W Al (endsOf l0).length (endsOf l0))
    (hkw : W.heap[gw]? = some (.cells #[.slice A0 l0.length c0] 22 (0, 0))) (hkl : W.heap[gl]? = some (.cells #[.slice Al (endsOf l0).length cl] 23 (0, 0))) (hku : W.heap[gu]? = some (.cells #[.slice A1 l1.length c1] 22 (0, 0)))
    (hkc : W.heap[gc]? = some (.cells #[.func (.func 18) #[] #[.pointer (some ⟨gw, 0, none⟩), .pointer (some ⟨gl, 0, none⟩), .pointer (some ⟨gu, 0, none⟩)]] 38 (0, 0)))
    (hm : l1.length ≤ 1000000) (hn : l0.length ≤ 1000000) :
    Calls Try.prog 19 #[.int .i64 ((endsOf l0).length : Int), .func (.func 20) #[] #[.pointer (some ⟨gc, 0, none⟩), .pointer (some ⟨gu, 0, none⟩)]] W fun e w' => e = .returned (.int .i64 (cntGe l0 l1 : Int)) ∧ Below W.heap.size W w' := by
  have eg : ∀ args w, (callFunc 20 args).run Try.prog w = .ok (.enter 20 args) w := enters_of Try.func20 (by kernel_rfl) rfl
  have hcon := Any.sort_Search Try.search 20 #[.pointer (some ⟨gc, 0, none⟩), .pointer (some ⟨gu, 0, none⟩)] l0.length (fun k => decide (Lib.compareBytes (Lib.bytesOf (cutL l0 (endsOf l0) l1.length (k : Int))) (Lib.bytesOf l1) ≥ 0)) W eg (by omega)
    (fun m os i hi => by
      have hB := below_grown_sl W.heap.size W m os (Nat.le_refl _)
      have hr := endsOf_range hi
      refine (cut_ge A0 c0 l0 A1 c1 l1 gw gl gu gc Al cl (endsOf l0) (i : Int) _ (Kd.C_below hr0 hB) hc0 (Kd.C_below hr1 hB) hc1 (Kd.C_below hS hB) (blk_below hkw hB) (blk_below hkl hB) (blk_below hku hB) (blk_below hkc hB) (by omega) (by rw [endsOf_len]; omega) hr.1 hr.2 hm hn).mono ?_
      rintro e w' ⟨rfl, q, rfl⟩
      exact ⟨rfl, q, #[], by rw [Sort.grow_empty]⟩)
    (fun a b hab hb h => decide_eq_true (cb_up_ge (cut_mono hm hn hab hb) (of_decide_eq_true h)))
  rw [endsOf_len]
  refine Calls.mono (show Calls Try.prog 19 _ _ _ from hcon) ?_
  rintro e w' ⟨rfl, q, os, rfl⟩
  exact ⟨rfl, below_grown_sl W.heap.size W q os (Nat.le_refl _)⟩
set_option maxHeartbeats 4000000 in
theorem count_gt (A0 : Option Addr) (c0 : Nat) (l0 : List Int) (A1 : Option Addr) (c1 : Nat) (l1 : List Int) (gw gl gu gc : Nat) (Al : Option Addr) (cl : Nat) (W : World)
    (hr0 : Kd.C (Kd.int .u8) W A0 l0.length l0) (hc0 : l0.length ≤ c0) (hr1 : Kd.C (Kd.int .u8) W A1 l1.length l1) (hc1 : l1.length ≤ c1) (hS : Kd.C (Kd.int .i64) W Al (endsOf l0).length (endsOf l0))
    (hkw : W.heap[gw]? = some (.cells #[.slice A0 l0.length c0] 22 (0, 0))) (hkl : W.heap[gl]? = some (.cells #[.slice Al (endsOf l0).length cl] 23 (0, 0))) (hku : W.heap[gu]? = some (.cells #[.slice A1 l1.length c1] 22 (0, 0)))
    (hkc : W.heap[gc]? = some (.cells #[.func (.func 18) #[] #[.pointer (some ⟨gw, 0, none⟩), .pointer (some ⟨gl, 0, none⟩), .pointer (some ⟨gu, 0, none⟩)]] 38 (0, 0)))
    (hm : l1.length ≤ 1000000) (hn : l0.length ≤ 1000000) :
    Calls Try.prog 19 #[.int .i64 ((endsOf l0).length : Int), .func (.func 22) #[] #[.pointer (some ⟨gc, 0, none⟩), .pointer (some ⟨gu, 0, none⟩)]] W fun e w' => e = .returned (.int .i64 (cntGt l0 l1 : Int)) ∧ Below W.heap.size W w' := by
  have eg : ∀ args w, (callFunc 22 args).run Try.prog w = .ok (.enter 22 args) w := enters_of Try.func22 (by kernel_rfl) rfl
  have hcon := Any.sort_Search Try.search 22 #[.pointer (some ⟨gc, 0, none⟩), .pointer (some ⟨gu, 0, none⟩)] l0.length (fun k => decide (Lib.compareBytes (Lib.bytesOf (cutL l0 (endsOf l0) l1.length (k : Int))) (Lib.bytesOf l1) > 0)) W eg (by omega)
    (fun m os i hi => by
      have hB := below_grown_sl W.heap.size W m os (Nat.le_refl _)
      have hr := endsOf_range hi
      refine (cut_gt A0 c0 l0 A1 c1 l1 gw gl gu gc Al cl (endsOf l0) (i : Int) _ (Kd.C_below hr0 hB) hc0 (Kd.C_below hr1 hB) hc1 (Kd.C_below hS hB) (blk_below hkw hB) (blk_below hkl hB) (blk_below hku hB) (blk_below hkc hB) (by omega) (by rw [endsOf_len]; omega) hr.1 hr.2 hm hn).mono ?_
      rintro e w' ⟨rfl, q, rfl⟩
      exact ⟨rfl, q, #[], by rw [Sort.grow_empty]⟩)
    (fun a b hab hb h => decide_eq_true (cb_up_gt (cut_mono hm hn hab hb) (of_decide_eq_true h)))
  rw [endsOf_len]
  refine Calls.mono (show Calls Try.prog 19 _ _ _ from hcon) ?_
  rintro e w' ⟨rfl, q, os, rfl⟩
  exact ⟨rfl, below_grown_sl W.heap.size W q os (Nat.le_refl _)⟩

theorem run_store_funcE {P : Program} {w : World} {a : Addr} {m : Mode} (fn : Fn) (first captured : Array Value) : (store a (.func fn first captured) m).run P w = stored P w a (.func fn first captured) m := run_store P w a _ m rfl
attribute [local go_sem] run_store_funcE
theorem box_set {W : World} {g t : Nat} {z : Value} (h : W.heap[g]? = some (.cells #[z] t (0, 0))) (v : Value) : (W.setCell ⟨g, 0, none⟩ v).heap[g]? = some (.cells #[v] t (0, 0)) ∧ W.grownBy (W.setCell ⟨g, 0, none⟩ v) (some g) := by
  rw [Sort.setCell_eq]
  refine ⟨?_, rfl, rfl, rfl, by simp [Sort.mapBlock], fun i _ hi => ?_⟩
  · simp [Sort.mapBlock, Array.getElem?_modify, h, Sort.onCells]
  · simp only [Sort.mapBlock, Array.getElem?_modify]
    rw [if_neg (fun e => hi (by rw [e]))]
/-! ### ends_Count: function 10 -/
def ends_Count.f (l0 l1 : List Int) : Option (Int × Int) := if (l0.length : Int) > 60 then (some (0, 1)) else (if (l1.length : Int) > 60 then (some (0, 1)) else (if (l1.length : Int) = 0 then (some (wrap64 ((l0.length : Int) + 1), 0)) else (some (wrap64 ((cntGt l0 l1 : Int) - (cntGe l0 l1 : Int)), 0))))
set_option maxHeartbeats 8000000 in
set_option maxRecDepth 100000 in
theorem ends_Count.calls (A0 : Option Addr) (c0 : Nat) (l0 : List Int) (A1 : Option Addr) (c1 : Nat) (l1 : List Int) (r1 : Int) (r2 : Int) (w : World) (hr0 : Kd.C (Kd.int .u8) w A0 l0.length l0) (hc0 : l0.length ≤ c0) (hr1 : Kd.C (Kd.int .u8) w A1 l1.length l1) (hc1 : l1.length ≤ c1) (h : ends_Count.f l0 l1 = some (r1, r2)) :
    Calls Try.prog 10 #[.slice A0 l0.length c0, .slice A1 l1.length c1] w fun e w' => e = .returned (.tuple #[.int .i64 r1, .int .i64 r2]) ∧ Below w.heap.size w w' := by
  have hu22 := Try.underlying22
  have hu23 := Try.underlying23
  have hu38 := Try.underlying38
  have HR0 := Aside0.mk hr0
  have HC0 := Aside0.mk hc0
  have HR1 := Aside0.mk hr1
  have HC1 := Aside0.mk hc1
  clear hr0 hc0 hr1 hc1
  have HB := Aside0.mk (Below.refl w.heap.size w)
  unfold ends_Count.f at h
  by_cases b1 : (l0.length : Int) > 60
  · rw [if_pos b1] at h
    simp only [Option.some.injEq, Prod.mk.injEq] at h
    obtain ⟨rfl, rfl⟩ := h
    have b1b : decide ((l0.length : Int) > 60) = true := decide_eq_true b1
    go_enter Try.func10, Try.ntmps10
    go_wp2_with (first | ((with_reducible refine gate_dst (N := 2) rfl ?_); refine box_event ?hg (N := 2) ?hd (cs := #[.slice A0 l0.length c0]) (t := 22) ?hr ?_; (case hd => rfl); (case hg => rfl); (case hr => first | (go_simp; done) | (go_simp; rfl)); intro gw hg w1 hbox hb; have n0_ := Aside0.mk (below_step HB.out hb); clear HB; have HB := n0_; clear n0_; have BKw := Aside0.mk hbox; clear hb hbox hg; have hcw1 : w1.cell? ⟨gw, 0, none⟩ = some (.slice A0 l0.length c0) := (blk_cell BKw.out 0).trans rfl) | ((with_reducible refine gate_dst (N := 3) rfl ?_); refine box_event ?hg (N := 3) ?hd (cs := #[.slice A1 l1.length c1]) (t := 22) ?hr ?_; (case hd => rfl); (case hg => rfl); (case hr => first | (go_simp; done) | (go_simp; rfl)); intro gu hg w2 hbox hb; have n0_ := Aside0.mk (below_step HB.out hb); have k0_ := Aside0.mk (blk_below BKw.out hb); clear HB BKw; have HB := n0_; have BKw := k0_; clear n0_ k0_; have BKu := Aside0.mk hbox; clear hb hbox hg; have hcw2 : w2.cell? ⟨gw, 0, none⟩ = some (.slice A0 l0.length c0) := (blk_cell BKw.out 0).trans rfl; have hcu2 : w2.cell? ⟨gu, 0, none⟩ = some (.slice A1 l1.length c1) := (blk_cell BKu.out 0).trans rfl))
    go_ret2
    exact ⟨by first | rfl | (simp; done) | (simp [*]; done), HB.out⟩
  rw [if_neg b1] at h
  have b1b : decide ((l0.length : Int) > 60) = false := decide_eq_false b1
  by_cases b2 : (l1.length : Int) > 60
  · rw [if_pos b2] at h
    simp only [Option.some.injEq, Prod.mk.injEq] at h
    obtain ⟨rfl, rfl⟩ := h
    have b2b : decide ((l1.length : Int) > 60) = true := decide_eq_true b2
    go_enter Try.func10, Try.ntmps10
    go_wp2_with (first | ((with_reducible refine gate_dst (N := 2) rfl ?_); refine box_event ?hg (N := 2) ?hd (cs := #[.slice A0 l0.length c0]) (t := 22) ?hr ?_; (case hd => rfl); (case hg => rfl); (case hr => first | (go_simp; done) | (go_simp; rfl)); intro gw hg w1 hbox hb; have n0_ := Aside0.mk (below_step HB.out hb); clear HB; have HB := n0_; clear n0_; have BKw := Aside0.mk hbox; clear hb hbox hg; have hcw1 : w1.cell? ⟨gw, 0, none⟩ = some (.slice A0 l0.length c0) := (blk_cell BKw.out 0).trans rfl) | ((with_reducible refine gate_dst (N := 3) rfl ?_); refine box_event ?hg (N := 3) ?hd (cs := #[.slice A1 l1.length c1]) (t := 22) ?hr ?_; (case hd => rfl); (case hg => rfl); (case hr => first | (go_simp; done) | (go_simp; rfl)); intro gu hg w2 hbox hb; have n0_ := Aside0.mk (below_step HB.out hb); have k0_ := Aside0.mk (blk_below BKw.out hb); clear HB BKw; have HB := n0_; have BKw := k0_; clear n0_ k0_; have BKu := Aside0.mk hbox; clear hb hbox hg; have hcw2 : w2.cell? ⟨gw, 0, none⟩ = some (.slice A0 l0.length c0) := (blk_cell BKw.out 0).trans rfl; have hcu2 : w2.cell? ⟨gu, 0, none⟩ = some (.slice A1 l1.length c1) := (blk_cell BKu.out 0).trans rfl))
    go_ret2
    exact ⟨by first | rfl | (simp; done) | (simp [*]; done), HB.out⟩
  rw [if_neg b2] at h
  have b2b : decide ((l1.length : Int) > 60) = false := decide_eq_false b2
  by_cases b3 : (l1.length : Int) = 0
  · rw [if_pos b3] at h
    simp only [Option.some.injEq, Prod.mk.injEq] at h
    obtain ⟨rfl, rfl⟩ := h
    have b3b : ((l1.length : Int) == 0) = true := beq_iff_eq.mpr b3
    have e1 : wrap64 ((l0.length : Int) + 1) = (l0.length : Int) + 1 := by unfold wrap64; omega
    clear b3
    go_enter Try.func10, Try.ntmps10
    go_wp2_with (first | ((with_reducible refine gate_dst (N := 2) rfl ?_); refine box_event ?hg (N := 2) ?hd (cs := #[.slice A0 l0.length c0]) (t := 22) ?hr ?_; (case hd => rfl); (case hg => rfl); (case hr => first | (go_simp; done) | (go_simp; rfl)); intro gw hg w1 hbox hb; have n0_ := Aside0.mk (below_step HB.out hb); clear HB; have HB := n0_; clear n0_; have BKw := Aside0.mk hbox; clear hb hbox hg; have hcw1 : w1.cell? ⟨gw, 0, none⟩ = some (.slice A0 l0.length c0) := (blk_cell BKw.out 0).trans rfl) | ((with_reducible refine gate_dst (N := 3) rfl ?_); refine box_event ?hg (N := 3) ?hd (cs := #[.slice A1 l1.length c1]) (t := 22) ?hr ?_; (case hd => rfl); (case hg => rfl); (case hr => first | (go_simp; done) | (go_simp; rfl)); intro gu hg w2 hbox hb; have n0_ := Aside0.mk (below_step HB.out hb); have k0_ := Aside0.mk (blk_below BKw.out hb); clear HB BKw; have HB := n0_; have BKw := k0_; clear n0_ k0_; have BKu := Aside0.mk hbox; clear hb hbox hg; have hcw2 : w2.cell? ⟨gw, 0, none⟩ = some (.slice A0 l0.length c0) := (blk_cell BKw.out 0).trans rfl; have hcu2 : w2.cell? ⟨gu, 0, none⟩ = some (.slice A1 l1.length c1) := (blk_cell BKu.out 0).trans rfl))
    go_ret2
    exact ⟨by first | rfl | (rw [e1]; done) | (simp [e1]; done), HB.out⟩
  rw [if_neg b3] at h
  simp only [Option.some.injEq, Prod.mk.injEq] at h
  obtain ⟨rfl, rfl⟩ := h
  have b3b : ((l1.length : Int) == 0) = false := beq_eq_false_iff_ne.mpr b3
  have HM := Aside0.mk (show l1.length ≤ 1000000 by omega)
  have HN := Aside0.mk (show l0.length ≤ 1000000 by omega)
  have HF := Aside0.mk (show ends_order.f l0 = some (endsOf l0) by unfold ends_order.f; rw [if_pos HN.out])
  clear b3
  go_enter Try.func10, Try.ntmps10
  go_wp2_with (first | ((with_reducible refine gate_dst (N := 2) rfl ?_); refine box_event ?hg (N := 2) ?hd (cs := #[.slice A0 l0.length c0]) (t := 22) ?hr ?_; (case hd => rfl); (case hg => rfl); (case hr => first | (go_simp; done) | (go_simp; rfl)); intro gw hg w1 hbox hb; have n0_ := Aside0.mk (below_step HB.out hb); clear HB; have HB := n0_; clear n0_; have BKw := Aside0.mk hbox; clear hb hbox hg; have hcw1 : w1.cell? ⟨gw, 0, none⟩ = some (.slice A0 l0.length c0) := (blk_cell BKw.out 0).trans rfl) | ((with_reducible refine gate_dst (N := 3) rfl ?_); refine box_event ?hg (N := 3) ?hd (cs := #[.slice A1 l1.length c1]) (t := 22) ?hr ?_; (case hd => rfl); (case hg => rfl); (case hr => first | (go_simp; done) | (go_simp; rfl)); intro gu hg w2 hbox hb; have n0_ := Aside0.mk (below_step HB.out hb); have k0_ := Aside0.mk (blk_below BKw.out hb); clear HB BKw; have HB := n0_; have BKw := k0_; clear n0_ k0_; have BKu := Aside0.mk hbox; clear hb hbox hg; have hcw2 : w2.cell? ⟨gw, 0, none⟩ = some (.slice A0 l0.length c0) := (blk_cell BKw.out 0).trans rfl; have hcu2 : w2.cell? ⟨gu, 0, none⟩ = some (.slice A1 l1.length c1) := (blk_cell BKu.out 0).trans rfl) | (go_at_call 16; refine (ends_order.calls A0 c0 l0 (endsOf l0) _ (Kd.C_below HR0.out HB.out) HC0.out HF.out).mono ?_; rintro e w3 ⟨v0, rfl, ho, hb⟩; obtain ⟨Al, cl, rfl⟩ := Kd.R_slice ho; have HS := Aside0.mk (Kd.R_reads' ho).2.2; have n0_ := Aside0.mk (below_step HB.out hb); have k0_ := Aside0.mk (blk_below BKw.out hb); have k1_ := Aside0.mk (blk_below BKu.out hb); clear HB BKw BKu; have HB := n0_; have BKw := k0_; have BKu := k1_; clear n0_ k0_ k1_; have H3 := Aside0.mk (Below.refl w3.heap.size w3); clear ho hb) | ((with_reducible refine gate_dst (N := 6) rfl ?_); refine box_event ?hg (N := 6) ?hd (cs := #[.slice none 0 0]) (t := 23) ?hr ?_; (case hd => rfl); (case hg => rfl); (case hr => first | (go_simp; done) | (go_simp; rfl)); intro gl hg w4 hbox hb; have GLb := Aside0.mk ((by rw [hg]; exact below_size HB.out) : w.heap.size ≤ gl); have GL3 := Aside0.mk ((by rw [hg]; exact below_size H3.out) : w3.heap.size ≤ gl); have n0_ := Aside0.mk (below_step HB.out hb); have n1_ := Aside0.mk (below_step H3.out hb); clear HB H3; have HB := n0_; have H3 := n1_; clear n0_ n1_; have BKl := Aside0.mk hbox; clear hb hbox hg; have hzl : w4.cell? ⟨gl, 0, none⟩ = some (.slice none 0 0) := (blk_cell BKl.out 0).trans rfl; have hfl := blk_frozen BKl.out 0) | ((with_reducible refine gate_store (p := 6) rfl ?_); refine store_event (t := 23) (p := 6) (v := ?v1) (w1 := w4.setCell ⟨gl, 0, none⟩ (.slice Al (endsOf l0).length cl)) ?hg ?ho ?hn ?hr ?_; (case ho => rfl); (case hg => rfl); (case hn => rfl); (case hr => first | (go_simp; done) | (go_simp; rfl)); intro w5 hw; obtain ⟨q1, q2⟩ := box_set BKl.out (.slice Al (endsOf l0).length cl); rw [← hw] at q1 q2; have n0_ := Aside0.mk (HB.out.grown q2 HB.out.size (fun j hj => by cases hj; exact GLb.out)); have n1_ := Aside0.mk (H3.out.grown q2 H3.out.size (fun j hj => by cases hj; exact GL3.out)); clear HB H3; have HB := n0_; have H3 := n1_; clear n0_ n1_; clear BKl; have BKl := Aside0.mk q1; have H5 := Aside0.mk (Below.refl w5.heap.size w5); clear q1 q2 hw hzl hfl) | ((with_reducible refine gate_dst (N := 7) rfl ?_); refine box_event ?hg (N := 7) ?hd (cs := #[.nilFunc]) (t := 38) ?hr ?_; (case hd => rfl); (case hg => rfl); (case hr => first | (go_simp; done) | (go_simp; rfl)); intro gc hg w6 hbox hb; have GCb := Aside0.mk ((by rw [hg]; exact below_size HB.out) : w.heap.size ≤ gc); have GC3 := Aside0.mk ((by rw [hg]; exact below_size H3.out) : w3.heap.size ≤ gc); have GC5 := Aside0.mk ((by rw [hg]; exact below_size H5.out) : w5.heap.size ≤ gc); have n0_ := Aside0.mk (below_step HB.out hb); have n1_ := Aside0.mk (below_step H3.out hb); have n2_ := Aside0.mk (below_step H5.out hb); clear HB H3 H5; have HB := n0_; have H3 := n1_; have H5 := n2_; clear n0_ n1_ n2_; have BKc := Aside0.mk hbox; clear hb hbox hg; have hzc : w6.cell? ⟨gc, 0, none⟩ = some .nilFunc := (blk_cell BKc.out 0).trans rfl; have hfc := blk_frozen BKc.out 0) | ((with_reducible refine gate_store (p := 7) rfl ?_); refine store_event (t := 38) (p := 7) (v := ?v2) (w1 := w6.setCell ⟨gc, 0, none⟩ (.func (.func 18) #[] #[.pointer (some ⟨gw, 0, none⟩), .pointer (some ⟨gl, 0, none⟩), .pointer (some ⟨gu, 0, none⟩)])) ?hg ?ho ?hn ?hr ?_; (case ho => rfl); (case hg => rfl); (case hn => rfl); (case hr => first | (go_simp; done) | (go_simp; rfl)); intro w7 hw; obtain ⟨q1, q2⟩ := box_set BKc.out (.func (.func 18) #[] #[.pointer (some ⟨gw, 0, none⟩), .pointer (some ⟨gl, 0, none⟩), .pointer (some ⟨gu, 0, none⟩)]); rw [← hw] at q1 q2; have n0_ := Aside0.mk (HB.out.grown q2 HB.out.size (fun j hj => by cases hj; exact GCb.out)); have n1_ := Aside0.mk (H3.out.grown q2 H3.out.size (fun j hj => by cases hj; exact GC3.out)); have n2_ := Aside0.mk (H5.out.grown q2 H5.out.size (fun j hj => by cases hj; exact GC5.out)); clear HB H3 H5; have HB := n0_; have H3 := n1_; have H5 := n2_; clear n0_ n1_ n2_; clear BKc; have BKc := Aside0.mk q1; have H7 := Aside0.mk (Below.refl w7.heap.size w7); clear q1 q2 hw hzc hfc; have hcl7 : w7.cell? ⟨gl, 0, none⟩ = some (.slice Al (endsOf l0).length cl) := (blk_cell (blk_below BKl.out H5.out) 0).trans rfl) | (go_at_call 19; (with_reducible refine (count_ge A0 c0 l0 A1 c1 l1 gw gl gu gc Al cl _ (Kd.C_below HR0.out HB.out) HC0.out (Kd.C_below HR1.out HB.out) HC1.out (Kd.C_below HS.out H3.out) (blk_below BKw.out H3.out) (blk_below BKl.out H5.out) (blk_below BKu.out H3.out) (blk_below BKc.out H7.out) HM.out HN.out).mono ?_); rintro e w8 ⟨rfl, hb⟩; have n0_ := Aside0.mk (below_step HB.out hb); have n1_ := Aside0.mk (below_step H3.out hb); have n2_ := Aside0.mk (below_step H5.out hb); have n3_ := Aside0.mk (below_step H7.out hb); clear HB H3 H5 H7; have HB := n0_; have H3 := n1_; have H5 := n2_; have H7 := n3_; clear n0_ n1_ n2_ n3_; clear hb; have hclw8 : w8.cell? ⟨gl, 0, none⟩ = some (.slice Al (endsOf l0).length cl) := (blk_cell (blk_below BKl.out H5.out) 0).trans rfl) | (go_at_call 19; (with_reducible refine (count_gt A0 c0 l0 A1 c1 l1 gw gl gu gc Al cl _ (Kd.C_below HR0.out HB.out) HC0.out (Kd.C_below HR1.out HB.out) HC1.out (Kd.C_below HS.out H3.out) (blk_below BKw.out H3.out) (blk_below BKl.out H5.out) (blk_below BKu.out H3.out) (blk_below BKc.out H7.out) HM.out HN.out).mono ?_); rintro e w9 ⟨rfl, hb⟩; have n0_ := Aside0.mk (below_step HB.out hb); have n1_ := Aside0.mk (below_step H3.out hb); have n2_ := Aside0.mk (below_step H5.out hb); have n3_ := Aside0.mk (below_step H7.out hb); clear HB H3 H5 H7; have HB := n0_; have H3 := n1_; have H5 := n2_; have H7 := n3_; clear n0_ n1_ n2_ n3_; clear hb; have hclw9 : w9.cell? ⟨gl, 0, none⟩ = some (.slice Al (endsOf l0).length cl) := (blk_cell (blk_below BKl.out H5.out) 0).trans rfl))
  go_ret2
  exact ⟨by first | rfl | (simp; done) | (simp [*]; done), HB.out⟩

end Go.Proofs.Ytpcphfbjnaikhaa.PEndsCounts
