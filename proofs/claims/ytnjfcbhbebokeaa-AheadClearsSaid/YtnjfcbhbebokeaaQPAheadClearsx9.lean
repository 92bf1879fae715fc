-- Printed by a turn of a template of the kit, and shortened: remarks and what nothing here uses are left out.
import Derived.Test.YtnjfcbhbebokeaaQPAheadClearsx0
import Derived.Test.YtnjfcbhbebokeaaQPAheadClearsx4
import Derived.Test.YtnjfcbhbebokeaaQPAheadClearsx5
import Derived.Test.YtnjfcbhbebokeaaQPAheadClearsx6
import Derived.Test.YtnjfcbhbebokeaaQPAheadClearsx8
namespace Go.Proofs.Ytnjfcbhbebokeaa.PAheadClears
open Go.RowKit Go.Proofs.YtnjfcbhbebokeaaW.PrintWords Go.Proofs.YtnjfcbhbebokeaaW.PrintLast Go.Proofs.YtnjfcbhbebokeaaW.PrintMore
attribute [local go_sem] max2_int min2_int max_two min_two max_three min_three max_four min_four
set_option linter.unusedVariables false
set_option linter.unusedSimpArgs false
def Zq1.l0 : Nat → Int → List Int → List Int → List Int → List (S38) → Int → Int → Int → Int → Int → List (S38) → Option (List Int)
  | 0, _, _, _, _, _, _, _, _, _, _, _ => none
  | k + 1, x3, x4, x5, x6, x21, x22, x23, x178000, x178001, x178002, x178003 => if x23 < x22 then (if 0 ≤ x23 then (if x23 < (x21.length : Int) then ((Zh1.f k x178000 x178001 x178002 x178003 x4 x3 ((Zb x21 x23).f1)).bind fun bt187 => (if bt187.2 = true then (if 0 ≤ ((Zb x21 x23).f0) then (if ((Zb x21 x23).f0) < (x5.length : Int) then (if x6.length < 35184372088832 then (Zq1.l0 k x3 x4 x5 (x6 ++ [Go.bits .or .u32 bt187.1 (rd x5 ((Zb x21 x23).f0))]) x21 x22 (wrap64 (x23 + 1)) x178000 x178001 x178002 x178003) else (none)) else (none)) else (none)) else (if x6.length < 35184372088832 then (Zq1.l0 k x3 x4 x5 (x6 ++ [bt187.1]) x21 x22 (wrap64 (x23 + 1)) x178000 x178001 x178002 x178003) else (none)))) else (none)) else (none)) else (some x6)
def Zq1.f (k : Nat) (a0_0 : Int) (a0_1 : Int) (a0_2 : Int) (l0_3 : List (S38)) : Option (List Int) := (Zm1.f k a0_0 a0_1 a0_2 l0_3 false).bind fun t178 => ((Zi1.f k a0_0 a0_1 a0_2 l0_3 t178).bind fun t179 => ((Zs.f k a0_0 a0_1 a0_2 l0_3 t179 t178).bind fun t182 => (Zq1.l0 k t178 t179 t182 ([] : List Int) l0_3 (l0_3.length : Int) 0 a0_0 a0_1 a0_2 l0_3)))
theorem Zq1.mono_l : ∀ k, (∀ y0 y1 y2 y3 y4 y5 y6 y7 y8 y9 y10, LeO (Zq1.l0 k y0 y1 y2 y3 y4 y5 y6 y7 y8 y9 y10) (Zq1.l0 (k + 1) y0 y1 y2 y3 y4 y5 y6 y7 y8 y9 y10))
  | 0 => fun _ _ _ _ _ _ _ _ _ _ _ r h => by simp [Zq1.l0] at h
  | k + 1 => by
    have ih0 := Zq1.mono_l k
    · intro y0 y1 y2 y3 y4 y5 y6 y7 y8 y9 y10
      unfold Zq1.l0
      repeat' first
      | (with_reducible exact ih0 _ _ _ _ _ _ _ _ _ _ _)
      | (with_reducible exact Zh1.mono _ _ _ _ _ _ _ _)
      | (with_reducible exact Zi1.mono _ _ _ _ _ _)
      | (with_reducible exact Zs.mono _ _ _ _ _ _ _)
      | (with_reducible exact Zm1.mono _ _ _ _ _ _)
      | (with_reducible exact LeO.refl _)
      | (with_reducible exact LeO.none _)
      | (with_reducible refine LeO.ite ?_ ?_)
      | (with_reducible refine LeO.bind ?_ (fun _ => ?_))
      | exact ih0 _ _ _ _ _ _ _ _ _ _ _
      | exact Zh1.mono _ _ _ _ _ _ _ _
      | exact Zi1.mono _ _ _ _ _ _
      | exact Zs.mono _ _ _ _ _ _ _
      | exact Zm1.mono _ _ _ _ _ _
      | exact LeO.none _
      | refine LeO.ite ?_ ?_
      | refine LeO.bind ?_ (fun _ => ?_)
theorem Zq1.mono : ∀ a0 a1 a2 a3 k, LeO (Zq1.f k a0 a1 a2 a3) (Zq1.f (k + 1) a0 a1 a2 a3) := by
  intro a0 a1 a2 a3 k
  have ih0 := Zq1.mono_l k
  unfold Zq1.f
  repeat' first
      | (with_reducible exact ih0 _ _ _ _ _ _ _ _ _ _ _)
      | (with_reducible exact Zh1.mono _ _ _ _ _ _ _ _)
      | (with_reducible exact Zi1.mono _ _ _ _ _ _)
      | (with_reducible exact Zs.mono _ _ _ _ _ _ _)
      | (with_reducible exact Zm1.mono _ _ _ _ _ _)
      | (with_reducible exact LeO.refl _)
      | (with_reducible exact LeO.none _)
      | (with_reducible refine LeO.ite ?_ ?_)
      | (with_reducible refine LeO.bind ?_ (fun _ => ?_))
      | exact ih0 _ _ _ _ _ _ _ _ _ _ _
      | exact Zh1.mono _ _ _ _ _ _ _ _
      | exact Zi1.mono _ _ _ _ _ _
      | exact Zs.mono _ _ _ _ _ _ _
      | exact Zm1.mono _ _ _ _ _ _
      | exact LeO.none _
      | refine LeO.ite ?_ ?_
      | refine LeO.bind ?_ (fun _ => ?_)
set_option maxHeartbeats 8000000 in
set_option maxRecDepth 100000 in
theorem Zq1.calls (k : Nat) (a0_0 : Int) (a0_1 : Int) (a0_2 : Int) (A0_3 : Option Addr) (c0_3 : Nat) (l0_3 : List (S38)) (r : List Int) (w : World) (hr0_3 : Kd.C k38 w A0_3 l0_3.length l0_3) (hc0_3 : l0_3.length ≤ c0_3) (h : Zq1.f k a0_0 a0_1 a0_2 l0_3 = some r) :
    Calls Try.prog 65 #[.agg #[.int .i64 a0_0, .int .i64 a0_1, .int .i64 a0_2, .slice A0_3 l0_3.length c0_3]] w fun e w' => ∃ v0_ : Value, e = .returned (v0_) ∧ Kd.R (Kd.int .u32) 28 w' w.heap.size (fun _ => True) v0_ r ∧ Below w.heap.size w w' := by
 (have hu24 := Try.underlying24); (have hu38 := Try.underlying38); (have hu28 := Try.underlying28); (have HR0_3 := Za.mk hr0_3); (have HC0_3 := Za.mk hc0_3); (clear hr0_3 hc0_3); (have HB := Za.mk (Below.refl w.heap.size w)); (have H : ((Zm1.f k a0_0 a0_1 a0_2 l0_3 false).bind fun t178 => ((Zi1.f k a0_0 a0_1 a0_2 l0_3 t178).bind fun t179 => ((Zs.f k a0_0 a0_1 a0_2 l0_3 t179 t178).bind fun t182 => (Zq1.l0 k t178 t179 t182 ([] : List Int) l0_3 (l0_3.length : Int) 0 a0_0 a0_1 a0_2 l0_3)))) = some r := h); (clear h); (replace H := Option.bind_eq_some_iff.mp H); (obtain ⟨t178, A20, H⟩ := H); (replace H : ((Zi1.f k a0_0 a0_1 a0_2 l0_3 t178).bind fun t179 => ((Zs.f k a0_0 a0_1 a0_2 l0_3 t179 t178).bind fun t182 => (Zq1.l0 k t178 t179 t182 ([] : List Int) l0_3 (l0_3.length : Int) 0 a0_0 a0_1 a0_2 l0_3))) = some r := H); (have A2 := Za.mk A20); (clear A20); (replace H := Option.bind_eq_some_iff.mp H); (obtain ⟨t179, A30, H⟩ := H); (replace H : ((Zs.f k a0_0 a0_1 a0_2 l0_3 t179 t178).bind fun t182 => (Zq1.l0 k t178 t179 t182 ([] : List Int) l0_3 (l0_3.length : Int) 0 a0_0 a0_1 a0_2 l0_3)) = some r := H); (have A3 := Za.mk A30); (clear A30); (replace H := Option.bind_eq_some_iff.mp H); (obtain ⟨t182, A40, H⟩ := H); (replace H : (Zq1.l0 k t178 t179 t182 ([] : List Int) l0_3 (l0_3.length : Int) 0 a0_0 a0_1 a0_2 l0_3) = some r := H); (have A4 := Za.mk A40); (clear A40); (have H' := Za.mk H); (clear H)
 go_enter Try.func65, Try.ntmps65
 go_wp2_with (first | ((with_reducible refine Zb1 (N := 1) rfl ?_); refine Zc1 ?hg (N := 1) ?hd (cs := #[.int .i64 a0_0, .int .i64 a0_1, .int .i64 a0_2, .slice A0_3 l0_3.length c0_3]) (t := 24) ?hr ?_; (case hd => rfl); (case hg => rfl); (case hr => first | (go_simp; done) | (go_simp; rfl)); intro gb177 hg w5 hbox hb; have n0_ := Za.mk (Zr (by repeat (first | (with_reducible first | exact HB.out | apply Zh | apply Zk | apply Zg) | exact HB.out)) hb); have n1_ := Za.mk (hbox); have n2_ := Za.mk ((by rw [hg]; exact (Zo (by repeat (first | (with_reducible first | exact HB.out | apply Zh | apply Zk | apply Zg) | exact HB.out))) : w.heap.size ≤ gb177)); have n3_ := Za.mk ((by rw [hg]; exact (Zo (by repeat (first | (with_reducible first | exact HB.out | apply Zh | apply Zk | apply Zg) | exact HB.out))) : w.heap.size ≤ gb177)); clear HB; have HB := n0_; have BK177 := n1_; have GW177 := n2_; have GE177 := n3_; clear n0_ n1_ n2_ n3_; clear hb hbox hg; have hcz6_0 : w5.cell? ⟨gb177, 0, none⟩ = some (.int .i64 a0_0) := (Zc BK177.out 0).trans rfl; have hcz6_1 : w5.cell? ⟨gb177, 1, none⟩ = some (.int .i64 a0_1) := (Zc BK177.out 1).trans rfl; have hcz6_2 : w5.cell? ⟨gb177, 2, none⟩ = some (.int .i64 a0_2) := (Zc BK177.out 2).trans rfl; have hcz6_3 : w5.cell? ⟨gb177, 3, none⟩ = some (.slice A0_3 l0_3.length c0_3) := (Zc BK177.out 3).trans rfl; have hfz6_0 := Zd BK177.out 0; have hfz6_1 := Zd BK177.out 1; have hfz6_2 := Zd BK177.out 2; have hfz6_3 := Zd BK177.out 3) | ((with_reducible refine Zp1 (f := 47) rfl ?_); refine goesL_ (some 12) rfl rfl Try.func47 (by kernel_rfl) rfl #[.agg #[.int .i64 a0_0, .int .i64 a0_1, .int .i64 a0_2, .slice A0_3 l0_3.length c0_3], .bool false] rfl (by (try simp only [List.map_toArray, List.map_cons, List.map_nil]); first | done | rfl | (simp only [List.length_drop, List.length_take]; rfl)) ?_; (with_reducible refine (Zm1.calls k a0_0 a0_1 a0_2 _ _ l0_3 false t178 _ ?side1 ?side2 A2.out).mono ?_); (case side1 => repeat (first | exact (Kd.C_below HR0_3.out HB.out) | (with_reducible refine Kd.C_alloc ?_ _) | (with_reducible refine Kd.C_drewN ?_ _) | (with_reducible refine Kd.C_drew ?_))); (case side2 => exact HC0_3.out); rintro e w7 ⟨rfl, hb⟩; refine ⟨_, rfl, ?_⟩; have n0_ := Za.mk (Zp (g := gb177) (o := .cells #[.int .i64 a0_0, .int .i64 a0_1, .int .i64 a0_2, .slice A0_3 l0_3.length c0_3] 24 (0, 0)) (by (with_reducible repeat (first | refine Zj ?_ _ | refine Zf ?_ | refine Zi ?_ _)); exact BK177.out) hb); have n1_ := Za.mk (Zr (by repeat (first | (with_reducible first | exact HB.out | apply Zh | apply Zk | apply Zg | refine Ze ?_ GE177.out) | exact HB.out)) hb); clear BK177; clear HB; have BK177 := n0_; have HB := n1_; clear n0_ n1_; (try clear hb); (try clear hb2); (try clear hk); (try clear hi); have hcz8_0 : w7.cell? ⟨gb177, 0, none⟩ = some (.int .i64 a0_0) := (Zc BK177.out 0).trans rfl; have hcz8_1 : w7.cell? ⟨gb177, 1, none⟩ = some (.int .i64 a0_1) := (Zc BK177.out 1).trans rfl; have hcz8_2 : w7.cell? ⟨gb177, 2, none⟩ = some (.int .i64 a0_2) := (Zc BK177.out 2).trans rfl; have hcz8_3 : w7.cell? ⟨gb177, 3, none⟩ = some (.slice A0_3 l0_3.length c0_3) := (Zc BK177.out 3).trans rfl; have hfz8_0 := Zd BK177.out 0; have hfz8_1 := Zd BK177.out 1; have hfz8_2 := Zd BK177.out 2; have hfz8_3 := Zd BK177.out 3) | ((with_reducible refine Zp1 (f := 59) rfl ?_); refine goesL_ (some 15) rfl rfl Try.func59 (by kernel_rfl) rfl #[.agg #[.int .i64 a0_0, .int .i64 a0_1, .int .i64 a0_2, .slice A0_3 l0_3.length c0_3], .int .u32 t178] rfl (by (try simp only [List.map_toArray, List.map_cons, List.map_nil]); first | done | rfl | (simp only [List.length_drop, List.length_take]; rfl)) ?_; (with_reducible refine (Zi1.calls k a0_0 a0_1 a0_2 _ _ l0_3 t178 t179 _ ?side1 ?side2 A3.out).mono ?_); (case side1 => repeat (first | exact (Kd.C_below HR0_3.out HB.out) | (with_reducible refine Kd.C_alloc ?_ _) | (with_reducible refine Kd.C_drewN ?_ _) | (with_reducible refine Kd.C_drew ?_))); (case side2 => exact HC0_3.out); rintro e w9 ⟨v180, rfl, ho0, hb⟩; refine ⟨_, rfl, ?_⟩; have n0_ := Za.mk (Kd.R_lower ho0 (Zo (by repeat (first | (with_reducible first | exact HB.out | apply Zh | apply Zk | apply Zg | refine Ze ?_ GE177.out) | exact HB.out)))); have n1_ := Za.mk (Zp (g := gb177) (o := .cells #[.int .i64 a0_0, .int .i64 a0_1, .int .i64 a0_2, .slice A0_3 l0_3.length c0_3] 24 (0, 0)) (by (with_reducible repeat (first | refine Zj ?_ _ | refine Zf ?_ | refine Zi ?_ _)); exact BK177.out) hb); have n2_ := Za.mk (Zr (by repeat (first | (with_reducible first | exact HB.out | apply Zh | apply Zk | apply Zg | refine Ze ?_ GE177.out) | exact HB.out)) hb); clear BK177; clear HB; have HO181 := n0_; have BK177 := n1_; have HB := n2_; clear n0_ n1_ n2_; (try clear hb); (try clear hb2); (try clear hk); (try clear hi); (try clear ho0); have hcz10_0 : w9.cell? ⟨gb177, 0, none⟩ = some (.int .i64 a0_0) := (Zc BK177.out 0).trans rfl; have hcz10_1 : w9.cell? ⟨gb177, 1, none⟩ = some (.int .i64 a0_1) := (Zc BK177.out 1).trans rfl; have hcz10_2 : w9.cell? ⟨gb177, 2, none⟩ = some (.int .i64 a0_2) := (Zc BK177.out 2).trans rfl; have hcz10_3 : w9.cell? ⟨gb177, 3, none⟩ = some (.slice A0_3 l0_3.length c0_3) := (Zc BK177.out 3).trans rfl; have hfz10_0 := Zd BK177.out 0; have hfz10_1 := Zd BK177.out 1; have hfz10_2 := Zd BK177.out 2; have hfz10_3 := Zd BK177.out 3; obtain ⟨Ao11, co11, eo11⟩ := Kd.R_slice HO181.out; subst eo11) | ((with_reducible refine Zp1 (f := 61) rfl ?_); refine goesL_ (some 19) rfl rfl Try.func61 (by kernel_rfl) rfl #[.agg #[.int .i64 a0_0, .int .i64 a0_1, .int .i64 a0_2, .slice A0_3 l0_3.length c0_3], .slice Ao11 t179.length co11, .int .u32 t178] rfl (by (try simp only [List.map_toArray, List.map_cons, List.map_nil]); first | done | rfl | (simp only [List.length_drop, List.length_take]; rfl)) ?_; (with_reducible refine (Zs.calls k a0_0 a0_1 a0_2 _ _ l0_3 _ _ t179 t178 t182 _ ?side1 ?side2 ?side3 ?side4 A4.out).mono ?_); (case side1 => repeat (first | exact (Kd.C_below HR0_3.out HB.out) | (with_reducible refine Kd.C_alloc ?_ _) | (with_reducible refine Kd.C_drewN ?_ _) | (with_reducible refine Kd.C_drew ?_))); (case side2 => exact HC0_3.out); (case side3 => repeat (first | exact (Kd.R_reads' HO181.out).2.2 | (with_reducible refine Kd.C_alloc ?_ _) | (with_reducible refine Kd.C_drewN ?_ _) | (with_reducible refine Kd.C_drew ?_))); (case side4 => exact (Kd.R_reads' HO181.out).2.1); rintro e w12 ⟨v183, rfl, ho0, hb⟩; refine ⟨_, rfl, ?_⟩; have n0_ := Za.mk (Kd.R_elder' (by (with_reducible repeat (first | apply Kd.R_alloc | apply Kd.R_drewN | apply Kd.R_drew)); exact HO181.out) (Kd.R_base ho0) hb); have n1_ := Za.mk (Kd.R_lower (Kd.R_new' ho0 (Kd.R_lt (by (with_reducible repeat (first | apply Kd.R_alloc | apply Kd.R_drewN | apply Kd.R_drew)); exact HO181.out))) (Zo (by repeat (first | (with_reducible first | exact HB.out | apply Zh | apply Zk | apply Zg | refine Ze ?_ GE177.out) | exact HB.out)))); have n2_ := Za.mk (Zp (g := gb177) (o := .cells #[.int .i64 a0_0, .int .i64 a0_1, .int .i64 a0_2, .slice A0_3 l0_3.length c0_3] 24 (0, 0)) (by (with_reducible repeat (first | refine Zj ?_ _ | refine Zf ?_ | refine Zi ?_ _)); exact BK177.out) hb); have n3_ := Za.mk (Zr (by repeat (first | (with_reducible first | exact HB.out | apply Zh | apply Zk | apply Zg | refine Ze ?_ GE177.out) | exact HB.out)) hb); clear HO181; clear BK177; clear HB; have HO181 := n0_; have HO184 := n1_; have BK177 := n2_; have HB := n3_; clear n0_ n1_ n2_ n3_; (try clear hb); (try clear hb2); (try clear hk); (try clear hi); (try clear ho0); have hcz13_0 : w12.cell? ⟨gb177, 0, none⟩ = some (.int .i64 a0_0) := (Zc BK177.out 0).trans rfl; have hcz13_1 : w12.cell? ⟨gb177, 1, none⟩ = some (.int .i64 a0_1) := (Zc BK177.out 1).trans rfl; have hcz13_2 : w12.cell? ⟨gb177, 2, none⟩ = some (.int .i64 a0_2) := (Zc BK177.out 2).trans rfl; have hcz13_3 : w12.cell? ⟨gb177, 3, none⟩ = some (.slice A0_3 l0_3.length c0_3) := (Zc BK177.out 3).trans rfl; have hfz13_0 := Zd BK177.out 0; have hfz13_1 := Zd BK177.out 1; have hfz13_2 := Zd BK177.out 2; have hfz13_3 := Zd BK177.out 3))
 go_loopg [6, 23] k (fun kq v6 v23 w' => ∃ (x6_1 : List Int) (x23_1 : Int), v23 = .int .i64 x23_1 ∧ Za (Zq1.l0 kq t178 t179 t182 x6_1 l0_3 (l0_3.length : Int) x23_1 a0_0 a0_1 a0_2 l0_3 = some r) ∧ Za (kq ≤ k) ∧ Za (Kd.R (Kd.int .u32) 28 w' w.heap.size (fun k_ => some k_ ≠ (v183 : Value).ownBlock ∧ some k_ ≠ (v6 : Value).ownBlock) (.slice Ao11 t179.length co11) t179) ∧ Za (Kd.R (Kd.int .u32) 28 w' w.heap.size (fun k_ => some k_ ≠ ((.slice Ao11 t179.length co11) : Value).ownBlock ∧ some k_ ≠ (v6 : Value).ownBlock) v183 t182) ∧ Za (Kd.R (Kd.int .u32) 28 w' w.heap.size (fun k_ => some k_ ≠ ((.slice Ao11 t179.length co11) : Value).ownBlock ∧ some k_ ≠ (v183 : Value).ownBlock) v6 x6_1) ∧ Za (w'.heap[gb177]? = some (.cells #[.int .i64 a0_0, .int .i64 a0_1, .int .i64 a0_2, (.slice A0_3 l0_3.length c0_3)] 24 (0, 0))) ∧ Za (Below w.heap.size w w'))
 case atStart => exact ⟨(([] : List Int)), (0), (by first | rfl | (simp; done) | (simp [*]; done)), H', ⟨Nat.le_refl _⟩, ⟨by (with_reducible repeat (first | apply Kd.R_alloc | apply Kd.R_drewN | apply Kd.R_drew)); exact Kd.R_mono HO181.out (fun _ hk => ⟨hk.2, (by simp [Value.ownBlock])⟩)⟩, ⟨by (with_reducible repeat (first | apply Kd.R_alloc | apply Kd.R_drewN | apply Kd.R_drew)); exact Kd.R_mono HO184.out (fun _ hk => ⟨hk.2, (by simp [Value.ownBlock])⟩)⟩, ⟨by first | exact Kd.R_nil _ _ _ _ _ | exact Kd.N_nil _ _ _ _ _ | exact Kd.V_nil _ _ _ _ _ | exact Kd.Q_nil _ _ _ _ _ | exact Kd.S_nil _ _ _ _ _ | (go_simp; exact Kd.R_nil _ _ _ _ _)⟩, ⟨by (with_reducible repeat (first | refine Zj ?_ _ | refine Zf ?_ | refine Zi ?_ _)); exact BK177.out⟩, ⟨by repeat (first | (with_reducible first | exact HB.out | apply Zh | apply Zk | apply Zg | refine Ze ?_ GE177.out) | exact HB.out)⟩⟩
 case round =>
  (clear H'); (try clear p2); (try clear c4); (try clear c5); (try clear c6); (try clear hcz10_0); (try clear hcz10_1); (try clear hcz10_2); (try clear hcz10_3); (try clear hcz13_0); (try clear hcz13_1); (try clear hcz13_2); (try clear hcz13_3); (try clear hcz6_0); (try clear hcz6_1); (try clear hcz6_2); (try clear hcz6_3); (try clear hcz8_0); (try clear hcz8_1); (try clear hcz8_2); (try clear hcz8_3); (try clear hfz10_0); (try clear hfz10_1); (try clear hfz10_2); (try clear hfz10_3); (try clear hfz13_0); (try clear hfz13_1); (try clear hfz13_2); (try clear hfz13_3); (try clear hfz6_0); (try clear hfz6_1); (try clear hfz6_2); (try clear hfz6_3); (try clear hfz8_0); (try clear hfz8_1); (try clear hfz8_2); (try clear hfz8_3); (obtain ⟨x6_1, x23_1, rfl, HA, HK1, HO_4, HO_5, HO_6, BK177, HB⟩ := hrel)
  cases gk with
  | zero => exact absurd HA.out (by simp [Zq1.l0])
  | succ k1 =>
   (have H := HA.out); (clear HA); (simp only [Zq1.l0] at H)
   by_cases c14 : x23_1 < (l0_3.length : Int)
   rotate_left
   ·rw [if_neg c14] at H
    (have c14b0 : decide (x23_1 < (l0_3.length : Int)) = false := decide_eq_false c14); (clear c14); (obtain rfl := Option.some.inj H)
    go_wp2
    go_ret
    exact ⟨_, by first | rfl | (simp [Zu, Zt] <;> rfl) | (simp [*, Zu, Zt] <;> rfl), by (with_reducible repeat (first | apply Kd.R_alloc | apply Kd.R_drewN | apply Kd.R_drew)); exact Kd.R_mono HO_6.out (fun _ hk => trivial), by repeat (first | (with_reducible first | exact HB.out | apply Zh | apply Zk | apply Zg | refine Ze ?_ GE177.out) | exact HB.out)⟩
   (rw [if_pos c14] at H); (have c14b0 : decide (x23_1 < (l0_3.length : Int)) = true := decide_eq_true c14); (clear c14)
   by_cases c15 : 0 ≤ x23_1
   rotate_left
   ·rw [if_neg c15] at H
    exact absurd H (by simp)
   (rw [if_pos c15] at H); (have c15b0 : decide (0 ≤ x23_1) = true := decide_eq_true c15); (clear c15)
   by_cases c16 : x23_1 < (l0_3.length : Int)
   rotate_left
   ·rw [if_neg c16] at H
    exact absurd H (by simp)
   (rw [if_pos c16] at H); (have c16b0 : decide (x23_1 < (l0_3.length : Int)) = true := decide_eq_true c16); (clear c16); (replace H := Option.bind_eq_some_iff.mp H); (obtain ⟨⟨t187, t188⟩, A170, H⟩ := H); (replace H : (if t188 = true then (if 0 ≤ ((Zb l0_3 x23_1).f0) then (if ((Zb l0_3 x23_1).f0) < (t182.length : Int) then (if x6_1.length < 35184372088832 then (Zq1.l0 k1 t178 t179 t182 (x6_1 ++ [Go.bits .or .u32 t187 (rd t182 ((Zb l0_3 x23_1).f0))]) l0_3 (l0_3.length : Int) (wrap64 (x23_1 + 1)) a0_0 a0_1 a0_2 l0_3) else (none)) else (none)) else (none)) else (if x6_1.length < 35184372088832 then (Zq1.l0 k1 t178 t179 t182 (x6_1 ++ [t187]) l0_3 (l0_3.length : Int) (wrap64 (x23_1 + 1)) a0_0 a0_1 a0_2 l0_3) else (none))) = some r := H); (have A17 := Za.mk A170); (clear A170)
   by_cases c18 : t188 = true
   rotate_left
   ·replace c18 := Bool.eq_false_iff.mpr c18
    (subst c18); (have H1 : (if x6_1.length < 35184372088832 then (Zq1.l0 k1 t178 t179 t182 (x6_1 ++ [t187]) l0_3 (l0_3.length : Int) (wrap64 (x23_1 + 1)) a0_0 a0_1 a0_2 l0_3) else (none)) = some r := by rw [if_neg (show ¬ (false = true) by decide)] at H; exact H); (clear H); (have H := H1); (clear H1)
    by_cases c30 : x6_1.length < 35184372088832
    rotate_left
    ·rw [if_neg c30] at H
     exact absurd H (by simp)
    (rw [if_pos c30] at H); (have LMc30 := Za.mk c30); (clear c30); (obtain ⟨y193, hy193⟩ : ∃ y_ : List Int, y_ = (x6_1 ++ [t187]) := ⟨_, rfl⟩); (replace H : (Zq1.l0 k1 t178 t179 t182 y193 l0_3 (l0_3.length : Int) (wrap64 (x23_1 + 1)) a0_0 a0_1 a0_2 l0_3) = some r := by first | (rw [hy193]; with_reducible exact H) | (have H2_ := (Option.bind_some _ _).symm.trans H; rw [hy193]; with_reducible exact H2_) | (have H2_ := (Option.bind_some _ _).symm.trans H; with_reducible exact H2_) | with_reducible exact H | (rw [hy193]; exact H) | exact H); (have Ny193 := Za.mk hy193); (clear hy193); (have H' := Za.mk H); (clear H); (have p185 : 0 ≤ (x23_1 : Int) := of_decide_eq_true (by assumption)); (have q185 : x23_1 < (l0_3.length : Int) := of_decide_eq_true (by assumption)); (obtain ⟨ad185, A185_1, c185_1, e185, hx185_0, hx185_1, hl185_1, hi185_1⟩ := at_T38 HR0_3.out x23_1 p185 q185); (cases e185); (replace hx185_0 := (HB.out.cell (World.block_lt_of_cell? w _ hx185_0)).trans hx185_0); (replace hx185_1 := (HB.out.cell (World.block_lt_of_cell? w _ hx185_1)).trans hx185_1); (have HR185_1 := Za.mk hi185_1); (have HC185_1 := Za.mk hl185_1); (clear hi185_1 hl185_1); (replace p185 := eq_true p185); (replace q185 := eq_true q185)
    go_wp2_with (first | ((with_reducible refine Zb1 (N := 8) rfl ?_); refine Zc1 ?hg (N := 8) ?hd (cs := #[.int .i64 0, .slice none 0 0]) (t := 38) ?hr ?_; (case hd => rfl); (case hg => rfl); (case hr => first | (go_simp; done) | (go_simp; rfl)); intro gb186 hg w31 hbox hb; have n0_ := Za.mk (Kd.R_below (by (with_reducible repeat (first | apply Kd.R_alloc | apply Kd.R_drewN | apply Kd.R_drew)); exact HO_4.out) hb); have n1_ := Za.mk (Kd.R_below (by (with_reducible repeat (first | apply Kd.R_alloc | apply Kd.R_drewN | apply Kd.R_drew)); exact HO_5.out) hb); have n2_ := Za.mk (Kd.R_below (by (with_reducible repeat (first | apply Kd.R_alloc | apply Kd.R_drewN | apply Kd.R_drew)); exact HO_6.out) hb); have n3_ := Za.mk (Zp (g := gb177) (o := .cells #[.int .i64 a0_0, .int .i64 a0_1, .int .i64 a0_2, .slice (some ad185) l0_3.length c0_3] 24 (0, 0)) (by (with_reducible repeat (first | refine Zj ?_ _ | refine Zf ?_ | refine Zi ?_ _)); exact BK177.out) hb); have n4_ := Za.mk (Zr (by repeat (first | (with_reducible first | exact HB.out | apply Zh | apply Zk | apply Zg | refine Ze ?_ GE177.out) | exact HB.out)) hb); have n5_ := Za.mk (hbox); have n6_ := Za.mk ((by rw [hg]; exact (Zo (by repeat (first | (with_reducible first | exact HB.out | apply Zh | apply Zk | apply Zg | refine Ze ?_ GE177.out) | exact HB.out))) : w.heap.size ≤ gb186)); have n7_ := Za.mk ((by rw [hg]; exact (Zo (by repeat (first | (with_reducible first | exact HB.out | apply Zh | apply Zk | apply Zg | refine Ze ?_ GE177.out) | exact HB.out))) : w.heap.size ≤ gb186)); have n8_ := Za.mk ((by rw [hg]; exact Nat.ne_of_lt (Zx (g := gb177) (o := .cells #[.int .i64 a0_0, .int .i64 a0_1, .int .i64 a0_2, .slice (some ad185) l0_3.length c0_3] 24 (0, 0)) (by (with_reducible repeat (first | refine Zj ?_ _ | refine Zf ?_ | refine Zi ?_ _)); exact BK177.out)) : gb177 ≠ gb186)); have n9_ := Za.mk ((by rw [hg]; exact Nat.ne_of_gt (Zx (g := gb177) (o := .cells #[.int .i64 a0_0, .int .i64 a0_1, .int .i64 a0_2, .slice (some ad185) l0_3.length c0_3] 24 (0, 0)) (by (with_reducible repeat (first | refine Zj ?_ _ | refine Zf ?_ | refine Zi ?_ _)); exact BK177.out)) : gb186 ≠ gb177)); clear HO_4; clear HO_5; clear HO_6; clear BK177; clear HB; have HO_4 := n0_; have HO_5 := n1_; have HO_6 := n2_; have BK177 := n3_; have HB := n4_; have BK186 := n5_; have GW186 := n6_; have GE186 := n7_; have NB177_186 := n8_; have NB186_177 := n9_; clear n0_ n1_ n2_ n3_ n4_ n5_ n6_ n7_ n8_ n9_; clear hb hbox hg; have hnb32 := NB186_177.out; have hnc32 := NB177_186.out; have hcz33_0 : w31.cell? ⟨gb186, 0, none⟩ = some (.int .i64 0) := (Zc BK186.out 0).trans rfl; have hcz33_1 : w31.cell? ⟨gb186, 1, none⟩ = some (.slice none 0 0) := (Zc BK186.out 1).trans rfl; have hfz33_0 := Zd BK186.out 0; have hfz33_1 := Zd BK186.out 1; have hcz34_0 : w31.cell? ⟨gb177, 0, none⟩ = some (.int .i64 a0_0) := (Zc BK177.out 0).trans rfl; have hcz34_1 : w31.cell? ⟨gb177, 1, none⟩ = some (.int .i64 a0_1) := (Zc BK177.out 1).trans rfl; have hcz34_2 : w31.cell? ⟨gb177, 2, none⟩ = some (.int .i64 a0_2) := (Zc BK177.out 2).trans rfl; have hcz34_3 : w31.cell? ⟨gb177, 3, none⟩ = some (.slice (some ad185) l0_3.length c0_3) := (Zc BK177.out 3).trans rfl; have hfz34_0 := Zd BK177.out 0; have hfz34_1 := Zd BK177.out 1; have hfz34_2 := Zd BK177.out 2; have hfz34_3 := Zd BK177.out 3) | ((with_reducible refine Zp1 (f := 77) rfl ?_); refine goesL_ (some 33) rfl rfl Try.func77 (by kernel_rfl) rfl #[.agg #[.int .i64 a0_0, .int .i64 a0_1, .int .i64 a0_2, .slice (some ad185) l0_3.length c0_3], .slice Ao11 t179.length co11, .int .u32 t178, .slice A185_1 ((Zb l0_3 x23_1).f1).length c185_1] rfl (by (try simp only [List.map_toArray, List.map_cons, List.map_nil]); first | done | rfl | (simp only [List.length_drop, List.length_take]; rfl)) ?_; (with_reducible refine (Zh1.calls k1 a0_0 a0_1 a0_2 _ _ l0_3 _ _ t179 t178 _ _ ((Zb l0_3 x23_1).f1) t187 false _ ?side1 ?side2 ?side3 ?side4 ?side5 ?side6 A17.out).mono ?_); (case side1 => exact Kd.C_below HR0_3.out (by repeat (first | (with_reducible first | exact HB.out | apply Zh | apply Zk | apply Zg | refine Ze ?_ GE177.out | refine Ze ?_ GE186.out) | exact HB.out))); (case side2 => exact HC0_3.out); (case side3 => refine (Kd.R_reads' (e := 28) (base := w.heap.size) (ok := fun k_ => (some k_ ≠ (v183 : Value).ownBlock ∧ some k_ ≠ (u6 : Value).ownBlock)) (n := t179.length) (c := co11) ?_).2.2; exact (by (with_reducible repeat (first | apply Kd.R_alloc | apply Kd.R_drewN | apply Kd.R_drew)); exact (Kd.R_mono (Kd.R_far (p := ⟨gb186, 1, none⟩) (Kd.R_far (p := ⟨gb186, 0, none⟩) (Kd.R_types HO_4.out BK186.out (by decide)) (fun _ hk => hk.2) (.int .i64 ((Zb l0_3 x23_1).f0))) (fun _ hk => hk.2) (.slice A185_1 ((Zb l0_3 x23_1).f1).length c185_1)) (fun _ h_ => h_.1)))); (case side4 => exact (Kd.R_reads' HO_4.out).2.1); (case side5 => exact Kd.C_below HR185_1.out (by repeat (first | (with_reducible first | exact HB.out | apply Zh | apply Zk | apply Zg | refine Ze ?_ GE177.out | refine Ze ?_ GE186.out) | exact HB.out))); (case side6 => exact HC185_1.out); rintro e w35 ⟨rfl, hb⟩; refine ⟨_, rfl, ?_⟩; have n0_ := Za.mk (Kd.R_below (by (with_reducible repeat (first | apply Kd.R_alloc | apply Kd.R_drewN | apply Kd.R_drew)); exact (Kd.R_mono (Kd.R_far (p := ⟨gb186, 1, none⟩) (Kd.R_far (p := ⟨gb186, 0, none⟩) (Kd.R_types HO_4.out BK186.out (by decide)) (fun _ hk => hk.2) (.int .i64 ((Zb l0_3 x23_1).f0))) (fun _ hk => hk.2) (.slice A185_1 ((Zb l0_3 x23_1).f1).length c185_1)) (fun _ h_ => h_.1))) hb); have n1_ := Za.mk (Kd.R_below (by (with_reducible repeat (first | apply Kd.R_alloc | apply Kd.R_drewN | apply Kd.R_drew)); exact (Kd.R_mono (Kd.R_far (p := ⟨gb186, 1, none⟩) (Kd.R_far (p := ⟨gb186, 0, none⟩) (Kd.R_types HO_5.out BK186.out (by decide)) (fun _ hk => hk.2) (.int .i64 ((Zb l0_3 x23_1).f0))) (fun _ hk => hk.2) (.slice A185_1 ((Zb l0_3 x23_1).f1).length c185_1)) (fun _ h_ => h_.1))) hb); have n2_ := Za.mk (Kd.R_below (by (with_reducible repeat (first | apply Kd.R_alloc | apply Kd.R_drewN | apply Kd.R_drew)); exact (Kd.R_mono (Kd.R_far (p := ⟨gb186, 1, none⟩) (Kd.R_far (p := ⟨gb186, 0, none⟩) (Kd.R_types HO_6.out BK186.out (by decide)) (fun _ hk => hk.2) (.int .i64 ((Zb l0_3 x23_1).f0))) (fun _ hk => hk.2) (.slice A185_1 ((Zb l0_3 x23_1).f1).length c185_1)) (fun _ h_ => h_.1))) hb); have n3_ := Za.mk (Zp (g := gb177) (o := .cells #[.int .i64 a0_0, .int .i64 a0_1, .int .i64 a0_2, .slice (some ad185) l0_3.length c0_3] 24 (0, 0)) (by (with_reducible repeat (first | refine Zj ?_ _ | refine Zf ?_ | refine Zi ?_ _)); refine Zd1 ?_ NB177_186.out _; (with_reducible repeat (first | refine Zj ?_ _ | refine Zf ?_ | refine Zi ?_ _)); refine Zd1 ?_ NB177_186.out _; (with_reducible repeat (first | refine Zj ?_ _ | refine Zf ?_ | refine Zi ?_ _)); exact BK177.out) hb); have n4_ := Za.mk (Zp (g := gb186) (o := .cells #[.int .i64 ((Zb l0_3 x23_1).f0), .slice A185_1 ((Zb l0_3 x23_1).f1).length c185_1] 38 (0, 0)) (by (with_reducible repeat (first | refine Zj ?_ _ | refine Zf ?_ | refine Zi ?_ _)); refine blk_put (cs := #[.int .i64 ((Zb l0_3 x23_1).f0), .slice none 0 0]) ?_ 1 _ rfl; (with_reducible repeat (first | refine Zj ?_ _ | refine Zf ?_ | refine Zi ?_ _)); refine blk_put (cs := #[.int .i64 0, .slice none 0 0]) ?_ 0 _ rfl; (with_reducible repeat (first | refine Zj ?_ _ | refine Zf ?_ | refine Zi ?_ _)); exact BK186.out) hb); have n5_ := Za.mk (Zr (by repeat (first | (with_reducible first | exact HB.out | apply Zh | apply Zk | apply Zg | refine Ze ?_ GE177.out | refine Ze ?_ GE186.out) | exact HB.out)) hb); clear HO_4; clear HO_5; clear HO_6; clear BK177; clear BK186; clear HB; have HO_4 := n0_; have HO_5 := n1_; have HO_6 := n2_; have BK177 := n3_; have BK186 := n4_; have HB := n5_; clear n0_ n1_ n2_ n3_ n4_ n5_; (try clear hb); (try clear hb2); (try clear hk); (try clear hi)) | ((with_reducible refine gate_builtin (b := .append) (xs := #[.tmp 44, .tmp 46]) rfl ?_); at_builtin; refine Kd.R_append (Kd.int .u32) (w0 := w) w.heap.size rfl (.tmp 44) (.tmp 46) 56 28 (.int .u32 0) 4 rfl Try.underlying56 info28 rfl (by decide) (by omega) u6 x6_1 t187 [.int .u32 t187] (fun k_ => some k_ ≠ (.slice Ao11 t179.length co11 : Value).ownBlock ∧ some k_ ≠ (v183 : Value).ownBlock) (fun _ => False) rfl rfl ?aP (fun _ hk => hk.elim) ?aF ?aO ?aB ?aS ?aL ?_; (case aP => exact rfl); (case aB => exact (by repeat (first | (with_reducible first | exact HB.out | apply Zh | apply Zk | apply Zg | refine Ze ?_ GE177.out | refine Ze ?_ GE186.out) | exact HB.out))); (case aF => exact (fun k_ hk => ⟨Kd.fresh' (Kd.R_lt (by (with_reducible repeat (first | apply Kd.R_alloc | apply Kd.R_drewN | apply Kd.R_drew)); exact HO_4.out)) k_ hk, Kd.fresh' (Kd.R_lt (by (with_reducible repeat (first | apply Kd.R_alloc | apply Kd.R_drewN | apply Kd.R_drew)); exact HO_5.out)) k_ hk⟩)); (case aO => exact (by (with_reducible repeat (first | apply Kd.R_alloc | apply Kd.R_drewN | apply Kd.R_drew)); exact HO_6.out)); (case aS => exact (Zo (by repeat (first | (with_reducible first | exact HB.out | apply Zh | apply Zk | apply Zg | refine Ze ?_ GE177.out | refine Ze ?_ GE186.out) | exact HB.out)))); (case aL => have := LMc30.out; omega); intro v194 w36 ho hb hg hat; rw [← Ny193.out] at ho; have n0_ := Za.mk (Kd.R_after (ok := (fun k_ => some k_ ≠ (v183 : Value).ownBlock)) (by (with_reducible repeat (first | apply Kd.R_alloc | apply Kd.R_drewN | apply Kd.R_drew)); exact HO_4.out) hg hat); have n1_ := Za.mk (Kd.R_after (ok := (fun k_ => some k_ ≠ (.slice Ao11 t179.length co11 : Value).ownBlock)) (by (with_reducible repeat (first | apply Kd.R_alloc | apply Kd.R_drewN | apply Kd.R_drew)); exact HO_5.out) hg hat); have n2_ := Za.mk (Zs1 (g := gb177) (o := .cells #[.int .i64 a0_0, .int .i64 a0_1, .int .i64 a0_2, .slice (some ad185) l0_3.length c0_3] 24 (0, 0)) (by (with_reducible repeat (first | refine Zj ?_ _ | refine Zf ?_ | refine Zi ?_ _)); exact BK177.out) hg (Kd.R_ne HO_6.out BK177.out (by decide))); have n3_ := Za.mk (Zs1 (g := gb186) (o := .cells #[.int .i64 ((Zb l0_3 x23_1).f0), .slice A185_1 ((Zb l0_3 x23_1).f1).length c185_1] 38 (0, 0)) (by (with_reducible repeat (first | refine Zj ?_ _ | refine Zf ?_ | refine Zi ?_ _)); exact BK186.out) hg (Kd.R_ne HO_6.out BK186.out (by decide))); have n4_ := Za.mk (hb); have n5_ := Za.mk (ho); clear HO_4; clear HO_5; clear BK177; clear BK186; clear HB; clear HO_6; have HO_4 := n0_; have HO_5 := n1_; have BK177 := n2_; have BK186 := n3_; have HB := n4_; have HO195 := n5_; clear n0_ n1_ n2_ n3_ n4_ n5_; clear ho hb hg hat))
    go_roundg k1
    case measure => have := HK1.out; omega
    case rel => exact ⟨(y193), (wrap64 (x23_1 + 1)), (by first | rfl | (simp; done) | (simp [*]; done)), H', ⟨by have := HK1.out; omega⟩, ⟨by (with_reducible repeat (first | apply Kd.R_alloc | apply Kd.R_drewN | apply Kd.R_drew)); exact HO_4.out⟩, ⟨by (with_reducible repeat (first | apply Kd.R_alloc | apply Kd.R_drewN | apply Kd.R_drew)); exact HO_5.out⟩, ⟨by (with_reducible repeat (first | apply Kd.R_alloc | apply Kd.R_drewN | apply Kd.R_drew)); exact HO195.out⟩, ⟨by (with_reducible repeat (first | refine Zj ?_ _ | refine Zf ?_ | refine Zi ?_ _)); exact BK177.out⟩, ⟨by repeat (first | (with_reducible first | exact HB.out | apply Zh | apply Zk | apply Zg | refine Ze ?_ GE177.out | refine Ze ?_ GE186.out) | exact HB.out)⟩⟩
   (subst c18); (have H1 : (if 0 ≤ ((Zb l0_3 x23_1).f0) then (if ((Zb l0_3 x23_1).f0) < (t182.length : Int) then (if x6_1.length < 35184372088832 then (Zq1.l0 k1 t178 t179 t182 (x6_1 ++ [Go.bits .or .u32 t187 (rd t182 ((Zb l0_3 x23_1).f0))]) l0_3 (l0_3.length : Int) (wrap64 (x23_1 + 1)) a0_0 a0_1 a0_2 l0_3) else (none)) else (none)) else (none)) = some r := by rw [if_pos rfl] at H; exact H); (clear H); (have H := H1); (clear H1)
   by_cases c19 : 0 ≤ ((Zb l0_3 x23_1).f0)
   rotate_left
   ·rw [if_neg c19] at H
    exact absurd H (by simp)
   (rw [if_pos c19] at H); (have c19b0 : decide (0 ≤ ((Zb l0_3 x23_1).f0)) = true := decide_eq_true c19); (clear c19)
   by_cases c20 : ((Zb l0_3 x23_1).f0) < (t182.length : Int)
   rotate_left
   ·rw [if_neg c20] at H
    exact absurd H (by simp)
   (rw [if_pos c20] at H); (have c20b0 : decide (((Zb l0_3 x23_1).f0) < (t182.length : Int)) = true := decide_eq_true c20); (clear c20)
   by_cases c21 : x6_1.length < 35184372088832
   rotate_left
   ·rw [if_neg c21] at H
    exact absurd H (by simp)
   (rw [if_pos c21] at H); (have LMc21 := Za.mk c21); (clear c21); (obtain ⟨y190, hy190⟩ : ∃ y_ : List Int, y_ = (x6_1 ++ [Go.bits .or .u32 t187 (rd t182 ((Zb l0_3 x23_1).f0))]) := ⟨_, rfl⟩); (replace H : (Zq1.l0 k1 t178 t179 t182 y190 l0_3 (l0_3.length : Int) (wrap64 (x23_1 + 1)) a0_0 a0_1 a0_2 l0_3) = some r := by first | (rw [hy190]; with_reducible exact H) | (have H2_ := (Option.bind_some _ _).symm.trans H; rw [hy190]; with_reducible exact H2_) | (have H2_ := (Option.bind_some _ _).symm.trans H; with_reducible exact H2_) | with_reducible exact H | (rw [hy190]; exact H) | exact H); (have Ny190 := Za.mk hy190); (clear hy190); (have H' := Za.mk H); (clear H); (have p185 : 0 ≤ (x23_1 : Int) := of_decide_eq_true (by assumption)); (have q185 : x23_1 < (l0_3.length : Int) := of_decide_eq_true (by assumption)); (obtain ⟨ad185, A185_1, c185_1, e185, hx185_0, hx185_1, hl185_1, hi185_1⟩ := at_T38 HR0_3.out x23_1 p185 q185); (cases e185); (replace hx185_0 := (HB.out.cell (World.block_lt_of_cell? w _ hx185_0)).trans hx185_0); (replace hx185_1 := (HB.out.cell (World.block_lt_of_cell? w _ hx185_1)).trans hx185_1); (have HR185_1 := Za.mk hi185_1); (have HC185_1 := Za.mk hl185_1); (clear hi185_1 hl185_1); (replace p185 := eq_true p185); (replace q185 := eq_true q185)
   go_wp2_with (first | ((with_reducible refine Zb1 (N := 8) rfl ?_); refine Zc1 ?hg (N := 8) ?hd (cs := #[.int .i64 0, .slice none 0 0]) (t := 38) ?hr ?_; (case hd => rfl); (case hg => rfl); (case hr => first | (go_simp; done) | (go_simp; rfl)); intro gb186 hg w22 hbox hb; have n0_ := Za.mk (Kd.R_below (by (with_reducible repeat (first | apply Kd.R_alloc | apply Kd.R_drewN | apply Kd.R_drew)); exact HO_4.out) hb); have n1_ := Za.mk (Kd.R_below (by (with_reducible repeat (first | apply Kd.R_alloc | apply Kd.R_drewN | apply Kd.R_drew)); exact HO_5.out) hb); have n2_ := Za.mk (Kd.R_below (by (with_reducible repeat (first | apply Kd.R_alloc | apply Kd.R_drewN | apply Kd.R_drew)); exact HO_6.out) hb); have n3_ := Za.mk (Zp (g := gb177) (o := .cells #[.int .i64 a0_0, .int .i64 a0_1, .int .i64 a0_2, .slice (some ad185) l0_3.length c0_3] 24 (0, 0)) (by (with_reducible repeat (first | refine Zj ?_ _ | refine Zf ?_ | refine Zi ?_ _)); exact BK177.out) hb); have n4_ := Za.mk (Zr (by repeat (first | (with_reducible first | exact HB.out | apply Zh | apply Zk | apply Zg | refine Ze ?_ GE177.out) | exact HB.out)) hb); have n5_ := Za.mk (hbox); have n6_ := Za.mk ((by rw [hg]; exact (Zo (by repeat (first | (with_reducible first | exact HB.out | apply Zh | apply Zk | apply Zg | refine Ze ?_ GE177.out) | exact HB.out))) : w.heap.size ≤ gb186)); have n7_ := Za.mk ((by rw [hg]; exact (Zo (by repeat (first | (with_reducible first | exact HB.out | apply Zh | apply Zk | apply Zg | refine Ze ?_ GE177.out) | exact HB.out))) : w.heap.size ≤ gb186)); have n8_ := Za.mk ((by rw [hg]; exact Nat.ne_of_lt (Zx (g := gb177) (o := .cells #[.int .i64 a0_0, .int .i64 a0_1, .int .i64 a0_2, .slice (some ad185) l0_3.length c0_3] 24 (0, 0)) (by (with_reducible repeat (first | refine Zj ?_ _ | refine Zf ?_ | refine Zi ?_ _)); exact BK177.out)) : gb177 ≠ gb186)); have n9_ := Za.mk ((by rw [hg]; exact Nat.ne_of_gt (Zx (g := gb177) (o := .cells #[.int .i64 a0_0, .int .i64 a0_1, .int .i64 a0_2, .slice (some ad185) l0_3.length c0_3] 24 (0, 0)) (by (with_reducible repeat (first | refine Zj ?_ _ | refine Zf ?_ | refine Zi ?_ _)); exact BK177.out)) : gb186 ≠ gb177)); clear HO_4; clear HO_5; clear HO_6; clear BK177; clear HB; have HO_4 := n0_; have HO_5 := n1_; have HO_6 := n2_; have BK177 := n3_; have HB := n4_; have BK186 := n5_; have GW186 := n6_; have GE186 := n7_; have NB177_186 := n8_; have NB186_177 := n9_; clear n0_ n1_ n2_ n3_ n4_ n5_ n6_ n7_ n8_ n9_; clear hb hbox hg; have hnb23 := NB186_177.out; have hnc23 := NB177_186.out; have hcz24_0 : w22.cell? ⟨gb186, 0, none⟩ = some (.int .i64 0) := (Zc BK186.out 0).trans rfl; have hcz24_1 : w22.cell? ⟨gb186, 1, none⟩ = some (.slice none 0 0) := (Zc BK186.out 1).trans rfl; have hfz24_0 := Zd BK186.out 0; have hfz24_1 := Zd BK186.out 1; have hcz25_0 : w22.cell? ⟨gb177, 0, none⟩ = some (.int .i64 a0_0) := (Zc BK177.out 0).trans rfl; have hcz25_1 : w22.cell? ⟨gb177, 1, none⟩ = some (.int .i64 a0_1) := (Zc BK177.out 1).trans rfl; have hcz25_2 : w22.cell? ⟨gb177, 2, none⟩ = some (.int .i64 a0_2) := (Zc BK177.out 2).trans rfl; have hcz25_3 : w22.cell? ⟨gb177, 3, none⟩ = some (.slice (some ad185) l0_3.length c0_3) := (Zc BK177.out 3).trans rfl; have hfz25_0 := Zd BK177.out 0; have hfz25_1 := Zd BK177.out 1; have hfz25_2 := Zd BK177.out 2; have hfz25_3 := Zd BK177.out 3) | ((with_reducible refine Zp1 (f := 77) rfl ?_); refine goesL_ (some 33) rfl rfl Try.func77 (by kernel_rfl) rfl #[.agg #[.int .i64 a0_0, .int .i64 a0_1, .int .i64 a0_2, .slice (some ad185) l0_3.length c0_3], .slice Ao11 t179.length co11, .int .u32 t178, .slice A185_1 ((Zb l0_3 x23_1).f1).length c185_1] rfl (by (try simp only [List.map_toArray, List.map_cons, List.map_nil]); first | done | rfl | (simp only [List.length_drop, List.length_take]; rfl)) ?_; (with_reducible refine (Zh1.calls k1 a0_0 a0_1 a0_2 _ _ l0_3 _ _ t179 t178 _ _ ((Zb l0_3 x23_1).f1) t187 true _ ?side1 ?side2 ?side3 ?side4 ?side5 ?side6 A17.out).mono ?_); (case side1 => exact Kd.C_below HR0_3.out (by repeat (first | (with_reducible first | exact HB.out | apply Zh | apply Zk | apply Zg | refine Ze ?_ GE177.out | refine Ze ?_ GE186.out) | exact HB.out))); (case side2 => exact HC0_3.out); (case side3 => refine (Kd.R_reads' (e := 28) (base := w.heap.size) (ok := fun k_ => (some k_ ≠ (v183 : Value).ownBlock ∧ some k_ ≠ (u6 : Value).ownBlock)) (n := t179.length) (c := co11) ?_).2.2; exact (by (with_reducible repeat (first | apply Kd.R_alloc | apply Kd.R_drewN | apply Kd.R_drew)); exact (Kd.R_mono (Kd.R_far (p := ⟨gb186, 1, none⟩) (Kd.R_far (p := ⟨gb186, 0, none⟩) (Kd.R_types HO_4.out BK186.out (by decide)) (fun _ hk => hk.2) (.int .i64 ((Zb l0_3 x23_1).f0))) (fun _ hk => hk.2) (.slice A185_1 ((Zb l0_3 x23_1).f1).length c185_1)) (fun _ h_ => h_.1)))); (case side4 => exact (Kd.R_reads' HO_4.out).2.1); (case side5 => exact Kd.C_below HR185_1.out (by repeat (first | (with_reducible first | exact HB.out | apply Zh | apply Zk | apply Zg | refine Ze ?_ GE177.out | refine Ze ?_ GE186.out) | exact HB.out))); (case side6 => exact HC185_1.out); rintro e w26 ⟨rfl, hb⟩; refine ⟨_, rfl, ?_⟩; have n0_ := Za.mk (Kd.R_below (by (with_reducible repeat (first | apply Kd.R_alloc | apply Kd.R_drewN | apply Kd.R_drew)); exact (Kd.R_mono (Kd.R_far (p := ⟨gb186, 1, none⟩) (Kd.R_far (p := ⟨gb186, 0, none⟩) (Kd.R_types HO_4.out BK186.out (by decide)) (fun _ hk => hk.2) (.int .i64 ((Zb l0_3 x23_1).f0))) (fun _ hk => hk.2) (.slice A185_1 ((Zb l0_3 x23_1).f1).length c185_1)) (fun _ h_ => h_.1))) hb); have n1_ := Za.mk (Kd.R_below (by (with_reducible repeat (first | apply Kd.R_alloc | apply Kd.R_drewN | apply Kd.R_drew)); exact (Kd.R_mono (Kd.R_far (p := ⟨gb186, 1, none⟩) (Kd.R_far (p := ⟨gb186, 0, none⟩) (Kd.R_types HO_5.out BK186.out (by decide)) (fun _ hk => hk.2) (.int .i64 ((Zb l0_3 x23_1).f0))) (fun _ hk => hk.2) (.slice A185_1 ((Zb l0_3 x23_1).f1).length c185_1)) (fun _ h_ => h_.1))) hb); have n2_ := Za.mk (Kd.R_below (by (with_reducible repeat (first | apply Kd.R_alloc | apply Kd.R_drewN | apply Kd.R_drew)); exact (Kd.R_mono (Kd.R_far (p := ⟨gb186, 1, none⟩) (Kd.R_far (p := ⟨gb186, 0, none⟩) (Kd.R_types HO_6.out BK186.out (by decide)) (fun _ hk => hk.2) (.int .i64 ((Zb l0_3 x23_1).f0))) (fun _ hk => hk.2) (.slice A185_1 ((Zb l0_3 x23_1).f1).length c185_1)) (fun _ h_ => h_.1))) hb); have n3_ := Za.mk (Zp (g := gb177) (o := .cells #[.int .i64 a0_0, .int .i64 a0_1, .int .i64 a0_2, .slice (some ad185) l0_3.length c0_3] 24 (0, 0)) (by (with_reducible repeat (first | refine Zj ?_ _ | refine Zf ?_ | refine Zi ?_ _)); refine Zd1 ?_ NB177_186.out _; (with_reducible repeat (first | refine Zj ?_ _ | refine Zf ?_ | refine Zi ?_ _)); refine Zd1 ?_ NB177_186.out _; (with_reducible repeat (first | refine Zj ?_ _ | refine Zf ?_ | refine Zi ?_ _)); exact BK177.out) hb); have n4_ := Za.mk (Zp (g := gb186) (o := .cells #[.int .i64 ((Zb l0_3 x23_1).f0), .slice A185_1 ((Zb l0_3 x23_1).f1).length c185_1] 38 (0, 0)) (by (with_reducible repeat (first | refine Zj ?_ _ | refine Zf ?_ | refine Zi ?_ _)); refine blk_put (cs := #[.int .i64 ((Zb l0_3 x23_1).f0), .slice none 0 0]) ?_ 1 _ rfl; (with_reducible repeat (first | refine Zj ?_ _ | refine Zf ?_ | refine Zi ?_ _)); refine blk_put (cs := #[.int .i64 0, .slice none 0 0]) ?_ 0 _ rfl; (with_reducible repeat (first | refine Zj ?_ _ | refine Zf ?_ | refine Zi ?_ _)); exact BK186.out) hb); have n5_ := Za.mk (Zr (by repeat (first | (with_reducible first | exact HB.out | apply Zh | apply Zk | apply Zg | refine Ze ?_ GE177.out | refine Ze ?_ GE186.out) | exact HB.out)) hb); clear HO_4; clear HO_5; clear HO_6; clear BK177; clear BK186; clear HB; have HO_4 := n0_; have HO_5 := n1_; have HO_6 := n2_; have BK177 := n3_; have BK186 := n4_; have HB := n5_; clear n0_ n1_ n2_ n3_ n4_ n5_; (try clear hb); (try clear hb2); (try clear hk); (try clear hi); have hcz27_0 : w26.cell? ⟨gb186, 0, none⟩ = some (.int .i64 ((Zb l0_3 x23_1).f0)) := (Zc BK186.out 0).trans rfl; have hcz27_1 : w26.cell? ⟨gb186, 1, none⟩ = some (.slice A185_1 ((Zb l0_3 x23_1).f1).length c185_1) := (Zc BK186.out 1).trans rfl; have hfz27_0 := Zd BK186.out 0; have hfz27_1 := Zd BK186.out 1; obtain ⟨Ao28, co28, eo28⟩ := Kd.R_slice HO_5.out; subst eo28; have p189 : 0 ≤ (((Zb l0_3 x23_1).f0) : Int) := of_decide_eq_true (by assumption); have q189 : ((Zb l0_3 x23_1).f0) < (t182.length : Int) := of_decide_eq_true (by assumption); obtain ⟨ad189, e189, hx189_0⟩ := Kd.at_int (Kd.R_reads' HO_5.out).2.2 ((Zb l0_3 x23_1).f0) p189 q189; cases e189; replace p189 := eq_true p189; replace q189 := eq_true q189) | ((with_reducible refine gate_builtin (b := .append) (xs := #[.tmp 44, .tmp 46]) rfl ?_); at_builtin; refine Kd.R_append (Kd.int .u32) (w0 := w) w.heap.size rfl (.tmp 44) (.tmp 46) 56 28 (.int .u32 0) 4 rfl Try.underlying56 info28 rfl (by decide) (by omega) u6 x6_1 (Go.bits .or .u32 t187 (rd t182 ((Zb l0_3 x23_1).f0))) [.int .u32 (Go.bits .or .u32 t187 (rd t182 ((Zb l0_3 x23_1).f0)))] (fun k_ => some k_ ≠ (.slice Ao11 t179.length co11 : Value).ownBlock ∧ some k_ ≠ (.slice (some ad189) t182.length co28 : Value).ownBlock) (fun _ => False) rfl rfl ?aP (fun _ hk => hk.elim) ?aF ?aO ?aB ?aS ?aL ?_; (case aP => exact rfl); (case aB => exact (by repeat (first | (with_reducible first | exact HB.out | apply Zh | apply Zk | apply Zg | refine Ze ?_ GE177.out | refine Ze ?_ GE186.out) | exact HB.out))); (case aF => exact (fun k_ hk => ⟨Kd.fresh' (Kd.R_lt (by (with_reducible repeat (first | apply Kd.R_alloc | apply Kd.R_drewN | apply Kd.R_drew)); exact HO_4.out)) k_ hk, Kd.fresh' (Kd.R_lt (by (with_reducible repeat (first | apply Kd.R_alloc | apply Kd.R_drewN | apply Kd.R_drew)); exact HO_5.out)) k_ hk⟩)); (case aO => exact (by (with_reducible repeat (first | apply Kd.R_alloc | apply Kd.R_drewN | apply Kd.R_drew)); exact HO_6.out)); (case aS => exact (Zo (by repeat (first | (with_reducible first | exact HB.out | apply Zh | apply Zk | apply Zg | refine Ze ?_ GE177.out | refine Ze ?_ GE186.out) | exact HB.out)))); (case aL => have := LMc21.out; omega); intro v191 w29 ho hb hg hat; rw [← Ny190.out] at ho; have n0_ := Za.mk (Kd.R_after (ok := (fun k_ => some k_ ≠ (.slice (some ad189) t182.length co28 : Value).ownBlock)) (by (with_reducible repeat (first | apply Kd.R_alloc | apply Kd.R_drewN | apply Kd.R_drew)); exact HO_4.out) hg hat); have n1_ := Za.mk (Kd.R_after (ok := (fun k_ => some k_ ≠ (.slice Ao11 t179.length co11 : Value).ownBlock)) (by (with_reducible repeat (first | apply Kd.R_alloc | apply Kd.R_drewN | apply Kd.R_drew)); exact HO_5.out) hg hat); have n2_ := Za.mk (Zs1 (g := gb177) (o := .cells #[.int .i64 a0_0, .int .i64 a0_1, .int .i64 a0_2, .slice (some ad185) l0_3.length c0_3] 24 (0, 0)) (by (with_reducible repeat (first | refine Zj ?_ _ | refine Zf ?_ | refine Zi ?_ _)); exact BK177.out) hg (Kd.R_ne HO_6.out BK177.out (by decide))); have n3_ := Za.mk (Zs1 (g := gb186) (o := .cells #[.int .i64 ((Zb l0_3 x23_1).f0), .slice A185_1 ((Zb l0_3 x23_1).f1).length c185_1] 38 (0, 0)) (by (with_reducible repeat (first | refine Zj ?_ _ | refine Zf ?_ | refine Zi ?_ _)); exact BK186.out) hg (Kd.R_ne HO_6.out BK186.out (by decide))); have n4_ := Za.mk (hb); have n5_ := Za.mk (ho); clear HO_4; clear HO_5; clear BK177; clear BK186; clear HB; clear HO_6; have HO_4 := n0_; have HO_5 := n1_; have BK177 := n2_; have BK186 := n3_; have HB := n4_; have HO192 := n5_; clear n0_ n1_ n2_ n3_ n4_ n5_; clear ho hb hg hat))
   go_roundg k1
   case measure => have := HK1.out; omega
   case rel => exact ⟨(y190), (wrap64 (x23_1 + 1)), (by first | rfl | (simp; done) | (simp [*]; done)), H', ⟨by have := HK1.out; omega⟩, ⟨by (with_reducible repeat (first | apply Kd.R_alloc | apply Kd.R_drewN | apply Kd.R_drew)); exact HO_4.out⟩, ⟨by (with_reducible repeat (first | apply Kd.R_alloc | apply Kd.R_drewN | apply Kd.R_drew)); exact HO_5.out⟩, ⟨by (with_reducible repeat (first | apply Kd.R_alloc | apply Kd.R_drewN | apply Kd.R_drew)); exact HO192.out⟩, ⟨by (with_reducible repeat (first | refine Zj ?_ _ | refine Zf ?_ | refine Zi ?_ _)); exact BK177.out⟩, ⟨by repeat (first | (with_reducible first | exact HB.out | apply Zh | apply Zk | apply Zg | refine Ze ?_ GE177.out | refine Ze ?_ GE186.out) | exact HB.out)⟩⟩
def ahead_Clear.f (k : Nat) (a0_0 : Int) (a0_1 : Int) (a0_2 : Int) (l0_3 : List (S38)) : Option (Bool × Int) := (Za1.f k a0_0 a0_1 a0_2 l0_3).bind fun t197 => (if t197 = 0 then ((Zq1.f k a0_0 a0_1 a0_2 l0_3).bind fun t198 => ((Zn1.f k a0_0 a0_1 a0_2 l0_3 t198).bind fun t201 => (some (t201, 0)))) else (some (false, t197)))
theorem ahead_Clear.mono : ∀ a0 a1 a2 a3 k, LeO (ahead_Clear.f k a0 a1 a2 a3) (ahead_Clear.f (k + 1) a0 a1 a2 a3) := by
  intro a0 a1 a2 a3 k
  unfold ahead_Clear.f
  repeat' first
      | (with_reducible exact Zn1.mono _ _ _ _ _ _)
      | (with_reducible exact Zq1.mono _ _ _ _ _)
      | (with_reducible exact Za1.mono _ _ _ _ _)
      | (with_reducible exact LeO.refl _)
      | (with_reducible exact LeO.none _)
      | (with_reducible refine LeO.ite ?_ ?_)
      | (with_reducible refine LeO.bind ?_ (fun _ => ?_))
      | exact Zn1.mono _ _ _ _ _ _
      | exact Zq1.mono _ _ _ _ _
      | exact Za1.mono _ _ _ _ _
      | exact LeO.none _
      | refine LeO.ite ?_ ?_
      | refine LeO.bind ?_ (fun _ => ?_)
set_option maxHeartbeats 8000000 in
set_option maxRecDepth 100000 in
theorem ahead_Clear.calls (k : Nat) (a0_0 : Int) (a0_1 : Int) (a0_2 : Int) (A0_3 : Option Addr) (c0_3 : Nat) (l0_3 : List (S38)) (r1 : Bool) (r2 : Int) (w : World) (hr0_3 : Kd.C k38 w A0_3 l0_3.length l0_3) (hc0_3 : l0_3.length ≤ c0_3) (h : ahead_Clear.f k a0_0 a0_1 a0_2 l0_3 = some (r1, r2)) :
    Calls Try.prog 39 #[.agg #[.int .i64 a0_0, .int .i64 a0_1, .int .i64 a0_2, .slice A0_3 l0_3.length c0_3]] w fun e w' => e = .returned (.tuple #[.bool r1, .int .i64 r2]) ∧ Below w.heap.size w w' := by
  have hu24 := Try.underlying24
  have HR0_3 := Za.mk hr0_3
  have HC0_3 := Za.mk hc0_3
  clear hr0_3 hc0_3
  have HB := Za.mk (Below.refl w.heap.size w)
  have H : ((Za1.f k a0_0 a0_1 a0_2 l0_3).bind fun t197 => (if t197 = 0 then ((Zq1.f k a0_0 a0_1 a0_2 l0_3).bind fun t198 => ((Zn1.f k a0_0 a0_1 a0_2 l0_3 t198).bind fun t201 => (some (t201, 0)))) else (some (false, t197)))) = some (r1, r2) := h
  clear h
  replace H := Option.bind_eq_some_iff.mp H
  obtain ⟨t197, A20, H⟩ := H
  replace H : (if t197 = 0 then ((Zq1.f k a0_0 a0_1 a0_2 l0_3).bind fun t198 => ((Zn1.f k a0_0 a0_1 a0_2 l0_3 t198).bind fun t201 => (some (t201, 0)))) else (some (false, t197))) = some (r1, r2) := H
  have A2 := Za.mk A20
  clear A20
  by_cases c3 : t197 = 0
  · rw [if_pos c3] at H
    have c3b0 : (t197 == 0) = true := beq_iff_eq.mpr c3
    have c3b1 : (t197 != 0) = false := bne_eq_false_iff_eq.mpr c3
    clear c3
    replace H := Option.bind_eq_some_iff.mp H
    obtain ⟨t198, A40, H⟩ := H
    replace H : ((Zn1.f k a0_0 a0_1 a0_2 l0_3 t198).bind fun t201 => (some (t201, 0))) = some (r1, r2) := H
    have A4 := Za.mk A40
    clear A40
    replace H := Option.bind_eq_some_iff.mp H
    obtain ⟨t201, A50, H⟩ := H
    replace H : (some (t201, 0)) = some (r1, r2) := H
    have A5 := Za.mk A50
    clear A50
    simp only [Option.some.injEq, Prod.mk.injEq] at H
    obtain ⟨rfl, rfl⟩ := H
    go_enter Try.func39, Try.ntmps39
    try go_wp2_with (first | ((with_reducible refine Zb1 (N := 1) rfl ?_); refine Zc1 ?hg (N := 1) ?hd (cs := #[.int .i64 a0_0, .int .i64 a0_1, .int .i64 a0_2, .slice A0_3 l0_3.length c0_3]) (t := 24) ?hr ?_; (case hd => rfl); (case hg => rfl); (case hr => first | (go_simp; done) | (go_simp; rfl)); intro gb196 hg w6 hbox hb; have n0_ := Za.mk (Zr (by repeat (first | (with_reducible first | exact HB.out | apply Zh | apply Zk | apply Zg) | exact HB.out)) hb); have n1_ := Za.mk (hbox); have n2_ := Za.mk ((by rw [hg]; exact (Zo (by repeat (first | (with_reducible first | exact HB.out | apply Zh | apply Zk | apply Zg) | exact HB.out))) : w.heap.size ≤ gb196)); have n3_ := Za.mk ((by rw [hg]; exact (Zo (by repeat (first | (with_reducible first | exact HB.out | apply Zh | apply Zk | apply Zg) | exact HB.out))) : w.heap.size ≤ gb196)); clear HB; have HB := n0_; have BK196 := n1_; have GW196 := n2_; have GE196 := n3_; clear n0_ n1_ n2_ n3_; clear hb hbox hg; have hcz7_0 : w6.cell? ⟨gb196, 0, none⟩ = some (.int .i64 a0_0) := (Zc BK196.out 0).trans rfl; have hcz7_1 : w6.cell? ⟨gb196, 1, none⟩ = some (.int .i64 a0_1) := (Zc BK196.out 1).trans rfl; have hcz7_2 : w6.cell? ⟨gb196, 2, none⟩ = some (.int .i64 a0_2) := (Zc BK196.out 2).trans rfl; have hcz7_3 : w6.cell? ⟨gb196, 3, none⟩ = some (.slice A0_3 l0_3.length c0_3) := (Zc BK196.out 3).trans rfl; have hfz7_0 := Zd BK196.out 0; have hfz7_1 := Zd BK196.out 1; have hfz7_2 := Zd BK196.out 2; have hfz7_3 := Zd BK196.out 3) | ((with_reducible refine Zp1 (f := 15) rfl ?_); refine goesL_ (some 6) rfl rfl Try.func15 (by kernel_rfl) rfl #[.agg #[.int .i64 a0_0, .int .i64 a0_1, .int .i64 a0_2, .slice A0_3 l0_3.length c0_3]] rfl (by (try simp only [List.map_toArray, List.map_cons, List.map_nil]); first | done | rfl | (simp only [List.length_drop, List.length_take]; rfl)) ?_; (with_reducible refine (Za1.calls k a0_0 a0_1 a0_2 _ _ l0_3 t197 _ ?side1 ?side2 A2.out).mono ?_); (case side1 => repeat (first | exact (Kd.C_below HR0_3.out HB.out) | (with_reducible refine Kd.C_alloc ?_ _) | (with_reducible refine Kd.C_drewN ?_ _) | (with_reducible refine Kd.C_drew ?_))); (case side2 => exact HC0_3.out); rintro e w8 ⟨rfl, hb⟩; refine ⟨_, rfl, ?_⟩; have n0_ := Za.mk (Zp (g := gb196) (o := .cells #[.int .i64 a0_0, .int .i64 a0_1, .int .i64 a0_2, .slice A0_3 l0_3.length c0_3] 24 (0, 0)) (by (with_reducible repeat (first | refine Zj ?_ _ | refine Zf ?_ | refine Zi ?_ _)); exact BK196.out) hb); have n1_ := Za.mk (Zr (by repeat (first | (with_reducible first | exact HB.out | apply Zh | apply Zk | apply Zg | refine Ze ?_ GE196.out) | exact HB.out)) hb); clear BK196; clear HB; have BK196 := n0_; have HB := n1_; clear n0_ n1_; (try clear hb); (try clear hb2); (try clear hk); (try clear hi)))
    have n0_ := Za.mk (Zf BK196.out)
    have n1_ := Za.mk (Zg HB.out)
    clear BK196
    clear HB
    have BK196 := n0_
    have HB := n1_
    clear n0_ n1_
    refine start_ (n := 6) (S := fun w' => w'.cell? ⟨gb196, 0, none⟩ = some (.int .i64 a0_0) ∧ w'.cell? ⟨gb196, 1, none⟩ = some (.int .i64 a0_1) ∧ w'.cell? ⟨gb196, 2, none⟩ = some (.int .i64 a0_2) ∧ w'.cell? ⟨gb196, 3, none⟩ = some (.slice A0_3 l0_3.length c0_3)) (ds := []) #[false, false, false, false, false, false] (by kernel_rfl) rfl rfl ⟨(Zc BK196.out 0).trans rfl, (Zc BK196.out 1).trans rfl, (Zc BK196.out 2).trans rfl, (Zc BK196.out 3).trans rfl⟩ (fun hHeld => ?_)
    generalize w8.drew = w9 at BK196 HB hHeld ⊢
    refine take_ (i := 0) (N := some 10) (v := ?_) (a' := ?_) #[true, false, false, false, false, false] rfl rfl (by kernel_rfl) (fun _ _ _ h => h) (Or.inl ⟨by rfl, ?_⟩) hHeld ?_ ?_
    rotate_left
    · rintro w' ⟨s0, s1, s2, s3⟩
      go_simp
      with_reducible rfl
    rotate_left
    · simp only [Act.put, List.setIfInBounds_toArray, List.set_cons_zero, List.set_cons_succ, Zl, Zm]
      rfl
    refine take_ (i := 1) (N := some 11) (v := ?_) (a' := ?_) #[true, true, false, false, false, false] rfl rfl (by kernel_rfl) (fun _ _ _ h => h) (Or.inl ⟨by rfl, ?_⟩) hHeld ?_ ?_
    rotate_left
    · rintro w' ⟨s0, s1, s2, s3⟩
      go_simp
      with_reducible rfl
    rotate_left
    · simp only [Act.put, List.setIfInBounds_toArray, List.set_cons_zero, List.set_cons_succ, Zl, Zm]
      rfl
    refine one_ (i := 2) (N := some 12) #[true, true, true, false, false, false] rfl rfl (by kernel_rfl) (by decide) (fun K hK => ?_)
    refine goes_ Try.func65 (by kernel_rfl) rfl #[.agg #[.int .i64 a0_0, .int .i64 a0_1, .int .i64 a0_2, .slice A0_3 l0_3.length c0_3]] (by rfl) rfl rfl (by (try simp only [List.map_toArray, List.map_cons, List.map_nil]); first | done | rfl | (simp only [List.length_drop, List.length_take]; rfl)) ?_
    with_reducible refine (Zq1.calls k a0_0 a0_1 a0_2 _ _ l0_3 t198 _ ?side1 ?side2 A4.out).mono ?_
    (case side1 => repeat (first | exact (Kd.C_below HR0_3.out HB.out) | (with_reducible refine Kd.C_alloc ?_ _) | (with_reducible refine Kd.C_drewN ?_ _) | (with_reducible refine Kd.C_drew ?_)))
    (case side2 => exact HC0_3.out)
    rintro e w10 ⟨v199, rfl, ho0, hb⟩
    refine ⟨_, rfl, ?_⟩
    have n0_ := Za.mk (Kd.R_lower ho0 (Zo (by repeat (first | (with_reducible first | exact HB.out | apply Zh | apply Zk | apply Zg | refine Ze ?_ GE196.out) | exact HB.out))))
    have n1_ := Za.mk (Zp (g := gb196) (o := .cells #[.int .i64 a0_0, .int .i64 a0_1, .int .i64 a0_2, .slice A0_3 l0_3.length c0_3] 24 (0, 0)) (by (with_reducible repeat (first | refine Zj ?_ _ | refine Zf ?_ | refine Zi ?_ _)); exact BK196.out) hb)
    have n2_ := Za.mk (Zr (by repeat (first | (with_reducible first | exact HB.out | apply Zh | apply Zk | apply Zg | refine Ze ?_ GE196.out) | exact HB.out)) hb)
    clear BK196
    clear HB
    have HO200 := n0_
    have BK196 := n1_
    have HB := n2_
    clear n0_ n1_ n2_
    (try clear hb)
    (try clear hb2)
    (try clear hk)
    (try clear hi)
    (try clear ho0)
    obtain ⟨Ao11, co11, eo11⟩ := Kd.R_slice HO200.out
    (first | subst eo11 | (injection eo11 with f1_ f2_ f3_; have f4_ := f1_.symm; have f5_ := f3_.symm; clear f1_ f2_ f3_; subst f4_; subst f5_))
    refine hK.out _ _ ⟨(Zc BK196.out 0).trans rfl, (Zc BK196.out 1).trans rfl, (Zc BK196.out 2).trans rfl, (Zc BK196.out 3).trans rfl⟩ (fun hHeld => ?_)
    clear hK K
    refine norm_ (a' := ?_) ?_ ?_
    rotate_left
    · show Act.put _ (some 12) _ = _
      simp only [Act.put, List.setIfInBounds_toArray, List.set_cons_zero, List.set_cons_succ, Zl, Zm]
      rfl
    refine one_ (i := 3) (N := some 13) #[true, true, true, true, false, false] rfl rfl (by kernel_rfl) (by decide) (fun K hK => ?_)
    refine goes_ Try.func64 (by kernel_rfl) rfl #[.agg #[.int .i64 a0_0, .int .i64 a0_1, .int .i64 a0_2, .slice A0_3 l0_3.length c0_3], .slice Ao11 t198.length co11] (by rfl) rfl rfl (by (try simp only [List.map_toArray, List.map_cons, List.map_nil]); first | done | rfl | (simp only [List.length_drop, List.length_take]; rfl)) ?_
    with_reducible refine (Zn1.calls k a0_0 a0_1 a0_2 _ _ l0_3 _ _ t198 t201 _ ?side1 ?side2 ?side3 ?side4 A5.out).mono ?_
    (case side1 => repeat (first | exact (Kd.C_below HR0_3.out HB.out) | (with_reducible refine Kd.C_alloc ?_ _) | (with_reducible refine Kd.C_drewN ?_ _) | (with_reducible refine Kd.C_drew ?_)))
    (case side2 => exact HC0_3.out)
    (case side3 => repeat (first | exact (Kd.R_reads' HO200.out).2.2 | (with_reducible refine Kd.C_alloc ?_ _) | (with_reducible refine Kd.C_drewN ?_ _) | (with_reducible refine Kd.C_drew ?_)))
    (case side4 => exact (Kd.R_reads' HO200.out).2.1)
    rintro e w12 ⟨rfl, hb⟩
    refine ⟨_, rfl, ?_⟩
    have n0_ := Za.mk (Kd.R_below (by (with_reducible repeat (first | apply Kd.R_alloc | apply Kd.R_drewN | apply Kd.R_drew)); exact HO200.out) hb)
    have n1_ := Za.mk (Zp (g := gb196) (o := .cells #[.int .i64 a0_0, .int .i64 a0_1, .int .i64 a0_2, .slice A0_3 l0_3.length c0_3] 24 (0, 0)) (by (with_reducible repeat (first | refine Zj ?_ _ | refine Zf ?_ | refine Zi ?_ _)); exact BK196.out) hb)
    have n2_ := Za.mk (Zr (by repeat (first | (with_reducible first | exact HB.out | apply Zh | apply Zk | apply Zg | refine Ze ?_ GE196.out) | exact HB.out)) hb)
    clear HO200
    clear BK196
    clear HB
    have HO200 := n0_
    have BK196 := n1_
    have HB := n2_
    clear n0_ n1_ n2_
    (try clear hb)
    (try clear hb2)
    (try clear hk)
    (try clear hi)
    refine hK.out _ _ ⟨(Zc BK196.out 0).trans rfl, (Zc BK196.out 1).trans rfl, (Zc BK196.out 2).trans rfl, (Zc BK196.out 3).trans rfl⟩ (fun hHeld => ?_)
    clear hK K
    refine norm_ (a' := ?_) ?_ ?_
    rotate_left
    · show Act.put _ (some 13) _ = _
      simp only [Act.put, List.setIfInBounds_toArray, List.set_cons_zero, List.set_cons_succ, Zl, Zm]
      rfl
    refine pure_ (i := 4) (N := some 2) (v := ?_) (a' := ?_) #[true, true, true, true, true, false] rfl rfl (by kernel_rfl) (fun _ _ _ h => h) (Or.inl ⟨by rfl, ?_⟩) ?_ ?_
    rotate_left
    · intro w'
      go_simp
      with_reducible rfl
    rotate_left
    · simp only [Act.put, List.setIfInBounds_toArray, List.set_cons_zero, List.set_cons_succ, Zl, Zm]
      rfl
    refine pure_ (i := 5) (N := some 3) (v := ?_) (a' := ?_) #[true, true, true, true, true, true] rfl rfl (by kernel_rfl) (fun _ _ _ h => h) (Or.inl ⟨by rfl, ?_⟩) ?_ ?_
    rotate_left
    · intro w'
      go_simp
      with_reducible rfl
    rotate_left
    · simp only [Act.put, List.setIfInBounds_toArray, List.set_cons_zero, List.set_cons_succ, Zl, Zm]
      rfl
    refine done_ (by kernel_rfl) ?_
    try go_wp2
    go_ret2
    exact ⟨by first | rfl | (simp [Zu, Zt] <;> rfl) | (simp [*, Zu, Zt] <;> rfl), by repeat (first | (with_reducible first | exact HB.out | apply Zh | apply Zk | apply Zg | refine Ze ?_ GE196.out) | exact HB.out)⟩
  · rw [if_neg c3] at H
    have c3b0 : (t197 == 0) = false := beq_eq_false_iff_ne.mpr c3
    have c3b1 : (t197 != 0) = true := bne_iff_ne.mpr c3
    simp only [Option.some.injEq, Prod.mk.injEq] at H
    obtain ⟨rfl, rfl⟩ := H
    go_enter Try.func39, Try.ntmps39
    go_wp2_with (first | ((with_reducible refine Zb1 (N := 1) rfl ?_); refine Zc1 ?hg (N := 1) ?hd (cs := #[.int .i64 a0_0, .int .i64 a0_1, .int .i64 a0_2, .slice A0_3 l0_3.length c0_3]) (t := 24) ?hr ?_; (case hd => rfl); (case hg => rfl); (case hr => first | (go_simp; done) | (go_simp; rfl)); intro gb196 hg w13 hbox hb; have n0_ := Za.mk (Zr (by repeat (first | (with_reducible first | exact HB.out | apply Zh | apply Zk | apply Zg) | exact HB.out)) hb); have n1_ := Za.mk (hbox); have n2_ := Za.mk ((by rw [hg]; exact (Zo (by repeat (first | (with_reducible first | exact HB.out | apply Zh | apply Zk | apply Zg) | exact HB.out))) : w.heap.size ≤ gb196)); have n3_ := Za.mk ((by rw [hg]; exact (Zo (by repeat (first | (with_reducible first | exact HB.out | apply Zh | apply Zk | apply Zg) | exact HB.out))) : w.heap.size ≤ gb196)); clear HB; have HB := n0_; have BK196 := n1_; have GW196 := n2_; have GE196 := n3_; clear n0_ n1_ n2_ n3_; clear hb hbox hg; have hcz14_0 : w13.cell? ⟨gb196, 0, none⟩ = some (.int .i64 a0_0) := (Zc BK196.out 0).trans rfl; have hcz14_1 : w13.cell? ⟨gb196, 1, none⟩ = some (.int .i64 a0_1) := (Zc BK196.out 1).trans rfl; have hcz14_2 : w13.cell? ⟨gb196, 2, none⟩ = some (.int .i64 a0_2) := (Zc BK196.out 2).trans rfl; have hcz14_3 : w13.cell? ⟨gb196, 3, none⟩ = some (.slice A0_3 l0_3.length c0_3) := (Zc BK196.out 3).trans rfl; have hfz14_0 := Zd BK196.out 0; have hfz14_1 := Zd BK196.out 1; have hfz14_2 := Zd BK196.out 2; have hfz14_3 := Zd BK196.out 3) | ((with_reducible refine Zp1 (f := 15) rfl ?_); refine goesL_ (some 6) rfl rfl Try.func15 (by kernel_rfl) rfl #[.agg #[.int .i64 a0_0, .int .i64 a0_1, .int .i64 a0_2, .slice A0_3 l0_3.length c0_3]] rfl (by (try simp only [List.map_toArray, List.map_cons, List.map_nil]); first | done | rfl | (simp only [List.length_drop, List.length_take]; rfl)) ?_; (with_reducible refine (Za1.calls k a0_0 a0_1 a0_2 _ _ l0_3 t197 _ ?side1 ?side2 A2.out).mono ?_); (case side1 => repeat (first | exact (Kd.C_below HR0_3.out HB.out) | (with_reducible refine Kd.C_alloc ?_ _) | (with_reducible refine Kd.C_drewN ?_ _) | (with_reducible refine Kd.C_drew ?_))); (case side2 => exact HC0_3.out); rintro e w15 ⟨rfl, hb⟩; refine ⟨_, rfl, ?_⟩; have n0_ := Za.mk (Zp (g := gb196) (o := .cells #[.int .i64 a0_0, .int .i64 a0_1, .int .i64 a0_2, .slice A0_3 l0_3.length c0_3] 24 (0, 0)) (by (with_reducible repeat (first | refine Zj ?_ _ | refine Zf ?_ | refine Zi ?_ _)); exact BK196.out) hb); have n1_ := Za.mk (Zr (by repeat (first | (with_reducible first | exact HB.out | apply Zh | apply Zk | apply Zg | refine Ze ?_ GE196.out) | exact HB.out)) hb); clear BK196; clear HB; have BK196 := n0_; have HB := n1_; clear n0_ n1_; (try clear hb); (try clear hb2); (try clear hk); (try clear hi)))
    go_ret2
    exact ⟨by first | rfl | (simp [Zu, Zt] <;> rfl) | (simp [*, Zu, Zt] <;> rfl), by repeat (first | (with_reducible first | exact HB.out | apply Zh | apply Zk | apply Zg | refine Ze ?_ GE196.out) | exact HB.out)⟩
def Zy.l0 : Nat → Int → List Int → Int → Int → Option (Bool)
  | 0, _, _, _, _ => none
  | k + 1, x1, x7, x8, x9 => if x9 < x8 then (if 0 ≤ x9 then (if x9 < (x7.length : Int) then (if x1 = (rd x7 x9) then (some true) else (Zy.l0 k x1 x7 x8 (wrap64 (x9 + 1)))) else (none)) else (none)) else (some false)
def Zy.f (k : Nat) (l0 : List Int) (a1 : Int) : Option (Bool) := Zy.l0 k a1 l0 (l0.length : Int) 0
theorem Zy.mono_l : ∀ k, (∀ y0 y1 y2 y3, LeO (Zy.l0 k y0 y1 y2 y3) (Zy.l0 (k + 1) y0 y1 y2 y3))
  | 0 => fun _ _ _ _ r h => by simp [Zy.l0] at h
  | k + 1 => by
    have ih0 := Zy.mono_l k
    · intro y0 y1 y2 y3
      unfold Zy.l0
      repeat' first
      | (with_reducible exact ih0 _ _ _ _)
      | (with_reducible exact LeO.refl _)
      | (with_reducible exact LeO.none _)
      | (with_reducible refine LeO.ite ?_ ?_)
      | (with_reducible refine LeO.bind ?_ (fun _ => ?_))
      | exact ih0 _ _ _ _
      | exact LeO.none _
      | refine LeO.ite ?_ ?_
      | refine LeO.bind ?_ (fun _ => ?_)
theorem Zy.mono : ∀ a0 a1 k, LeO (Zy.f k a0 a1) (Zy.f (k + 1) a0 a1) := by
  intro a0 a1 k
  have ih0 := Zy.mono_l k
  unfold Zy.f
  repeat' first
      | (with_reducible exact ih0 _ _ _ _)
      | (with_reducible exact LeO.refl _)
      | (with_reducible exact LeO.none _)
      | (with_reducible refine LeO.ite ?_ ?_)
      | (with_reducible refine LeO.bind ?_ (fun _ => ?_))
      | exact ih0 _ _ _ _
      | exact LeO.none _
      | refine LeO.ite ?_ ?_
      | refine LeO.bind ?_ (fun _ => ?_)
set_option maxHeartbeats 8000000 in
set_option maxRecDepth 100000 in
theorem Zy.calls (k : Nat) (A0 : Option Addr) (c0 : Nat) (l0 : List Int) (a1 : Int) (r : Bool) (w : World) (hr0 : Kd.C (Kd.int .i64) w A0 l0.length l0) (hc0 : l0.length ≤ c0) (h : Zy.f k l0 a1 = some r) :
    Calls Try.prog 46 #[.slice A0 l0.length c0, .int .i64 a1] w fun e w' => e = .returned (.bool r) ∧ Drawn0 w w' := by
  have HR0 := Za.mk hr0
  have HC0 := Za.mk hc0
  clear hr0 hc0
  have H : (Zy.l0 k a1 l0 (l0.length : Int) 0) = some r := h
  clear h
  have H' := Za.mk H
  clear H
  go_enter Try.func46, Try.ntmps46
  go_wp2
  go_loopg [9] k (fun kq v9 w' => ∃ (x9_1 : Int), v9 = .int .i64 x9_1 ∧ Za (Zy.l0 kq a1 l0 (l0.length : Int) x9_1 = some r) ∧ Za (kq ≤ k) ∧ Drawn0 w w')
  case atStart => exact ⟨(0), (by first | rfl | (simp; done) | (simp [*]; done)), H', ⟨Nat.le_refl _⟩, by repeat (first | exact Drawn0.refl _ | apply Drawn0.step)⟩
  case round =>
    clear H'
    try clear p2
    obtain ⟨x9_1, rfl, HA, HK1, ⟨m1, rfl⟩⟩ := hrel
    cases gk with
    | zero => exact absurd HA.out (by simp [Zy.l0])
    | succ k1 =>
      have H := HA.out
      clear HA
      simp only [Zy.l0] at H
      by_cases c3 : x9_1 < (l0.length : Int)
      · rw [if_pos c3] at H
        have c3b0 : decide (x9_1 < (l0.length : Int)) = true := decide_eq_true c3
        clear c3
        by_cases c4 : 0 ≤ x9_1
        · rw [if_pos c4] at H
          have c4b0 : decide (0 ≤ x9_1) = true := decide_eq_true c4
          clear c4
          by_cases c5 : x9_1 < (l0.length : Int)
          · rw [if_pos c5] at H
            have c5b0 : decide (x9_1 < (l0.length : Int)) = true := decide_eq_true c5
            clear c5
            by_cases c6 : a1 = (rd l0 x9_1)
            · rw [if_pos c6] at H
              have c6b0 : (a1 == (rd l0 x9_1)) = true := beq_iff_eq.mpr c6
              have c6b1 : (a1 != (rd l0 x9_1)) = false := bne_eq_false_iff_eq.mpr c6
              clear c6
              obtain rfl := Option.some.inj H
              have p202 : 0 ≤ (x9_1 : Int) := of_decide_eq_true (by assumption)
              have q202 : x9_1 < (l0.length : Int) := of_decide_eq_true (by assumption)
              obtain ⟨ad202, e202, hx202_0⟩ := Kd.at_int HR0.out x9_1 p202 q202
              cases e202
              replace p202 := eq_true p202
              replace q202 := eq_true q202
              go_wp2
              go_ret
              exact ⟨by first | rfl | (simp; done) | (simp [*]; done), by repeat (first | exact Drawn0.refl _ | apply Drawn0.step)⟩
            · rw [if_neg c6] at H
              have c6b0 : (a1 == (rd l0 x9_1)) = false := beq_eq_false_iff_ne.mpr c6
              have c6b1 : (a1 != (rd l0 x9_1)) = true := bne_iff_ne.mpr c6
              have H' := Za.mk H
              clear H
              have p202 : 0 ≤ (x9_1 : Int) := of_decide_eq_true (by assumption)
              have q202 : x9_1 < (l0.length : Int) := of_decide_eq_true (by assumption)
              obtain ⟨ad202, e202, hx202_0⟩ := Kd.at_int HR0.out x9_1 p202 q202
              cases e202
              replace p202 := eq_true p202
              replace q202 := eq_true q202
              go_wp2
              go_roundg k1
              case measure => have := HK1.out; omega
              case rel => exact ⟨(wrap64 (x9_1 + 1)), (by first | rfl | (simp; done) | (simp [*]; done)), H', ⟨by have := HK1.out; omega⟩, by repeat (first | exact Drawn0.refl _ | apply Drawn0.step)⟩
          · rw [if_neg c5] at H
            exact absurd H (by simp)
        · rw [if_neg c4] at H
          exact absurd H (by simp)
      · rw [if_neg c3] at H
        have c3b0 : decide (x9_1 < (l0.length : Int)) = false := decide_eq_false c3
        clear c3
        obtain rfl := Option.some.inj H
        go_wp2
        go_ret
        exact ⟨by first | rfl | (simp; done) | (simp [*]; done), by repeat (first | exact Drawn0.refl _ | apply Drawn0.step)⟩
end Go.Proofs.Ytnjfcbhbebokeaa.PAheadClears
