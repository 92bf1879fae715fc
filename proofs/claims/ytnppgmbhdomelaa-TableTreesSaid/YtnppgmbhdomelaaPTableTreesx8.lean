import Derived.Test.YtnppgmbhdomelaaPTableTreesx7
namespace Go.Proofs.Ytnppgmbhdomelaa.PTableTrees
open Go.RowKit Go.Proofs.YtnppgmbhdomelaaW.PrintWords Go.Proofs.YtnppgmbhdomelaaW.PrintLast Go.Proofs.YtnppgmbhdomelaaW.PrintMore
attribute [local go_sem] max2_int min2_int max_two min_two max_three min_three max_four min_four
set_option linter.unusedVariables false
set_option linter.unusedSimpArgs false
/-- What a call of Rest is told to do. -/
def RestC (w0 : World) (gc gm : Nat) (K N St : Int) (A0 : Option Addr) (n0 c0 : Nat) (A1 : Option Addr) (n1 c1 : Nat) (R : Int → Int → Int → Int → PM4 → Option (Int × PM4)) : Prop :=
  ∀ (rule dot i j : Int) (m : PM4) (W : World) (p : Int × PM4), CS w0 gc gm K N St A0 n0 c0 A1 n1 c1 m W → R rule dot i j m = some p →
    Calls Try.prog 18 #[.pointer (some ⟨gc, 0, none⟩), .int .i64 rule, .int .i64 dot, .int .i64 i, .int .i64 j] W (RestP w0 gc gm K N St A0 n0 c0 A1 n1 c1 W p)
set_option maxHeartbeats 16000000 in
set_option maxRecDepth 100000 in
theorem sign_calls (w0 : World) (gc gm : Nat) (K N St : Int) (A0 : Option Addr) (c0 : Nat) (A1 : Option Addr) (c1 : Nat) (rules : List S45) (ws : List Int) (hC : Kd.C k45 w0 A0 rules.length rules) (hc : rules.length ≤ c0) (hW : Kd.C (Kd.int .i64) w0 A1 ws.length ws) (hw : ws.length ≤ c1) (R : Int → Int → Int → Int → PM4 → Option (Int × PM4)) (hR : RestC w0 gc gm K N St A0 rules.length c0 A1 ws.length c1 R) :
    ∀ (x i j : Int) (m : PM4) (W : World) (p : Int × PM4), CS w0 gc gm K N St A0 rules.length c0 A1 ws.length c1 m W → sgnF R K rules ws x i j m = some p →
    Calls Try.prog 11 #[.pointer (some ⟨gc, 0, none⟩), .int .i64 x, .int .i64 i, .int .i64 j] W (RestP w0 gc gm K N St A0 rules.length c0 A1 ws.length c1 W p) := by
  have huC := Try.underlying49
  have huG := Try.underlying24
  have huR := Try.underlying45
  have huRs := Try.underlying22
  have huL := Try.underlying25
  have hu3 := Try.underlying3
  intro x i j m W p hcs h
  have HS := Aside0.mk hcs
  have HRC := Aside0.mk hR
  have HCC := Aside0.mk hC
  have hk0 : W.cell? ⟨gc, 0, none⟩ = some (.int .i64 K) := (blk_cell HS.out.kc 0).trans rfl
  clear hcs hR
  unfold sgnF at h
  by_cases c1_ : x < K
  · rw [if_pos c1_] at h
    have c1b : decide (x < K) = true := decide_eq_true c1_
    clear c1_
    obtain ⟨i1, hi1⟩ : ∃ l_, wrap64 (i + 1) = l_ := ⟨_, rfl⟩
    have hi2 : IntKind.i64.wrap (i + 1) = i1 := (i64_w _).trans hi1
    rw [hi1] at h
    by_cases c2 : j = i1
    · rw [if_pos c2] at h
      have c2b : (j == i1) = true := beq_iff_eq.mpr c2
      by_cases c3 : 0 ≤ i
      case neg => rw [if_neg c3] at h; cases h
      rw [if_pos c3] at h
      by_cases c4 : i < (ws.length : Int)
      case neg => rw [if_neg c4] at h; cases h
      rw [if_pos c4] at h
      obtain ⟨ad, e1, hx⟩ := Kd.at_int hW i c3 c4
      subst e1
      have hx2 := (HS.out.hb.cell (World.block_lt_of_cell? w0 _ hx)).trans hx
      have hk4 : W.cell? ⟨gc, 4, none⟩ = some (.slice (some ad) ws.length c1) := (blk_cell HS.out.kc 4).trans rfl
      have c3b := eq_true c3
      have c4b := eq_true c4
      clear hx c2 c3 c4
      generalize hrx : rd ws i = y at *
      by_cases c5 : y = x
      · rw [if_pos c5] at h
        cases h
        have c5b : (y == x) = true := beq_iff_eq.mpr c5
        clear c5 hrx
        go_enter Try.func11, Try.ntmps11
        go_wp2
        repeat (go_quiet (fail); try go_wp2)
        go_ret
        exact ⟨by first | rfl | (simp; done) | (simp [*]; done), by first | exact HS.out | exact HS.out.drewN _, by first | exact Km.refl _ _ | exact (Km.refl _ _).drewN _⟩
      · rw [if_neg c5] at h
        cases h
        have c5b : (y == x) = false := beq_eq_false_iff_ne.mpr c5
        clear c5 hrx
        go_enter Try.func11, Try.ntmps11
        go_wp2
        repeat (go_quiet (fail); try go_wp2)
        go_ret
        exact ⟨by first | rfl | (simp; done) | (simp [*]; done), by first | exact HS.out | exact HS.out.drewN _, by first | exact Km.refl _ _ | exact (Km.refl _ _).drewN _⟩
    · rw [if_neg c2] at h
      cases h
      have c2b : (j == i1) = false := beq_eq_false_iff_ne.mpr c2
      clear c2
      go_enter Try.func11, Try.ntmps11
      go_wp2
      repeat (go_quiet (fail); try go_wp2)
      go_ret
      exact ⟨by first | rfl | (simp; done) | (simp [*]; done), by first | exact HS.out | exact HS.out.drewN _, by first | exact Km.refl _ _ | exact (Km.refl _ _).drewN _⟩
  rw [if_neg c1_] at h
  have c1b : decide (x < K) = false := decide_eq_false c1_
  clear c1_
  by_cases c2 : rules.length < 1000000
  case neg => rw [if_neg c2] at h; cases h
  rw [if_pos c2] at h
  have HLN := Aside0.mk c2
  obtain ⟨y, hy⟩ : ∃ l_, wrap64 (x - K) = l_ := ⟨_, rfl⟩
  have hy2 : IntKind.i64.wrap (x - K) = y := (i64_w _).trans hy
  rw [hy] at h
  have HH := Aside0.mk h
  have hk3 : W.cell? ⟨gc, 3, none⟩ = some (.slice A0 rules.length c0) := (blk_cell HS.out.kc 3).trans rfl
  clear c2 h
  go_enter Try.func11, Try.ntmps11
  go_wp2
  go_loopg [9, 40] (rules.length + 1) (fun kq v9 v40 w' => ∃ (q : Nat) (sum : Int) (mq : PM4), v9 = .int .i64 sum ∧ v40 = .int .i64 (q : Int) ∧ Aside0 (q ≤ rules.length ∧ rules.length < kq + q) ∧ Aside0 (CS w0 gc gm K N St A0 rules.length c0 A1 ws.length c1 mq w') ∧ Aside0 (Km gm W w') ∧ Aside0 (sgnL R y i j (rules.drop q) (q : Int) sum mq = some p))
  case atStart => exact ⟨0, 0, m, rfl, rfl, ⟨by omega⟩, by first | exact HS | exact ⟨HS.out.drewN _⟩, by first | exact ⟨Km.refl _ _⟩ | exact ⟨(Km.refl _ _).drewN _⟩, HH⟩
  case round =>
    obtain ⟨q, sum, mq, rfl, rfl, HQ, HSq, HKq, HH2⟩ := hrel
    clear HS HH hk0 hk3
    by_cases c4 : q < rules.length
    · have c4b0 : decide ((q : Int) < (rules.length : Int)) = true := decide_eq_true (by omega)
      have c4b1 := eq_true (show (q : Int) < (rules.length : Int) by omega)
      have c4b2 := eq_true (show q < rules.length from c4)
      have C4 := Aside0.mk c4
      obtain ⟨ar, Ar, cr, e1, hx0, hx1, hl1, hi1⟩ := at_T45 hC (q : Int) (by omega) (by omega)
      have HX0 := Aside0.mk hx0
      have HX1 := Aside0.mk hx1
      have hh := HH2.out
      have edr : rules.drop q = rd_T45 rules (q : Int) :: rules.drop (q + 1) := by
        have e : rd_T45 rules (q : Int) = rules[q] := by simp [rd_T45, List.getD_eq_getElem?_getD, List.getElem?_eq_getElem c4]
        rw [e, List.drop_eq_getElem_cons c4]
      rw [edr] at hh
      simp only [sgnL] at hh
      have hz0 := (HSq.out.hb.cell (World.block_lt_of_cell? w0 _ hx0)).trans hx0
      have hz1 := (HSq.out.hb.cell (World.block_lt_of_cell? w0 _ hx1)).trans hx1
      subst e1
      clear HH2 edr c4 hx0 hx1 hl1 hi1
      rw [Int.toNat_natCast] at hz0 hz1
      generalize (rd_T45 rules (q : Int)).f0 = lf at *
      generalize (rd_T45 rules (q : Int)).f1 = lr at *
      cases gk with
      | zero => exact absurd HQ.out (by have := C4.out; omega)
      | succ k1 =>
        have ew : wrap64 ((q : Int) + 1) = ((q + 1 : Nat) : Int) := by have := C4.out; have := HLN.out; unfold wrap64; omega
        have HH2 := Aside0.mk hh
        clear hh
        go_wp2_with (first | ((with_reducible refine gate_dst (N := 11) rfl ?_); refine box_event ?hg (N := 11) ?hd (cs := #[.int .i64 0, .slice none 0 0]) (t := 45) ?hr ?_; (case hd => rfl); (case hg => rfl); (case hr => first | (go_simp; done) | (go_simp; rfl)); intro gb hg w1 hbox hb; have HS1 := Aside0.mk (HSq.out.below hb); have HK1 := Aside0.mk (HKq.out.trans (Km.below (gm := gm) hb)); have GB := Aside0.mk ((by rw [hg]; exact HKq.out.size) : W.heap.size ≤ gb); have GB0 := Aside0.mk ((by rw [hg]; exact HSq.out.hb.size) : w0.heap.size ≤ gb); have BK := Aside0.mk hbox; clear hb hbox hg hz0 hz1; have hz0 : w1.cell? ⟨gb, 0, none⟩ = some (.int .i64 0) := (blk_cell BK.out 0).trans rfl; have hz1 : w1.cell? ⟨gb, 1, none⟩ = some (.slice none 0 0) := (blk_cell BK.out 1).trans rfl; have hf0 := blk_frozen BK.out 0; have hf1 := blk_frozen BK.out 1))
        obtain ⟨w2, hw2⟩ : ∃ w_, ((w1.setCell { block := gb, off := 0 } (Value.int IntKind.i64 lf)).setCell { block := gb, off := 1 } (Value.slice Ar lr.length cr)) = w_ := ⟨_, rfl⟩
        rw [hw2]
        have b1 := blk_put BK.out 0 (.int .i64 lf) rfl
        have b2 := blk_put b1 1 (.slice Ar lr.length cr) rfl
        have HS2 := Aside0.mk ((HS1.out.set BK.out (by decide) GB0.out 0 (.int .i64 lf)).set b1 (by decide) GB0.out 1 (.slice Ar lr.length cr))
        have HK2 := Aside0.mk ((HK1.out.set GB.out 0 (.int .i64 lf)).set GB.out 1 (.slice Ar lr.length cr))
        have BK2 := Aside0.mk b2
        rw [hw2] at HS2 HK2 BK2
        clear b1 b2 hw2 BK HSq HKq HS1 HK1 hz0 hz1 hf0 hf1
        have hk0 : w2.cell? ⟨gc, 0, none⟩ = some (.int .i64 K) := (blk_cell HS2.out.kc 0).trans rfl
        have hy0 : w2.cell? ⟨gb, 0, none⟩ = some (.int .i64 lf) := (blk_cell BK2.out 0).trans rfl
        by_cases c5 : lf = y
        · have c5b : (lf == y) = true := beq_iff_eq.mpr c5
          have hh := HH2.out
          rw [if_pos c5] at hh
          obtain ⟨r, hr, hh⟩ := Option.bind_eq_some_iff.1 hh
          have HR := Aside0.mk hr
          have HH := Aside0.mk hh
          clear c5 hr hh HH2
          go_quiet (fail)
          go_wp2_with (fail)
          (refine (HRC.out (q : Int) 0 i j mq (w2.drewN nq) r (HS2.out.drewN _) HR.out).mono ?_; rintro e w3 ⟨rfl, hs3, hk3⟩; have HS3 := Aside0.mk hs3; have HK3 := Aside0.mk ((HK2.out.drewN nq).trans hk3); clear HS2 HK2 BK2 hk0 hy0 hs3 hk3)
          go_wp2
          try rw [ew]
          go_roundg k1
          case measure => omega
          case rel => exact ⟨q + 1, _, r.2, by first | rfl | (simp; done), by first | rfl | (rw [ew]; done) | rw [ew], ⟨by have := HQ.out; have := C4.out; omega⟩, HS3, HK3, HH⟩
        · have c5b : (lf == y) = false := beq_eq_false_iff_ne.mpr c5
          have hh := HH2.out
          rw [if_neg c5] at hh
          have HH := Aside0.mk hh
          clear c5 hh HH2
          go_quiet (fail)
          go_wp2
          try rw [ew]
          go_roundg k1
          case measure => omega
          case rel => exact ⟨q + 1, sum, mq, rfl, by first | rfl | (rw [ew]; done) | rw [ew], ⟨by have := HQ.out; have := C4.out; omega⟩, ⟨HS2.out.drewN _⟩, ⟨HK2.out.drewN _⟩, HH⟩
    · have hq : q = rules.length := by have := HQ.out; omega
      subst hq
      have c4b0 : decide ((rules.length : Int) < (rules.length : Int)) = false := decide_eq_false (by omega)
      have hh := HH2.out
      rw [List.drop_length] at hh
      simp only [sgnL] at hh
      obtain ⟨mm, hmm⟩ : ∃ z_, mn sum 1099511627777 = z_ := ⟨_, rfl⟩
      have hmn : (if 1099511627777 < sum then (1099511627777 : Int) else sum) = mm := hmm
      rw [hmm] at hh
      cases hh
      clear HH2 c4 hmm
      go_wp2
      go_ret
      exact ⟨by first | rfl | (simp; done) | (simp [*]; done), HSq.out, HKq.out⟩
end Go.Proofs.Ytnppgmbhdomelaa.PTableTrees
