import Derived.Test.YtnppgmbhdomelaaPTableTreesx10
namespace Go.Proofs.Ytnppgmbhdomelaa.PTableTrees
open Go.RowKit Go.Proofs.YtnppgmbhdomelaaW.PrintWords Go.Proofs.YtnppgmbhdomelaaW.PrintLast Go.Proofs.YtnppgmbhdomelaaW.PrintMore
attribute [local go_sem] max2_int min2_int max_two min_two max_three min_three max_four min_four
set_option linter.unusedVariables false
set_option linter.unusedSimpArgs false
set_option maxHeartbeats 16000000 in
set_option maxRecDepth 100000 in
theorem trees_calls (w0 : World) (gc gm : Nat) (K N St : Int) (A0 : Option Addr) (c0 : Nat) (A1 : Option Addr) (c1 : Nat) (rules : List S45) (ws : List Int) (hC : Kd.C k45 w0 A0 rules.length rules) (hc : rules.length ≤ c0) (hW : Kd.C (Kd.int .i64) w0 A1 ws.length ws) (hw : ws.length ≤ c1) (R : List Int → Int → Int → PM3 → Option (Int × PM3)) (hR : RowC w0 gc gm K N St A0 rules.length c0 A1 ws.length c1 R) :
    ∀ (x i j : Int) (m : PM3) (W : World) (p : Int × PM3), BS w0 gc gm K N St A0 rules.length c0 A1 ws.length c1 m W → treesF R K rules ws x i j m = some p →
    Calls Try.prog 7 #[.pointer (some ⟨gc, 0, none⟩), .int .i64 x, .int .i64 i, .int .i64 j] W (BushP w0 gc gm K N St A0 rules.length c0 A1 ws.length c1 W p) := by
  have huC := Try.underlying41
  have huG := Try.underlying24
  have huR := Try.underlying45
  have huRs := Try.underlying22
  have huL := Try.underlying25
  have huA := Try.underlying43
  have huN := Try.underlying39
  have hu3 := Try.underlying3
  intro x i j m W p hcs h
  have HS := Aside0.mk hcs
  have HRC := Aside0.mk hR
  have HCC := Aside0.mk hC
  have hk0 : W.cell? ⟨gc, 0, none⟩ = some (.int .i64 K) := (blk_cell HS.out.kc 0).trans rfl
  clear hcs hR
  unfold treesF at h
  by_cases c1_ : x < K
  · rw [if_pos c1_] at h
    have c1b : decide (x < K) = true := decide_eq_true c1_
    clear c1_
    obtain ⟨i1, hi1⟩ : ∃ l_, wrap64 (i + 1) = l_ := ⟨_, rfl⟩
    have hi2 : IntKind.i64.wrap (i + 1) = i1 := (i64_w _).trans hi1
    rw [hi1] at h
    by_cases c2 : j = i1
    · rw [if_pos c2] at h
      have c2b : (j == i1) = true := beq_iff_eq.mpr c2
      by_cases c3 : 0 ≤ i
      case neg => rw [if_neg c3] at h; cases h
      rw [if_pos c3] at h
      by_cases c4 : i < (ws.length : Int)
      case neg => rw [if_neg c4] at h; cases h
      rw [if_pos c4] at h
      obtain ⟨ad, e1, hx⟩ := Kd.at_int hW i c3 c4
      subst e1
      have hx2 := (HS.out.hb.cell (World.block_lt_of_cell? w0 _ hx)).trans hx
      have hk4 : W.cell? ⟨gc, 4, none⟩ = some (.slice (some ad) ws.length c1) := (blk_cell HS.out.kc 4).trans rfl
      have c3b := eq_true c3
      have c4b := eq_true c4
      clear hx c2 c3 c4
      generalize hrx : rd ws i = y at *
      by_cases c5 : y = x
      · rw [if_pos c5] at h
        cases h
        have c5b : (y == x) = true := beq_iff_eq.mpr c5
        clear c5 hrx
        go_enter Try.func7, Try.ntmps7
        go_wp2
        repeat (go_quiet (fail); try go_wp2)
        go_ret
        exact ⟨by first | rfl | (simp; done) | (simp [*]; done), by first | exact HS.out | exact HS.out.drewN _, by first | exact Km.refl _ _ | exact (Km.refl _ _).drewN _⟩
      · rw [if_neg c5] at h
        cases h
        have c5b : (y == x) = false := beq_eq_false_iff_ne.mpr c5
        clear c5 hrx
        go_enter Try.func7, Try.ntmps7
        go_wp2
        repeat (go_quiet (fail); try go_wp2)
        go_ret
        exact ⟨by first | rfl | (simp; done) | (simp [*]; done), by first | exact HS.out | exact HS.out.drewN _, by first | exact Km.refl _ _ | exact (Km.refl _ _).drewN _⟩
    · rw [if_neg c2] at h
      cases h
      have c2b : (j == i1) = false := beq_eq_false_iff_ne.mpr c2
      clear c2
      go_enter Try.func7, Try.ntmps7
      go_wp2
      repeat (go_quiet (fail); try go_wp2)
      go_ret
      exact ⟨by first | rfl | (simp; done) | (simp [*]; done), by first | exact HS.out | exact HS.out.drewN _, by first | exact Km.refl _ _ | exact (Km.refl _ _).drewN _⟩
  rw [if_neg c1_] at h
  have c1b : decide (x < K) = false := decide_eq_false c1_
  clear c1_
  by_cases c6 : i = j
  · rw [if_pos c6] at h
    cases h
    have c6b : (i == j) = true := beq_iff_eq.mpr c6
    clear c6
    go_enter Try.func7, Try.ntmps7
    go_wp2
    repeat (go_quiet (fail); try go_wp2)
    go_ret
    exact ⟨by first | rfl | (simp; done) | (simp [*]; done), by first | exact HS.out | exact HS.out.drewN _, by first | exact Km.refl _ _ | exact (Km.refl _ _).drewN _⟩
  rw [if_neg c6] at h
  have c6b : (i == j) = false := beq_eq_false_iff_ne.mpr c6
  clear c6
  by_cases c7 : (Lit.int .i64 x).wf = true ∧ (Lit.int .i64 i).wf = true ∧ (Lit.int .i64 j).wf = true
  case neg => rw [if_neg c7] at h; cases h
  rw [if_pos c7] at h
  have W1 := Aside0.mk c7.1
  have W2 := Aside0.mk c7.2.1
  have W3 := Aside0.mk c7.2.2
  clear c7
  have hk5 : W.cell? ⟨gc, 5, none⟩ = some (.map (some gm)) := (blk_cell HS.out.kc 5).trans rfl
  have hlk : (Instr.lookup 39 (.map (some gm)) (.agg #[.int .i64 x, .int .i64 i, .int .i64 j]) true).run Try.prog W = .ok (.tuple #[.int .i64 ((lkM3 m (x, i, j)).getD 0), .bool (lkM3 m (x, i, j)).isSome]) W := HS.out.km.run_get W1.out W2.out W3.out
  cases clk : lkM3 m (x, i, j) with
  | some v =>
    rw [clk] at hlk h
    simp only [Option.getD_some, Option.isSome_some] at hlk h
    cases h
    clear clk
    go_enter Try.func7, Try.ntmps7
    go_wp2
    repeat (go_quiet (fail); try go_wp2)
    go_ret
    exact ⟨by first | rfl | (simp; done) | (simp [*]; done), by first | exact HS.out | exact HS.out.drewN _, by first | exact Km.refl _ _ | exact (Km.refl _ _).drewN _⟩
  | none =>
  rw [clk] at hlk h
  simp only [Option.getD_none, Option.isSome_none] at hlk h
  clear clk
  by_cases c2 : rules.length < 1000000
  case neg => rw [if_neg c2] at h; cases h
  rw [if_pos c2] at h
  have HLN := Aside0.mk c2
  obtain ⟨y, hy⟩ : ∃ l_, wrap64 (x - K) = l_ := ⟨_, rfl⟩
  have hy2 : IntKind.i64.wrap (x - K) = y := (i64_w _).trans hy
  rw [hy] at h
  obtain ⟨pp, hpp, h⟩ := Option.bind_eq_some_iff.1 h
  have HH := Aside0.mk hpp
  have HF := Aside0.mk h
  have hk3 : W.cell? ⟨gc, 3, none⟩ = some (.slice A0 rules.length c0) := (blk_cell HS.out.kc 3).trans rfl
  clear c2 h hpp
  go_enter Try.func7, Try.ntmps7
  go_wp2
  clear hlk hk5
  go_loopg [9, 58] (rules.length + 1) (fun kq v9 v58 w' => ∃ (q : Nat) (sum : Int) (mq : PM3), v9 = .int .i64 sum ∧ v58 = .int .i64 (q : Int) ∧ Aside0 (q ≤ rules.length ∧ rules.length < kq + q) ∧ Aside0 (BS w0 gc gm K N St A0 rules.length c0 A1 ws.length c1 mq w') ∧ Aside0 (Km gm W w') ∧ Aside0 (treesL R y i j (rules.drop q) sum mq = some pp))
  case atStart => exact ⟨0, 0, m, rfl, rfl, ⟨by omega⟩, by first | exact HS | exact ⟨HS.out.drewN _⟩, by first | exact ⟨Km.refl _ _⟩ | exact ⟨(Km.refl _ _).drewN _⟩, HH⟩
  case round =>
    obtain ⟨q, sum, mq, rfl, rfl, HQ, HSq, HKq, HH2⟩ := hrel
    clear HS HH hk0 hk3
    by_cases c4 : q < rules.length
    · have c4b0 : decide ((q : Int) < (rules.length : Int)) = true := decide_eq_true (by omega)
      have c4b1 := eq_true (show (q : Int) < (rules.length : Int) by omega)
      have c4b2 := eq_true (show q < rules.length from c4)
      have C4 := Aside0.mk c4
      obtain ⟨ar, Ar, cr, e1, hx0, hx1, hl1, hi1⟩ := at_T45 hC (q : Int) (by omega) (by omega)
      have HX0 := Aside0.mk hx0
      have HX1 := Aside0.mk hx1
      have hh := HH2.out
      have edr : rules.drop q = rd_T45 rules (q : Int) :: rules.drop (q + 1) := by
        have e : rd_T45 rules (q : Int) = rules[q] := by simp [rd_T45, List.getD_eq_getElem?_getD, List.getElem?_eq_getElem c4]
        rw [e, List.drop_eq_getElem_cons c4]
      rw [edr] at hh
      simp only [treesL] at hh
      have hz0 := (HSq.out.hb.cell (World.block_lt_of_cell? w0 _ hx0)).trans hx0
      have hz1 := (HSq.out.hb.cell (World.block_lt_of_cell? w0 _ hx1)).trans hx1
      subst e1
      have HI := Aside0.mk hi1
      have HL := Aside0.mk hl1
      clear HH2 edr c4 hx0 hx1 hl1 hi1
      rw [Int.toNat_natCast] at hz0 hz1
      generalize (rd_T45 rules (q : Int)).f0 = lf at *
      generalize (rd_T45 rules (q : Int)).f1 = lr at *
      cases gk with
      | zero => exact absurd HQ.out (by have := C4.out; omega)
      | succ k1 =>
        have ew : wrap64 ((q : Int) + 1) = ((q + 1 : Nat) : Int) := by have := C4.out; have := HLN.out; unfold wrap64; omega
        have HH2 := Aside0.mk hh
        clear hh
        go_wp2_with (first | ((with_reducible refine gate_dst (N := 12) rfl ?_); refine box_event ?hg (N := 12) ?hd (cs := #[.int .i64 0, .slice none 0 0]) (t := 45) ?hr ?_; (case hd => rfl); (case hg => rfl); (case hr => first | (go_simp; done) | (go_simp; rfl)); intro gb hg w1 hbox hb; have HS1 := Aside0.mk (HSq.out.below hb); have HK1 := Aside0.mk (HKq.out.trans (Km.below (gm := gm) hb)); have GB := Aside0.mk ((by rw [hg]; exact HKq.out.size) : W.heap.size ≤ gb); have GB0 := Aside0.mk ((by rw [hg]; exact HSq.out.hb.size) : w0.heap.size ≤ gb); have BK := Aside0.mk hbox; clear hb hbox hg hz0 hz1; have hz0 : w1.cell? ⟨gb, 0, none⟩ = some (.int .i64 0) := (blk_cell BK.out 0).trans rfl; have hz1 : w1.cell? ⟨gb, 1, none⟩ = some (.slice none 0 0) := (blk_cell BK.out 1).trans rfl; have hf0 := blk_frozen BK.out 0; have hf1 := blk_frozen BK.out 1))
        obtain ⟨w2, hw2⟩ : ∃ w_, ((w1.setCell { block := gb, off := 0 } (Value.int IntKind.i64 lf)).setCell { block := gb, off := 1 } (Value.slice Ar lr.length cr)) = w_ := ⟨_, rfl⟩
        rw [hw2]
        have b1 := blk_put BK.out 0 (.int .i64 lf) rfl
        have b2 := blk_put b1 1 (.slice Ar lr.length cr) rfl
        have HS2 := Aside0.mk ((HS1.out.set BK.out (by decide) GB0.out 0 (.int .i64 lf)).set b1 (by decide) GB0.out 1 (.slice Ar lr.length cr))
        have HK2 := Aside0.mk ((HK1.out.set GB.out 0 (.int .i64 lf)).set GB.out 1 (.slice Ar lr.length cr))
        have BK2 := Aside0.mk b2
        rw [hw2] at HS2 HK2 BK2
        clear b1 b2 hw2 BK HSq HKq HS1 HK1 hz0 hz1 hf0 hf1
        have hk0 : w2.cell? ⟨gc, 0, none⟩ = some (.int .i64 K) := (blk_cell HS2.out.kc 0).trans rfl
        have hy0 : w2.cell? ⟨gb, 0, none⟩ = some (.int .i64 lf) := (blk_cell BK2.out 0).trans rfl
        by_cases c5 : lf = y
        · have c5b : (lf == y) = true := beq_iff_eq.mpr c5
          have hh := HH2.out
          rw [if_pos c5] at hh
          obtain ⟨r, hr, hh⟩ := Option.bind_eq_some_iff.1 hh
          have HR := Aside0.mk hr
          have HH := Aside0.mk hh
          have hy1 : w2.cell? ⟨gb, 1, none⟩ = some (.slice Ar lr.length cr) := (blk_cell BK2.out 1).trans rfl
          clear c5 hr hh HH2
          go_quiet (fail)
          go_wp2_with (fail)
          (refine (HRC.out Ar cr lr i j mq (w2.drewN nq) r HI.out HL.out (HS2.out.drewN _) HR.out).mono ?_; rintro e w3 ⟨rfl, hs3, hk3⟩; have HS3 := Aside0.mk hs3; have HK3 := Aside0.mk ((HK2.out.drewN nq).trans hk3); clear HS2 HK2 BK2 hk0 hy0 hy1 hs3 hk3)
          go_wp2
          try rw [ew]
          go_roundg k1
          case measure => omega
          case rel => exact ⟨q + 1, _, r.2, by first | rfl | (simp; done), by first | rfl | (rw [ew]; done) | rw [ew], ⟨by have := HQ.out; have := C4.out; omega⟩, HS3, HK3, HH⟩
        · have c5b : (lf == y) = false := beq_eq_false_iff_ne.mpr c5
          have hh := HH2.out
          rw [if_neg c5] at hh
          have HH := Aside0.mk hh
          clear c5 hh HH2
          go_quiet (fail)
          go_wp2
          try rw [ew]
          go_roundg k1
          case measure => omega
          case rel => exact ⟨q + 1, sum, mq, rfl, by first | rfl | (rw [ew]; done) | rw [ew], ⟨by have := HQ.out; have := C4.out; omega⟩, ⟨HS2.out.drewN _⟩, ⟨HK2.out.drewN _⟩, HH⟩
    · have hq : q = rules.length := by have := HQ.out; omega
      subst hq
      have c4b0 : decide ((rules.length : Int) < (rules.length : Int)) = false := decide_eq_false (by omega)
      have hh := HH2.out
      rw [List.drop_length] at hh
      simp only [treesL] at hh
      obtain rfl := Option.some.inj hh
      have hf := HF.out
      clear HH2 c4 hh HF
      have hk5 : wr.cell? ⟨gc, 5, none⟩ = some (.map (some gm)) := (blk_cell HSq.out.kc 5).trans rfl
      by_cases d1 : sum > 1099511627776
      · simp only [if_pos d1] at hf
        have d1b : decide (sum > 1099511627776) = true := decide_eq_true d1
        have d1c : decide (1099511627776 < sum) = true := decide_eq_true d1
        by_cases d2 : mq.length < 1000000 ∧ (Lit.int .i64 1099511627777).wf = true
        case neg => rw [if_neg d2] at hf; cases hf
        rw [if_pos d2] at hf
        obtain rfl := Option.some.inj hf
        have E1 := Aside0.mk d2.1
        have E2 := Aside0.mk d2.2
        clear d1 d2 hf
        go_wp2_with (first | ((with_reducible refine gate_mapUpdate rfl ?_); refine mapM3_put rfl _ _ _ (.inl rfl) ?hm HSq.out.km E1.out x i j 1099511627777 ?hx ?hv W1.out W2.out W3.out E2.out ?_; (case hm => first | rfl | (go_simp; done) | (go_simp; rfl)); (case hx => first | rfl | (go_simp; done) | (go_simp; rfl)); (case hv => first | rfl | (go_simp; done) | (go_simp; rfl)); intro w3 hM3 hg3; have HS9 := Aside0.mk (HSq.out.put hM3 hg3); have HK9 := Aside0.mk (HKq.out.grown hg3); clear HSq HKq hM3 hg3 hk5))
        go_ret
        exact ⟨by first | rfl | (simp; done) | (simp [*]; done), HS9.out, HK9.out⟩
      · simp only [if_neg d1] at hf
        have d1b : decide (sum > 1099511627776) = false := decide_eq_false d1
        have d1c : decide (1099511627776 < sum) = false := decide_eq_false d1
        by_cases d2 : mq.length < 1000000 ∧ (Lit.int .i64 sum).wf = true
        case neg => rw [if_neg d2] at hf; cases hf
        rw [if_pos d2] at hf
        obtain rfl := Option.some.inj hf
        have E1 := Aside0.mk d2.1
        have E2 := Aside0.mk d2.2
        clear d1 d2 hf
        go_wp2_with (first | ((with_reducible refine gate_mapUpdate rfl ?_); refine mapM3_put rfl _ _ _ (.inl rfl) ?hm HSq.out.km E1.out x i j sum ?hx ?hv W1.out W2.out W3.out E2.out ?_; (case hm => first | rfl | (go_simp; done) | (go_simp; rfl)); (case hx => first | rfl | (go_simp; done) | (go_simp; rfl)); (case hv => first | rfl | (go_simp; done) | (go_simp; rfl)); intro w3 hM3 hg3; have HS9 := Aside0.mk (HSq.out.put hM3 hg3); have HK9 := Aside0.mk (HKq.out.grown hg3); clear HSq HKq hM3 hg3 hk5))
        go_ret
        exact ⟨by first | rfl | (simp; done) | (simp [*]; done), HS9.out, HK9.out⟩
end Go.Proofs.Ytnppgmbhdomelaa.PTableTrees
