import Derived.Test.YtnppgmbhdomelaaPTableTreesx11
namespace Go.Proofs.Ytnppgmbhdomelaa.PTableTrees
open Go.RowKit Go.Proofs.YtnppgmbhdomelaaW.PrintWords Go.Proofs.YtnppgmbhdomelaaW.PrintLast Go.Proofs.YtnppgmbhdomelaaW.PrintMore
attribute [local go_sem] max2_int min2_int max_two min_two max_three min_three max_four min_four
set_option linter.unusedVariables false
set_option linter.unusedSimpArgs false
theorem info3_ : (Try.prog.info? 3).map (fun i => (i.zero, i.size, i.bytes)) = some (some (.int .i64 0), 1, 8) := by kernel_rfl
set_option maxHeartbeats 16000000 in
set_option maxRecDepth 100000 in
theorem row_calls (w0 : World) (gc gm : Nat) (K N St : Int) (A0 : Option Addr) (c0 : Nat) (A1 : Option Addr) (c1 : Nat) (rules : List S45) (ws : List Int) (hC : Kd.C k45 w0 A0 rules.length rules) (hc : rules.length ≤ c0) (hW : Kd.C (Kd.int .i64) w0 A1 ws.length ws) (hw : ws.length ≤ c1) :
    ∀ (k : Nat), RowC w0 gc gm K N St A0 rules.length c0 A1 ws.length c1 (rowF K rules ws k) := by
  have huC := Try.underlying41
  have huG := Try.underlying24
  have huL := Try.underlying25
  have hu3 := Try.underlying3
  intro k
  induction k with
  | zero => intro As cs signs i j m W p _ _ _ h; simp [rowF] at h
  | succ k ih =>
    intro As cs signs i j m W p hst hcs0 hcs h
    have HS := Aside0.mk hcs
    have HST := Aside0.mk hst
    have HCS := Aside0.mk hcs0
    simp only [rowF] at h
    by_cases q0 : signs.length < 1000000
    case neg => rw [if_neg q0] at h; cases h
    rw [if_pos q0] at h
    have HLN := Aside0.mk q0
    clear hcs q0 hst hcs0
    obtain ⟨dd, hdd⟩ : ∃ l_, wrap64 (j - i) = l_ := ⟨_, rfl⟩
    rw [hdd] at h
    have hdd2 : IntKind.i64.wrap (j - i) = dd := (i64_w _).trans hdd
    by_cases c1_ : (signs.length : Int) > dd
    · rw [if_pos c1_] at h
      cases h
      have c1b : decide ((signs.length : Int) > dd) = true := decide_eq_true c1_
      have c1c : decide (dd < (signs.length : Int)) = true := decide_eq_true c1_
      clear c1_
      go_enter Try.func15, Try.ntmps15
      go_wp2
      repeat (go_quiet (fail); try go_wp2)
      go_ret
      exact ⟨by first | rfl | (simp; done) | (simp [*]; done), by first | exact HS.out | exact HS.out.drewN _, by first | exact Km.refl _ _ | exact (Km.refl _ _).drewN _⟩
    rw [if_neg c1_] at h
    have c1b : decide ((signs.length : Int) > dd) = false := decide_eq_false c1_
    have c1c : decide (dd < (signs.length : Int)) = false := decide_eq_false c1_
    clear c1_
    by_cases c2 : (signs.length : Int) = 0
    · have c2b : ((signs.length : Int) == 0) = true := beq_iff_eq.mpr c2
      rw [if_pos c2] at h
      have c2c := eq_true (show signs.length = 0 by omega)
      have c2d := eq_true (show signs = [] from List.length_eq_zero_iff.1 (by omega))
      by_cases c3 : i = j
      · have c3b : (i == j) = true := beq_iff_eq.mpr c3
        rw [if_pos c3] at h
        cases h
        clear c2 c3
        go_enter Try.func15, Try.ntmps15
        go_wp2
        repeat (go_quiet (fail); try go_wp2)
        go_ret
        exact ⟨by first | rfl | (simp; done) | (simp [*]; done), by first | exact HS.out | exact HS.out.drewN _, by first | exact Km.refl _ _ | exact (Km.refl _ _).drewN _⟩
      · have c3b : (i == j) = false := beq_eq_false_iff_ne.mpr c3
        rw [if_neg c3] at h
        cases h
        clear c2 c3
        go_enter Try.func15, Try.ntmps15
        go_wp2
        repeat (go_quiet (fail); try go_wp2)
        go_ret
        exact ⟨by first | rfl | (simp; done) | (simp [*]; done), by first | exact HS.out | exact HS.out.drewN _, by first | exact Km.refl _ _ | exact (Km.refl _ _).drewN _⟩
    rw [if_neg c2] at h
    have c2b : ((signs.length : Int) == 0) = false := beq_eq_false_iff_ne.mpr c2
    obtain ⟨ad, e1, hs0⟩ := Kd.at_int HST.out 0 (by omega) (by omega)
    subst e1
    rw [Int.toNat_zero, Addr.add_zero'] at hs0
    have HS0 := Aside0.mk hs0
    have HNE := Aside0.mk (show 0 < signs.length by omega)
    have l0b := eq_true (show (0 : Int) < (signs.length : Int) by omega)
    have l0c := eq_true (show 0 < signs.length by omega)
    have l0d := eq_false (show ¬ signs.length = 0 by omega)
    have l0e := eq_false (show ¬ signs = [] by intro e; rw [e] at c2; exact c2 rfl)
    clear c2 hs0
    by_cases c4 : (signs.length : Int) = 1
    · have c4b : ((signs.length : Int) == 1) = true := beq_iff_eq.mpr c4
      have c4c := eq_true (show signs.length = 1 by omega)
      rw [if_pos c4] at h
      have HH := Aside0.mk h
      have hx := (HS.out.hb.cell (World.block_lt_of_cell? w0 _ HS0.out)).trans HS0.out
      clear c4 h
      generalize rd signs 0 = rx at *
      go_enter Try.func15, Try.ntmps15
      go_wp2_with (fail)
      (refine (trees_calls w0 gc gm K N St A0 c0 A1 c1 rules ws hC hc hW hw (rowF K rules ws k) ih rx i j m W p HS.out HH.out).mono ?_; rintro e w3 ⟨rfl, hs3, hk3⟩; have HS3 := Aside0.mk hs3; have HK3 := Aside0.mk hk3; clear HS hs3 hk3 hx)
      go_wp2
      go_ret
      exact ⟨by first | rfl | (simp; done) | (simp [*]; done), HS3.out, HK3.out⟩
    rw [if_neg c4] at h
    have c4b : ((signs.length : Int) == 1) = false := beq_eq_false_iff_ne.mpr c4
    have c4c := eq_false (show ¬ signs.length = 1 by omega)
    have HH := Aside0.mk h
    clear c4 h
    -- the cut
    obtain ⟨i0, hi, _, hsz, _⟩ := info_parts info3_
    have hcut := cut_from (P := Try.prog) 25 3 .i64 Try.underlying25 hi 1 hsz (some ad) signs.length cs 1 (by omega) (by have := HNE.out; omega)
    have hdr := Kd.C_drop (m := 1) (c := cs) HST.out (by have := HNE.out; omega) HCS.out
    obtain ⟨As1, hA1⟩ : ∃ q, q = (if cs = 1 then some ad else (some ad : Option Addr).map (·.add (1 * 1))) := ⟨_, rfl⟩
    obtain ⟨cs1, hc1⟩ : ∃ q, q = cs - 1 := ⟨_, rfl⟩
    have hdl : (signs.drop 1).length = signs.length - 1 := List.length_drop
    rw [show (1 : Int).toNat = 1 from rfl, ← hdl, ← hA1, ← hc1] at hcut
    have HSD := Aside0.mk (show Kd.C (Kd.int .i64) w0 As1 (signs.drop 1).length (signs.drop 1) by rw [hA1]; exact hdr)
    have HCD := Aside0.mk (show (signs.drop 1).length ≤ cs1 by have := HCS.out; omega)
    have hone := eq_true (show (1 : Int) ≤ (signs.length : Int) by have := HNE.out; omega)
    clear hdr hi hsz hA1 hc1 hdl
    obtain ⟨st1, hst1⟩ : ∃ q, q = signs.drop 1 := ⟨_, rfl⟩
    rw [← hst1] at hcut HSD HCD
    have HT1 := Aside0.mk hst1
    clear hst1
    go_enter Try.func15, Try.ntmps15
    go_wp2
    go_loopg [9, 10] ((j - i).toNat + 2) (fun kq v9 v10 w' => ∃ (sum mid : Int) (mq : PM3), v9 = .int .i64 sum ∧ v10 = .int .i64 mid ∧ Aside0 (BS w0 gc gm K N St A0 rules.length c0 A1 ws.length c1 mq w') ∧ Aside0 (Km gm W w') ∧ Aside0 (rowL k (rowF K rules ws k) (treesF (rowF K rules ws k) K rules ws) signs i j kq mid sum mq = some p))
    case atStart => exact ⟨0, _, m, rfl, by first | rfl | (simp; done), by first | exact HS | exact ⟨HS.out.drewN _⟩, by first | exact ⟨Km.refl _ _⟩ | exact ⟨(Km.refl _ _).drewN _⟩, HH⟩
    case round =>
      clear HS HH
      obtain ⟨sum, mid, mq, rfl, rfl, HSq, HKq, HH2⟩ := hrel
      have hh := HH2.out
      cases gk with
      | zero => simp [rowL] at hh
      | succ k1 =>
        simp only [rowL] at hh
        by_cases d2 : mid < j
        · rw [if_pos d2] at hh
          have d2b : decide (mid < j) = true := decide_eq_true d2
          clear d2
          obtain ⟨p1, hp1, hh⟩ := Option.bind_eq_some_iff.1 hh
          have HP1 := Aside0.mk hp1
          rw [← HT1.out] at HP1
          by_cases d4 : p1.1 > 0
          · rw [if_pos d4] at hh
            have d4b : decide (p1.1 > 0) = true := decide_eq_true d4
            have d4c : decide (0 < p1.1) = true := decide_eq_true d4
            obtain ⟨p2, hp2, hh⟩ := Option.bind_eq_some_iff.1 hh
            obtain ⟨tt, htt, hh⟩ := Option.bind_eq_some_iff.1 hh
            have HP2 := Aside0.mk hp2
            have HTT := Aside0.mk htt
            obtain ⟨st, hst⟩ : ∃ z_, wrap64 (sum + tt) = z_ := ⟨_, rfl⟩
            rw [hst] at hh
            have hz := Aside0.mk hh
            clear hh
            have hst2 : IntKind.i64.wrap (sum + tt) = st := (i64_w _).trans hst
            have HX := Aside0.mk HS0.out
            clear hp1 hp2 htt d4 HH2
            generalize rd signs 0 = rx at *
            have hh := hz.out
            clear hz
            by_cases d5 : st > 1099511627776
            · have d5b : decide (st > 1099511627776) = true := decide_eq_true d5
              have d5c : decide (1099511627776 < st) = true := decide_eq_true d5
              rw [if_pos d5] at hh
              have HH := Aside0.mk hh
              clear hh d5
              go_wp2_with (fail)
              (refine (ih As1 cs1 st1 mid j mq wr p1 HSD.out HCD.out HSq.out HP1.out).mono ?_; rintro e w3 ⟨rfl, hs3, hk3⟩; have HS3 := Aside0.mk hs3; have HK3 := Aside0.mk (HKq.out.trans hk3); clear HSq HKq hs3 hk3; have hx3 := (HS3.out.hb.cell (World.block_lt_of_cell? w0 _ HX.out)).trans HX.out)
              go_wp2_with (fail)
              (refine (trees_calls w0 gc gm K N St A0 c0 A1 c1 rules ws hC hc hW hw (rowF K rules ws k) ih rx i mid p1.2 w3 p2 HS3.out HP2.out).mono ?_; rintro e w4 ⟨rfl, hs4, hk4⟩; have HS4 := Aside0.mk hs4; have HK4 := Aside0.mk (HK3.out.trans hk4); clear HS3 HK3 hs4 hk4 hx3)
              go_wp2_with (fail)
              (refine (coppicerref_capped.calls k p2.1 p1.1 tt w4 HTT.out).mono ?_; rintro e w5 ⟨rfl, hd5⟩; have HS5 := Aside0.mk (HS4.out.below hd5.below); have HK5 := Aside0.mk (HK4.out.trans (Km.below hd5.below)); clear HS4 HK4 hd5)
              go_wp2
              go_roundg k1
              case measure => omega
              case rel => exact ⟨1099511627777, _, p2.2, by first | rfl | (simp; done), by first | rfl | (simp; done), HS5, HK5, HH⟩
            · have d5b : decide (st > 1099511627776) = false := decide_eq_false d5
              have d5c : decide (1099511627776 < st) = false := decide_eq_false d5
              rw [if_neg d5] at hh
              have HH := Aside0.mk hh
              clear hh d5
              go_wp2_with (fail)
              (refine (ih As1 cs1 st1 mid j mq wr p1 HSD.out HCD.out HSq.out HP1.out).mono ?_; rintro e w3 ⟨rfl, hs3, hk3⟩; have HS3 := Aside0.mk hs3; have HK3 := Aside0.mk (HKq.out.trans hk3); clear HSq HKq hs3 hk3; have hx3 := (HS3.out.hb.cell (World.block_lt_of_cell? w0 _ HX.out)).trans HX.out)
              go_wp2_with (fail)
              (refine (trees_calls w0 gc gm K N St A0 c0 A1 c1 rules ws hC hc hW hw (rowF K rules ws k) ih rx i mid p1.2 w3 p2 HS3.out HP2.out).mono ?_; rintro e w4 ⟨rfl, hs4, hk4⟩; have HS4 := Aside0.mk hs4; have HK4 := Aside0.mk (HK3.out.trans hk4); clear HS3 HK3 hs4 hk4 hx3)
              go_wp2_with (fail)
              (refine (coppicerref_capped.calls k p2.1 p1.1 tt w4 HTT.out).mono ?_; rintro e w5 ⟨rfl, hd5⟩; have HS5 := Aside0.mk (HS4.out.below hd5.below); have HK5 := Aside0.mk (HK4.out.trans (Km.below hd5.below)); clear HS4 HK4 hd5)
              go_wp2
              go_roundg k1
              case measure => omega
              case rel => exact ⟨st, _, p2.2, by first | rfl | (simp; done), by first | rfl | (simp; done), HS5, HK5, HH⟩
          · rw [if_neg d4] at hh
            have d4b : decide (p1.1 > 0) = false := decide_eq_false d4
            have d4c : decide (0 < p1.1) = false := decide_eq_false d4
            clear hp1 d4 HH2
            by_cases d5 : sum > 1099511627776
            · have d5b : decide (sum > 1099511627776) = true := decide_eq_true d5
              have d5c : decide (1099511627776 < sum) = true := decide_eq_true d5
              rw [if_pos d5] at hh
              have HH := Aside0.mk hh
              clear hh d5
              go_wp2_with (fail)
              (refine (ih As1 cs1 st1 mid j mq wr p1 HSD.out HCD.out HSq.out HP1.out).mono ?_; rintro e w3 ⟨rfl, hs3, hk3⟩; have HS3 := Aside0.mk hs3; have HK3 := Aside0.mk (HKq.out.trans hk3); clear HSq HKq hs3 hk3)
              go_wp2
              go_roundg k1
              case measure => omega
              case rel => exact ⟨1099511627777, _, p1.2, by first | rfl | (simp; done), by first | rfl | (simp; done), HS3, HK3, HH⟩
            · have d5b : decide (sum > 1099511627776) = false := decide_eq_false d5
              have d5c : decide (1099511627776 < sum) = false := decide_eq_false d5
              rw [if_neg d5] at hh
              have HH := Aside0.mk hh
              clear hh d5
              go_wp2_with (fail)
              (refine (ih As1 cs1 st1 mid j mq wr p1 HSD.out HCD.out HSq.out HP1.out).mono ?_; rintro e w3 ⟨rfl, hs3, hk3⟩; have HS3 := Aside0.mk hs3; have HK3 := Aside0.mk (HKq.out.trans hk3); clear HSq HKq hs3 hk3)
              go_wp2
              go_roundg k1
              case measure => omega
              case rel => exact ⟨sum, _, p1.2, by first | rfl | (simp; done), by first | rfl | (simp; done), HS3, HK3, HH⟩
        · rw [if_neg d2] at hh
          have d2b : decide (mid < j) = false := decide_eq_false d2
          cases hh
          clear d2 HH2
          go_wp2
          go_ret
          exact ⟨by first | rfl | (simp; done) | (simp [*]; done), HSq.out, HKq.out⟩
end Go.Proofs.Ytnppgmbhdomelaa.PTableTrees
