import Derived.Test.YtnppgmbhdomelaaPTableTreesx8
namespace Go.Proofs.Ytnppgmbhdomelaa.PTableTrees
open Go.RowKit Go.Proofs.YtnppgmbhdomelaaW.PrintWords Go.Proofs.YtnppgmbhdomelaaW.PrintLast Go.Proofs.YtnppgmbhdomelaaW.PrintMore
attribute [local go_sem] max2_int min2_int max_two min_two max_three min_three max_four min_four
set_option linter.unusedVariables false
set_option linter.unusedSimpArgs false
set_option maxHeartbeats 16000000 in
set_option maxRecDepth 100000 in
theorem rest_calls (w0 : World) (gc gm : Nat) (K N St : Int) (A0 : Option Addr) (c0 : Nat) (A1 : Option Addr) (c1 : Nat) (rules : List S45) (ws : List Int) (hC : Kd.C k45 w0 A0 rules.length rules) (hc : rules.length ≤ c0) (hW : Kd.C (Kd.int .i64) w0 A1 ws.length ws) (hw : ws.length ≤ c1) :
    ∀ (k : Nat) (rule dot i j : Int) (m : PM4) (W : World) (p : Int × PM4), CS w0 gc gm K N St A0 rules.length c0 A1 ws.length c1 m W → cntF K rules ws k rule dot i j m = some p →
    Calls Try.prog 18 #[.pointer (some ⟨gc, 0, none⟩), .int .i64 rule, .int .i64 dot, .int .i64 i, .int .i64 j] W (RestP w0 gc gm K N St A0 rules.length c0 A1 ws.length c1 W p) := by
  have huC := Try.underlying49
  have huG := Try.underlying24
  have huR := Try.underlying45
  have huRs := Try.underlying22
  have huL := Try.underlying25
  have huK := Try.underlying57
  have huM := Try.underlying47
  have hu3 := Try.underlying3
  intro k
  induction k with
  | zero => intro rule dot i j m W p _ h; simp [cntF] at h
  | succ k ih =>
    intro rule dot i j m W p hcs h
    have HS := Aside0.mk hcs
    simp only [cntF] at h
    by_cases q1 : 0 ≤ rule
    case neg => rw [if_neg q1] at h; cases h
    rw [if_pos q1] at h
    by_cases q2 : rule < (rules.length : Int)
    case neg => rw [if_neg q2] at h; cases h
    rw [if_pos q2] at h
    obtain ⟨ar, Ar, cr, e1, hx0, hx1, hl1, hi1⟩ := at_T45 hC rule q1 q2
    subst e1
    have HI := Aside0.mk hi1
    have HL := Aside0.mk hl1
    have q1b := eq_true q1
    have q2b := eq_true q2
    have hz1 := (HS.out.hb.cell (World.block_lt_of_cell? w0 _ hx1)).trans hx1
    have hk3 : W.cell? ⟨gc, 3, none⟩ = some (.slice (some ar) rules.length c0) := (blk_cell HS.out.kc 3).trans rfl
    clear hi1 hl1 q1 q2 hcs hx0 hx1
    generalize hright : (rd_T45 rules rule).f1 = right at *
    obtain ⟨left, hleft⟩ : ∃ l_, wrap64 ((right.length : Int) - dot) = l_ := ⟨_, rfl⟩
    obtain ⟨dd, hdd⟩ : ∃ l_, wrap64 (j - i) = l_ := ⟨_, rfl⟩
    rw [hleft, hdd] at h
    have hleft2 : IntKind.i64.wrap ((right.length : Int) - dot) = left := (i64_w _).trans hleft
    have hdd2 : IntKind.i64.wrap (j - i) = dd := (i64_w _).trans hdd
    have HRT := Aside0.mk hright
    clear hright
    by_cases c1_ : left > dd
    · rw [if_pos c1_] at h
      have c1b : decide (left > dd) = true := decide_eq_true c1_
      have c1c : decide (dd < left) = true := decide_eq_true c1_
      clear c1_
      by_cases c2 : left = 0
      · have c2b : (left == 0) = true := beq_iff_eq.mpr c2
        by_cases c3 : i = j
        · have c3b : (i == j) = true := beq_iff_eq.mpr c3
          rw [if_pos ⟨c2, c3⟩] at h
          cases h
          clear c2 c3
          go_enter Try.func18, Try.ntmps18
          go_wp2
          repeat (go_quiet (fail); try go_wp2)
          go_ret
          exact ⟨by first | rfl | (simp; done) | (simp [*]; done), by first | exact HS.out | exact HS.out.drewN _, by first | exact Km.refl _ _ | exact (Km.refl _ _).drewN _⟩
        · have c3b : (i == j) = false := beq_eq_false_iff_ne.mpr c3
          rw [if_neg (fun q => c3 q.2)] at h
          cases h
          clear c2 c3
          go_enter Try.func18, Try.ntmps18
          go_wp2
          repeat (go_quiet (fail); try go_wp2)
          go_ret
          exact ⟨by first | rfl | (simp; done) | (simp [*]; done), by first | exact HS.out | exact HS.out.drewN _, by first | exact Km.refl _ _ | exact (Km.refl _ _).drewN _⟩
      · have c2b : (left == 0) = false := beq_eq_false_iff_ne.mpr c2
        rw [if_neg (fun q => c2 q.1)] at h
        cases h
        clear c2
        go_enter Try.func18, Try.ntmps18
        go_wp2
        repeat (go_quiet (fail); try go_wp2)
        go_ret
        exact ⟨by first | rfl | (simp; done) | (simp [*]; done), by first | exact HS.out | exact HS.out.drewN _, by first | exact Km.refl _ _ | exact (Km.refl _ _).drewN _⟩
    rw [if_neg c1_] at h
    have c1b : decide (left > dd) = false := decide_eq_false c1_
    have c1c : decide (dd < left) = false := decide_eq_false c1_
    by_cases c2 : left = 0
    · have c2b : (left == 0) = true := beq_iff_eq.mpr c2
      rw [if_pos c2] at h
      by_cases c3 : i = j
      · have c3b : (i == j) = true := beq_iff_eq.mpr c3
        rw [if_pos c3] at h
        cases h
        clear c1_ c2 c3
        go_enter Try.func18, Try.ntmps18
        go_wp2
        repeat (go_quiet (fail); try go_wp2)
        go_ret
        exact ⟨by first | rfl | (simp; done) | (simp [*]; done), by first | exact HS.out | exact HS.out.drewN _, by first | exact Km.refl _ _ | exact (Km.refl _ _).drewN _⟩
      · have c3b : (i == j) = false := beq_eq_false_iff_ne.mpr c3
        rw [if_neg c3] at h
        cases h
        clear c1_ c2 c3
        go_enter Try.func18, Try.ntmps18
        go_wp2
        repeat (go_quiet (fail); try go_wp2)
        go_ret
        exact ⟨by first | rfl | (simp; done) | (simp [*]; done), by first | exact HS.out | exact HS.out.drewN _, by first | exact Km.refl _ _ | exact (Km.refl _ _).drewN _⟩
    rw [if_neg c2] at h
    have c2b : (left == 0) = false := beq_eq_false_iff_ne.mpr c2
    by_cases c4 : (Lit.int .i64 rule).wf = true ∧ (Lit.int .i64 dot).wf = true ∧ (Lit.int .i64 i).wf = true ∧ (Lit.int .i64 j).wf = true
    case neg => rw [if_neg c4] at h; cases h
    rw [if_pos c4] at h
    have W1 := Aside0.mk c4.1
    have W2 := Aside0.mk c4.2.1
    have W3 := Aside0.mk c4.2.2.1
    have W4 := Aside0.mk c4.2.2.2
    have HLK := Aside0.mk h
    clear c1_ c2 c4 h
    go_enter Try.func18, Try.ntmps18
    go_wp2_with (first | ((with_reducible refine gate_dst (N := 13) rfl ?_); refine box_event ?hg (N := 13) ?hd (cs := #[.int .i64 0, .int .i64 0, .int .i64 0, .int .i64 0]) (t := 57) ?hr ?_; (case hd => rfl); (case hg => rfl); (case hr => first | (go_simp; done) | (go_simp; rfl)); intro gx hg w1 hbox hb; have HS1 := Aside0.mk (HS.out.below hb); have HK1 := Aside0.mk (Km.below (gm := gm) hb); have GK := Aside0.mk ((by rw [hg]; exact Nat.le_refl _) : W.heap.size ≤ gx); have BK := Aside0.mk hbox; clear hb hbox hg hk3 hz1; have hz0 : w1.cell? ⟨gx, 0, none⟩ = some (.int .i64 0) := (blk_cell BK.out 0).trans rfl; have hz1 : w1.cell? ⟨gx, 1, none⟩ = some (.int .i64 0) := (blk_cell BK.out 1).trans rfl; have hz2 : w1.cell? ⟨gx, 2, none⟩ = some (.int .i64 0) := (blk_cell BK.out 2).trans rfl; have hz3 : w1.cell? ⟨gx, 3, none⟩ = some (.int .i64 0) := (blk_cell BK.out 3).trans rfl; have hf0 := blk_frozen BK.out 0; have hf1 := blk_frozen BK.out 1; have hf2 := blk_frozen BK.out 2; have hf3 := blk_frozen BK.out 3))
    obtain ⟨w2, hw2⟩ : ∃ w_, ((((w1.setCell { block := gx, off := 0 } (Value.int IntKind.i64 rule)).setCell { block := gx, off := 1 } (Value.int IntKind.i64 dot)).setCell { block := gx, off := 2 } (Value.int IntKind.i64 i)).setCell { block := gx, off := 3 } (Value.int IntKind.i64 j)) = w_ := ⟨_, rfl⟩
    rw [hw2]
    have GK0 := Aside0.mk (Nat.le_trans HS.out.hb.size GK.out)
    have b1 := blk_put BK.out 0 (.int .i64 rule) rfl
    have b2 := blk_put b1 1 (.int .i64 dot) rfl
    have b3 := blk_put b2 2 (.int .i64 i) rfl
    have b4 := blk_put b3 3 (.int .i64 j) rfl
    have HS2 := Aside0.mk ((((HS1.out.set BK.out (by decide) GK0.out 0 (.int .i64 rule)).set b1 (by decide) GK0.out 1 (.int .i64 dot)).set b2 (by decide) GK0.out 2 (.int .i64 i)).set b3 (by decide) GK0.out 3 (.int .i64 j))
    have HK2 := Aside0.mk ((((HK1.out.set GK.out 0 (.int .i64 rule)).set GK.out 1 (.int .i64 dot)).set GK.out 2 (.int .i64 i)).set GK.out 3 (.int .i64 j))
    have BK2 := Aside0.mk b4
    rw [hw2] at HS2 HK2 BK2
    clear b1 b2 b3 b4 hw2 BK HS HS1 HK1 hz0 hz1 hz2 hz3 hf0 hf1 hf2 hf3
    have hk5 : w2.cell? ⟨gc, 5, none⟩ = some (.map (some gm)) := (blk_cell HS2.out.kc 5).trans rfl
    have hy0 : w2.cell? ⟨gx, 0, none⟩ = some (.int .i64 rule) := (blk_cell BK2.out 0).trans rfl
    have hy1 : w2.cell? ⟨gx, 1, none⟩ = some (.int .i64 dot) := (blk_cell BK2.out 1).trans rfl
    have hy2 : w2.cell? ⟨gx, 2, none⟩ = some (.int .i64 i) := (blk_cell BK2.out 2).trans rfl
    have hy3 : w2.cell? ⟨gx, 3, none⟩ = some (.int .i64 j) := (blk_cell BK2.out 3).trans rfl
    have hlk : ∀ n, (Instr.lookup 47 (.map (some gm)) (.agg #[.int .i64 rule, .int .i64 dot, .int .i64 i, .int .i64 j]) true).run Try.prog (w2.drewN n) = .ok (.tuple #[.int .i64 ((lkM4 m (rule, dot, i, j)).getD 0), .bool (lkM4 m (rule, dot, i, j)).isSome]) (w2.drewN n) := fun n => (HS2.out.drewN n).km.run_get W1.out W2.out W3.out W4.out
    have HLK2 := HLK.out
    cases clk : lkM4 m (rule, dot, i, j) with
    | some v =>
      rw [clk] at hlk HLK2
      simp only [Option.getD_some, Option.isSome_some] at hlk HLK2
      cases HLK2
      clear HLK clk
      go_quiet (fail)
      try go_wp2
      go_ret
      exact ⟨by first | rfl | (simp; done) | (simp [*]; done), by first | exact HS2.out | exact HS2.out.drewN _, by first | exact HK2.out | exact HK2.out.drewN _⟩
    | none =>
      rw [clk] at hlk HLK2
      simp only [Option.getD_none, Option.isSome_none] at hlk HLK2
      obtain ⟨r, hr, h⟩ := Option.bind_eq_some_iff.1 HLK2
      have HR := Aside0.mk hr
      have HH := Aside0.mk h
      clear HLK HLK2 clk hr h
      go_quiet (fail)
      try go_wp2
      obtain ⟨a1, ha1⟩ : ∃ l_, wrap64 (j - left) = l_ := ⟨_, rfl⟩
      have ha1b : IntKind.i64.wrap (j - left) = a1 := (i64_w _).trans ha1
      obtain ⟨a2, ha2⟩ : ∃ l_, wrap64 (a1 + 1) = l_ := ⟨_, rfl⟩
      have ha2b : IntKind.i64.wrap (a1 + 1) = a2 := (i64_w _).trans ha2
      obtain ⟨d1, hd1⟩ : ∃ l_, wrap64 (dot + 1) = l_ := ⟨_, rfl⟩
      have hd1b : IntKind.i64.wrap (dot + 1) = d1 := (i64_w _).trans hd1
      have HR2 := Aside0.mk HR.out
      clear HR hk5 hy0 hy1 hy2 hy3 hlk
      go_loopg [16, 17] ((j - i).toNat + 2) (fun kq v16 v17 w' => ∃ (sum mid : Int) (mq : PM4), v16 = .int .i64 sum ∧ v17 = .int .i64 mid ∧ Aside0 (CS w0 gc gm K N St (some ar) rules.length c0 A1 ws.length c1 mq w') ∧ Aside0 (Km gm W w') ∧ Aside0 (w'.heap[gx]? = some (.cells #[.int .i64 rule, .int .i64 dot, .int .i64 i, .int .i64 j] 57 (0, 0))) ∧ Aside0 (cntL (cntF K rules ws k) (sgnF (cntF K rules ws k) K rules ws) right rule dot i j left kq mid sum mq = some r))
      case atStart => exact ⟨0, _, m, rfl, by first | rfl | (simp; done), by first | exact ⟨HS2.out.drewN _⟩ | exact HS2, by first | exact ⟨HK2.out.drewN _⟩ | exact HK2, by first | exact BK2 | exact ⟨BK2.out⟩, HR2⟩
      case round =>
        clear HS2 HK2 BK2 HR2
        obtain ⟨sum, mid, mq, rfl, rfl, HSq, HKq, BKq, HH2⟩ := hrel
        have hh := HH2.out
        cases gk with
        | zero => simp [cntL] at hh
        | succ k1 =>
          simp only [cntL] at hh
          rw [ha1, ha2, hd1] at hh
          by_cases d2 : mid ≤ a2
          · rw [if_pos d2] at hh
            have d2b : decide (mid ≤ a2) = true := decide_eq_true d2
            clear d2
            by_cases d3 : left = 1
            · have d3b : (left == 1) = true := beq_iff_eq.mpr d3
              by_cases d3c : mid < j
              · have d3d : decide (mid < j) = true := decide_eq_true d3c
                rw [if_pos ⟨d3, d3c⟩] at hh
                have HH := Aside0.mk hh
                clear d3 d3c hh HH2
                go_wp2
                go_roundg k1
                case measure => omega
                case rel => exact ⟨sum, _, mq, rfl, by first | rfl | (simp; done), HSq, HKq, BKq, HH⟩
              · have d3d : decide (mid < j) = false := decide_eq_false d3c
                rw [if_neg (fun q => d3c q.2)] at hh
                clear d3 d3c
                obtain ⟨p1, hp1, hh⟩ := Option.bind_eq_some_iff.1 hh
                have HP1 := Aside0.mk hp1
                by_cases d4 : p1.1 > 0
                · rw [if_pos d4] at hh
                  have d4b : decide (p1.1 > 0) = true := decide_eq_true d4
                  have d4c : decide (0 < p1.1) = true := decide_eq_true d4
                  by_cases d5 : 0 ≤ dot
                  case neg => rw [if_neg d5] at hh; cases hh
                  rw [if_pos d5] at hh
                  by_cases d6 : dot < (right.length : Int)
                  case neg => rw [if_neg d6] at hh; cases hh
                  rw [if_pos d6] at hh
                  obtain ⟨ad, e1, hx⟩ := Kd.at_int HI.out dot d5 d6
                  have HX := Aside0.mk hx
                  subst e1
                  have d5b := eq_true d5
                  have d6b := eq_true d6
                  obtain ⟨p2, hp2, hh⟩ := Option.bind_eq_some_iff.1 hh
                  obtain ⟨tt, htt, hh⟩ := Option.bind_eq_some_iff.1 hh
                  have HP2 := Aside0.mk hp2
                  have HTT := Aside0.mk htt
                  obtain ⟨mm, hmm⟩ : ∃ z_, mn (wrap64 (sum + tt)) 1099511627777 = z_ := ⟨_, rfl⟩
                  rw [hmm] at hh
                  obtain ⟨st, hst⟩ : ∃ z_, wrap64 (sum + tt) = z_ := ⟨_, rfl⟩
                  rw [hst] at hmm
                  have hst2 : IntKind.i64.wrap (sum + tt) = st := (i64_w _).trans hst
                  have hmn : (if 1099511627777 < st then (1099511627777 : Int) else st) = mm := hmm
                  have HH := Aside0.mk hh
                  clear hp1 hp2 htt d4 d5 d6 hx hmm hh HH2
                  generalize hrd : rd right dot = rx at *
                  clear hrd
                  go_wp2_with (fail)
                  (refine (ih rule d1 mid j mq wr p1 HSq.out HP1.out).mono ?_; rintro e w3 ⟨rfl, hs3, hk3⟩; have HS3 := Aside0.mk hs3; have HK3 := Aside0.mk (HKq.out.trans hk3); have BK3 := Aside0.mk ((hk3.blk gx (blk_lt BKq.out) (fun e => by have hq := BKq.out; obtain ⟨es, cl, hm⟩ := HSq.out.km.isMap; rw [e, hm] at hq; cases hq)).trans BKq.out); clear HSq HKq BKq hs3 hk3; have hx3 := (HS3.out.hb.cell (World.block_lt_of_cell? w0 _ HX.out)).trans HX.out)
                  go_wp2_with (fail)
                  (refine (sign_calls w0 gc gm K N St (some ar) c0 A1 c1 rules ws hC hc hW hw (cntF K rules ws k) ih rx i mid p1.2 w3 p2 HS3.out HP2.out).mono ?_; rintro e w4 ⟨rfl, hs4, hk4⟩; have HS4 := Aside0.mk hs4; have HK4 := Aside0.mk (HK3.out.trans hk4); have BK4 := Aside0.mk ((hk4.blk gx (blk_lt BK3.out) (fun e => by have hq := BK3.out; obtain ⟨es, cl, hm⟩ := HS3.out.km.isMap; rw [e, hm] at hq; cases hq)).trans BK3.out); clear HS3 HK3 BK3 hs4 hk4 hx3)
                  go_wp2_with (fail)
                  (refine (table_times.calls p2.1 p1.1 tt w4 HTT.out).mono ?_; rintro e w5 ⟨rfl, hd5⟩; have HS5 := Aside0.mk (HS4.out.below (hd5.below)); have HK5 := Aside0.mk (HK4.out.trans (Km.below (hd5.below))); have BK5 := Aside0.mk (blk_below BK4.out (hd5.below)); clear HS4 HK4 BK4 hd5)
                  go_wp2
                  go_roundg k1
                  case measure => omega
                  case rel => exact ⟨mm, _, p2.2, by first | rfl | (simp; done), by first | rfl | (simp; done), HS5, HK5, BK5, HH⟩
                · rw [if_neg d4] at hh
                  have d4b : decide (p1.1 > 0) = false := decide_eq_false d4
                  have d4c : decide (0 < p1.1) = false := decide_eq_false d4
                  have HH := Aside0.mk hh
                  clear hp1 d4 hh HH2
                  go_wp2_with (fail)
                  (refine (ih rule d1 mid j mq wr p1 HSq.out HP1.out).mono ?_; rintro e w3 ⟨rfl, hs3, hk3⟩; have HS3 := Aside0.mk hs3; have HK3 := Aside0.mk (HKq.out.trans hk3); have BK3 := Aside0.mk ((hk3.blk gx (blk_lt BKq.out) (fun e => by have hq := BKq.out; obtain ⟨es, cl, hm⟩ := HSq.out.km.isMap; rw [e, hm] at hq; cases hq)).trans BKq.out); clear HSq HKq BKq hs3 hk3)
                  go_wp2
                  go_roundg k1
                  case measure => omega
                  case rel => exact ⟨sum, _, p1.2, rfl, by first | rfl | (simp; done), HS3, HK3, BK3, HH⟩
            · have d3b : (left == 1) = false := beq_eq_false_iff_ne.mpr d3
              rw [if_neg (fun q => d3 q.1)] at hh
              clear d3
              obtain ⟨p1, hp1, hh⟩ := Option.bind_eq_some_iff.1 hh
              have HP1 := Aside0.mk hp1
              by_cases d4 : p1.1 > 0
              · rw [if_pos d4] at hh
                have d4b : decide (p1.1 > 0) = true := decide_eq_true d4
                have d4c : decide (0 < p1.1) = true := decide_eq_true d4
                by_cases d5 : 0 ≤ dot
                case neg => rw [if_neg d5] at hh; cases hh
                rw [if_pos d5] at hh
                by_cases d6 : dot < (right.length : Int)
                case neg => rw [if_neg d6] at hh; cases hh
                rw [if_pos d6] at hh
                obtain ⟨ad, e1, hx⟩ := Kd.at_int HI.out dot d5 d6
                have HX := Aside0.mk hx
                subst e1
                have d5b := eq_true d5
                have d6b := eq_true d6
                obtain ⟨p2, hp2, hh⟩ := Option.bind_eq_some_iff.1 hh
                obtain ⟨tt, htt, hh⟩ := Option.bind_eq_some_iff.1 hh
                have HP2 := Aside0.mk hp2
                have HTT := Aside0.mk htt
                obtain ⟨mm, hmm⟩ : ∃ z_, mn (wrap64 (sum + tt)) 1099511627777 = z_ := ⟨_, rfl⟩
                rw [hmm] at hh
                obtain ⟨st, hst⟩ : ∃ z_, wrap64 (sum + tt) = z_ := ⟨_, rfl⟩
                rw [hst] at hmm
                have hst2 : IntKind.i64.wrap (sum + tt) = st := (i64_w _).trans hst
                have hmn : (if 1099511627777 < st then (1099511627777 : Int) else st) = mm := hmm
                have HH := Aside0.mk hh
                clear hp1 hp2 htt d4 d5 d6 hx hmm hh HH2
                generalize hrd : rd right dot = rx at *
                clear hrd
                go_wp2_with (fail)
                (refine (ih rule d1 mid j mq wr p1 HSq.out HP1.out).mono ?_; rintro e w3 ⟨rfl, hs3, hk3⟩; have HS3 := Aside0.mk hs3; have HK3 := Aside0.mk (HKq.out.trans hk3); have BK3 := Aside0.mk ((hk3.blk gx (blk_lt BKq.out) (fun e => by have hq := BKq.out; obtain ⟨es, cl, hm⟩ := HSq.out.km.isMap; rw [e, hm] at hq; cases hq)).trans BKq.out); clear HSq HKq BKq hs3 hk3; have hx3 := (HS3.out.hb.cell (World.block_lt_of_cell? w0 _ HX.out)).trans HX.out)
                go_wp2_with (fail)
                (refine (sign_calls w0 gc gm K N St (some ar) c0 A1 c1 rules ws hC hc hW hw (cntF K rules ws k) ih rx i mid p1.2 w3 p2 HS3.out HP2.out).mono ?_; rintro e w4 ⟨rfl, hs4, hk4⟩; have HS4 := Aside0.mk hs4; have HK4 := Aside0.mk (HK3.out.trans hk4); have BK4 := Aside0.mk ((hk4.blk gx (blk_lt BK3.out) (fun e => by have hq := BK3.out; obtain ⟨es, cl, hm⟩ := HS3.out.km.isMap; rw [e, hm] at hq; cases hq)).trans BK3.out); clear HS3 HK3 BK3 hs4 hk4 hx3)
                go_wp2_with (fail)
                (refine (table_times.calls p2.1 p1.1 tt w4 HTT.out).mono ?_; rintro e w5 ⟨rfl, hd5⟩; have HS5 := Aside0.mk (HS4.out.below (hd5.below)); have HK5 := Aside0.mk (HK4.out.trans (Km.below (hd5.below))); have BK5 := Aside0.mk (blk_below BK4.out (hd5.below)); clear HS4 HK4 BK4 hd5)
                go_wp2
                go_roundg k1
                case measure => omega
                case rel => exact ⟨mm, _, p2.2, by first | rfl | (simp; done), by first | rfl | (simp; done), HS5, HK5, BK5, HH⟩
              · rw [if_neg d4] at hh
                have d4b : decide (p1.1 > 0) = false := decide_eq_false d4
                have d4c : decide (0 < p1.1) = false := decide_eq_false d4
                have HH := Aside0.mk hh
                clear hp1 d4 hh HH2
                go_wp2_with (fail)
                (refine (ih rule d1 mid j mq wr p1 HSq.out HP1.out).mono ?_; rintro e w3 ⟨rfl, hs3, hk3⟩; have HS3 := Aside0.mk hs3; have HK3 := Aside0.mk (HKq.out.trans hk3); have BK3 := Aside0.mk ((hk3.blk gx (blk_lt BKq.out) (fun e => by have hq := BKq.out; obtain ⟨es, cl, hm⟩ := HSq.out.km.isMap; rw [e, hm] at hq; cases hq)).trans BKq.out); clear HSq HKq BKq hs3 hk3)
                go_wp2
                go_roundg k1
                case measure => omega
                case rel => exact ⟨sum, _, p1.2, rfl, by first | rfl | (simp; done), HS3, HK3, BK3, HH⟩
          · rw [if_neg d2] at hh
            have d2b : decide (mid ≤ a2) = false := decide_eq_false d2
            obtain rfl := Option.some.inj hh
            clear d2 hh HH2
            have hh := HH.out
            by_cases e1 : mq.length < 1000000 ∧ (Lit.int .i64 sum).wf = true
            case neg => rw [if_neg e1] at hh; cases hh
            rw [if_pos e1] at hh
            obtain rfl := Option.some.inj hh
            have E1 := Aside0.mk e1.1
            have E2 := Aside0.mk e1.2
            clear e1 hh HH
            have hk5 : wr.cell? ⟨gc, 5, none⟩ = some (.map (some gm)) := (blk_cell HSq.out.kc 5).trans rfl
            have hy0 : wr.cell? ⟨gx, 0, none⟩ = some (.int .i64 rule) := (blk_cell BKq.out 0).trans rfl
            have hy1 : wr.cell? ⟨gx, 1, none⟩ = some (.int .i64 dot) := (blk_cell BKq.out 1).trans rfl
            have hy2 : wr.cell? ⟨gx, 2, none⟩ = some (.int .i64 i) := (blk_cell BKq.out 2).trans rfl
            have hy3 : wr.cell? ⟨gx, 3, none⟩ = some (.int .i64 j) := (blk_cell BKq.out 3).trans rfl
            go_wp2
            refine start_ (n := 7) (S := fun w' => w'.cell? ⟨gc, 5, none⟩ = some (.map (some gm)) ∧ w'.cell? ⟨gx, 0, none⟩ = some (.int .i64 rule) ∧ w'.cell? ⟨gx, 1, none⟩ = some (.int .i64 dot) ∧ w'.cell? ⟨gx, 2, none⟩ = some (.int .i64 i) ∧ w'.cell? ⟨gx, 3, none⟩ = some (.int .i64 j)) (ds := [6]) #[false, false, false, false, false, false, false] (by kernel_rfl) rfl rfl ⟨hk5, hy0, hy1, hy2, hy3⟩ (fun hHeld => ?_)
            refine pure_ (i := 0) (N := some 103) (v := ?_) (a' := ?_) #[true, false, false, false, false, false, false] rfl rfl (by kernel_rfl) (fun _ _ _ h => h) (Or.inl ⟨by rfl, ?_⟩) ?_ ?_
            rotate_left
            · intro w'
              go_simp
              with_reducible rfl
            rotate_left
            · simp only [Act.put, List.setIfInBounds_toArray, List.set_cons_zero, List.set_cons_succ, i64_w, i32_w]
              rfl
            refine pure_ (i := 1) (N := some 104) (v := ?_) (a' := ?_) #[true, true, false, false, false, false, false] rfl rfl (by kernel_rfl) (fun _ _ _ h => h) (Or.inl ⟨by rfl, ?_⟩) ?_ ?_
            rotate_left
            · intro w'
              go_simp
              with_reducible rfl
            rotate_left
            · simp only [Act.put, List.setIfInBounds_toArray, List.set_cons_zero, List.set_cons_succ, i64_w, i32_w]
              rfl
            refine pure_ (i := 2) (N := some 105) (v := ?_) (a' := ?_) #[true, true, true, false, false, false, false] rfl rfl (by kernel_rfl) (fun _ _ _ h => h) (Or.inl ⟨by rfl, ?_⟩) ?_ ?_
            rotate_left
            · intro w'
              go_simp
              with_reducible rfl
            rotate_left
            · simp only [Act.put, List.setIfInBounds_toArray, List.set_cons_zero, List.set_cons_succ, i64_w, i32_w]
              rfl
            refine pure_ (i := 5) (N := some 108) (v := ?_) (a' := ?_) #[true, true, true, false, false, true, false] rfl rfl (by kernel_rfl) (fun _ _ _ h => h) (Or.inl ⟨by rfl, ?_⟩) ?_ ?_
            rotate_left
            · intro w'
              go_simp
              with_reducible rfl
            rotate_left
            · simp only [Act.put, List.setIfInBounds_toArray, List.set_cons_zero, List.set_cons_succ, i64_w, i32_w]
              rfl
            refine take_ (i := 3) (N := some 106) (v := ?_) (a' := ?_) #[true, true, true, true, false, true, false] rfl rfl (by kernel_rfl) (fun _ _ _ h => h) (Or.inl ⟨by rfl, ?_⟩) hHeld ?_ ?_
            rotate_left
            · rintro w' ⟨s0, s1, s2, s3, s4⟩
              go_simp
              with_reducible rfl
            rotate_left
            · simp only [Act.put, List.setIfInBounds_toArray, List.set_cons_zero, List.set_cons_succ, i64_w, i32_w]
              rfl
            refine take_ (i := 4) (N := some 107) (v := ?_) (a' := ?_) #[true, true, true, true, true, true, false] rfl rfl (by kernel_rfl) (fun _ _ _ h => h) (Or.inl ⟨by rfl, ?_⟩) hHeld ?_ ?_
            rotate_left
            · rintro w' ⟨s0, s1, s2, s3, s4⟩
              go_simp
              with_reducible rfl
            rotate_left
            · simp only [Act.put, List.setIfInBounds_toArray, List.set_cons_zero, List.set_cons_succ, i64_w, i32_w]
              rfl
            refine last_ (i := 6) (N := none) #[true, true, true, true, true, true, true] rfl rfl (by kernel_rfl) (by decide) (fun K hK => ?_)
            refine mapM4_put_step (by rfl) (.tmp 106) (.tmp 107) (.tmp 108) (.inl rfl) (by rfl) HSq.out.drew.km E1.out rule dot i j sum (by rfl) (by rfl) W1.out W2.out W3.out W4.out E2.out ?_
            intro w3 hM3 hg3
            refine hK.out _ _ ?_
            clear hK K
            refine done_ (by kernel_rfl) ?_

            have HS9 := Aside0.mk (HSq.out.drew.put hM3 hg3)
            have HK9 := Aside0.mk (Km.grown (W1 := wr.drew) (gm := gm) ⟨HKq.out.size, HKq.out.blk⟩ hg3)
            clear HSq HKq BKq hM3 hg3 hk5 hy0 hy1 hy2 hy3
            go_wp2
            go_ret
            exact ⟨by first | rfl | (simp; done) | (simp [*]; done), HS9.out, HK9.out⟩
end Go.Proofs.Ytnppgmbhdomelaa.PTableTrees
