-- Written by a program of this session: a turn of the print kit's own.
import Derived.Test.YtenlcpakhpjlkaaPPickWordsx0
import Derived.Test.YtenlcpakhpjlkaaPPickWordsx1
import Derived.Test.YtenlcpakhpjlkaaPPickWordsx2
namespace Go.Proofs.Ytenlcpakhpjlkaa.PPickWords
open Go.RowKit Go.Proofs.YtenlcpakhpjlkaaW.PrintWords Go.Proofs.YtenlcpakhpjlkaaW.PrintLast Go.Proofs.YtenlcpakhpjlkaaW.PrintMore
attribute [local go_sem] max2_int min2_int max_two min_two max_three min_three max_four min_four   -- for this text's walks alone
set_option linter.unusedVariables false
set_option linter.unusedSimpArgs false

/-! ### a tree in the making: its box, its rows, and the row that was handed down -/
def encP (o : Option Nat) : Value := .pointer (o.map fun g => ⟨g, 0, none⟩)
def kdP : Kd (Option Nat) := Kd.scalar encP (fun o => by cases o <;> rfl)
theorem box_set {W : World} {g t : Nat} {cs cs' : Array Value} (h : W.heap[g]? = some (.cells cs t (0, 0))) (j : Nat) (v : Value) (e : cs.setIfInBounds j v = cs') : (W.setCell ⟨g, j, none⟩ v).heap[g]? = some (.cells cs' t (0, 0)) ∧ W.grownBy (W.setCell ⟨g, j, none⟩ v) (some g) := by
  exact ⟨blk_put h j v e, ⟨rfl, rfl, rfl, by simp [World.setCell], fun i _ hi => Below.heap_setCell W ⟨g, j, none⟩ v i (fun e => hi (by rw [e]))⟩⟩
structure Kq (vs vs' : Value) (W W' : World) : Prop where
  size : W.heap.size ≤ W'.heap.size
  blk : ∀ b, b < W.heap.size → some b ≠ vs.ownBlock → W'.heap[b]? = W.heap[b]?
  own : ∀ b, vs'.ownBlock = some b → vs.ownBlock = some b ∨ W.heap.size ≤ b
theorem Kq.refl (vs : Value) (W : World) : Kq vs vs W W := ⟨Nat.le_refl _, fun _ _ _ => rfl, fun _ h => .inl h⟩
theorem Kq.trans {v v1 v2 : Value} {W W1 W2 : World} (h : Kq v v1 W W1) (k : Kq v1 v2 W1 W2) : Kq v v2 W W2 := by
  refine ⟨Nat.le_trans h.size k.size, fun b hb h3 => ?_, fun b hb => ?_⟩
  · refine (k.blk b (Nat.lt_of_lt_of_le hb h.size) (fun e => ?_)).trans (h.blk b hb h3)
    rcases h.own b e.symm with q | q
    · exact h3 q.symm
    · omega
  · rcases k.own b hb with q | q
    · exact h.own b q
    · exact .inr (Nat.le_trans h.size q)
theorem Kq.below {v : Value} {W W1 : World} (h : Below W.heap.size W W1) : Kq v v W W1 := ⟨h.size, fun b hb _ => h.block b hb, fun _ q => .inl q⟩
theorem Kq.grown {v v1 : Value} {W W1 W2 : World} {row : Option Nat} (h : Kq v v1 W W1) (hg : W1.grownBy W2 row) (hr : ∀ k, row = some k → W.heap.size ≤ k) : Kq v v1 W W2 :=
  ⟨Nat.le_trans h.size hg.size, fun b hb h3 => (hg.block b (Nat.lt_of_lt_of_le hb h.size) (fun e => by have := hr b e.symm; omega)).trans (h.blk b hb h3), h.own⟩
structure RI (w0 W0 : World) (gg : Nat) (G : Array Value) (gb : Nat) (rule at_ : Int) (vp ve vs : Value) (W : World) (parts : List (Option Nat)) (ends syms : List Int) : Prop where
  hb : Below w0.heap.size w0 W
  h0 : W0.heap.size ≤ W.heap.size
  h1 : w0.heap.size ≤ W0.heap.size
  kg : W.heap[gg]? = some (.cells G 24 (0, 0))
  kb : W.heap[gb]? = some (.cells #[.int .i64 rule, .int .i64 at_, .int .i64 0, vp, ve] 47 (0, 0))
  rp : Kd.R kdP 36 W W0.heap.size (fun _ => True) vp parts
  re : Kd.R (Kd.int .i64) 3 W W0.heap.size (fun k => some k ≠ vs.ownBlock) ve ends
  rs : Kd.R (Kd.int .i64) 3 W w0.heap.size (fun k => some k ≠ ve.ownBlock) vs syms
  g0 : W0.heap.size ≤ gb
section
variable {w0 W0 W W1 : World} {gg : Nat} {G : Array Value} {gb : Nat} {rule at_ : Int} {vp ve vs : Value} {parts : List (Option Nat)} {ends syms : List Int}
theorem RI.below (h : RI w0 W0 gg G gb rule at_ vp ve vs W parts ends syms) (hb : Below W.heap.size W W1) : RI w0 W0 gg G gb rule at_ vp ve vs W1 parts ends syms :=
  ⟨below_step h.hb hb, Nat.le_trans h.h0 hb.size, h.h1, blk_below h.kg hb, blk_below h.kb hb, Kd.R_below h.rp hb, Kd.R_below h.re hb, Kd.R_below h.rs hb, h.g0⟩
theorem RI.drewN (h : RI w0 W0 gg G gb rule at_ vp ve vs W parts ends syms) (q : Nat) : RI w0 W0 gg G gb rule at_ vp ve vs (W.drewN q) parts ends syms := h.below (pw_below_drewN (Below.refl _ _) q)
theorem RI.ne (h : RI w0 W0 gg G gb rule at_ vp ve vs W parts ends syms) : gg ≠ gb := by
  intro e
  have a := h.kg
  rw [e, h.kb] at a
  injection a with a
  injection a with _ a
  revert a
  decide
/-- A symbol more. -/
theorem RI.sym (h : RI w0 W0 gg G gb rule at_ vp ve vs W parts ends syms) {vs1 : Value} {m : List Int} (ho : Kd.R (Kd.int .i64) 3 W1 w0.heap.size (fun k => some k ≠ ve.ownBlock) vs1 m) (hg : W.grownBy W1 vs.ownBlock) (hat : vs1.ownBlock = vs.ownBlock ∨ ∃ b, vs1.ownBlock = some b ∧ W.heap.size ≤ b) :
    RI w0 W0 gg G gb rule at_ vp ve vs1 W1 parts ends m ∧ Kq vs vs1 W W1 := by
  have own : ∀ b, vs1.ownBlock = some b → vs.ownBlock = some b ∨ W.heap.size ≤ b := by
    intro b e
    rcases hat with q | ⟨x, q, hx⟩
    · exact .inl (by rw [← q]; exact e)
    · rw [q] at e; cases e; exact .inr hx
  refine ⟨⟨h.hb.grown hg (Nat.le_trans h.h1 h.h0) (Kd.R_base h.rs), Nat.le_trans h.h0 hg.size, h.h1, blk_grown h.kg hg (Kd.R_ne h.rs h.kg (by decide)), blk_grown h.kb hg (Kd.R_ne h.rs h.kb (by decide)), Kd.R_over' h.rp (Kd.R_typed h.rs) (by decide) hg, ?_, ho, h.g0⟩, ⟨hg.size, fun b hb h3 => hg.block b hb h3, own⟩⟩
  refine Kd.R_mono (Kd.R_grown (Kd.R_bound h.re) hg (fun k hk => hk.1)) (fun k hk e => ?_)
  rcases own k e.symm with q | q
  · exact hk.1 q.symm
  · have := hk.2.2.1; omega
/-- A part more. -/
theorem RI.part (h : RI w0 W0 gg G gb rule at_ vp ve vs W parts ends syms) {vp1 : Value} {m : List (Option Nat)} (ho : Kd.R kdP 36 W1 W0.heap.size (fun _ => True) vp1 m) (hg : W.grownBy W1 vp.ownBlock) :
    RI w0 W0 gg G gb rule at_ vp1 ve vs (W1.setCell ⟨gb, 3, none⟩ vp1) m ends syms ∧ ∀ v0, Kq v0 vs W0 W → Kq v0 vs W0 (W1.setCell ⟨gb, 3, none⟩ vp1) := by
  have hb : Below w0.heap.size w0 W1 := h.hb.grown hg (Nat.le_trans h.h1 h.h0) (fun k hk => Nat.le_trans h.h1 (Kd.R_base h.rp k hk))
  have k1 := blk_grown h.kb hg (Kd.R_ne h.rp h.kb (by decide))
  have kg1 := blk_grown h.kg hg (Kd.R_ne h.rp h.kg (by decide))
  obtain ⟨q1, q2⟩ := box_set k1 3 vp1 rfl
  exact ⟨⟨hb.setCell (Nat.le_trans h.h1 h.g0) _, Nat.le_trans h.h0 (Nat.le_trans hg.size q2.size), h.h1, blk_grown kg1 q2 (fun e => h.ne (Option.some.inj e)), q1, Kd.R_set ho k1 (by decide) 3 vp1, Kd.R_set (Kd.R_over' h.re (Kd.R_typed h.rp) (by decide) hg) k1 (by decide) 3 vp1, Kd.R_set (Kd.R_over' h.rs (Kd.R_typed h.rp) (by decide) hg) k1 (by decide) 3 vp1, h.g0⟩,
    fun v0 hk => (hk.grown hg (Kd.R_base h.rp)).grown q2 (fun k e => by cases e; exact h.g0)⟩
/-- An end more. -/
theorem RI.end_ (h : RI w0 W0 gg G gb rule at_ vp ve vs W parts ends syms) {ve1 : Value} {m : List Int} (ho : Kd.R (Kd.int .i64) 3 W1 W0.heap.size (fun k => some k ≠ vs.ownBlock) ve1 m) (hg : W.grownBy W1 ve.ownBlock) (hat : ve1.ownBlock = ve.ownBlock ∨ ∃ b, ve1.ownBlock = some b ∧ W.heap.size ≤ b) :
    RI w0 W0 gg G gb rule at_ vp ve1 vs (W1.setCell ⟨gb, 4, none⟩ ve1) parts m syms ∧ ∀ v0, Kq v0 vs W0 W → Kq v0 vs W0 (W1.setCell ⟨gb, 4, none⟩ ve1) := by
  have hb : Below w0.heap.size w0 W1 := h.hb.grown hg (Nat.le_trans h.h1 h.h0) (fun k hk => Nat.le_trans h.h1 (Kd.R_base h.re k hk))
  have k1 := blk_grown h.kb hg (Kd.R_ne h.re h.kb (by decide))
  have kg1 := blk_grown h.kg hg (Kd.R_ne h.re h.kg (by decide))
  obtain ⟨q1, q2⟩ := box_set k1 4 ve1 rfl
  refine ⟨⟨hb.setCell (Nat.le_trans h.h1 h.g0) _, Nat.le_trans h.h0 (Nat.le_trans hg.size q2.size), h.h1, blk_grown kg1 q2 (fun e => h.ne (Option.some.inj e)), q1, Kd.R_set (Kd.R_over' h.rp (Kd.R_typed h.re) (by decide) hg) k1 (by decide) 4 ve1, Kd.R_set ho k1 (by decide) 4 ve1, ?_, h.g0⟩, fun v0 hk => (hk.grown hg (Kd.R_base h.re)).grown q2 (fun k e => by cases e; exact h.g0)⟩
  have hs := Kd.R_grown (Kd.R_bound h.rs) hg (fun k hk => hk.1)
  refine Kd.R_set (Kd.R_mono hs (fun k hk e => ?_)) k1 (by decide) 4 ve1
  rcases hat with q | ⟨x, q, hx⟩
  · exact hk.1 (by rw [← q]; exact e)
  · rw [q] at e; cases e
    have := hk.2.2.1; omega
/-- The way below. -/
theorem RI.call (h : RI w0 W0 gg G gb rule at_ vp ve vs W parts ends syms) {vs1 : Value} {m : List Int} (hb : Below w0.heap.size w0 W1) (hr : Kd.R (Kd.int .i64) 3 W1 w0.heap.size (fun _ => True) vs1 m) (hk : Kq vs vs1 W W1) :
    RI w0 W0 gg G gb rule at_ vp ve vs1 W1 parts ends m := by
  have hty := Kd.R_typed h.rs
  refine ⟨hb, Nat.le_trans h.h0 hk.size, h.h1, (hk.blk gg (blk_lt h.kg) (Kd.R_ne h.rs h.kg (by decide))).trans h.kg, (hk.blk gb (blk_lt h.kb) (Kd.R_ne h.rs h.kb (by decide))).trans h.kb, ?_, ?_, ⟨fun k e z => ?_, hr.2⟩, h.g0⟩
  · refine Kd.R_mono (Kd.R_step (Kd.R_bound h.rp) (fun k ho hlt => hk.blk k hlt (fun e => ?_))) (fun _ _ => trivial)
    obtain ⟨_, _, _, q, hq, cells, hc⟩ := ho
    obtain ⟨cells2, hc2⟩ := hty k e.symm
    rw [hc] at hc2
    injection hc2 with hc2
    injection hc2 with _ hc2
    subst hc2
    revert hq
    decide
  · refine Kd.R_mono (Kd.R_step (Kd.R_bound h.re) (fun k ho hlt => hk.blk k hlt ho.1)) (fun k ho e => ?_)
    rcases hk.own k e.symm with q | q
    · exact ho.1 q.symm
    · have := ho.2.2.1; omega
  · rcases hk.own k e with q | q
    · exact h.rs.1 k q z
    · have := Kd.R_lt h.re k z.symm; omega
end
theorem ri_start {w0 W w1 w2 : World} {gg : Nat} {G : Array Value} {gb : Nat} {rule at_ : Int} {vs : Value} {syms : List Int} (hB : Below w0.heap.size w0 w1) (hq : Kq vs vs W w1) (hvs : Kd.R (Kd.int .i64) 3 w1 w0.heap.size (fun _ => True) vs syms) (hw : w0.heap.size ≤ W.heap.size) (hkg : w1.heap[gg]? = some (.cells G 24 (0, 0)))
    (hbox : w2.heap[gb]? = some (.cells #[.int .i64 rule, .int .i64 at_, .int .i64 0, .slice none 0 0, .slice none 0 0] 47 (0, 0))) (hb : Below w1.heap.size w1 w2) (hg : gb = w1.heap.size) : RI w0 W gg G gb rule at_ (.slice none 0 0) (.slice none 0 0) vs w2 [] [] syms :=
  ⟨below_step hB hb, Nat.le_trans hq.size hb.size, hw, blk_below hkg hb, hbox, Kd.R_nil _ _ _ _ _, Kd.R_nil _ _ _ _ _, Kd.R_mono (Kd.R_below hvs hb) (fun _ _ => by simp [Value.ownBlock]), by rw [hg]; exact hq.size⟩
theorem un_drewN {B : Nat} {w w' : World} {n : Nat} (h : Below B (w.drewN n) w') : Below B w w' := ⟨h.os, h.tape, h.output, h.size, h.block⟩
theorem info36 : (Try.prog.info? 36).map (fun i => (i.zero, i.size, i.bytes)) = some (some (.pointer none), 1, 8) := by kernel_rfl
theorem Kq.drewN {v v1 : Value} {W W1 : World} (h : Kq v v1 W W1) (q : Nat) : Kq v v1 W (W1.drewN q) := ⟨h.size, h.blk, h.own⟩
def readL (K : Int) (V : Int → List Int → List Int → Option (Option (List Int × List Int))) : List Int → List Int → List Int → Option (Option (List Int × List Int))
  | [], steps, syms => some (some (steps, syms))
  | x :: t, steps, syms => if x < K then (if syms.length < 17592186044416 then readL K V t steps (syms ++ [x]) else none) else (V (wrap64 (x - K)) steps syms).bind fun o => match o with | none => some none | some p => readL K V t p.1 p.2
def readF (K : Int) (rules : List S40) : Nat → Int → List Int → List Int → Option (Option (List Int × List Int))
  | 0, _, _, _ => none
  | k + 1, name, steps, syms => if (steps.length : Int) = 0 then some none else (if rd steps 0 < 0 then some none else (if rd steps 0 ≥ (rules.length : Int) then some none else (if (rd_T40 rules (rd steps 0)).f0 ≠ name then some none else
      (if (rd_T40 rules (rd steps 0)).f1.length < 1000000 then readL K (readF K rules k) (rd_T40 rules (rd steps 0)).f1 (steps.drop 1) syms else none))))
/-- What a reading leaves. -/
def RP (w0 W : World) (vs : Value) (o : Option (List Int × List Int)) (e : Ending) (w' : World) : Prop :=
  Below w0.heap.size w0 w' ∧ match o with
  | none => e = .returned (.tuple #[.pointer none, .slice none 0 0, .slice none 0 0])
  | some p => ∃ (gb : Nat) (As : Option Addr) (cs : Nat) (vs' : Value), e = .returned (.tuple #[.pointer (some ⟨gb, 0, none⟩), .slice As p.1.length cs, vs']) ∧ Kd.C (Kd.int .i64) w0 As p.1.length p.1 ∧ p.1.length ≤ cs ∧ Kd.R (Kd.int .i64) 3 w' w0.heap.size (fun _ => True) vs' p.2 ∧ Kq vs vs' W w'
set_option maxHeartbeats 16000000 in
set_option maxRecDepth 100000 in
theorem read_calls (w0 : World) (K N St : Int) (A0 : Option Addr) (c0 : Nat) (rules : List S40) (hC : Kd.C k40 w0 A0 rules.length rules) (hc : rules.length ≤ c0) :
    ∀ (k : Nat) (name at_ : Int) (As : Option Addr) (cs : Nat) (steps syms : List Int) (vs : Value) (W : World) (o : Option (List Int × List Int)), Kd.C (Kd.int .i64) w0 As steps.length steps → steps.length ≤ cs → Below w0.heap.size w0 W → Kd.R (Kd.int .i64) 3 W w0.heap.size (fun _ => True) vs syms → readF K rules k name steps syms = some o →
    Calls Try.prog 11 #[.agg #[.int .i64 K, .int .i64 N, .int .i64 St, .slice A0 rules.length c0], .int .i64 name, .slice As steps.length cs, .int .i64 at_, vs] W (RP w0 W vs o) := by
  have hu24 := Try.underlying24
  have hu25 := Try.underlying25
  have hu40 := Try.underlying40
  have hu45 := Try.underlying45
  have hu47 := Try.underlying47
  have hu36 := Try.underlying36
  intro k
  induction k with
  | zero => intro name at_ As cs steps syms vs W o _ _ _ _ h; simp [readF] at h
  | succ k ih =>
    intro name at_ As cs steps syms vs W o hst hcs hB0 hvs h
    obtain ⟨Av, cv, rfl⟩ := Kd.R_slice hvs
    have HB := Aside0.mk hB0
    have HVS := Aside0.mk hvs
    have HST := Aside0.mk hst
    have HCS := Aside0.mk hcs
    have HW0 := Aside0.mk hB0.size
    simp only [readF] at h
    by_cases c1 : (steps.length : Int) = 0
    · rw [if_pos c1] at h
      cases h
      have c1b : ((steps.length : Int) == 0) = true := beq_iff_eq.mpr c1
      clear c1 hst hcs hB0 hvs
      go_enter Try.func11, Try.ntmps11
      go_wp2_with (first | ((with_reducible refine gate_dst (N := 5) rfl ?_); refine box_event ?hg (N := 5) ?hd (cs := #[.int .i64 K, .int .i64 N, .int .i64 St, .slice A0 rules.length c0]) (t := 24) ?hr ?_; (case hd => rfl); (case hg => rfl); (case hr => first | (go_simp; done) | (go_simp; rfl)); intro gg hg w1 hbox hb; have GG := Aside0.mk ((by rw [hg]; exact Nat.le_refl _) : W.heap.size ≤ gg); have n0_ := Aside0.mk (below_step HB.out hb); clear HB; have HB := n0_; clear n0_; have n1_ := Aside0.mk (Kd.R_below HVS.out hb); clear HVS; have HVS := n1_; clear n1_; have HQ := Aside0.mk (Kq.below (v := .slice Av syms.length cv) hb); have BG := Aside0.mk hbox; clear hb hbox hg; have hgg0 : w1.cell? ⟨gg, 0, none⟩ = some (.int .i64 K) := (blk_cell BG.out 0).trans rfl; have hgg3 : w1.cell? ⟨gg, 3, none⟩ = some (.slice A0 rules.length c0) := (blk_cell BG.out 3).trans rfl; (try have hs1 := (HB.out.cell (World.block_lt_of_cell? w0 _ hs0)).trans hs0); (try have hy0 := (HB.out.cell (World.block_lt_of_cell? w0 _ hx0)).trans hx0); (try have hy1 := (HB.out.cell (World.block_lt_of_cell? w0 _ hx1)).trans hx1)))
      repeat (go_quiet (first | ((with_reducible refine gate_dst (N := 5) rfl ?_); refine box_event ?hg (N := 5) ?hd (cs := #[.int .i64 K, .int .i64 N, .int .i64 St, .slice A0 rules.length c0]) (t := 24) ?hr ?_; (case hd => rfl); (case hg => rfl); (case hr => first | (go_simp; done) | (go_simp; rfl)); intro gg hg w1 hbox hb; have GG := Aside0.mk ((by rw [hg]; exact Nat.le_refl _) : W.heap.size ≤ gg); have n0_ := Aside0.mk (below_step HB.out hb); clear HB; have HB := n0_; clear n0_; have n1_ := Aside0.mk (Kd.R_below HVS.out hb); clear HVS; have HVS := n1_; clear n1_; have HQ := Aside0.mk (Kq.below (v := .slice Av syms.length cv) hb); have BG := Aside0.mk hbox; clear hb hbox hg; have hgg0 : w1.cell? ⟨gg, 0, none⟩ = some (.int .i64 K) := (blk_cell BG.out 0).trans rfl; have hgg3 : w1.cell? ⟨gg, 3, none⟩ = some (.slice A0 rules.length c0) := (blk_cell BG.out 3).trans rfl; (try have hs1 := (HB.out.cell (World.block_lt_of_cell? w0 _ hs0)).trans hs0); (try have hy0 := (HB.out.cell (World.block_lt_of_cell? w0 _ hx0)).trans hx0); (try have hy1 := (HB.out.cell (World.block_lt_of_cell? w0 _ hx1)).trans hx1))); try go_wp2_with (first | ((with_reducible refine gate_dst (N := 5) rfl ?_); refine box_event ?hg (N := 5) ?hd (cs := #[.int .i64 K, .int .i64 N, .int .i64 St, .slice A0 rules.length c0]) (t := 24) ?hr ?_; (case hd => rfl); (case hg => rfl); (case hr => first | (go_simp; done) | (go_simp; rfl)); intro gg hg w1 hbox hb; have GG := Aside0.mk ((by rw [hg]; exact Nat.le_refl _) : W.heap.size ≤ gg); have n0_ := Aside0.mk (below_step HB.out hb); clear HB; have HB := n0_; clear n0_; have n1_ := Aside0.mk (Kd.R_below HVS.out hb); clear HVS; have HVS := n1_; clear n1_; have HQ := Aside0.mk (Kq.below (v := .slice Av syms.length cv) hb); have BG := Aside0.mk hbox; clear hb hbox hg; have hgg0 : w1.cell? ⟨gg, 0, none⟩ = some (.int .i64 K) := (blk_cell BG.out 0).trans rfl; have hgg3 : w1.cell? ⟨gg, 3, none⟩ = some (.slice A0 rules.length c0) := (blk_cell BG.out 3).trans rfl; (try have hs1 := (HB.out.cell (World.block_lt_of_cell? w0 _ hs0)).trans hs0); (try have hy0 := (HB.out.cell (World.block_lt_of_cell? w0 _ hx0)).trans hx0); (try have hy1 := (HB.out.cell (World.block_lt_of_cell? w0 _ hx1)).trans hx1))))
      go_ret3
      exact ⟨(by first | exact HB.out | exact pw_below_drewN HB.out _), by first | rfl | (simp; done) | (simp [*]; done)⟩
    rw [if_neg c1] at h
    have c1b : ((steps.length : Int) == 0) = false := beq_eq_false_iff_ne.mpr c1
    obtain ⟨ad, e1, hs0⟩ := Kd.at_int hst 0 (by omega) (by omega)
    subst e1
    have l0b := eq_true (show (0 : Int) < (steps.length : Int) by omega)
    have HLEN := Aside0.mk (show 0 < steps.length by omega)
    rw [Int.toNat_zero, Addr.add_zero'] at hs0
    have l0c := eq_true (show 0 < steps.length by omega)
    have l0d := eq_false (show ¬ steps.length = 0 by omega)
    have l0e := eq_false (show ¬ steps = [] by intro e; rw [e] at c1; exact c1 rfl)
    clear c1 hst hcs hB0 hvs
    generalize hr : rd steps 0 = r at hs0 h
    by_cases c2 : r < 0
    · rw [if_pos c2] at h
      cases h
      have c2b : decide (r < 0) = true := decide_eq_true c2
      clear c2
      go_enter Try.func11, Try.ntmps11
      go_wp2_with (first | ((with_reducible refine gate_dst (N := 5) rfl ?_); refine box_event ?hg (N := 5) ?hd (cs := #[.int .i64 K, .int .i64 N, .int .i64 St, .slice A0 rules.length c0]) (t := 24) ?hr ?_; (case hd => rfl); (case hg => rfl); (case hr => first | (go_simp; done) | (go_simp; rfl)); intro gg hg w1 hbox hb; have GG := Aside0.mk ((by rw [hg]; exact Nat.le_refl _) : W.heap.size ≤ gg); have n0_ := Aside0.mk (below_step HB.out hb); clear HB; have HB := n0_; clear n0_; have n1_ := Aside0.mk (Kd.R_below HVS.out hb); clear HVS; have HVS := n1_; clear n1_; have HQ := Aside0.mk (Kq.below (v := .slice Av syms.length cv) hb); have BG := Aside0.mk hbox; clear hb hbox hg; have hgg0 : w1.cell? ⟨gg, 0, none⟩ = some (.int .i64 K) := (blk_cell BG.out 0).trans rfl; have hgg3 : w1.cell? ⟨gg, 3, none⟩ = some (.slice A0 rules.length c0) := (blk_cell BG.out 3).trans rfl; (try have hs1 := (HB.out.cell (World.block_lt_of_cell? w0 _ hs0)).trans hs0); (try have hy0 := (HB.out.cell (World.block_lt_of_cell? w0 _ hx0)).trans hx0); (try have hy1 := (HB.out.cell (World.block_lt_of_cell? w0 _ hx1)).trans hx1)))
      repeat (go_quiet (first | ((with_reducible refine gate_dst (N := 5) rfl ?_); refine box_event ?hg (N := 5) ?hd (cs := #[.int .i64 K, .int .i64 N, .int .i64 St, .slice A0 rules.length c0]) (t := 24) ?hr ?_; (case hd => rfl); (case hg => rfl); (case hr => first | (go_simp; done) | (go_simp; rfl)); intro gg hg w1 hbox hb; have GG := Aside0.mk ((by rw [hg]; exact Nat.le_refl _) : W.heap.size ≤ gg); have n0_ := Aside0.mk (below_step HB.out hb); clear HB; have HB := n0_; clear n0_; have n1_ := Aside0.mk (Kd.R_below HVS.out hb); clear HVS; have HVS := n1_; clear n1_; have HQ := Aside0.mk (Kq.below (v := .slice Av syms.length cv) hb); have BG := Aside0.mk hbox; clear hb hbox hg; have hgg0 : w1.cell? ⟨gg, 0, none⟩ = some (.int .i64 K) := (blk_cell BG.out 0).trans rfl; have hgg3 : w1.cell? ⟨gg, 3, none⟩ = some (.slice A0 rules.length c0) := (blk_cell BG.out 3).trans rfl; (try have hs1 := (HB.out.cell (World.block_lt_of_cell? w0 _ hs0)).trans hs0); (try have hy0 := (HB.out.cell (World.block_lt_of_cell? w0 _ hx0)).trans hx0); (try have hy1 := (HB.out.cell (World.block_lt_of_cell? w0 _ hx1)).trans hx1))); try go_wp2_with (first | ((with_reducible refine gate_dst (N := 5) rfl ?_); refine box_event ?hg (N := 5) ?hd (cs := #[.int .i64 K, .int .i64 N, .int .i64 St, .slice A0 rules.length c0]) (t := 24) ?hr ?_; (case hd => rfl); (case hg => rfl); (case hr => first | (go_simp; done) | (go_simp; rfl)); intro gg hg w1 hbox hb; have GG := Aside0.mk ((by rw [hg]; exact Nat.le_refl _) : W.heap.size ≤ gg); have n0_ := Aside0.mk (below_step HB.out hb); clear HB; have HB := n0_; clear n0_; have n1_ := Aside0.mk (Kd.R_below HVS.out hb); clear HVS; have HVS := n1_; clear n1_; have HQ := Aside0.mk (Kq.below (v := .slice Av syms.length cv) hb); have BG := Aside0.mk hbox; clear hb hbox hg; have hgg0 : w1.cell? ⟨gg, 0, none⟩ = some (.int .i64 K) := (blk_cell BG.out 0).trans rfl; have hgg3 : w1.cell? ⟨gg, 3, none⟩ = some (.slice A0 rules.length c0) := (blk_cell BG.out 3).trans rfl; (try have hs1 := (HB.out.cell (World.block_lt_of_cell? w0 _ hs0)).trans hs0); (try have hy0 := (HB.out.cell (World.block_lt_of_cell? w0 _ hx0)).trans hx0); (try have hy1 := (HB.out.cell (World.block_lt_of_cell? w0 _ hx1)).trans hx1))))
      go_ret3
      exact ⟨(by first | exact HB.out | exact pw_below_drewN HB.out _), by first | rfl | (simp; done) | (simp [*]; done)⟩
    rw [if_neg c2] at h
    have c2b : decide (r < 0) = false := decide_eq_false c2
    by_cases c3 : r ≥ (rules.length : Int)
    · rw [if_pos c3] at h
      cases h
      have c3b : decide (r ≥ (rules.length : Int)) = true := decide_eq_true c3
      have c3c : decide ((rules.length : Int) ≤ r) = true := decide_eq_true c3
      clear c2 c3
      go_enter Try.func11, Try.ntmps11
      go_wp2_with (first | ((with_reducible refine gate_dst (N := 5) rfl ?_); refine box_event ?hg (N := 5) ?hd (cs := #[.int .i64 K, .int .i64 N, .int .i64 St, .slice A0 rules.length c0]) (t := 24) ?hr ?_; (case hd => rfl); (case hg => rfl); (case hr => first | (go_simp; done) | (go_simp; rfl)); intro gg hg w1 hbox hb; have GG := Aside0.mk ((by rw [hg]; exact Nat.le_refl _) : W.heap.size ≤ gg); have n0_ := Aside0.mk (below_step HB.out hb); clear HB; have HB := n0_; clear n0_; have n1_ := Aside0.mk (Kd.R_below HVS.out hb); clear HVS; have HVS := n1_; clear n1_; have HQ := Aside0.mk (Kq.below (v := .slice Av syms.length cv) hb); have BG := Aside0.mk hbox; clear hb hbox hg; have hgg0 : w1.cell? ⟨gg, 0, none⟩ = some (.int .i64 K) := (blk_cell BG.out 0).trans rfl; have hgg3 : w1.cell? ⟨gg, 3, none⟩ = some (.slice A0 rules.length c0) := (blk_cell BG.out 3).trans rfl; (try have hs1 := (HB.out.cell (World.block_lt_of_cell? w0 _ hs0)).trans hs0); (try have hy0 := (HB.out.cell (World.block_lt_of_cell? w0 _ hx0)).trans hx0); (try have hy1 := (HB.out.cell (World.block_lt_of_cell? w0 _ hx1)).trans hx1)))
      repeat (go_quiet (first | ((with_reducible refine gate_dst (N := 5) rfl ?_); refine box_event ?hg (N := 5) ?hd (cs := #[.int .i64 K, .int .i64 N, .int .i64 St, .slice A0 rules.length c0]) (t := 24) ?hr ?_; (case hd => rfl); (case hg => rfl); (case hr => first | (go_simp; done) | (go_simp; rfl)); intro gg hg w1 hbox hb; have GG := Aside0.mk ((by rw [hg]; exact Nat.le_refl _) : W.heap.size ≤ gg); have n0_ := Aside0.mk (below_step HB.out hb); clear HB; have HB := n0_; clear n0_; have n1_ := Aside0.mk (Kd.R_below HVS.out hb); clear HVS; have HVS := n1_; clear n1_; have HQ := Aside0.mk (Kq.below (v := .slice Av syms.length cv) hb); have BG := Aside0.mk hbox; clear hb hbox hg; have hgg0 : w1.cell? ⟨gg, 0, none⟩ = some (.int .i64 K) := (blk_cell BG.out 0).trans rfl; have hgg3 : w1.cell? ⟨gg, 3, none⟩ = some (.slice A0 rules.length c0) := (blk_cell BG.out 3).trans rfl; (try have hs1 := (HB.out.cell (World.block_lt_of_cell? w0 _ hs0)).trans hs0); (try have hy0 := (HB.out.cell (World.block_lt_of_cell? w0 _ hx0)).trans hx0); (try have hy1 := (HB.out.cell (World.block_lt_of_cell? w0 _ hx1)).trans hx1))); try go_wp2_with (first | ((with_reducible refine gate_dst (N := 5) rfl ?_); refine box_event ?hg (N := 5) ?hd (cs := #[.int .i64 K, .int .i64 N, .int .i64 St, .slice A0 rules.length c0]) (t := 24) ?hr ?_; (case hd => rfl); (case hg => rfl); (case hr => first | (go_simp; done) | (go_simp; rfl)); intro gg hg w1 hbox hb; have GG := Aside0.mk ((by rw [hg]; exact Nat.le_refl _) : W.heap.size ≤ gg); have n0_ := Aside0.mk (below_step HB.out hb); clear HB; have HB := n0_; clear n0_; have n1_ := Aside0.mk (Kd.R_below HVS.out hb); clear HVS; have HVS := n1_; clear n1_; have HQ := Aside0.mk (Kq.below (v := .slice Av syms.length cv) hb); have BG := Aside0.mk hbox; clear hb hbox hg; have hgg0 : w1.cell? ⟨gg, 0, none⟩ = some (.int .i64 K) := (blk_cell BG.out 0).trans rfl; have hgg3 : w1.cell? ⟨gg, 3, none⟩ = some (.slice A0 rules.length c0) := (blk_cell BG.out 3).trans rfl; (try have hs1 := (HB.out.cell (World.block_lt_of_cell? w0 _ hs0)).trans hs0); (try have hy0 := (HB.out.cell (World.block_lt_of_cell? w0 _ hx0)).trans hx0); (try have hy1 := (HB.out.cell (World.block_lt_of_cell? w0 _ hx1)).trans hx1))))
      go_ret3
      exact ⟨(by first | exact HB.out | exact pw_below_drewN HB.out _), by first | rfl | (simp; done) | (simp [*]; done)⟩
    rw [if_neg c3] at h
    have c3b : decide (r ≥ (rules.length : Int)) = false := decide_eq_false c3
    have c3c : decide ((rules.length : Int) ≤ r) = false := decide_eq_false c3
    have p2 : 0 ≤ r := by omega
    have p3 : r < (rules.length : Int) := by omega
    obtain ⟨ar, A1, c1', e1, hx0, hx1, hl1, hi1⟩ := at_T40 hC r p2 p3
    subst e1
    have HI := Aside0.mk hi1
    have HL := Aside0.mk hl1
    have p2b := eq_true p2
    have p3b := eq_true p3
    clear hi1 hl1 c2 c3 p2 p3
    by_cases c4 : (rd_T40 rules r).f0 ≠ name
    · rw [if_pos c4] at h
      cases h
      have c4b : ((rd_T40 rules r).f0 != name) = true := bne_iff_ne.mpr c4
      clear c4
      generalize (rd_T40 rules r).f0 = lf at *
      go_enter Try.func11, Try.ntmps11
      go_wp2_with (first | ((with_reducible refine gate_dst (N := 5) rfl ?_); refine box_event ?hg (N := 5) ?hd (cs := #[.int .i64 K, .int .i64 N, .int .i64 St, .slice (some ar) rules.length c0]) (t := 24) ?hr ?_; (case hd => rfl); (case hg => rfl); (case hr => first | (go_simp; done) | (go_simp; rfl)); intro gg hg w1 hbox hb; have GG := Aside0.mk ((by rw [hg]; exact Nat.le_refl _) : W.heap.size ≤ gg); have n0_ := Aside0.mk (below_step HB.out hb); clear HB; have HB := n0_; clear n0_; have n1_ := Aside0.mk (Kd.R_below HVS.out hb); clear HVS; have HVS := n1_; clear n1_; have HQ := Aside0.mk (Kq.below (v := .slice Av syms.length cv) hb); have BG := Aside0.mk hbox; clear hb hbox hg; have hgg0 : w1.cell? ⟨gg, 0, none⟩ = some (.int .i64 K) := (blk_cell BG.out 0).trans rfl; have hgg3 : w1.cell? ⟨gg, 3, none⟩ = some (.slice (some ar) rules.length c0) := (blk_cell BG.out 3).trans rfl; (try have hs1 := (HB.out.cell (World.block_lt_of_cell? w0 _ hs0)).trans hs0); (try have hy0 := (HB.out.cell (World.block_lt_of_cell? w0 _ hx0)).trans hx0); (try have hy1 := (HB.out.cell (World.block_lt_of_cell? w0 _ hx1)).trans hx1)))
      repeat (go_quiet (first | ((with_reducible refine gate_dst (N := 5) rfl ?_); refine box_event ?hg (N := 5) ?hd (cs := #[.int .i64 K, .int .i64 N, .int .i64 St, .slice (some ar) rules.length c0]) (t := 24) ?hr ?_; (case hd => rfl); (case hg => rfl); (case hr => first | (go_simp; done) | (go_simp; rfl)); intro gg hg w1 hbox hb; have GG := Aside0.mk ((by rw [hg]; exact Nat.le_refl _) : W.heap.size ≤ gg); have n0_ := Aside0.mk (below_step HB.out hb); clear HB; have HB := n0_; clear n0_; have n1_ := Aside0.mk (Kd.R_below HVS.out hb); clear HVS; have HVS := n1_; clear n1_; have HQ := Aside0.mk (Kq.below (v := .slice Av syms.length cv) hb); have BG := Aside0.mk hbox; clear hb hbox hg; have hgg0 : w1.cell? ⟨gg, 0, none⟩ = some (.int .i64 K) := (blk_cell BG.out 0).trans rfl; have hgg3 : w1.cell? ⟨gg, 3, none⟩ = some (.slice (some ar) rules.length c0) := (blk_cell BG.out 3).trans rfl; (try have hs1 := (HB.out.cell (World.block_lt_of_cell? w0 _ hs0)).trans hs0); (try have hy0 := (HB.out.cell (World.block_lt_of_cell? w0 _ hx0)).trans hx0); (try have hy1 := (HB.out.cell (World.block_lt_of_cell? w0 _ hx1)).trans hx1))); try go_wp2_with (first | ((with_reducible refine gate_dst (N := 5) rfl ?_); refine box_event ?hg (N := 5) ?hd (cs := #[.int .i64 K, .int .i64 N, .int .i64 St, .slice (some ar) rules.length c0]) (t := 24) ?hr ?_; (case hd => rfl); (case hg => rfl); (case hr => first | (go_simp; done) | (go_simp; rfl)); intro gg hg w1 hbox hb; have GG := Aside0.mk ((by rw [hg]; exact Nat.le_refl _) : W.heap.size ≤ gg); have n0_ := Aside0.mk (below_step HB.out hb); clear HB; have HB := n0_; clear n0_; have n1_ := Aside0.mk (Kd.R_below HVS.out hb); clear HVS; have HVS := n1_; clear n1_; have HQ := Aside0.mk (Kq.below (v := .slice Av syms.length cv) hb); have BG := Aside0.mk hbox; clear hb hbox hg; have hgg0 : w1.cell? ⟨gg, 0, none⟩ = some (.int .i64 K) := (blk_cell BG.out 0).trans rfl; have hgg3 : w1.cell? ⟨gg, 3, none⟩ = some (.slice (some ar) rules.length c0) := (blk_cell BG.out 3).trans rfl; (try have hs1 := (HB.out.cell (World.block_lt_of_cell? w0 _ hs0)).trans hs0); (try have hy0 := (HB.out.cell (World.block_lt_of_cell? w0 _ hx0)).trans hx0); (try have hy1 := (HB.out.cell (World.block_lt_of_cell? w0 _ hx1)).trans hx1))))
      go_ret3
      exact ⟨(by first | exact HB.out | exact pw_below_drewN HB.out _), by first | rfl | (simp; done) | (simp [*]; done)⟩
    rw [if_neg c4] at h
    have c4b : ((rd_T40 rules r).f0 != name) = false := by simpa using c4
    have hr1 : (rd_T40 rules r).f1 = (rd_T40 rules r).f1 := rfl
    clear c4
    by_cases c5 : (rd_T40 rules r).f1.length < 1000000
    case neg => rw [if_neg c5] at h; cases h
    rw [if_pos c5] at h
    have C5 := Aside0.mk c5
    have HH := Aside0.mk h
    clear c5 h hr1
    -- the cut
    obtain ⟨i0, hi, _, hsz, _⟩ := info_parts info3
    have hcut := cut_from (P := Try.prog) 25 3 .i64 Try.underlying25 hi 1 hsz (some ad) steps.length cs 1 (by omega) (by have := HLEN.out; omega)
    have hdr := Kd.C_drop (m := 1) (c := cs) HST.out (by have := HLEN.out; omega) HCS.out
    obtain ⟨As1, hA1⟩ : ∃ q, q = (if cs = 1 then some ad else (some ad : Option Addr).map (·.add (1 * 1))) := ⟨_, rfl⟩
    obtain ⟨cs1, hc1⟩ : ∃ q, q = cs - 1 := ⟨_, rfl⟩
    have hdl : (steps.drop 1).length = steps.length - 1 := List.length_drop
    rw [show (1 : Int).toNat = 1 from rfl, ← hdl, ← hA1, ← hc1] at hcut
    have HSD := Aside0.mk (show Kd.C (Kd.int .i64) w0 As1 (steps.drop 1).length (steps.drop 1) by rw [hA1]; exact hdr)
    have HCD := Aside0.mk (show (steps.drop 1).length ≤ cs1 by have := HCS.out; omega)
    have hone := eq_true (show (1 : Int) ≤ (steps.length : Int) by have := HLEN.out; omega)
    clear hdr hi hsz hA1 hc1 hdl
    generalize hlf : (rd_T40 rules r).f0 = lf at hx0 c4b
    generalize hright : (rd_T40 rules r).f1 = right at *
    generalize steps.drop 1 = st1 at *
    go_enter Try.func11, Try.ntmps11
    go_wp2_with (first | ((with_reducible refine gate_dst (N := 5) rfl ?_); refine box_event ?hg (N := 5) ?hd (cs := #[.int .i64 K, .int .i64 N, .int .i64 St, .slice (some ar) rules.length c0]) (t := 24) ?hr ?_; (case hd => rfl); (case hg => rfl); (case hr => first | (go_simp; done) | (go_simp; rfl)); intro gg hg w1 hbox hb; have GG := Aside0.mk ((by rw [hg]; exact Nat.le_refl _) : W.heap.size ≤ gg); have n0_ := Aside0.mk (below_step HB.out hb); clear HB; have HB := n0_; clear n0_; have n1_ := Aside0.mk (Kd.R_below HVS.out hb); clear HVS; have HVS := n1_; clear n1_; have HQ := Aside0.mk (Kq.below (v := .slice Av syms.length cv) hb); have BG := Aside0.mk hbox; clear hb hbox hg; have hgg0 : w1.cell? ⟨gg, 0, none⟩ = some (.int .i64 K) := (blk_cell BG.out 0).trans rfl; have hgg3 : w1.cell? ⟨gg, 3, none⟩ = some (.slice (some ar) rules.length c0) := (blk_cell BG.out 3).trans rfl; (try have hs1 := (HB.out.cell (World.block_lt_of_cell? w0 _ hs0)).trans hs0); (try have hy0 := (HB.out.cell (World.block_lt_of_cell? w0 _ hx0)).trans hx0); (try have hy1 := (HB.out.cell (World.block_lt_of_cell? w0 _ hx1)).trans hx1)) | ((with_reducible refine gate_dst (N := 52) rfl ?_); refine box_event ?hg (N := 52) ?hd (cs := #[.int .i64 r, .int .i64 at_, .int .i64 0, .slice none 0 0, .slice none 0 0]) (t := 47) ?hr ?_; (case hd => rfl); (case hg => rfl); (case hr => first | (go_simp; done) | (go_simp; rfl)); intro gb hg w2 hbox hb0; have hb : Below w1.heap.size w1 w2 := un_drewN hb0; have RS := Aside0.mk (ri_start HB.out HQ.out HVS.out HW0.out BG.out hbox hb hg); have HQ2 := Aside0.mk (HQ.out.trans (Kq.below hb)); clear hb hb0 hbox hg HB HVS BG HQ hgg0 hgg3 hs1 hy0 hy1; have hgg0 : w2.cell? ⟨gg, 0, none⟩ = some (.int .i64 K) := (blk_cell RS.out.kg 0).trans rfl; have hgg3 : w2.cell? ⟨gg, 3, none⟩ = some (.slice (some ar) rules.length c0) := (blk_cell RS.out.kg 3).trans rfl; have hgb0 : w2.cell? ⟨gb, 0, none⟩ = some (.int .i64 r) := (blk_cell RS.out.kb 0).trans rfl; have hs1 := (RS.out.hb.cell (World.block_lt_of_cell? w0 _ hs0)).trans hs0; have hy0 := (RS.out.hb.cell (World.block_lt_of_cell? w0 _ hx0)).trans hx0; have hy1 := (RS.out.hb.cell (World.block_lt_of_cell? w0 _ hx1)).trans hx1))
    repeat (go_quiet (first | ((with_reducible refine gate_dst (N := 5) rfl ?_); refine box_event ?hg (N := 5) ?hd (cs := #[.int .i64 K, .int .i64 N, .int .i64 St, .slice (some ar) rules.length c0]) (t := 24) ?hr ?_; (case hd => rfl); (case hg => rfl); (case hr => first | (go_simp; done) | (go_simp; rfl)); intro gg hg w1 hbox hb; have GG := Aside0.mk ((by rw [hg]; exact Nat.le_refl _) : W.heap.size ≤ gg); have n0_ := Aside0.mk (below_step HB.out hb); clear HB; have HB := n0_; clear n0_; have n1_ := Aside0.mk (Kd.R_below HVS.out hb); clear HVS; have HVS := n1_; clear n1_; have HQ := Aside0.mk (Kq.below (v := .slice Av syms.length cv) hb); have BG := Aside0.mk hbox; clear hb hbox hg; have hgg0 : w1.cell? ⟨gg, 0, none⟩ = some (.int .i64 K) := (blk_cell BG.out 0).trans rfl; have hgg3 : w1.cell? ⟨gg, 3, none⟩ = some (.slice (some ar) rules.length c0) := (blk_cell BG.out 3).trans rfl; (try have hs1 := (HB.out.cell (World.block_lt_of_cell? w0 _ hs0)).trans hs0); (try have hy0 := (HB.out.cell (World.block_lt_of_cell? w0 _ hx0)).trans hx0); (try have hy1 := (HB.out.cell (World.block_lt_of_cell? w0 _ hx1)).trans hx1)) | ((with_reducible refine gate_dst (N := 52) rfl ?_); refine box_event ?hg (N := 52) ?hd (cs := #[.int .i64 r, .int .i64 at_, .int .i64 0, .slice none 0 0, .slice none 0 0]) (t := 47) ?hr ?_; (case hd => rfl); (case hg => rfl); (case hr => first | (go_simp; done) | (go_simp; rfl)); intro gb hg w2 hbox hb0; have hb : Below w1.heap.size w1 w2 := un_drewN hb0; have RS := Aside0.mk (ri_start HB.out HQ.out HVS.out HW0.out BG.out hbox hb hg); have HQ2 := Aside0.mk (HQ.out.trans (Kq.below hb)); clear hb hb0 hbox hg HB HVS BG HQ hgg0 hgg3 hs1 hy0 hy1; have hgg0 : w2.cell? ⟨gg, 0, none⟩ = some (.int .i64 K) := (blk_cell RS.out.kg 0).trans rfl; have hgg3 : w2.cell? ⟨gg, 3, none⟩ = some (.slice (some ar) rules.length c0) := (blk_cell RS.out.kg 3).trans rfl; have hgb0 : w2.cell? ⟨gb, 0, none⟩ = some (.int .i64 r) := (blk_cell RS.out.kb 0).trans rfl; have hs1 := (RS.out.hb.cell (World.block_lt_of_cell? w0 _ hs0)).trans hs0; have hy0 := (RS.out.hb.cell (World.block_lt_of_cell? w0 _ hx0)).trans hx0; have hy1 := (RS.out.hb.cell (World.block_lt_of_cell? w0 _ hx1)).trans hx1)); try go_wp2_with (first | ((with_reducible refine gate_dst (N := 5) rfl ?_); refine box_event ?hg (N := 5) ?hd (cs := #[.int .i64 K, .int .i64 N, .int .i64 St, .slice (some ar) rules.length c0]) (t := 24) ?hr ?_; (case hd => rfl); (case hg => rfl); (case hr => first | (go_simp; done) | (go_simp; rfl)); intro gg hg w1 hbox hb; have GG := Aside0.mk ((by rw [hg]; exact Nat.le_refl _) : W.heap.size ≤ gg); have n0_ := Aside0.mk (below_step HB.out hb); clear HB; have HB := n0_; clear n0_; have n1_ := Aside0.mk (Kd.R_below HVS.out hb); clear HVS; have HVS := n1_; clear n1_; have HQ := Aside0.mk (Kq.below (v := .slice Av syms.length cv) hb); have BG := Aside0.mk hbox; clear hb hbox hg; have hgg0 : w1.cell? ⟨gg, 0, none⟩ = some (.int .i64 K) := (blk_cell BG.out 0).trans rfl; have hgg3 : w1.cell? ⟨gg, 3, none⟩ = some (.slice (some ar) rules.length c0) := (blk_cell BG.out 3).trans rfl; (try have hs1 := (HB.out.cell (World.block_lt_of_cell? w0 _ hs0)).trans hs0); (try have hy0 := (HB.out.cell (World.block_lt_of_cell? w0 _ hx0)).trans hx0); (try have hy1 := (HB.out.cell (World.block_lt_of_cell? w0 _ hx1)).trans hx1)) | ((with_reducible refine gate_dst (N := 52) rfl ?_); refine box_event ?hg (N := 52) ?hd (cs := #[.int .i64 r, .int .i64 at_, .int .i64 0, .slice none 0 0, .slice none 0 0]) (t := 47) ?hr ?_; (case hd => rfl); (case hg => rfl); (case hr => first | (go_simp; done) | (go_simp; rfl)); intro gb hg w2 hbox hb0; have hb : Below w1.heap.size w1 w2 := un_drewN hb0; have RS := Aside0.mk (ri_start HB.out HQ.out HVS.out HW0.out BG.out hbox hb hg); have HQ2 := Aside0.mk (HQ.out.trans (Kq.below hb)); clear hb hb0 hbox hg HB HVS BG HQ hgg0 hgg3 hs1 hy0 hy1; have hgg0 : w2.cell? ⟨gg, 0, none⟩ = some (.int .i64 K) := (blk_cell RS.out.kg 0).trans rfl; have hgg3 : w2.cell? ⟨gg, 3, none⟩ = some (.slice (some ar) rules.length c0) := (blk_cell RS.out.kg 3).trans rfl; have hgb0 : w2.cell? ⟨gb, 0, none⟩ = some (.int .i64 r) := (blk_cell RS.out.kb 0).trans rfl; have hs1 := (RS.out.hb.cell (World.block_lt_of_cell? w0 _ hs0)).trans hs0; have hy0 := (RS.out.hb.cell (World.block_lt_of_cell? w0 _ hx0)).trans hx0; have hy1 := (RS.out.hb.cell (World.block_lt_of_cell? w0 _ hx1)).trans hx1)))
    go_loopg [2, 4, 65] (right.length + 1) (fun kq v2 v4 v65 w' => ∃ (q : Nat) (stq syq : List Int) (Aq : Option Addr) (cq : Nat) (Av1 : Option Addr) (cv1 : Nat) (vp ve : Value) (parts : List (Option Nat)) (ends : List Int), v2 = .slice Aq stq.length cq ∧ v4 = .slice Av1 syq.length cv1 ∧ v65 = .int .i64 (q : Int) ∧ Aside0 (q ≤ right.length ∧ right.length < kq + q) ∧ Aside0 (Kd.C (Kd.int .i64) w0 Aq stq.length stq) ∧ Aside0 (stq.length ≤ cq) ∧
      Aside0 (RI w0 W gg #[.int .i64 K, .int .i64 N, .int .i64 St, .slice (some ar) rules.length c0] gb r at_ vp ve (.slice Av1 syq.length cv1) w' parts ends syq) ∧ Aside0 (parts.length ≤ q ∧ ends.length ≤ q) ∧ Aside0 (Kq (.slice Av syms.length cv) (.slice Av1 syq.length cv1) W w') ∧ Aside0 (readL K (readF K rules k) (right.drop q) stq syq = some o))
    case atStart => exact ⟨0, st1, syms, As1, cs1, Av, cv, _, _, _, _, rfl, rfl, rfl, ⟨by omega⟩, HSD, HCD, ⟨by first | exact RS.out | exact RS.out.drewN _⟩, ⟨by simp⟩, ⟨by first | exact HQ2.out | exact HQ2.out.drewN _⟩, HH⟩
    case round =>
      clear RS HQ2 HH HSD HCD
      (try clear hcut hgg0 hgg3 hgb0 hs1 hy0 hy1 hx0 hs0)
      obtain ⟨q, stq, syq, Aq, cq, Av1, cv1, vp, ve, parts, ends, rfl, rfl, rfl, HQ, HST, HCS, HRI, HPE, HK, HH⟩ := hrel
      by_cases c4 : q < right.length
      · have c4b0 : decide ((q : Int) < (right.length : Int)) = true := decide_eq_true (by omega)
        have c4b1 := eq_true (show (q : Int) < (right.length : Int) by omega)
        have c4b2 := eq_true (show (0 : Int) ≤ (q : Int) by omega)
        have C4 := Aside0.mk c4
        obtain ⟨ae, e1, hxq0⟩ := Kd.at_int HI.out (q : Int) (by omega) (by omega)
        subst e1
        rw [Int.toNat_natCast] at hxq0
        have hxq := (HRI.out.hb.cell (World.block_lt_of_cell? w0 _ hxq0)).trans hxq0
        have hh := HH.out
        have edr : right.drop q = rd right (q : Int) :: right.drop (q + 1) := by
          have e : rd right (q : Int) = right[q] := by simp [rd, List.getD_eq_getElem?_getD, List.getElem?_eq_getElem c4]
          rw [e, List.drop_eq_getElem_cons c4]
        rw [edr] at hh
        simp only [readL] at hh
        clear HH edr c4 hxq0
        have hgg0 : wr.cell? ⟨gg, 0, none⟩ = some (.int .i64 K) := (blk_cell HRI.out.kg 0).trans rfl
        cases gk with
        | zero => exact absurd HQ.out (by have := C4.out; omega)
        | succ k1 =>
          generalize rd right (q : Int) = x at hxq hh
          have ew : wrap64 ((q : Int) + 1) = ((q + 1 : Nat) : Int) := by have := C4.out; have := C5.out; unfold wrap64; omega
          by_cases c5 : x < K
          · rw [if_pos c5] at hh
            have c5b := decide_eq_true c5
            by_cases c6 : syq.length < 17592186044416
            case neg => rw [if_neg c6] at hh; cases hh
            rw [if_pos c6] at hh
            have C6 := Aside0.mk c6
            obtain ⟨sy2, hs2⟩ : ∃ s, s = syq ++ [x] := ⟨_, rfl⟩
            rw [← hs2] at hh
            have HS2 := Aside0.mk hs2
            have HH := Aside0.mk hh
            clear hh c5 c6 hs2
            go_wp2_with (first | ((with_reducible refine gate_builtin (b := .append) (xs := #[.tmp 73, .tmp 75]) rfl ?_); at_builtin; refine Kd.R_append (Kd.int .i64) (w0 := wr) w0.heap.size rfl (.tmp 73) (.tmp 75) 25 3 (.int .i64 0) 8 rfl Try.underlying25 info3 rfl (by decide) (by omega) (.slice Av1 syq.length cv1) syq x [.int .i64 x] (fun k => some k ≠ ve.ownBlock) (fun _ => False) rfl rfl ?aP (fun _ hk => hk.elim) ?aF ?aO ?aB ?aS ?aL ?_; (case aP => exact rfl); (case aB => exact Below.refl _ _); (case aF => exact (fun k hk e => by have := Kd.R_lt HRI.out.re k e.symm; omega)); (case aO => exact HRI.out.rs); (case aS => have h_ := HRI.out.h0; have h1_ := HRI.out.h1; omega); (case aL => have := C6.out; omega); intro v1 w1 ho _ hg hat; rw [← HS2.out] at ho; obtain ⟨Av2, cv2, rfl⟩ := Kd.R_slice ho; obtain ⟨q1, q2⟩ := HRI.out.sym ho hg hat; have HR2 := Aside0.mk q1; have HK2 := Aside0.mk (HK.out.trans q2); clear HRI HK ho hg hat q1 q2 hgg0 hxq; have HRI := HR2; have HK := HK2; clear HR2 HK2; obtain ⟨Ap, cp, rfl⟩ := Kd.R_slice HRI.out.rp; have hgb3 : w1.cell? ⟨gb, 3, none⟩ = some (.slice Ap parts.length cp) := (blk_cell HRI.out.kb 3).trans rfl) | ((with_reducible refine gate_builtin (b := .append) (xs := #[.tmp 81, .tmp 82]) rfl ?_); at_builtin; refine Kd.R_append kdP (w0 := w1) W.heap.size rfl (.tmp 81) (.tmp 82) 45 36 (.pointer none) 8 rfl Try.underlying45 info36 rfl (by decide) (by omega) (.slice Ap parts.length cp) parts none [.pointer none] (fun _ => True) (fun _ => False) rfl rfl ?aP (fun _ hk => hk.elim) ?aF ?aO ?aB ?aS ?aL ?_; (case aP => exact rfl); (case aB => exact Below.refl _ _); (case aF => exact (fun _ _ => trivial)); (case aO => exact HRI.out.rp); (case aS => have h_ := HRI.out.h0; have h1_ := HRI.out.h1; omega); (case aL => have h_ := HPE.out; have h2_ := HQ.out; have h3_ := C5.out; omega); intro v2 w2 ho _ hg _; obtain ⟨Ap2, cp2, rfl⟩ := Kd.R_slice ho; obtain ⟨q1, q2⟩ := HRI.out.part ho hg; have HR2 := Aside0.mk q1; have HK2 := Aside0.mk (q2 _ HK.out); have KB := Aside0.mk (blk_grown HRI.out.kb hg (Kd.R_ne HRI.out.rp HRI.out.kb (by decide))); clear HRI HK ho hg q1 q2 hgb3; have hf3 := blk_frozen KB.out 3; have hc3 : w2.cell? ⟨gb, 3, none⟩ = some (.slice Ap parts.length cp) := (blk_cell KB.out 3).trans rfl) | ((with_reducible refine gate_store (p := 85) rfl ?_); refine store_event (t := 45) (p := 85) (v := ?vw385) (w1 := w2.setCell ⟨gb, 3, none⟩ (.slice Ap2 (parts ++ [none]).length cp2)) ?hg ?ho ?hn ?hr ?_; (case ho => rfl); (case hg => rfl); (case hn => rfl); (case hr => first | (go_simp; done) | (go_simp; rfl)); intro w3 hw; rw [← hw] at HR2 HK2; clear hw KB hf3 hc3; have HRI := HR2; have HK := HK2; clear HR2 HK2; obtain ⟨Ae, ce, rfl⟩ := Kd.R_slice HRI.out.re; have hgb4 : w3.cell? ⟨gb, 4, none⟩ = some (.slice Ae ends.length ce) := (blk_cell HRI.out.kb 4).trans rfl) | ((with_reducible refine gate_builtin (b := .append) (xs := #[.tmp 116, .tmp 119]) rfl ?_); at_builtin; refine Kd.R_append (Kd.int .i64) (w0 := w3) W.heap.size rfl (.tmp 116) (.tmp 119) 25 3 (.int .i64 0) 8 rfl Try.underlying25 info3 rfl (by decide) (by omega) (.slice Ae ends.length ce) ends (sy2.length : Int) [.int .i64 (sy2.length : Int)] (fun k => some k ≠ (Value.slice Av2 sy2.length cv2).ownBlock) (fun _ => False) rfl rfl ?aP (fun _ hk => hk.elim) ?aF ?aO ?aB ?aS ?aL ?_; (case aP => exact rfl); (case aB => exact Below.refl _ _); (case aF => exact (fun k hk e => by have := Kd.R_lt HRI.out.rs k e.symm; omega)); (case aO => exact HRI.out.re); (case aS => have h_ := HRI.out.h0; have h1_ := HRI.out.h1; omega); (case aL => have h_ := HPE.out; have h2_ := HQ.out; have h3_ := C5.out; omega); intro v4 w4 ho _ hg hat; obtain ⟨Ae2, ce2, rfl⟩ := Kd.R_slice ho; obtain ⟨q1, q2⟩ := HRI.out.end_ ho hg hat; have HR2 := Aside0.mk q1; have HK2 := Aside0.mk (q2 _ HK.out); have KB := Aside0.mk (blk_grown HRI.out.kb hg (Kd.R_ne HRI.out.re HRI.out.kb (by decide))); clear HRI HK ho hg hat q1 q2 hgb4; have hf4 := blk_frozen KB.out 4; have hc4 : w4.cell? ⟨gb, 4, none⟩ = some (.slice Ae ends.length ce) := (blk_cell KB.out 4).trans rfl) | ((with_reducible refine gate_store (p := 122) rfl ?_); refine store_event (t := 25) (p := 122) (v := ?vw5122) (w1 := w4.setCell ⟨gb, 4, none⟩ (.slice Ae2 (ends ++ [(sy2.length : Int)]).length ce2)) ?hg ?ho ?hn ?hr ?_; (case ho => rfl); (case hg => rfl); (case hn => rfl); (case hr => first | (go_simp; done) | (go_simp; rfl)); intro w5 hw; rw [← hw] at HR2 HK2; clear hw KB hf4 hc4; have HRI := HR2; have HK := HK2; clear HR2 HK2; skip))
            try rw [ew]
            go_roundg k1
            case measure => omega
            case rel => exact ⟨q + 1, stq, sy2, Aq, cq, Av2, cv2, _, _, _, _, rfl, by first | rfl | (simp; done), by first | rfl | (rw [ew]; done) | rw [ew], ⟨by have := HQ.out; have := C4.out; omega⟩, HST, HCS, HRI, ⟨by have := HPE.out; simp; omega⟩, HK, HH⟩
          · rw [if_neg c5] at hh
            have c5b := decide_eq_false c5
            obtain ⟨rr, hf, hh⟩ := Option.bind_eq_some_iff.1 hh
            have HF := Aside0.mk hf
            have hgg1 : wr.cell? ⟨gg, 1, none⟩ = some (.int .i64 N) := (blk_cell HRI.out.kg 1).trans rfl
            have hgg2 : wr.cell? ⟨gg, 2, none⟩ = some (.int .i64 St) := (blk_cell HRI.out.kg 2).trans rfl
            have hgg3 : wr.cell? ⟨gg, 3, none⟩ = some (.slice (some ar) rules.length c0) := (blk_cell HRI.out.kg 3).trans rfl
            clear hf c5
            cases rr with
            | none =>
              have e5 : o = none := (Option.some.inj hh).symm
              subst e5
              clear hh
              go_wp2_with (fail)
              (refine (ih (wrap64 (x - K)) (syq.length : Int) Aq cq stq syq (.slice Av1 syq.length cv1) wr none HST.out HCS.out HRI.out.hb (Kd.R_mono HRI.out.rs (fun _ _ => trivial)) HF.out).mono ?_; rintro e w1 ⟨hbl, he⟩; simp only at he; subst he; have HBL := Aside0.mk hbl; clear hbl HRI hgg0 hgg1 hgg2 hgg3 hxq)
              go_wp2
              go_ret3
              exact ⟨HBL.out, by first | rfl | (simp; done) | (simp [*]; done)⟩
            | some p =>
              obtain ⟨rr1, rr2⟩ := p
              simp only at hh
              have HH := Aside0.mk hh
              clear hh
              go_wp2_with (fail)
              (refine (ih (wrap64 (x - K)) (syq.length : Int) Aq cq stq syq (.slice Av1 syq.length cv1) wr (some (rr1, rr2)) HST.out HCS.out HRI.out.hb (Kd.R_mono HRI.out.rs (fun _ _ => trivial)) HF.out).mono ?_; rintro e w1 ⟨hbl, gb2, Aq2, cq2, vs2, rfl, hC2, hc2, hR2, hk2⟩; simp only at hC2 hc2 hR2; obtain ⟨Av2, cv2, rfl⟩ := Kd.R_slice hR2; have HR2 := Aside0.mk (HRI.out.call hbl hR2 hk2); have HK2 := Aside0.mk (HK.out.trans hk2); have HS2 := Aside0.mk hC2; have HC2 := Aside0.mk hc2; clear hbl HRI HK hgg0 hgg1 hgg2 hgg3 hxq hC2 hc2 hR2 hk2; have HRI := HR2; have HK := HK2; clear HR2 HK2; obtain ⟨Ap, cp, rfl⟩ := Kd.R_slice HRI.out.rp; have hgb3 : w1.cell? ⟨gb, 3, none⟩ = some (.slice Ap parts.length cp) := (blk_cell HRI.out.kb 3).trans rfl)
              go_wp2_with (first | ((with_reducible refine gate_builtin (b := .append) (xs := #[.tmp 106, .tmp 108]) rfl ?_); at_builtin; refine Kd.R_append kdP (w0 := w1) W.heap.size rfl (.tmp 106) (.tmp 108) 45 36 (.pointer none) 8 rfl Try.underlying45 info36 rfl (by decide) (by omega) (.slice Ap parts.length cp) parts (some gb2) [.pointer (some ⟨gb2, 0, none⟩)] (fun _ => True) (fun _ => False) rfl rfl ?aP (fun _ hk => hk.elim) ?aF ?aO ?aB ?aS ?aL ?_; (case aP => exact rfl); (case aB => exact Below.refl _ _); (case aF => exact (fun _ _ => trivial)); (case aO => exact HRI.out.rp); (case aS => have h_ := HRI.out.h0; have h1_ := HRI.out.h1; omega); (case aL => have h_ := HPE.out; have h2_ := HQ.out; have h3_ := C5.out; omega); intro v2 w2 ho _ hg _; obtain ⟨Ap2, cp2, rfl⟩ := Kd.R_slice ho; obtain ⟨q1, q2⟩ := HRI.out.part ho hg; have HR2 := Aside0.mk q1; have HK2 := Aside0.mk (q2 _ HK.out); have KB := Aside0.mk (blk_grown HRI.out.kb hg (Kd.R_ne HRI.out.rp HRI.out.kb (by decide))); clear HRI HK ho hg q1 q2 hgb3; have hf3 := blk_frozen KB.out 3; have hc3 : w2.cell? ⟨gb, 3, none⟩ = some (.slice Ap parts.length cp) := (blk_cell KB.out 3).trans rfl) | ((with_reducible refine gate_store (p := 111) rfl ?_); refine store_event (t := 45) (p := 111) (v := ?vw3111) (w1 := w2.setCell ⟨gb, 3, none⟩ (.slice Ap2 (parts ++ [some gb2]).length cp2)) ?hg ?ho ?hn ?hr ?_; (case ho => rfl); (case hg => rfl); (case hn => rfl); (case hr => first | (go_simp; done) | (go_simp; rfl)); intro w3 hw; rw [← hw] at HR2 HK2; clear hw KB hf3 hc3; have HRI := HR2; have HK := HK2; clear HR2 HK2; obtain ⟨Ae, ce, rfl⟩ := Kd.R_slice HRI.out.re; have hgb4 : w3.cell? ⟨gb, 4, none⟩ = some (.slice Ae ends.length ce) := (blk_cell HRI.out.kb 4).trans rfl) | ((with_reducible refine gate_builtin (b := .append) (xs := #[.tmp 116, .tmp 119]) rfl ?_); at_builtin; refine Kd.R_append (Kd.int .i64) (w0 := w3) W.heap.size rfl (.tmp 116) (.tmp 119) 25 3 (.int .i64 0) 8 rfl Try.underlying25 info3 rfl (by decide) (by omega) (.slice Ae ends.length ce) ends (rr2.length : Int) [.int .i64 (rr2.length : Int)] (fun k => some k ≠ (Value.slice Av2 rr2.length cv2).ownBlock) (fun _ => False) rfl rfl ?aP (fun _ hk => hk.elim) ?aF ?aO ?aB ?aS ?aL ?_; (case aP => exact rfl); (case aB => exact Below.refl _ _); (case aF => exact (fun k hk e => by have := Kd.R_lt HRI.out.rs k e.symm; omega)); (case aO => exact HRI.out.re); (case aS => have h_ := HRI.out.h0; have h1_ := HRI.out.h1; omega); (case aL => have h_ := HPE.out; have h2_ := HQ.out; have h3_ := C5.out; omega); intro v4 w4 ho _ hg hat; obtain ⟨Ae2, ce2, rfl⟩ := Kd.R_slice ho; obtain ⟨q1, q2⟩ := HRI.out.end_ ho hg hat; have HR2 := Aside0.mk q1; have HK2 := Aside0.mk (q2 _ HK.out); have KB := Aside0.mk (blk_grown HRI.out.kb hg (Kd.R_ne HRI.out.re HRI.out.kb (by decide))); clear HRI HK ho hg hat q1 q2 hgb4; have hf4 := blk_frozen KB.out 4; have hc4 : w4.cell? ⟨gb, 4, none⟩ = some (.slice Ae ends.length ce) := (blk_cell KB.out 4).trans rfl) | ((with_reducible refine gate_store (p := 122) rfl ?_); refine store_event (t := 25) (p := 122) (v := ?vw5122) (w1 := w4.setCell ⟨gb, 4, none⟩ (.slice Ae2 (ends ++ [(rr2.length : Int)]).length ce2)) ?hg ?ho ?hn ?hr ?_; (case ho => rfl); (case hg => rfl); (case hn => rfl); (case hr => first | (go_simp; done) | (go_simp; rfl)); intro w5 hw; rw [← hw] at HR2 HK2; clear hw KB hf4 hc4; have HRI := HR2; have HK := HK2; clear HR2 HK2; skip))
              try rw [ew]
              go_roundg k1
              case measure => omega
              case rel => exact ⟨q + 1, rr1, rr2, Aq2, cq2, Av2, cv2, _, _, _, _, by first | rfl | (simp; done), by first | rfl | (simp; done), by first | rfl | (rw [ew]; done) | rw [ew], ⟨by have := HQ.out; have := C4.out; omega⟩, HS2, HC2, HRI, ⟨by have := HPE.out; simp; omega⟩, HK, HH⟩
      · have hq : q = right.length := by have := HQ.out; omega
        subst hq
        have c4b0 : decide ((right.length : Int) < (right.length : Int)) = false := decide_eq_false (by omega)
        have hh := HH.out
        rw [List.drop_length] at hh
        simp only [readL] at hh
        have e5 : o = some (stq, syq) := (Option.some.inj hh).symm
        subst e5
        have hgb2 : wr.cell? ⟨gb, 2, none⟩ = some (.int .i64 0) := (blk_cell HRI.out.kb 2).trans rfl
        have hfb2 := blk_frozen HRI.out.kb 2
        clear hh HH c4
        go_wp2_with (first | ((with_reducible refine gate_store (p := 128) rfl ?_); refine store_event (t := 3) (p := 128) (v := ?vF) (w1 := wr.setCell ⟨gb, 2, none⟩ (.int .i64 (syq.length : Int))) ?hg ?ho ?hn ?hr ?_; (case ho => rfl); (case hg => rfl); (case hn => rfl); (case hr => first | (go_simp; done) | (go_simp; rfl)); intro w1 hw; obtain ⟨q1, q2⟩ := box_set HRI.out.kb 2 (.int .i64 (syq.length : Int)) rfl; have HVf := Aside0.mk (Kd.R_set HRI.out.rs HRI.out.kb (by decide) 2 (.int .i64 (syq.length : Int))); have HBf := Aside0.mk (HRI.out.hb.setCell (p := ⟨gb, 2, none⟩) (Nat.le_trans HRI.out.h1 HRI.out.g0) (.int .i64 (syq.length : Int))); have HKf := Aside0.mk (HK.out.grown q2 (fun k e => by cases e; exact HRI.out.g0)); rw [← hw] at HVf HBf HKf; clear hw q1 q2 HRI HK hgb2 hfb2))
        go_ret3
        exact ⟨HBf.out, gb, Aq, cq, _, by first | rfl | (simp; done) | (simp [*]; done), HST.out, HCS.out, Kd.R_mono HVf.out (fun _ _ => trivial), HKf.out⟩
theorem readL_mono {K : Int} {V V' : Int → List Int → List Int → Option (Option (List Int × List Int))} (h : ∀ n s y, LeO (V n s y) (V' n s y)) : ∀ t s y, LeO (readL K V t s y) (readL K V' t s y)
  | [], _, _ => LeO.refl _
  | x :: t, s, y => by
    unfold readL
    refine LeO.ite (LeO.ite (readL_mono h t _ _) (LeO.refl _)) (LeO.bind (h _ _ _) (fun o => ?_))
    cases o with
    | none => exact LeO.refl _
    | some p => exact readL_mono h t _ _
theorem readF_mono (K : Int) (rules : List S40) : ∀ k n s y, LeO (readF K rules k n s y) (readF K rules (k + 1) n s y)
  | 0, _, _, _ => LeO.none _
  | k + 1, n, s, y => by
    rw [readF, readF]
    exact LeO.ite (LeO.refl _) (LeO.ite (LeO.refl _) (LeO.ite (LeO.refl _) (LeO.ite (LeO.refl _) (LeO.ite (readL_mono (readF_mono K rules k) _ _ _) (LeO.refl _)))))
def pick_Word_1_any.f (l0 : List Int) (a1_0 : Int) (a1_1 : Int) (a1_2 : Int) (l1_3 : List (S40)) : Option Bool := anyO (fun x : Int => pick_Word_1.f x a1_0 a1_1 a1_2 l1_3) l0
set_option maxHeartbeats 8000000 in
set_option maxRecDepth 100000 in
theorem pick_Word_1_any.calls (A0 : Option Addr) (c0 : Nat) (l0 : List Int) (a1_0 : Int) (a1_1 : Int) (a1_2 : Int) (A1_3 : Option Addr) (c1_3 : Nat) (l1_3 : List (S40)) (g1 : Nat) (r : Bool) (w : World) (hr0 : Kd.C (Kd.int .i64) w A0 l0.length l0) (hc0 : l0.length ≤ c0) (hr1_3 : Kd.C k40 w A1_3 l1_3.length l1_3) (hc1_3 : l1_3.length ≤ c1_3) (hbk1 : w.heap[g1]? = some (.cells #[.int .i64 a1_0, .int .i64 a1_1, .int .i64 a1_2, .slice A1_3 l1_3.length c1_3] 24 (0, 0))) (h : pick_Word_1_any.f l0 a1_0 a1_1 a1_2 l1_3 = some r) :
    Calls Try.prog 9 #[.slice A0 l0.length c0, .func (.func 10) #[] #[.pointer (some ⟨g1, 0, none⟩)]] w fun e w' => e = .returned (.bool r) ∧ Below w.heap.size w w' := by
  refine slices_ContainsFunc_Sint_int.anyO (fun x : Int => pick_Word_1.f x a1_0 a1_1 a1_2 l1_3) 10 #[.pointer (some ⟨g1, 0, none⟩)] (enters_of Try.func10 (by kernel_rfl) rfl) A0 c0 l0 w r h hr0 ?_
  intro W x cs b hx hB hK hp
  obtain rfl := hK
  refine (pick_Word_1.calls x a1_0 a1_1 a1_2 A1_3 c1_3 l1_3 g1 b W  (Kd.C_below hr1_3 hB) hc1_3 (blk_below hbk1 hB) hp).mono ?_
  rintro e w' ⟨rfl, h2⟩
  exact ⟨rfl, below_step hB h2.below⟩
def endW (o : Option (List Int × List Int)) : List Int × Int := match o with
  | none => ([], 3)
  | some p => if (p.1.length : Int) > 0 then ([], 3) else if (p.2.length : Int) > 60 then ([], 1) else (p.2, 0)
def pick_Word.f (k : Nat) (a0_0 : Int) (a0_1 : Int) (a0_2 : Int) (l0_3 : List (S40)) (l1 : List Int) : Option (List Int × Int) :=
  (grammar_Check.f k a0_0 a0_1 a0_2 l0_3).bind fun e => if e = 0 then (if (l1.length : Int) > 60 then some ([], 1) else (pick_Word_1_any.f l1 a0_0 a0_1 a0_2 l0_3).bind fun b => if b = true then some ([], 4) else (readF a0_0 l0_3 k a0_2 l1 []).bind fun o => some (endW o)) else some ([], e)
theorem pick_Word.mono : ∀ a0 a1 a2 a3 a4 k, LeO (pick_Word.f k a0 a1 a2 a3 a4) (pick_Word.f (k + 1) a0 a1 a2 a3 a4) := by
  intro a0 a1 a2 a3 a4 k
  unfold pick_Word.f
  exact LeO.bind (grammar_Check.mono _ _ _ _ _) (fun e => LeO.ite (LeO.ite (LeO.refl _) (LeO.bind (LeO.refl _) (fun b => LeO.ite (LeO.refl _) (LeO.bind (readF_mono _ _ _ _ _ _) (fun o => LeO.refl _))))) (LeO.refl _))
set_option maxHeartbeats 16000000 in
set_option maxRecDepth 100000 in
theorem pick_Word.calls (k : Nat) (a0_0 : Int) (a0_1 : Int) (a0_2 : Int) (A0_3 : Option Addr) (c0_3 : Nat) (l0_3 : List (S40)) (A1 : Option Addr) (c1 : Nat) (l1 : List Int) (r1 : List Int) (r2 : Int) (w : World) (hr0_3 : Kd.C k40 w A0_3 l0_3.length l0_3) (hc0_3 : l0_3.length ≤ c0_3) (hr1 : Kd.C (Kd.int .i64) w A1 l1.length l1) (hc1 : l1.length ≤ c1) (h : pick_Word.f k a0_0 a0_1 a0_2 l0_3 l1 = some (r1, r2)) :
    Calls Try.prog 4 #[.agg #[.int .i64 a0_0, .int .i64 a0_1, .int .i64 a0_2, .slice A0_3 l0_3.length c0_3], .slice A1 l1.length c1] w fun e w' => ∃ v0_ : Value, e = .returned (.tuple #[v0_, .int .i64 r2]) ∧ Kd.R (Kd.int .i64) 3 w' w.heap.size (fun _ => True) v0_ r1 ∧ Below w.heap.size w w' := by
  have hu24 := Try.underlying24
  have hu25 := Try.underlying25
  have hu36 := Try.underlying36
  have HR0 := Aside0.mk hr0_3
  have HC0 := Aside0.mk hc0_3
  have HR1 := Aside0.mk hr1
  have HC1 := Aside0.mk hc1
  clear hr0_3 hc0_3 hr1 hc1
  have HB := Aside0.mk (Below.refl w.heap.size w)
  unfold pick_Word.f at h
  obtain ⟨ec, he, h⟩ := Option.bind_eq_some_iff.1 h
  have HE := Aside0.mk he
  clear he
  by_cases q1 : ec = 0
  case neg =>
    rw [if_neg q1] at h
    obtain ⟨e1, e2⟩ := Prod.mk.inj (Option.some.inj h)
    subst e1
    subst e2
    clear h
    have q1b : (ec != 0) = true := bne_iff_ne.mpr q1
    have q1c : (ec == 0) = false := beq_eq_false_iff_ne.mpr q1
    clear q1
    go_enter Try.func4, Try.ntmps4
    go_wp2_with (first | ((with_reducible refine gate_dst (N := 2) rfl ?_); refine box_event ?hg (N := 2) ?hd (cs := #[.int .i64 a0_0, .int .i64 a0_1, .int .i64 a0_2, .slice A0_3 l0_3.length c0_3]) (t := 24) ?hr ?_; (case hd => rfl); (case hg => rfl); (case hr => first | (go_simp; done) | (go_simp; rfl)); intro gg hg w1 hbox hb; have n0_ := Aside0.mk (below_step HB.out hb); clear HB; have HB := n0_; clear n0_; have BG := Aside0.mk hbox; clear hb hbox hg; have hg0 : w1.cell? ⟨gg, 0, none⟩ = some (.int .i64 a0_0) := (blk_cell BG.out 0).trans rfl; have hg1 : w1.cell? ⟨gg, 1, none⟩ = some (.int .i64 a0_1) := (blk_cell BG.out 1).trans rfl; have hg2 : w1.cell? ⟨gg, 2, none⟩ = some (.int .i64 a0_2) := (blk_cell BG.out 2).trans rfl; have hg3 : w1.cell? ⟨gg, 3, none⟩ = some (.slice A0_3 l0_3.length c0_3) := (blk_cell BG.out 3).trans rfl))
    (refine (grammar_Check.calls k a0_0 a0_1 a0_2 A0_3 c0_3 l0_3 _ w1 (Kd.C_below HR0.out HB.out) HC0.out HE.out).mono ?_; rintro e w2 ⟨rfl, hb⟩; have n0_ := Aside0.mk (below_step HB.out hb); have n1_ := Aside0.mk (blk_below BG.out hb); clear HB BG hb hg0 hg1 hg2 hg3; have HB := n0_; have BG := n1_; clear n0_ n1_; have hg0 : w2.cell? ⟨gg, 0, none⟩ = some (.int .i64 a0_0) := (blk_cell BG.out 0).trans rfl; have hg1 : w2.cell? ⟨gg, 1, none⟩ = some (.int .i64 a0_1) := (blk_cell BG.out 1).trans rfl; have hg2 : w2.cell? ⟨gg, 2, none⟩ = some (.int .i64 a0_2) := (blk_cell BG.out 2).trans rfl; have hg3 : w2.cell? ⟨gg, 3, none⟩ = some (.slice A0_3 l0_3.length c0_3) := (blk_cell BG.out 3).trans rfl)
    go_wp2_with (fail)
    go_ret2
    exact ⟨_, by first | rfl | (simp; done) | (simp [*]; done), Kd.R_nil _ _ _ _ _, HB.out⟩
  rw [if_pos q1] at h
  subst q1
  by_cases q2 : (l1.length : Int) > 60
  · rw [if_pos q2] at h
    cases h
    have q2b : decide ((l1.length : Int) > 60) = true := decide_eq_true q2
    have q2c : decide (60 < (l1.length : Int)) = true := decide_eq_true q2
    clear q2
    go_enter Try.func4, Try.ntmps4
    go_wp2_with (first | ((with_reducible refine gate_dst (N := 2) rfl ?_); refine box_event ?hg (N := 2) ?hd (cs := #[.int .i64 a0_0, .int .i64 a0_1, .int .i64 a0_2, .slice A0_3 l0_3.length c0_3]) (t := 24) ?hr ?_; (case hd => rfl); (case hg => rfl); (case hr => first | (go_simp; done) | (go_simp; rfl)); intro gg hg w1 hbox hb; have n0_ := Aside0.mk (below_step HB.out hb); clear HB; have HB := n0_; clear n0_; have BG := Aside0.mk hbox; clear hb hbox hg; have hg0 : w1.cell? ⟨gg, 0, none⟩ = some (.int .i64 a0_0) := (blk_cell BG.out 0).trans rfl; have hg1 : w1.cell? ⟨gg, 1, none⟩ = some (.int .i64 a0_1) := (blk_cell BG.out 1).trans rfl; have hg2 : w1.cell? ⟨gg, 2, none⟩ = some (.int .i64 a0_2) := (blk_cell BG.out 2).trans rfl; have hg3 : w1.cell? ⟨gg, 3, none⟩ = some (.slice A0_3 l0_3.length c0_3) := (blk_cell BG.out 3).trans rfl))
    (refine (grammar_Check.calls k a0_0 a0_1 a0_2 A0_3 c0_3 l0_3 _ w1 (Kd.C_below HR0.out HB.out) HC0.out HE.out).mono ?_; rintro e w2 ⟨rfl, hb⟩; have n0_ := Aside0.mk (below_step HB.out hb); have n1_ := Aside0.mk (blk_below BG.out hb); clear HB BG hb hg0 hg1 hg2 hg3; have HB := n0_; have BG := n1_; clear n0_ n1_; have hg0 : w2.cell? ⟨gg, 0, none⟩ = some (.int .i64 a0_0) := (blk_cell BG.out 0).trans rfl; have hg1 : w2.cell? ⟨gg, 1, none⟩ = some (.int .i64 a0_1) := (blk_cell BG.out 1).trans rfl; have hg2 : w2.cell? ⟨gg, 2, none⟩ = some (.int .i64 a0_2) := (blk_cell BG.out 2).trans rfl; have hg3 : w2.cell? ⟨gg, 3, none⟩ = some (.slice A0_3 l0_3.length c0_3) := (blk_cell BG.out 3).trans rfl)
    go_wp2_with (fail)
    go_ret2
    exact ⟨_, by first | rfl | (simp; done) | (simp [*]; done), Kd.R_nil _ _ _ _ _, HB.out⟩
  rw [if_neg q2] at h
  have q2b : decide ((l1.length : Int) > 60) = false := decide_eq_false q2
  have q2c : decide (60 < (l1.length : Int)) = false := decide_eq_false q2
  clear q2
  obtain ⟨b, hb, h⟩ := Option.bind_eq_some_iff.1 h
  have HA := Aside0.mk hb
  clear hb
  by_cases q3 : b = true
  · rw [if_pos q3] at h
    cases h
    subst q3
    go_enter Try.func4, Try.ntmps4
    go_wp2_with (first | ((with_reducible refine gate_dst (N := 2) rfl ?_); refine box_event ?hg (N := 2) ?hd (cs := #[.int .i64 a0_0, .int .i64 a0_1, .int .i64 a0_2, .slice A0_3 l0_3.length c0_3]) (t := 24) ?hr ?_; (case hd => rfl); (case hg => rfl); (case hr => first | (go_simp; done) | (go_simp; rfl)); intro gg hg w1 hbox hb; have n0_ := Aside0.mk (below_step HB.out hb); clear HB; have HB := n0_; clear n0_; have BG := Aside0.mk hbox; clear hb hbox hg; have hg0 : w1.cell? ⟨gg, 0, none⟩ = some (.int .i64 a0_0) := (blk_cell BG.out 0).trans rfl; have hg1 : w1.cell? ⟨gg, 1, none⟩ = some (.int .i64 a0_1) := (blk_cell BG.out 1).trans rfl; have hg2 : w1.cell? ⟨gg, 2, none⟩ = some (.int .i64 a0_2) := (blk_cell BG.out 2).trans rfl; have hg3 : w1.cell? ⟨gg, 3, none⟩ = some (.slice A0_3 l0_3.length c0_3) := (blk_cell BG.out 3).trans rfl))
    (refine (grammar_Check.calls k a0_0 a0_1 a0_2 A0_3 c0_3 l0_3 _ w1 (Kd.C_below HR0.out HB.out) HC0.out HE.out).mono ?_; rintro e w2 ⟨rfl, hb⟩; have n0_ := Aside0.mk (below_step HB.out hb); have n1_ := Aside0.mk (blk_below BG.out hb); clear HB BG hb hg0 hg1 hg2 hg3; have HB := n0_; have BG := n1_; clear n0_ n1_; have hg0 : w2.cell? ⟨gg, 0, none⟩ = some (.int .i64 a0_0) := (blk_cell BG.out 0).trans rfl; have hg1 : w2.cell? ⟨gg, 1, none⟩ = some (.int .i64 a0_1) := (blk_cell BG.out 1).trans rfl; have hg2 : w2.cell? ⟨gg, 2, none⟩ = some (.int .i64 a0_2) := (blk_cell BG.out 2).trans rfl; have hg3 : w2.cell? ⟨gg, 3, none⟩ = some (.slice A0_3 l0_3.length c0_3) := (blk_cell BG.out 3).trans rfl)
    go_wp2_with (fail)
    (refine (pick_Word_1_any.calls A1 c1 l1 a0_0 a0_1 a0_2 A0_3 c0_3 l0_3 gg _ w2 (Kd.C_below HR1.out HB.out) HC1.out (Kd.C_below HR0.out HB.out) HC0.out BG.out HA.out).mono ?_; rintro e w3 ⟨rfl, hb⟩; have n0_ := Aside0.mk (below_step HB.out hb); have n1_ := Aside0.mk (blk_below BG.out hb); clear HB BG hb hg0 hg1 hg2 hg3; have HB := n0_; have BG := n1_; clear n0_ n1_; have hg0 : w3.cell? ⟨gg, 0, none⟩ = some (.int .i64 a0_0) := (blk_cell BG.out 0).trans rfl; have hg1 : w3.cell? ⟨gg, 1, none⟩ = some (.int .i64 a0_1) := (blk_cell BG.out 1).trans rfl; have hg2 : w3.cell? ⟨gg, 2, none⟩ = some (.int .i64 a0_2) := (blk_cell BG.out 2).trans rfl; have hg3 : w3.cell? ⟨gg, 3, none⟩ = some (.slice A0_3 l0_3.length c0_3) := (blk_cell BG.out 3).trans rfl)
    go_wp2_with (fail)
    go_ret2
    exact ⟨_, by first | rfl | (simp; done) | (simp [*]; done), Kd.R_nil _ _ _ _ _, HB.out⟩
  rw [if_neg q3] at h
  obtain rfl : b = false := Bool.eq_false_iff.2 q3
  clear q3
  obtain ⟨o, ho, h⟩ := Option.bind_eq_some_iff.1 h
  have HO := Aside0.mk ho
  clear ho
  cases o with
  | none =>
    cases h
    go_enter Try.func4, Try.ntmps4
    go_wp2_with (first | ((with_reducible refine gate_dst (N := 2) rfl ?_); refine box_event ?hg (N := 2) ?hd (cs := #[.int .i64 a0_0, .int .i64 a0_1, .int .i64 a0_2, .slice A0_3 l0_3.length c0_3]) (t := 24) ?hr ?_; (case hd => rfl); (case hg => rfl); (case hr => first | (go_simp; done) | (go_simp; rfl)); intro gg hg w1 hbox hb; have n0_ := Aside0.mk (below_step HB.out hb); clear HB; have HB := n0_; clear n0_; have BG := Aside0.mk hbox; clear hb hbox hg; have hg0 : w1.cell? ⟨gg, 0, none⟩ = some (.int .i64 a0_0) := (blk_cell BG.out 0).trans rfl; have hg1 : w1.cell? ⟨gg, 1, none⟩ = some (.int .i64 a0_1) := (blk_cell BG.out 1).trans rfl; have hg2 : w1.cell? ⟨gg, 2, none⟩ = some (.int .i64 a0_2) := (blk_cell BG.out 2).trans rfl; have hg3 : w1.cell? ⟨gg, 3, none⟩ = some (.slice A0_3 l0_3.length c0_3) := (blk_cell BG.out 3).trans rfl))
    (refine (grammar_Check.calls k a0_0 a0_1 a0_2 A0_3 c0_3 l0_3 _ w1 (Kd.C_below HR0.out HB.out) HC0.out HE.out).mono ?_; rintro e w2 ⟨rfl, hb⟩; have n0_ := Aside0.mk (below_step HB.out hb); have n1_ := Aside0.mk (blk_below BG.out hb); clear HB BG hb hg0 hg1 hg2 hg3; have HB := n0_; have BG := n1_; clear n0_ n1_; have hg0 : w2.cell? ⟨gg, 0, none⟩ = some (.int .i64 a0_0) := (blk_cell BG.out 0).trans rfl; have hg1 : w2.cell? ⟨gg, 1, none⟩ = some (.int .i64 a0_1) := (blk_cell BG.out 1).trans rfl; have hg2 : w2.cell? ⟨gg, 2, none⟩ = some (.int .i64 a0_2) := (blk_cell BG.out 2).trans rfl; have hg3 : w2.cell? ⟨gg, 3, none⟩ = some (.slice A0_3 l0_3.length c0_3) := (blk_cell BG.out 3).trans rfl)
    go_wp2_with (fail)
    (refine (pick_Word_1_any.calls A1 c1 l1 a0_0 a0_1 a0_2 A0_3 c0_3 l0_3 gg _ w2 (Kd.C_below HR1.out HB.out) HC1.out (Kd.C_below HR0.out HB.out) HC0.out BG.out HA.out).mono ?_; rintro e w3 ⟨rfl, hb⟩; have n0_ := Aside0.mk (below_step HB.out hb); have n1_ := Aside0.mk (blk_below BG.out hb); clear HB BG hb hg0 hg1 hg2 hg3; have HB := n0_; have BG := n1_; clear n0_ n1_; have hg0 : w3.cell? ⟨gg, 0, none⟩ = some (.int .i64 a0_0) := (blk_cell BG.out 0).trans rfl; have hg1 : w3.cell? ⟨gg, 1, none⟩ = some (.int .i64 a0_1) := (blk_cell BG.out 1).trans rfl; have hg2 : w3.cell? ⟨gg, 2, none⟩ = some (.int .i64 a0_2) := (blk_cell BG.out 2).trans rfl; have hg3 : w3.cell? ⟨gg, 3, none⟩ = some (.slice A0_3 l0_3.length c0_3) := (blk_cell BG.out 3).trans rfl)
    go_wp2_with (fail)
    (refine (read_calls w a0_0 a0_1 a0_2 A0_3 c0_3 l0_3 HR0.out HC0.out k a0_2 0 A1 c1 l1 [] (.slice none 0 0) w3 none HR1.out HC1.out HB.out (Kd.R_nil _ _ _ _ _) HO.out).mono ?_; rintro e w4 ⟨hb4, he⟩; simp only at he; subst he; have HB4 := Aside0.mk hb4; clear HB BG hb4; (try clear hg0 hg1 hg2 hg3))
    go_wp2_with (fail)
    go_ret2
    exact ⟨_, by first | rfl | (simp; done) | (simp [*]; done), Kd.R_nil _ _ _ _ _, HB4.out⟩
  | some p =>
    obtain ⟨p1, p2⟩ := p
    have h2 : endW (some (p1, p2)) = (r1, r2) := Option.some.inj h
    unfold endW at h2
    simp only at h2
    clear h
    by_cases q4 : (p1.length : Int) > 0
    · rw [if_pos q4] at h2
      cases h2
      have q4b : decide ((p1.length : Int) > 0) = true := decide_eq_true q4
      have q4c : decide (0 < (p1.length : Int)) = true := decide_eq_true q4
      have q4d : decide (0 < p1.length) = true := decide_eq_true (by omega)
      have q4e := eq_true (show 0 < p1.length by omega)
      clear q4
      go_enter Try.func4, Try.ntmps4
      go_wp2_with (first | ((with_reducible refine gate_dst (N := 2) rfl ?_); refine box_event ?hg (N := 2) ?hd (cs := #[.int .i64 a0_0, .int .i64 a0_1, .int .i64 a0_2, .slice A0_3 l0_3.length c0_3]) (t := 24) ?hr ?_; (case hd => rfl); (case hg => rfl); (case hr => first | (go_simp; done) | (go_simp; rfl)); intro gg hg w1 hbox hb; have n0_ := Aside0.mk (below_step HB.out hb); clear HB; have HB := n0_; clear n0_; have BG := Aside0.mk hbox; clear hb hbox hg; have hg0 : w1.cell? ⟨gg, 0, none⟩ = some (.int .i64 a0_0) := (blk_cell BG.out 0).trans rfl; have hg1 : w1.cell? ⟨gg, 1, none⟩ = some (.int .i64 a0_1) := (blk_cell BG.out 1).trans rfl; have hg2 : w1.cell? ⟨gg, 2, none⟩ = some (.int .i64 a0_2) := (blk_cell BG.out 2).trans rfl; have hg3 : w1.cell? ⟨gg, 3, none⟩ = some (.slice A0_3 l0_3.length c0_3) := (blk_cell BG.out 3).trans rfl))
      (refine (grammar_Check.calls k a0_0 a0_1 a0_2 A0_3 c0_3 l0_3 _ w1 (Kd.C_below HR0.out HB.out) HC0.out HE.out).mono ?_; rintro e w2 ⟨rfl, hb⟩; have n0_ := Aside0.mk (below_step HB.out hb); have n1_ := Aside0.mk (blk_below BG.out hb); clear HB BG hb hg0 hg1 hg2 hg3; have HB := n0_; have BG := n1_; clear n0_ n1_; have hg0 : w2.cell? ⟨gg, 0, none⟩ = some (.int .i64 a0_0) := (blk_cell BG.out 0).trans rfl; have hg1 : w2.cell? ⟨gg, 1, none⟩ = some (.int .i64 a0_1) := (blk_cell BG.out 1).trans rfl; have hg2 : w2.cell? ⟨gg, 2, none⟩ = some (.int .i64 a0_2) := (blk_cell BG.out 2).trans rfl; have hg3 : w2.cell? ⟨gg, 3, none⟩ = some (.slice A0_3 l0_3.length c0_3) := (blk_cell BG.out 3).trans rfl)
      go_wp2_with (fail)
      (refine (pick_Word_1_any.calls A1 c1 l1 a0_0 a0_1 a0_2 A0_3 c0_3 l0_3 gg _ w2 (Kd.C_below HR1.out HB.out) HC1.out (Kd.C_below HR0.out HB.out) HC0.out BG.out HA.out).mono ?_; rintro e w3 ⟨rfl, hb⟩; have n0_ := Aside0.mk (below_step HB.out hb); have n1_ := Aside0.mk (blk_below BG.out hb); clear HB BG hb hg0 hg1 hg2 hg3; have HB := n0_; have BG := n1_; clear n0_ n1_; have hg0 : w3.cell? ⟨gg, 0, none⟩ = some (.int .i64 a0_0) := (blk_cell BG.out 0).trans rfl; have hg1 : w3.cell? ⟨gg, 1, none⟩ = some (.int .i64 a0_1) := (blk_cell BG.out 1).trans rfl; have hg2 : w3.cell? ⟨gg, 2, none⟩ = some (.int .i64 a0_2) := (blk_cell BG.out 2).trans rfl; have hg3 : w3.cell? ⟨gg, 3, none⟩ = some (.slice A0_3 l0_3.length c0_3) := (blk_cell BG.out 3).trans rfl)
      go_wp2_with (fail)
      (refine (read_calls w a0_0 a0_1 a0_2 A0_3 c0_3 l0_3 HR0.out HC0.out k a0_2 0 A1 c1 l1 [] (.slice none 0 0) w3 (some (p1, p2)) HR1.out HC1.out HB.out (Kd.R_nil _ _ _ _ _) HO.out).mono ?_; rintro e w4 ⟨hb4, gb4, Aq4, cq4, vs4, rfl, hC4, hc4, hR4, hk4⟩; simp only at hC4 hc4 hR4; obtain ⟨Av4, cv4, rfl⟩ := Kd.R_slice hR4; have HB4 := Aside0.mk hb4; have HV4 := Aside0.mk hR4; clear HB BG hb4 hC4 hc4 hR4 hk4; (try clear hg0 hg1 hg2 hg3))
      go_wp2_with (fail)
      go_ret2
      exact ⟨_, by first | rfl | (simp; done) | (simp [*]; done), Kd.R_nil _ _ _ _ _, HB4.out⟩
    rw [if_neg q4] at h2
    have q4b : decide ((p1.length : Int) > 0) = false := decide_eq_false q4
    have q4c : decide (0 < (p1.length : Int)) = false := decide_eq_false q4
    have q4d : p1 = [] := List.eq_nil_of_length_eq_zero (by omega)
    subst q4d
    clear q4 q4b q4c
    by_cases q5 : (p2.length : Int) > 60
    · rw [if_pos q5] at h2
      cases h2
      have q5b : decide ((p2.length : Int) > 60) = true := decide_eq_true q5
      have q5c : decide (60 < (p2.length : Int)) = true := decide_eq_true q5
      clear q5
      go_enter Try.func4, Try.ntmps4
      go_wp2_with (first | ((with_reducible refine gate_dst (N := 2) rfl ?_); refine box_event ?hg (N := 2) ?hd (cs := #[.int .i64 a0_0, .int .i64 a0_1, .int .i64 a0_2, .slice A0_3 l0_3.length c0_3]) (t := 24) ?hr ?_; (case hd => rfl); (case hg => rfl); (case hr => first | (go_simp; done) | (go_simp; rfl)); intro gg hg w1 hbox hb; have n0_ := Aside0.mk (below_step HB.out hb); clear HB; have HB := n0_; clear n0_; have BG := Aside0.mk hbox; clear hb hbox hg; have hg0 : w1.cell? ⟨gg, 0, none⟩ = some (.int .i64 a0_0) := (blk_cell BG.out 0).trans rfl; have hg1 : w1.cell? ⟨gg, 1, none⟩ = some (.int .i64 a0_1) := (blk_cell BG.out 1).trans rfl; have hg2 : w1.cell? ⟨gg, 2, none⟩ = some (.int .i64 a0_2) := (blk_cell BG.out 2).trans rfl; have hg3 : w1.cell? ⟨gg, 3, none⟩ = some (.slice A0_3 l0_3.length c0_3) := (blk_cell BG.out 3).trans rfl))
      (refine (grammar_Check.calls k a0_0 a0_1 a0_2 A0_3 c0_3 l0_3 _ w1 (Kd.C_below HR0.out HB.out) HC0.out HE.out).mono ?_; rintro e w2 ⟨rfl, hb⟩; have n0_ := Aside0.mk (below_step HB.out hb); have n1_ := Aside0.mk (blk_below BG.out hb); clear HB BG hb hg0 hg1 hg2 hg3; have HB := n0_; have BG := n1_; clear n0_ n1_; have hg0 : w2.cell? ⟨gg, 0, none⟩ = some (.int .i64 a0_0) := (blk_cell BG.out 0).trans rfl; have hg1 : w2.cell? ⟨gg, 1, none⟩ = some (.int .i64 a0_1) := (blk_cell BG.out 1).trans rfl; have hg2 : w2.cell? ⟨gg, 2, none⟩ = some (.int .i64 a0_2) := (blk_cell BG.out 2).trans rfl; have hg3 : w2.cell? ⟨gg, 3, none⟩ = some (.slice A0_3 l0_3.length c0_3) := (blk_cell BG.out 3).trans rfl)
      go_wp2_with (fail)
      (refine (pick_Word_1_any.calls A1 c1 l1 a0_0 a0_1 a0_2 A0_3 c0_3 l0_3 gg _ w2 (Kd.C_below HR1.out HB.out) HC1.out (Kd.C_below HR0.out HB.out) HC0.out BG.out HA.out).mono ?_; rintro e w3 ⟨rfl, hb⟩; have n0_ := Aside0.mk (below_step HB.out hb); have n1_ := Aside0.mk (blk_below BG.out hb); clear HB BG hb hg0 hg1 hg2 hg3; have HB := n0_; have BG := n1_; clear n0_ n1_; have hg0 : w3.cell? ⟨gg, 0, none⟩ = some (.int .i64 a0_0) := (blk_cell BG.out 0).trans rfl; have hg1 : w3.cell? ⟨gg, 1, none⟩ = some (.int .i64 a0_1) := (blk_cell BG.out 1).trans rfl; have hg2 : w3.cell? ⟨gg, 2, none⟩ = some (.int .i64 a0_2) := (blk_cell BG.out 2).trans rfl; have hg3 : w3.cell? ⟨gg, 3, none⟩ = some (.slice A0_3 l0_3.length c0_3) := (blk_cell BG.out 3).trans rfl)
      go_wp2_with (fail)
      (refine (read_calls w a0_0 a0_1 a0_2 A0_3 c0_3 l0_3 HR0.out HC0.out k a0_2 0 A1 c1 l1 [] (.slice none 0 0) w3 (some ([], p2)) HR1.out HC1.out HB.out (Kd.R_nil _ _ _ _ _) HO.out).mono ?_; rintro e w4 ⟨hb4, gb4, Aq4, cq4, vs4, rfl, hC4, hc4, hR4, hk4⟩; simp only at hC4 hc4 hR4; obtain ⟨Av4, cv4, rfl⟩ := Kd.R_slice hR4; have HB4 := Aside0.mk hb4; have HV4 := Aside0.mk hR4; clear HB BG hb4 hC4 hc4 hR4 hk4; (try clear hg0 hg1 hg2 hg3))
      go_wp2_with (fail)
      go_ret2
      exact ⟨_, by first | rfl | (simp; done) | (simp [*]; done), Kd.R_nil _ _ _ _ _, HB4.out⟩
    rw [if_neg q5] at h2
    obtain ⟨e1, e2⟩ := Prod.mk.inj h2
    subst e1
    subst e2
    clear h2
    have q5b : decide ((p2.length : Int) > 60) = false := decide_eq_false q5
    have q5c : decide (60 < (p2.length : Int)) = false := decide_eq_false q5
    clear q5
    go_enter Try.func4, Try.ntmps4
    go_wp2_with (first | ((with_reducible refine gate_dst (N := 2) rfl ?_); refine box_event ?hg (N := 2) ?hd (cs := #[.int .i64 a0_0, .int .i64 a0_1, .int .i64 a0_2, .slice A0_3 l0_3.length c0_3]) (t := 24) ?hr ?_; (case hd => rfl); (case hg => rfl); (case hr => first | (go_simp; done) | (go_simp; rfl)); intro gg hg w1 hbox hb; have n0_ := Aside0.mk (below_step HB.out hb); clear HB; have HB := n0_; clear n0_; have BG := Aside0.mk hbox; clear hb hbox hg; have hg0 : w1.cell? ⟨gg, 0, none⟩ = some (.int .i64 a0_0) := (blk_cell BG.out 0).trans rfl; have hg1 : w1.cell? ⟨gg, 1, none⟩ = some (.int .i64 a0_1) := (blk_cell BG.out 1).trans rfl; have hg2 : w1.cell? ⟨gg, 2, none⟩ = some (.int .i64 a0_2) := (blk_cell BG.out 2).trans rfl; have hg3 : w1.cell? ⟨gg, 3, none⟩ = some (.slice A0_3 l0_3.length c0_3) := (blk_cell BG.out 3).trans rfl))
    (refine (grammar_Check.calls k a0_0 a0_1 a0_2 A0_3 c0_3 l0_3 _ w1 (Kd.C_below HR0.out HB.out) HC0.out HE.out).mono ?_; rintro e w2 ⟨rfl, hb⟩; have n0_ := Aside0.mk (below_step HB.out hb); have n1_ := Aside0.mk (blk_below BG.out hb); clear HB BG hb hg0 hg1 hg2 hg3; have HB := n0_; have BG := n1_; clear n0_ n1_; have hg0 : w2.cell? ⟨gg, 0, none⟩ = some (.int .i64 a0_0) := (blk_cell BG.out 0).trans rfl; have hg1 : w2.cell? ⟨gg, 1, none⟩ = some (.int .i64 a0_1) := (blk_cell BG.out 1).trans rfl; have hg2 : w2.cell? ⟨gg, 2, none⟩ = some (.int .i64 a0_2) := (blk_cell BG.out 2).trans rfl; have hg3 : w2.cell? ⟨gg, 3, none⟩ = some (.slice A0_3 l0_3.length c0_3) := (blk_cell BG.out 3).trans rfl)
    go_wp2_with (fail)
    (refine (pick_Word_1_any.calls A1 c1 l1 a0_0 a0_1 a0_2 A0_3 c0_3 l0_3 gg _ w2 (Kd.C_below HR1.out HB.out) HC1.out (Kd.C_below HR0.out HB.out) HC0.out BG.out HA.out).mono ?_; rintro e w3 ⟨rfl, hb⟩; have n0_ := Aside0.mk (below_step HB.out hb); have n1_ := Aside0.mk (blk_below BG.out hb); clear HB BG hb hg0 hg1 hg2 hg3; have HB := n0_; have BG := n1_; clear n0_ n1_; have hg0 : w3.cell? ⟨gg, 0, none⟩ = some (.int .i64 a0_0) := (blk_cell BG.out 0).trans rfl; have hg1 : w3.cell? ⟨gg, 1, none⟩ = some (.int .i64 a0_1) := (blk_cell BG.out 1).trans rfl; have hg2 : w3.cell? ⟨gg, 2, none⟩ = some (.int .i64 a0_2) := (blk_cell BG.out 2).trans rfl; have hg3 : w3.cell? ⟨gg, 3, none⟩ = some (.slice A0_3 l0_3.length c0_3) := (blk_cell BG.out 3).trans rfl)
    go_wp2_with (fail)
    (refine (read_calls w a0_0 a0_1 a0_2 A0_3 c0_3 l0_3 HR0.out HC0.out k a0_2 0 A1 c1 l1 [] (.slice none 0 0) w3 (some ([], p2)) HR1.out HC1.out HB.out (Kd.R_nil _ _ _ _ _) HO.out).mono ?_; rintro e w4 ⟨hb4, gb4, Aq4, cq4, vs4, rfl, hC4, hc4, hR4, hk4⟩; simp only at hC4 hc4 hR4; obtain ⟨Av4, cv4, rfl⟩ := Kd.R_slice hR4; have HB4 := Aside0.mk hb4; have HV4 := Aside0.mk hR4; clear HB BG hb4 hC4 hc4 hR4 hk4; (try clear hg0 hg1 hg2 hg3))
    go_wp2_with (fail)
    go_ret2
    exact ⟨_, by first | rfl | (simp; done) | (simp [*]; done), HV4.out, HB4.out⟩

/-! ### coppicerref_Signs: function 12 -/
def coppicerref_Signs.l0 : Nat → List Int → Int → Int → Int → Int → Int → List (S40) → Option (Bool)
  | 0, _, _, _, _, _, _, _ => none
  | k + 1, x7, x8, x9, x110000, x110001, x110002, x110003 => if x9 < x8 then (if 0 ≤ x9 then (if x9 < (x7.length : Int) then (if (rd x7 x9) < 0 then (some false) else (if (rd x7 x9) ≥ (wrap64 (x110000 + x110001)) then (some false) else (coppicerref_Signs.l0 k x7 x8 (wrap64 (x9 + 1)) x110000 x110001 x110002 x110003))) else (none)) else (none)) else (some true)
def coppicerref_Signs.f (k : Nat) (a0_0 : Int) (a0_1 : Int) (a0_2 : Int) (l0_3 : List (S40)) (l1 : List Int) : Option (Bool) := coppicerref_Signs.l0 k l1 (l1.length : Int) 0 a0_0 a0_1 a0_2 l0_3
theorem coppicerref_Signs.mono_l : ∀ k, (∀ y0 y1 y2 y3 y4 y5 y6, LeO (coppicerref_Signs.l0 k y0 y1 y2 y3 y4 y5 y6) (coppicerref_Signs.l0 (k + 1) y0 y1 y2 y3 y4 y5 y6))
  | 0 => fun _ _ _ _ _ _ _ r h => by simp [coppicerref_Signs.l0] at h
  | k + 1 => by
    have ih0 := coppicerref_Signs.mono_l k
    · intro y0 y1 y2 y3 y4 y5 y6
      unfold coppicerref_Signs.l0
      repeat' first
      | (with_reducible exact ih0 _ _ _ _ _ _ _)
      | (with_reducible exact LeO.refl _)
      | (with_reducible exact LeO.none _)
      | (with_reducible refine LeO.ite ?_ ?_)
      | (with_reducible refine LeO.bind ?_ (fun _ => ?_))
      | exact ih0 _ _ _ _ _ _ _
      | exact LeO.none _
      | refine LeO.ite ?_ ?_
      | refine LeO.bind ?_ (fun _ => ?_)
theorem coppicerref_Signs.mono : ∀ a0 a1 a2 a3 a4 k, LeO (coppicerref_Signs.f k a0 a1 a2 a3 a4) (coppicerref_Signs.f (k + 1) a0 a1 a2 a3 a4) := by
  intro a0 a1 a2 a3 a4 k
  have ih0 := coppicerref_Signs.mono_l k
  unfold coppicerref_Signs.f
  repeat' first
      | (with_reducible exact ih0 _ _ _ _ _ _ _)
      | (with_reducible exact LeO.refl _)
      | (with_reducible exact LeO.none _)
      | (with_reducible refine LeO.ite ?_ ?_)
      | (with_reducible refine LeO.bind ?_ (fun _ => ?_))
      | exact ih0 _ _ _ _ _ _ _
      | exact LeO.none _
      | refine LeO.ite ?_ ?_
      | refine LeO.bind ?_ (fun _ => ?_)
set_option maxHeartbeats 8000000 in
set_option maxRecDepth 100000 in
theorem coppicerref_Signs.calls (k : Nat) (a0_0 : Int) (a0_1 : Int) (a0_2 : Int) (A0_3 : Option Addr) (c0_3 : Nat) (l0_3 : List (S40)) (A1 : Option Addr) (c1 : Nat) (l1 : List Int) (r : Bool) (w : World) (hr0_3 : Kd.C k40 w A0_3 l0_3.length l0_3) (hc0_3 : l0_3.length ≤ c0_3) (hr1 : Kd.C (Kd.int .i64) w A1 l1.length l1) (hc1 : l1.length ≤ c1) (h : coppicerref_Signs.f k a0_0 a0_1 a0_2 l0_3 l1 = some r) :
    Calls Try.prog 12 #[.agg #[.int .i64 a0_0, .int .i64 a0_1, .int .i64 a0_2, .slice A0_3 l0_3.length c0_3], .slice A1 l1.length c1] w fun e w' => e = .returned (.bool r) ∧ Below w.heap.size w w' := by
  have hu24 := Try.underlying24
  have HR0_3 := Aside0.mk hr0_3
  have HC0_3 := Aside0.mk hc0_3
  clear hr0_3 hc0_3
  have HR1 := Aside0.mk hr1
  have HC1 := Aside0.mk hc1
  clear hr1 hc1
  have HB := Aside0.mk (Below.refl w.heap.size w)
  have H : (coppicerref_Signs.l0 k l1 (l1.length : Int) 0 a0_0 a0_1 a0_2 l0_3) = some r := h
  clear h
  have H' := Aside0.mk H
  clear H
  go_enter Try.func12, Try.ntmps12
  go_wp2_with (first | ((with_reducible refine gate_dst (N := 2) rfl ?_); refine box_event ?hg (N := 2) ?hd (cs := #[.int .i64 a0_0, .int .i64 a0_1, .int .i64 a0_2, .slice A0_3 l0_3.length c0_3]) (t := 24) ?hr ?_; (case hd => rfl); (case hg => rfl); (case hr => first | (go_simp; done) | (go_simp; rfl)); intro gb109 hg w3 hbox hb; have n0_ := Aside0.mk (below_step (by repeat (first | (with_reducible first | exact HB.out | apply below_alloc | apply pw_below_drewN | apply below_drew1) | exact HB.out)) hb); have n1_ := Aside0.mk (hbox); have n2_ := Aside0.mk ((by rw [hg]; exact (below_size (by repeat (first | (with_reducible first | exact HB.out | apply below_alloc | apply pw_below_drewN | apply below_drew1) | exact HB.out))) : w.heap.size ≤ gb109)); have n3_ := Aside0.mk ((by rw [hg]; exact (below_size (by repeat (first | (with_reducible first | exact HB.out | apply below_alloc | apply pw_below_drewN | apply below_drew1) | exact HB.out))) : w.heap.size ≤ gb109)); clear HB; have HB := n0_; have BK109 := n1_; have GW109 := n2_; have GE109 := n3_; clear n0_ n1_ n2_ n3_; clear hb hbox hg))
  go_loopg [9] k (fun kq v9 w' => ∃ (x9_1 : Int), v9 = .int .i64 x9_1 ∧ Aside0 (coppicerref_Signs.l0 kq l1 (l1.length : Int) x9_1 a0_0 a0_1 a0_2 l0_3 = some r) ∧ Aside0 (kq ≤ k) ∧ Aside0 (w'.heap[gb109]? = some (.cells #[.int .i64 a0_0, .int .i64 a0_1, .int .i64 a0_2, (.slice A0_3 l0_3.length c0_3)] 24 (0, 0))) ∧ Aside0 (Below w.heap.size w w'))
  case atStart => exact ⟨(0), (by first | rfl | (simp; done) | (simp [*]; done)), H', ⟨Nat.le_refl _⟩, ⟨by (with_reducible repeat (first | refine blk_drewN ?_ _ | refine blk_drew ?_ | refine blk_alloc ?_ _)); exact BK109.out⟩, ⟨by repeat (first | (with_reducible first | exact HB.out | apply below_alloc | apply pw_below_drewN | apply below_drew1 | refine below_set ?_ GE109.out) | exact HB.out)⟩⟩
  case round =>
    clear H'
    try clear c1
    try clear p2
    obtain ⟨x9_1, rfl, HA, HK1, BK109, HB⟩ := hrel
    cases gk with
    | zero => exact absurd HA.out (by simp [coppicerref_Signs.l0])
    | succ k1 =>
      have H := HA.out
      clear HA
      simp only [coppicerref_Signs.l0] at H
      by_cases c4 : x9_1 < (l1.length : Int)
      · rw [if_pos c4] at H
        have c4b0 : decide (x9_1 < (l1.length : Int)) = true := decide_eq_true c4
        clear c4
        by_cases c5 : 0 ≤ x9_1
        · rw [if_pos c5] at H
          have c5b0 : decide (0 ≤ x9_1) = true := decide_eq_true c5
          clear c5
          by_cases c6 : x9_1 < (l1.length : Int)
          · rw [if_pos c6] at H
            have c6b0 : decide (x9_1 < (l1.length : Int)) = true := decide_eq_true c6
            clear c6
            by_cases c7 : (rd l1 x9_1) < 0
            · rw [if_pos c7] at H
              have c7b0 : decide ((rd l1 x9_1) < 0) = true := decide_eq_true c7
              clear c7
              obtain rfl := Option.some.inj H
              have p110 : 0 ≤ (x9_1 : Int) := of_decide_eq_true (by first | (with_reducible assumption) | assumption)
              have q110 : x9_1 < (l1.length : Int) := of_decide_eq_true (by first | (with_reducible assumption) | assumption)
              obtain ⟨ad110, e110, hx110_0⟩ := Kd.at_int HR1.out x9_1 p110 q110
              cases e110
              replace hx110_0 := (HB.out.cell (World.block_lt_of_cell? w _ hx110_0)).trans hx110_0
              replace p110 := eq_true p110
              replace q110 := eq_true q110
              go_wp2
              go_ret
              exact ⟨by first | rfl | (simp [errW_none, errW_some] <;> rfl) | (simp [*, errW_none, errW_some] <;> rfl), by repeat (first | (with_reducible first | exact HB.out | apply below_alloc | apply pw_below_drewN | apply below_drew1 | refine below_set ?_ GE109.out) | exact HB.out)⟩
            · rw [if_neg c7] at H
              have c7b0 : decide ((rd l1 x9_1) < 0) = false := decide_eq_false c7
              clear c7
              by_cases c8 : (rd l1 x9_1) ≥ (wrap64 (a0_0 + a0_1))
              · rw [if_pos c8] at H
                have c8b0 : decide ((wrap64 (a0_0 + a0_1)) ≤ (rd l1 x9_1)) = true := decide_eq_true c8
                clear c8
                obtain rfl := Option.some.inj H
                have p110 : 0 ≤ (x9_1 : Int) := of_decide_eq_true (by first | (with_reducible assumption) | assumption)
                have q110 : x9_1 < (l1.length : Int) := of_decide_eq_true (by first | (with_reducible assumption) | assumption)
                obtain ⟨ad110, e110, hx110_0⟩ := Kd.at_int HR1.out x9_1 p110 q110
                cases e110
                replace hx110_0 := (HB.out.cell (World.block_lt_of_cell? w _ hx110_0)).trans hx110_0
                replace p110 := eq_true p110
                replace q110 := eq_true q110
                have hcz9_0 : wr.cell? ⟨gb109, 0, none⟩ = some (.int .i64 a0_0) := (blk_cell BK109.out 0).trans rfl
                have hcz9_1 : wr.cell? ⟨gb109, 1, none⟩ = some (.int .i64 a0_1) := (blk_cell BK109.out 1).trans rfl
                have hcz9_2 : wr.cell? ⟨gb109, 2, none⟩ = some (.int .i64 a0_2) := (blk_cell BK109.out 2).trans rfl
                have hcz9_3 : wr.cell? ⟨gb109, 3, none⟩ = some (.slice A0_3 l0_3.length c0_3) := (blk_cell BK109.out 3).trans rfl
                have hfz9_0 := blk_frozen BK109.out 0
                have hfz9_1 := blk_frozen BK109.out 1
                have hfz9_2 := blk_frozen BK109.out 2
                have hfz9_3 := blk_frozen BK109.out 3
                go_wp2
                go_ret
                exact ⟨by first | rfl | (simp [errW_none, errW_some] <;> rfl) | (simp [*, errW_none, errW_some] <;> rfl), by repeat (first | (with_reducible first | exact HB.out | apply below_alloc | apply pw_below_drewN | apply below_drew1 | refine below_set ?_ GE109.out) | exact HB.out)⟩
              · rw [if_neg c8] at H
                have c8b0 : decide ((wrap64 (a0_0 + a0_1)) ≤ (rd l1 x9_1)) = false := decide_eq_false c8
                clear c8
                have H' := Aside0.mk H
                clear H
                have p110 : 0 ≤ (x9_1 : Int) := of_decide_eq_true (by first | (with_reducible assumption) | assumption)
                have q110 : x9_1 < (l1.length : Int) := of_decide_eq_true (by first | (with_reducible assumption) | assumption)
                obtain ⟨ad110, e110, hx110_0⟩ := Kd.at_int HR1.out x9_1 p110 q110
                cases e110
                replace hx110_0 := (HB.out.cell (World.block_lt_of_cell? w _ hx110_0)).trans hx110_0
                replace p110 := eq_true p110
                replace q110 := eq_true q110
                have hcz10_0 : wr.cell? ⟨gb109, 0, none⟩ = some (.int .i64 a0_0) := (blk_cell BK109.out 0).trans rfl
                have hcz10_1 : wr.cell? ⟨gb109, 1, none⟩ = some (.int .i64 a0_1) := (blk_cell BK109.out 1).trans rfl
                have hcz10_2 : wr.cell? ⟨gb109, 2, none⟩ = some (.int .i64 a0_2) := (blk_cell BK109.out 2).trans rfl
                have hcz10_3 : wr.cell? ⟨gb109, 3, none⟩ = some (.slice A0_3 l0_3.length c0_3) := (blk_cell BK109.out 3).trans rfl
                have hfz10_0 := blk_frozen BK109.out 0
                have hfz10_1 := blk_frozen BK109.out 1
                have hfz10_2 := blk_frozen BK109.out 2
                have hfz10_3 := blk_frozen BK109.out 3
                go_wp2
                go_roundg k1
                case measure => have := HK1.out; omega
                case rel => exact ⟨(wrap64 (x9_1 + 1)), (by first | rfl | (simp; done) | (simp [*]; done)), H', ⟨by have := HK1.out; omega⟩, ⟨by (with_reducible repeat (first | refine blk_drewN ?_ _ | refine blk_drew ?_ | refine blk_alloc ?_ _)); exact BK109.out⟩, ⟨by repeat (first | (with_reducible first | exact HB.out | apply below_alloc | apply pw_below_drewN | apply below_drew1 | refine below_set ?_ GE109.out) | exact HB.out)⟩⟩
          · rw [if_neg c6] at H
            exact absurd H (by simp)
        · rw [if_neg c5] at H
          exact absurd H (by simp)
      · rw [if_neg c4] at H
        have c4b0 : decide (x9_1 < (l1.length : Int)) = false := decide_eq_false c4
        clear c4
        obtain rfl := Option.some.inj H
        go_wp2
        go_ret
        exact ⟨by first | rfl | (simp [errW_none, errW_some] <;> rfl) | (simp [*, errW_none, errW_some] <;> rfl), by repeat (first | (with_reducible first | exact HB.out | apply below_alloc | apply pw_below_drewN | apply below_drew1 | refine below_set ?_ GE109.out) | exact HB.out)⟩

end Go.Proofs.Ytenlcpakhpjlkaa.PPickWords
