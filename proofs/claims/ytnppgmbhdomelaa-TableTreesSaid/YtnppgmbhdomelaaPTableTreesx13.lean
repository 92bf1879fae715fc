import Derived.Test.YtnppgmbhdomelaaPTableTreesx12
namespace Go.Proofs.Ytnppgmbhdomelaa.PTableTrees
open Go.RowKit Go.Proofs.YtnppgmbhdomelaaW.PrintWords Go.Proofs.YtnppgmbhdomelaaW.PrintLast Go.Proofs.YtnppgmbhdomelaaW.PrintMore
attribute [local go_sem] max2_int min2_int max_two min_two max_three min_three max_four min_four
set_option linter.unusedVariables false
set_option linter.unusedSimpArgs false
theorem gate_makeMap {t : TypeId} {ops : Array Oper} {rest : List Oper} {o : Oper} {a : Act} {Q : Exit → Act → World → Prop} {w : World} (_ho : o.op = .makeMap t none) (h : wpList Try.prog ops Q (o :: rest) a w) : wpList Try.prog ops Q (o :: rest) a w := h
set_option maxHeartbeats 8000000 in
set_option maxRecDepth 100000 in
theorem new_calls (K N St : Int) (A0 : Option Addr) (n0 c0 : Nat) (A1 : Option Addr) (n1 c1 : Nat) (W : World) :
    Calls Try.prog 10 #[.agg #[.int .i64 K, .int .i64 N, .int .i64 St, .slice A0 n0 c0], .slice A1 n1 c1] W fun e w' => ∃ gc gm, e = .returned (.pointer (some ⟨gc, 0, none⟩)) ∧ CS W gc gm K N St A0 n0 c0 A1 n1 c1 [] w' := by
  have huG := Try.underlying24
  have huC := Try.underlying49
  have HB := Aside0.mk (Below.refl W.heap.size W)
  go_enter Try.func10, Try.ntmps10
  go_wp2_with (first | ((with_reducible refine gate_dst (N := 2) rfl ?_); refine box_event ?hg (N := 2) ?hd (cs := #[.int .i64 K, .int .i64 N, .int .i64 St, .slice A0 n0 c0]) (t := 24) ?hr ?_; (case hd => rfl); (case hg => rfl); (case hr => first | (go_simp; done) | (go_simp; rfl)); intro gg hg w1 hbox hb; have n0_ := Aside0.mk (below_step HB.out hb); clear HB; have HB := n0_; clear n0_; have hz0 : w1.cell? ⟨gg, 0, none⟩ = some (.int .i64 K) := (blk_cell hbox 0).trans rfl; have hz1 : w1.cell? ⟨gg, 1, none⟩ = some (.int .i64 N) := (blk_cell hbox 1).trans rfl; have hz2 : w1.cell? ⟨gg, 2, none⟩ = some (.int .i64 St) := (blk_cell hbox 2).trans rfl; have hz3 : w1.cell? ⟨gg, 3, none⟩ = some (.slice A0 n0 c0) := (blk_cell hbox 3).trans rfl; clear hb hbox hg) | ((with_reducible refine gate_makeMap rfl ?_); refine mapM4_make rfl rfl ?_; intro gm hgm w2 hM hb; have n0_ := Aside0.mk (below_step HB.out hb); have GM := Aside0.mk ((by rw [hgm]; exact HB.out.size) : W.heap.size ≤ gm); have HM := Aside0.mk hM; clear HB hz0 hz1 hz2 hz3 hgm hM hb; have HB := n0_; clear n0_) | ((with_reducible refine gate_dst (N := 9) rfl ?_); refine box_event ?hg (N := 9) ?hd (cs := #[.int .i64 K, .int .i64 N, .int .i64 St, .slice A0 n0 c0, .slice A1 n1 c1, .map (some gm)]) (t := 49) ?hr ?_; (case hd => rfl); (case hg => rfl); (case hr => first | (go_simp; done) | (go_simp; rfl)); intro gc hg w3 hbox hb; have HS := Aside0.mk (CS.mk (below_step HB.out hb) hbox (HM.out.move (hb.block gm HM.out.lt)) (by rw [hg]; exact HB.out.size) GM.out); clear HB HM hbox hb hg))
  go_ret
  exact ⟨_, _, by first | rfl | (simp; done) | (simp [*]; done), HS.out⟩
set_option maxHeartbeats 8000000 in
set_option maxRecDepth 100000 in
theorem grow_calls (K N St : Int) (A0 : Option Addr) (n0 c0 : Nat) (A1 : Option Addr) (n1 c1 : Nat) (W : World) :
    Calls Try.prog 6 #[.agg #[.int .i64 K, .int .i64 N, .int .i64 St, .slice A0 n0 c0], .slice A1 n1 c1] W fun e w' => ∃ gc gm, e = .returned (.pointer (some ⟨gc, 0, none⟩)) ∧ BS W gc gm K N St A0 n0 c0 A1 n1 c1 [] w' := by
  have huG := Try.underlying24
  have huC := Try.underlying41
  have HB := Aside0.mk (Below.refl W.heap.size W)
  go_enter Try.func6, Try.ntmps6
  go_wp2_with (first | ((with_reducible refine gate_dst (N := 2) rfl ?_); refine box_event ?hg (N := 2) ?hd (cs := #[.int .i64 K, .int .i64 N, .int .i64 St, .slice A0 n0 c0]) (t := 24) ?hr ?_; (case hd => rfl); (case hg => rfl); (case hr => first | (go_simp; done) | (go_simp; rfl)); intro gg hg w1 hbox hb; have n0_ := Aside0.mk (below_step HB.out hb); clear HB; have HB := n0_; clear n0_; have hz0 : w1.cell? ⟨gg, 0, none⟩ = some (.int .i64 K) := (blk_cell hbox 0).trans rfl; have hz1 : w1.cell? ⟨gg, 1, none⟩ = some (.int .i64 N) := (blk_cell hbox 1).trans rfl; have hz2 : w1.cell? ⟨gg, 2, none⟩ = some (.int .i64 St) := (blk_cell hbox 2).trans rfl; have hz3 : w1.cell? ⟨gg, 3, none⟩ = some (.slice A0 n0 c0) := (blk_cell hbox 3).trans rfl; clear hb hbox hg) | ((with_reducible refine gate_makeMap rfl ?_); refine mapM3_make rfl rfl ?_; intro gm hgm w2 hM hb; have n0_ := Aside0.mk (below_step HB.out hb); have GM := Aside0.mk ((by rw [hgm]; exact HB.out.size) : W.heap.size ≤ gm); have HM := Aside0.mk hM; clear HB hz0 hz1 hz2 hz3 hgm hM hb; have HB := n0_; clear n0_) | ((with_reducible refine gate_dst (N := 9) rfl ?_); refine box_event ?hg (N := 9) ?hd (cs := #[.int .i64 K, .int .i64 N, .int .i64 St, .slice A0 n0 c0, .slice A1 n1 c1, .map (some gm)]) (t := 41) ?hr ?_; (case hd => rfl); (case hg => rfl); (case hr => first | (go_simp; done) | (go_simp; rfl)); intro gc hg w3 hbox hb; have HS := Aside0.mk (BS.mk (below_step HB.out hb) hbox (HM.out.move (hb.block gm HM.out.lt)) (by rw [hg]; exact HB.out.size) GM.out); clear HB HM hbox hb hg))
  go_ret
  exact ⟨_, _, by first | rfl | (simp; done) | (simp [*]; done), HS.out⟩
end Go.Proofs.Ytnppgmbhdomelaa.PTableTrees
