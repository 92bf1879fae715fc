-- Printed by a turn of a template of the kit, and shortened: remarks and what nothing here uses are left out.
import Derived.Test.YtdoenjnjpenboaaQPLeastApartsx0
import Derived.Test.YtdoenjnjpenboaaQPLeastApartsx3
import Derived.Maps.OwnSet
import Derived.DeepKeys4
namespace Go.Proofs.Ytdoenjnjpenboaa.PLeastAparts
open Go.RowKit Go.Proofs.YtdoenjnjpenboaaW.PrintWords Go.Proofs.YtdoenjnjpenboaaW.PrintLast Go.Proofs.YtdoenjnjpenboaaW.PrintMore
attribute [local go_sem] max2_int min2_int max_two min_two max_three min_three max_four min_four
set_option linter.unusedVariables false
set_option linter.unusedSimpArgs false
abbrev PM := List ((Int × Int) × List Int)
def lkP : PM → Int × Int → Option (List Int)
  | [], _ => none
  | (a, c) :: r, x => if a = x then some c else lkP r x
def headE (v : Value) : Option (DataW Value × List MemPlace) := some (.held v, [])
def keyP (i j : Int) : Lit := .string (keyBytes [.int .i64 i, .int .i64 j])
def pairV (i j : Int) : Value := .agg #[.int .i64 i, .int .i64 j]
theorem laidT : laidOutB Try.prog = true := by kernel_rfl
theorem row36 : (36 : TypeId) < Try.prog.types.size := of_decide_eq_true (by kernel_rfl)
theorem wide36 : (match Try.prog.underlying 36 with | some (.array _ _) | some (.struct _) => true | _ => false) = true := by kernel_rfl
theorem cells36 : Try.prog.cellsOf 36 = 2 := by kernel_rfl
theorem cells3 : Try.prog.cellsOf 3 = 1 := by kernel_rfl
theorem keyT36 : Try.prog.keyType 36 = true := by kernel_rfl
theorem lawP : Maps.Keyed Try.prog 36 := Maps.Keyed.of_law (deep_law_laid laidT (m := 2) (by omega) row36 (by kernel_rfl) wide36)
theorem zero26 (w : World) : (zeroValue 26).run Try.prog w = .ok (.slice none 0 0) w := by kernel_rfl
theorem keyOfP {i j : Int} (hi : (Lit.int .i64 i).wf = true) (hj : (Lit.int .i64 j).wf = true) : keyOf Try.prog 36 (pairV i j) = some (keyP i j) := by
  have h2 : (pairV i j).formed Try.prog 36 = true := by simp [pairV, Value.formed, Try.underlying36, cells36]
  obtain ⟨n, hn⟩ : ∃ n, Try.prog.types.size + 1 = n + 2 := ⟨Try.prog.types.size - 1, by have : (36 : Nat) < Try.prog.types.size := row36; omega⟩
  have h3 : Try.prog.keyLits (n + 2) 36 [.int .i64 i, .int .i64 j] = some [.int .i64 i, .int .i64 j] := by
    simp [Program.keyLits, Try.underlying36, Try.underlying3, cells36, cells3, hi, hj]
  unfold keyOf
  rw [Try.underlying36]
  simp only [keyT36, h2, Bool.and_self, if_true]
  rw [hn]
  have h4 : (pairV i j).cells.toList = [.int .i64 i, .int .i64 j] := rfl
  rw [h4, h3]
  rfl
theorem keyP_inj {i j i' j' : Int} (hi : (Lit.int .i64 i).wf = true) (hj : (Lit.int .i64 j).wf = true) (hi' : (Lit.int .i64 i').wf = true) (hj' : (Lit.int .i64 j').wf = true) (h : keyP i j = keyP i' j') : (i, j) = (i', j') := by
  have h1 := keyOfP hi hj
  rw [h] at h1
  have h2 := lawP.inj h1 (keyOfP hi' hj')
  simp only [pairV, Value.agg.injEq, Array.mk.injEq, List.cons.injEq, Value.int.injEq, true_and, and_true] at h2
  exact Prod.ext h2.1 h2.2
theorem keyP_lit (i j : Int) : WideAt.IsKeyLit (keyP i j) := by trivial
def MapE (w : World) (base : Nat) (om : Obj) (m : PM) : Prop :=
  ∃ es clock, om = .map es clock ∧ WideElems.Fit Try.prog 36 headE es clock ∧ es.size ≤ m.length ∧
    ∀ i j, (Lit.int .i64 i).wf = true → (Lit.int .i64 j).wf = true →
      Maps.has (.map ((es.toList.map (WideElems.rg Try.prog 36 headE)).foldr DataW.insert [])) (keyP i j) = (lkP m (i, j)).isSome ∧
      ∃ v, (DataW.map ((es.toList.map (WideElems.rg Try.prog 36 headE)).foldr DataW.insert [])).atKey (keyP i j) (.held (.slice none 0 0)) = .held v ∧ Kd.R (Kd.int .i64) 3 w base (fun _ => True) v ((lkP m (i, j)).getD [])
section
variable {w w1 : World} {base : Nat} {om : Obj} {m : PM}
theorem MapE.move (h : MapE w base om m) (hm : ∀ {v : Value} {xs : List Int}, Kd.R (Kd.int .i64) 3 w base (fun _ => True) v xs → Kd.R (Kd.int .i64) 3 w1 base (fun _ => True) v xs) : MapE w1 base om m := by
  obtain ⟨es, clock, h1, h2, h3, h4⟩ := h
  refine ⟨es, clock, h1, h2, h3, fun i j hi hj => ?_⟩
  obtain ⟨a, v, b, c⟩ := h4 i j hi hj
  exact ⟨a, v, b, hm c⟩
theorem MapE.below (h : MapE w base om m) (hb : Below w.heap.size w w1) : MapE w1 base om m := h.move (fun q => Kd.R_below q hb)
theorem MapE.alloc (h : MapE w base om m) (o : Obj) : MapE (w.alloc o) base om m := h.move (fun q => Kd.R_alloc q o)
theorem MapE.drew (h : MapE w base om m) : MapE w.drew base om m := h.move (fun q => Kd.R_drew q)
theorem MapE.drewN (h : MapE w base om m) (n : Nat) : MapE (w.drewN n) base om m := h.move (fun q => Kd.R_drewN q n)
theorem MapE.set {g t : Nat} {cells : Array Value} (h : MapE w base om m) (hb : w.heap[g]? = some (.cells cells t (0, 0))) (ht : 3 ≠ t) (j : Nat) (u : Value) : MapE (w.setCell ⟨g, j, none⟩ u) base om m :=
  h.move (fun q => Kd.R_set q hb (fun e he => by have : e = 3 := by simpa [Kd.int, Kd.scalar] using he
                                                 rw [this]; exact ht) j u)
theorem MapE.grownT {row : Option Nat} {t : Nat} (h : MapE w base om m) (hg : w.grownBy w1 row) (hr : ∀ k, row = some k → ∃ cells, w.heap[k]? = some (.cells cells t (0, 0))) (ht : 3 ≠ t) : MapE w1 base om m :=
  h.move (fun q => Kd.R_mono (Kd.R_grown (Kd.R_bound q) hg (fun k hk e => by
    obtain ⟨_, _, _, q', hq', cells, hc⟩ := hk
    obtain ⟨cells', hc'⟩ := hr k e.symm
    rw [hc'] at hc
    injection hc with hc
    injection hc with _ hc
    have : q' = 3 := by simpa [Kd.int, Kd.scalar] using hq'
    exact ht (this.symm.trans hc.symm))) (fun _ _ => trivial))
theorem MapE.owns {b : Nat} (h : MapE w base om m) (hb : w.heap[b]? = some om) : ∃ n D, w.ownsMap Try.prog 36 headE b n D ∧ n ≤ m.length ∧ ∀ i j, (Lit.int .i64 i).wf = true → (Lit.int .i64 j).wf = true →
      Maps.has D (keyP i j) = (lkP m (i, j)).isSome ∧ ∃ v, D.atKey (keyP i j) (.held (.slice none 0 0)) = .held v ∧ Kd.R (Kd.int .i64) 3 w base (fun _ => True) v ((lkP m (i, j)).getD []) := by
  obtain ⟨es, clock, h1, h2, h3, h4⟩ := h
  subst h1
  exact ⟨es.size, _, ⟨es, clock, hb, h2, Nat.le_refl _, rfl⟩, h3, h4⟩
theorem MapE.isMap (h : MapE w base om m) : ∃ es cl, om = .map es cl := by
  obtain ⟨es, clock, h1, _⟩ := h
  exact ⟨es, clock, h1⟩
theorem blk_farO {w : World} {g : Nat} {o : Obj} (h : w.heap[g]? = some o) {p : Addr} (hp : g ≠ p.block) (u : Value) : (w.setCell p u).heap[g]? = some o := (Below.heap_setCell w p u g hp).trans h
theorem Q_mapgrown {α : Type} {d : Kd α} {e b : Nat} {ok : Nat → Prop} {v : Value} {xs : List α} {es : Array MapEntry} {cl : Nat} (h : Kd.Q d e w base ok v xs) (hg : w.grownBy w1 (some b)) (hr : w.heap[b]? = some (.map es cl)) : Kd.Q d e w1 base ok v xs :=
  Kd.Q_mono (Kd.Q_grown (Kd.Q_bound h) hg (fun k hk e => by
    obtain ⟨_, _, _, q', hq', cells, hc⟩ := hk
    cases e
    rw [hr] at hc
    cases hc)) (fun _ hk => hk.1)
theorem Q_neM {α : Type} {d : Kd α} {e b : Nat} {ok : Nat → Prop} {v : Value} {xs : List α} (h : Kd.Q d e w base ok v xs) (hM : MapE w1 base om m) (hb : w.heap[b]? = some om) : some b ≠ v.ownBlock := by
  intro e
  obtain ⟨cells, hc⟩ := Kd.Q_typed h b e.symm
  obtain ⟨es, cl, rfl⟩ := hM.isMap
  rw [hc] at hb
  cases hb
theorem MapE.made (w : World) (base : Nat) : MapE w base (.map #[] 0) [] :=
  ⟨#[], 0, rfl, ⟨by simp, MapKept.stamped_empty 0, by simp⟩, Nat.le_refl _, fun i j _ _ => ⟨rfl, _, rfl, Kd.R_nil _ _ _ _ _⟩⟩
theorem MapE.look (h : MapE w base om m) {i j : Int} (hi : (Lit.int .i64 i).wf = true) (hj : (Lit.int .i64 j).wf = true) :
    ∃ v, Kd.R (Kd.int .i64) 3 w base (fun _ => True) v ((lkP m (i, j)).getD []) ∧ ∀ (W : World) (b : Nat) (t : TypeId), Try.prog.underlying t = some (.map 36 26) → W.heap[b]? = some om →
      (Instr.lookup t (.map (some b)) (pairV i j) false).run Try.prog W = .ok v W ∧ (Instr.lookup t (.map (some b)) (pairV i j) true).run Try.prog W = .ok (.tuple #[v, .bool (lkP m (i, j)).isSome]) W := by
  obtain ⟨es, clock, h1, h2, h3, h4⟩ := h
  obtain ⟨a, v, b, c⟩ := h4 i j hi hj
  refine ⟨v, c, fun W g t ht hb => ?_⟩
  subst h1
  have ho : W.ownsMap Try.prog 36 headE g es.size _ := ⟨es, clock, hb, h2, Nat.le_refl _, rfl⟩
  obtain ⟨v1, ps, r1, r2⟩ := ho.lookup lawP ht (zero26 W) (zd := .held (.slice none 0 0)) (zp := []) rfl (keyOfP hi hj)
  obtain ⟨v2, ps2, s1, s2⟩ := ho.look_ok lawP ht (zero26 W) (zd := .held (.slice none 0 0)) (zp := []) rfl (keyOfP hi hj)
  rw [b] at r2 s2
  have e1 : v1 = v := by simpa [headE] using congrArg (Option.map Prod.fst) r2
  have e2 : v2 = v := by simpa [headE] using congrArg (Option.map Prod.fst) s2
  rw [a] at s1
  subst e1
  rw [e2] at s1
  exact ⟨r1, s1⟩
end
section
variable {ops : Array Oper} {rest : List Oper} {o : Oper} {a : Act} {Q : Exit → Act → World → Prop} {W : World} {base b : Nat} {om : Obj} {m : PM}
theorem mapE_make (hgd : o.guard = none) (t : TypeId) (hop : o.op = Op.makeMap t none)
    (h : ∀ g, g = W.heap.size → ∀ w1, w1.heap[g]? = some (.map #[] 0) → Below W.heap.size W w1 → wpList Try.prog ops Q rest (a.put o.dst (.map (some g))) w1) : wpList Try.prog ops Q (o :: rest) a W := by
  refine Kd.event_run hgd (v := .map (some W.heap.size)) (w1 := W.alloc (.map #[] 0)) ?_ (h _ rfl _ (MapKept.heap_alloc W _).1 (below_alloc (Below.refl _ _) _))
  simp [execOp, hop, run_makeMap, Result.andThen]
theorem mapE_put1 {w1 : World} {i j : Int} {val : Value} {l : List Int} {n : Nat} {D : DataW Value} (hD : Maps.IsMap D) (hi : (Lit.int .i64 i).wf = true) (hj : (Lit.int .i64 j).wf = true)
    (h1 : w1.ownsMap Try.prog 36 headE b (n + 1) (D.put (keyP i j) (.held val))) (h2 : n ≤ m.length)
    (h3 : ∀ i j, (Lit.int .i64 i).wf = true → (Lit.int .i64 j).wf = true → Maps.has D (keyP i j) = (lkP m (i, j)).isSome ∧ ∃ v, D.atKey (keyP i j) (.held (.slice none 0 0)) = .held v ∧ Kd.R (Kd.int .i64) 3 w1 base (fun _ => True) v ((lkP m (i, j)).getD []))
    (hR : Kd.R (Kd.int .i64) 3 w1 base (fun _ => True) val l) : ∃ om1, w1.heap[b]? = some om1 ∧ MapE w1 base om1 (((i, j), l) :: m) := by
  obtain ⟨es, clock, q1, q2, q3, q4⟩ := h1
  refine ⟨_, q1, es, clock, rfl, q2, Nat.le_trans q3 (Nat.succ_le_succ h2), fun i' j' hi' hj' => ?_⟩
  rw [← q4]
  by_cases e : (i, j) = (i', j')
  · cases e
    rw [Maps.has_put_same hD (keyP_lit _ _), Maps.atKey_put_same hD (keyP_lit _ _)]
    simp only [lkP, if_true, Option.isSome_some, Option.getD_some]
    exact ⟨trivial, val, rfl, hR⟩
  · have hne : keyP i' j' ≠ keyP i j := fun q => e (keyP_inj hi hj hi' hj' q.symm)
    rw [Maps.has_put_other hne, Maps.atKey_put_other hne]
    simp only [lkP, if_neg e]
    exact h3 i' j' hi' hj'
theorem MapE.store {t : TypeId} (ht : Try.prog.underlying t = some (.map 36 26)) (hb : W.heap[b]? = some om) (hM : MapE W base om m) (hn : m.length < 1000000) {i j : Int} (hi : (Lit.int .i64 i).wf = true) (hj : (Lit.int .i64 j).wf = true) {val : Value} {l : List Int} (hR : Kd.R (Kd.int .i64) 3 W base (fun _ => True) val l) :
    ∃ w1 om1, (Instr.mapUpdate t (.map (some b)) (pairV i j) val).run Try.prog W = .ok () w1 ∧ w1.heap[b]? = some om1 ∧ MapE w1 base om1 (((i, j), l) :: m) ∧ W.grownBy w1 (some b) := by
  obtain ⟨es0, cl0, e0⟩ := hM.isMap
  subst e0
  obtain ⟨n, D, h1, h2, h3⟩ := hM.owns hb
  obtain ⟨w1, hrun, r1, r2⟩ := h1.update lawP ht (by unfold maxLen; omega) (keyOfP hi hj) (d := .held val) (ps := []) rfl
  have mv : ∀ {v : Value} {xs : List Int}, Kd.R (Kd.int .i64) 3 W base (fun _ => True) v xs → Kd.R (Kd.int .i64) 3 w1 base (fun _ => True) v xs := fun q => Kd.R_mono (Kd.R_grown (Kd.R_bound q) r2 (fun k hk e => by
    obtain ⟨_, _, _, q', hq', cells, hc⟩ := hk
    cases e
    rw [hb] at hc
    cases hc)) (fun _ _ => trivial)
  obtain ⟨om1, q1, q2⟩ := mapE_put1 (base := base) h1.isMap hi hj r1 h2 (fun i j hi hj => by
    obtain ⟨a, v, c, d⟩ := h3 i j hi hj
    exact ⟨a, v, c, mv d⟩) (mv hR)
  exact ⟨w1, om1, hrun, q1, q2, r2⟩
theorem mapE_put (hgd : o.guard = none) (t : TypeId) (ht : Try.prog.underlying t = some (.map 36 26)) (x y v : Operand) (hop : o.op = Op.mapUpdate t x y v ∨ o.op = Op.insert t x y v)
    (hm : a.eval x = .map (some b)) (hb : W.heap[b]? = some om) (hM : MapE W base om m) (hn : m.length < 1000000) (i j : Int) (hx : a.eval y = pairV i j) (hi : (Lit.int .i64 i).wf = true) (hj : (Lit.int .i64 j).wf = true) (val : Value) (hv : a.eval v = val) (l : List Int) (hR : Kd.R (Kd.int .i64) 3 W base (fun _ => True) val l)
    (h : ∀ w1 om1, w1.heap[b]? = some om1 → MapE w1 base om1 (((i, j), l) :: m) → W.grownBy w1 (some b) → wpList Try.prog ops Q rest (a.put o.dst undef) w1) : wpList Try.prog ops Q (o :: rest) a W := by
  obtain ⟨w1, om1, hrun, q1, q2, q3⟩ := hM.store ht hb hn hi hj hR
  refine wpList_plain hgd fun K' hK' => ?_
  unfold Oper.wp
  rcases hop with hop | hop <;>
  · simp [execOp, hop, hm, hx, hv, hrun, Result.andThen]
    exact hK' _ _ (h w1 om1 q1 q2 q3)
theorem mapE_get (hgd : o.guard = none) (t : TypeId) (ht : Try.prog.underlying t = some (.map 36 26)) (x y : Operand) (hop : o.op = Op.lookup t x y true)
    (hm : a.eval x = .map (some b)) (hb : W.heap[b]? = some om) (hM : MapE W base om m) (i j : Int) (hx : a.eval y = pairV i j) (hi : (Lit.int .i64 i).wf = true) (hj : (Lit.int .i64 j).wf = true)
    (h : ∀ v, Kd.R (Kd.int .i64) 3 W base (fun _ => True) v ((lkP m (i, j)).getD []) → wpList Try.prog ops Q rest (a.put o.dst (.tuple #[v, .bool (lkP m (i, j)).isSome])) W) : wpList Try.prog ops Q (o :: rest) a W := by
  obtain ⟨v, hR, hrun⟩ := hM.look hi hj
  refine wpList_plain hgd fun K' hK' => ?_
  unfold Oper.wp
  simp [execOp, hop, hm, hx, (hrun W b t ht hb).2, Result.andThen]
  exact hK' _ _ (h v hR)
theorem mapE_get0 (hgd : o.guard = none) (t : TypeId) (ht : Try.prog.underlying t = some (.map 36 26)) (x y : Operand) (hop : o.op = Op.lookup t x y false)
    (hm : a.eval x = .map (some b)) (hb : W.heap[b]? = some om) (hM : MapE W base om m) (i j : Int) (hx : a.eval y = pairV i j) (hi : (Lit.int .i64 i).wf = true) (hj : (Lit.int .i64 j).wf = true)
    (h : ∀ v, Kd.R (Kd.int .i64) 3 W base (fun _ => True) v ((lkP m (i, j)).getD []) → wpList Try.prog ops Q rest (a.put o.dst v) W) : wpList Try.prog ops Q (o :: rest) a W := by
  obtain ⟨v, hR, hrun⟩ := hM.look hi hj
  refine wpList_plain hgd fun K' hK' => ?_
  unfold Oper.wp
  simp [execOp, hop, hm, hx, (hrun W b t ht hb).1, Result.andThen]
  exact hK' _ _ (h v hR)
theorem gate_insert {t : TypeId} {m x v : Operand} (_ho : o.op = .insert t m x v) (h : wpList Try.prog ops Q (o :: rest) a W) : wpList Try.prog ops Q (o :: rest) a W := h
theorem gate_makeMap {t : TypeId} (_ho : o.op = .makeMap t none) (h : wpList Try.prog ops Q (o :: rest) a W) : wpList Try.prog ops Q (o :: rest) a W := h
end
mutual
def Zr.l0 : Nat → List (S36) → Int → Int → List (List Int) → Int → Int → Int → Int → List (List Int) → Int → Int → PM → Option (List Int × Int)
  | 0, _, _, _, _, _, _, _, _, _, _, _, _ => none
  | k + 1, x8, x126000, x126001, x126002, x126003, x126004, x127000, x127001, x127002, x127003, x127004, x129000 => if (x8.length : Int) > 0 then (if 0 < (x8.length : Int) then (if (Lit.int .i64 ((Ze x8 0).f0)).wf = true then (if (Lit.int .i64 ((Ze x8 0).f1)).wf = true then (if 0 ≤ ((Ze x8 0).f0) then (if 0 ≤ ((Ze x8 0).f1) then (if (Go.bits .and .u32 (shr .u32 x126004 ((Ze x8 0).f0)) 1) = (Go.bits .and .u32 (shr .u32 x127004 ((Ze x8 0).f1)) 1) then (Zr.l1 k x8 x126001 0 x126000 x126001 x126002 x126003 x126004 x127000 x127001 x127002 x127003 x127004 x129000 ((Ze x8 0).f0) ((Ze x8 0).f1)) else (some ((lkP x129000 (((Ze x8 0).f0), ((Ze x8 0).f1))).getD [], 0))) else (none)) else (none)) else (none)) else (none)) else (none)) else (some (([] : List Int), 5))
def Zr.l1 : Nat → List (S36) → Int → Int → Int → Int → List (List Int) → Int → Int → Int → Int → List (List Int) → Int → Int → PM → Int → Int → Option (List Int × Int)
  | 0, _, _, _, _, _, _, _, _, _, _, _, _, _, _, _, _ => none
  | k + 1, x8, x58, x59, x126000, x126001, x126002, x126003, x126004, x127000, x127001, x127002, x127003, x127004, x129000, x134000, x134001 => if x59 < x58 then (if 0 ≤ x134000 then (if x134000 < (x126002.length : Int) then (if 0 ≤ x59 then (if x59 < ((Zd x126002 x134000).length : Int) then (if 0 ≤ x134001 then (if x134001 < (x127002.length : Int) then (if x59 < ((Zd x127002 x134001).length : Int) then (if (Lit.int .i64 (rd (Zd x126002 x134000) x59)).wf = true then (if (Lit.int .i64 (rd (Zd x127002 x134001) x59)).wf = true then (if (lkP x129000 ((rd (Zd x126002 x134000) x59), (rd (Zd x127002 x134001) x59))).isSome = true then (Zr.l1 k x8 x58 (wrap64 (x59 + 1)) x126000 x126001 x126002 x126003 x126004 x127000 x127001 x127002 x127003 x127004 x129000 x134000 x134001) else ((slices_Clone_Sint_int.f ((lkP x129000 (x134000, x134001)).getD [])).bind fun t139 => ((some (([x59] : List Int) : List Int)).bind fun y142 => (if t139.length + y142.length < 17592186044416 then (if x129000.length < 1000000 then (if x8.length < 8796093022208 then (Zr.l1 k (x8 ++ [(⟨rd (Zd x126002 x134000) x59, rd (Zd x127002 x134001) x59⟩ : S36)]) x58 (wrap64 (x59 + 1)) x126000 x126001 x126002 x126003 x126004 x127000 x127001 x127002 x127003 x127004 ((((rd (Zd x126002 x134000) x59), (rd (Zd x127002 x134001) x59)), t139 ++ y142) :: x129000) x134000 x134001) else (none)) else (none)) else (none))))) else (none)) else (none)) else (none)) else (none)) else (none)) else (none)) else (none)) else (none)) else (none)) else (if 1 ≤ (x8.length : Int) then (Zr.l0 k (x8.drop (1 : Int).toNat) x126000 x126001 x126002 x126003 x126004 x127000 x127001 x127002 x127003 x127004 x129000) else (none))
end
def Zr.f (k : Nat) (a0_0 : Int) (a0_1 : Int) (l0_2 : List (List Int)) (a0_3 : Int) (a0_4 : Int) (a1_0 : Int) (a1_1 : Int) (l1_2 : List (List Int)) (a1_3 : Int) (a1_4 : Int) : Option (List Int × Int) := (least_wrong.f k a0_0 a0_1 l0_2 a0_3 a0_4 a1_0 a1_1 l1_2 a1_3 a1_4).bind fun t127 => (if t127 = 0 then (if (Lit.int .i64 a0_3).wf = true then (if (Lit.int .i64 a1_3).wf = true then (Zr.l0 k (([(⟨a0_3, a1_3⟩ : S36)] : List (S36))) a0_0 a0_1 l0_2 a0_3 a0_4 a1_0 a1_1 l1_2 a1_3 a1_4 ([((a0_3, a1_3), [])] : PM)) else (none)) else (none)) else (some (([] : List Int), t127)))
theorem Zr.mono_l : ∀ k, (∀ y0 y1 y2 y3 y4 y5 y6 y7 y8 y9 y10 y11, LeO (Zr.l0 k y0 y1 y2 y3 y4 y5 y6 y7 y8 y9 y10 y11) (Zr.l0 (k + 1) y0 y1 y2 y3 y4 y5 y6 y7 y8 y9 y10 y11)) ∧ (∀ y0 y1 y2 y3 y4 y5 y6 y7 y8 y9 y10 y11 y12 y13 y14 y15, LeO (Zr.l1 k y0 y1 y2 y3 y4 y5 y6 y7 y8 y9 y10 y11 y12 y13 y14 y15) (Zr.l1 (k + 1) y0 y1 y2 y3 y4 y5 y6 y7 y8 y9 y10 y11 y12 y13 y14 y15))
  | 0 => ⟨fun _ _ _ _ _ _ _ _ _ _ _ _ r h => by simp [Zr.l0] at h, fun _ _ _ _ _ _ _ _ _ _ _ _ _ _ _ _ r h => by simp [Zr.l1] at h⟩
  | k + 1 => by
    obtain ⟨ih0, ih1⟩ := Zr.mono_l k
    refine ⟨?_, ?_⟩
    · intro y0 y1 y2 y3 y4 y5 y6 y7 y8 y9 y10 y11
      unfold Zr.l0
      repeat' first
      | (with_reducible exact ih0 _ _ _ _ _ _ _ _ _ _ _ _)
      | (with_reducible exact ih1 _ _ _ _ _ _ _ _ _ _ _ _ _ _ _ _)
      | (with_reducible exact least_wrong.mono _ _ _ _ _ _ _ _ _ _ _)
      | (with_reducible exact LeO.refl _)
      | (with_reducible exact LeO.none _)
      | (with_reducible refine LeO.ite ?_ ?_)
      | (with_reducible refine LeO.bind ?_ (fun _ => ?_))
      | exact ih0 _ _ _ _ _ _ _ _ _ _ _ _
      | exact ih1 _ _ _ _ _ _ _ _ _ _ _ _ _ _ _ _
      | exact least_wrong.mono _ _ _ _ _ _ _ _ _ _ _
      | exact LeO.none _
      | refine LeO.ite ?_ ?_
      | refine LeO.bind ?_ (fun _ => ?_)
    · intro y0 y1 y2 y3 y4 y5 y6 y7 y8 y9 y10 y11 y12 y13 y14 y15
      unfold Zr.l1
      repeat' first
      | (with_reducible exact ih0 _ _ _ _ _ _ _ _ _ _ _ _)
      | (with_reducible exact ih1 _ _ _ _ _ _ _ _ _ _ _ _ _ _ _ _)
      | (with_reducible exact least_wrong.mono _ _ _ _ _ _ _ _ _ _ _)
      | (with_reducible exact LeO.refl _)
      | (with_reducible exact LeO.none _)
      | (with_reducible refine LeO.ite ?_ ?_)
      | (with_reducible refine LeO.bind ?_ (fun _ => ?_))
      | exact ih0 _ _ _ _ _ _ _ _ _ _ _ _
      | exact ih1 _ _ _ _ _ _ _ _ _ _ _ _ _ _ _ _
      | exact least_wrong.mono _ _ _ _ _ _ _ _ _ _ _
      | exact LeO.none _
      | refine LeO.ite ?_ ?_
      | refine LeO.bind ?_ (fun _ => ?_)
theorem Zr.mono : ∀ a0 a1 a2 a3 a4 a5 a6 a7 a8 a9 k, LeO (Zr.f k a0 a1 a2 a3 a4 a5 a6 a7 a8 a9) (Zr.f (k + 1) a0 a1 a2 a3 a4 a5 a6 a7 a8 a9) := by
  intro a0 a1 a2 a3 a4 a5 a6 a7 a8 a9 k
  obtain ⟨ih0, ih1⟩ := Zr.mono_l k
  unfold Zr.f
  repeat' first
      | (with_reducible exact ih0 _ _ _ _ _ _ _ _ _ _ _ _)
      | (with_reducible exact ih1 _ _ _ _ _ _ _ _ _ _ _ _ _ _ _ _)
      | (with_reducible exact least_wrong.mono _ _ _ _ _ _ _ _ _ _ _)
      | (with_reducible exact LeO.refl _)
      | (with_reducible exact LeO.none _)
      | (with_reducible refine LeO.ite ?_ ?_)
      | (with_reducible refine LeO.bind ?_ (fun _ => ?_))
      | exact ih0 _ _ _ _ _ _ _ _ _ _ _ _
      | exact ih1 _ _ _ _ _ _ _ _ _ _ _ _ _ _ _ _
      | exact least_wrong.mono _ _ _ _ _ _ _ _ _ _ _
      | exact LeO.none _
      | refine LeO.ite ?_ ?_
      | refine LeO.bind ?_ (fun _ => ?_)
def Zr.T9 : Bool × List (List Nat × List Nat) := (true, [([], []), ([0], [0]), ([], []), ([2], [2]), ([1, 3], [1, 3]), ([4], [4]), ([], []), ([6], [6]), ([], []), ([8], [8]), ([7, 9], [7, 9]), ([10], [10]), ([5, 11], [5, 11])])
def Zr.B9 : List Nat := [0, 1, 0, 4, 15, 31, 0, 64, 0, 256, 960, 1984, 4095]
theorem Zr.tab9 : rtab .any (opsOf Try.f4 9) = Zr.T9 := by kernel_rfl
theorem Zr.bits9 : waitsOk Zr.T9.2 Zr.B9 = true := by kernel_rfl
def Zr.T14 : Bool × List (List Nat × List Nat) := (true, [([], []), ([0], [0]), ([], []), ([2], [2]), ([1, 3], [1, 3]), ([4], [4]), ([], []), ([5, 6], [5, 6]), ([7], [7]), ([], []), ([9], [9]), ([], []), ([11], [11]), ([10, 12], [10, 12]), ([13], [13]), ([], []), ([14, 15], [14, 15]), ([16], [16]), ([8, 17], [8, 17]), ([], []), ([19, 18, 0, 1, 2, 3, 4, 5, 6, 7, 8, 9, 10, 11, 12, 13, 14, 15, 16, 17, 18, 19], [18, 19])])
def Zr.B14 : List Nat := [0, 1, 0, 4, 15, 31, 0, 127, 255, 0, 512, 0, 2048, 7680, 15872, 0, 65024, 130560, 262143, 0, 1048575]
theorem Zr.tab14 : rtab .any (opsOf Try.f4 14) = Zr.T14 := by kernel_rfl
theorem Zr.bits14 : waitsOk Zr.T14.2 Zr.B14 = true := by kernel_rfl
def Zr.T17 : Bool × List (List Nat × List Nat) := (true, [([], []), ([], []), ([], []), ([], []), ([2, 3], [2, 3]), ([4], [4]), ([], []), ([6], [6]), ([5, 7, 5], [5, 7]), ([0, 1, 8, 8, 0, 1, 2, 3, 4, 5, 6, 7, 8], [0, 1, 8])])
def Zr.B17 : List Nat := [0, 0, 0, 0, 12, 28, 0, 64, 252, 511]
theorem Zr.tab17 : rtab .any (opsOf Try.f4 17) = Zr.T17 := by kernel_rfl
theorem Zr.bits17 : waitsOk Zr.T17.2 Zr.B17 = true := by kernel_rfl
set_option maxHeartbeats 8000000 in
set_option maxRecDepth 100000 in
theorem Zr.calls (k : Nat) (a0_0 : Int) (a0_1 : Int) (A0_2 : Option Addr) (c0_2 : Nat) (l0_2 : List (List Int)) (a0_3 : Int) (a0_4 : Int) (a1_0 : Int) (a1_1 : Int) (A1_2 : Option Addr) (c1_2 : Nat) (l1_2 : List (List Int)) (a1_3 : Int) (a1_4 : Int) (r1 : List Int) (r2 : Int) (w : World) (hr0_2 : Kd.C (Kd.slice 3 (Kd.int .i64)) w A0_2 l0_2.length l0_2) (hc0_2 : l0_2.length ≤ c0_2) (hr1_2 : Kd.C (Kd.slice 3 (Kd.int .i64)) w A1_2 l1_2.length l1_2) (hc1_2 : l1_2.length ≤ c1_2) (h : Zr.f k a0_0 a0_1 l0_2 a0_3 a0_4 a1_0 a1_1 l1_2 a1_3 a1_4 = some (r1, r2)) :
    Calls Try.prog 4 #[.agg #[.int .i64 a0_0, .int .i64 a0_1, .slice A0_2 l0_2.length c0_2, .int .i64 a0_3, .int .u32 a0_4], .agg #[.int .i64 a1_0, .int .i64 a1_1, .slice A1_2 l1_2.length c1_2, .int .i64 a1_3, .int .u32 a1_4]] w fun e w' => ∃ v0_ : Value, e = .returned (.tuple #[v0_, .int .i64 r2]) ∧ Kd.R (Kd.int .i64) 3 w' w.heap.size (fun _ => True) v0_ r1 ∧ Below w.heap.size w w' := by
 (have hu25 := Try.underlying25); (have hu26 := Try.underlying26); (have hu36 := Try.underlying36); (have HR0_2 := Za.mk hr0_2); (have HC0_2 := Za.mk hc0_2); (clear hr0_2 hc0_2); (have HR1_2 := Za.mk hr1_2); (have HC1_2 := Za.mk hc1_2); (clear hr1_2 hc1_2); (have HB := Za.mk (Below.refl w.heap.size w)); (have H : ((least_wrong.f k a0_0 a0_1 l0_2 a0_3 a0_4 a1_0 a1_1 l1_2 a1_3 a1_4).bind fun t127 => (if t127 = 0 then (if (Lit.int .i64 a0_3).wf = true then (if (Lit.int .i64 a1_3).wf = true then (Zr.l0 k (([(⟨a0_3, a1_3⟩ : S36)] : List (S36))) a0_0 a0_1 l0_2 a0_3 a0_4 a1_0 a1_1 l1_2 a1_3 a1_4 ([((a0_3, a1_3), [])] : PM)) else (none)) else (none)) else (some (([] : List Int), t127)))) = some (r1, r2) := h); (clear h); (replace H := Option.bind_eq_some_iff.mp H); (obtain ⟨t127, A30, H⟩ := H); (replace H : (if t127 = 0 then (if (Lit.int .i64 a0_3).wf = true then (if (Lit.int .i64 a1_3).wf = true then (Zr.l0 k (([(⟨a0_3, a1_3⟩ : S36)] : List (S36))) a0_0 a0_1 l0_2 a0_3 a0_4 a1_0 a1_1 l1_2 a1_3 a1_4 ([((a0_3, a1_3), [])] : PM)) else (none)) else (none)) else (some (([] : List Int), t127))) = some (r1, r2) := H); (have A3 := Za.mk A30); (clear A30)
 by_cases c4 : t127 = 0
 rotate_left
 ·rw [if_neg c4] at H
  (have c4b0 : (t127 == 0) = false := beq_eq_false_iff_ne.mpr c4); (have c4b1 : (t127 != 0) = true := bne_iff_ne.mpr c4); (simp only [Option.some.injEq, Prod.mk.injEq] at H); (obtain ⟨rfl, rfl⟩ := H)
  go_enter Try.func4, Try.ntmps4
  go_wp2_with (first | ((with_reducible refine Zc1 (N := 2) rfl ?_); refine Zd1 ?hg (N := 2) ?hd (cs := #[.int .i64 a0_0, .int .i64 a0_1, .slice A0_2 l0_2.length c0_2, .int .i64 a0_3, .int .u32 a0_4]) (t := 25) ?hr ?_; (case hd => rfl); (case hg => rfl); (case hr => first | (go_simp; done) | (go_simp; rfl)); intro gb125 hg w104 hbox hb; have BK125 := Za.mk (hbox); have GW125 := Za.mk ((by rw [hg]; exact (Zk (by repeat (first | (with_reducible first | exact HB.out | apply zc1 | apply zc2 | apply zc3) | exact HB.out))) : w.heap.size ≤ gb125)); have GE125 := Za.mk ((by rw [hg]; exact (Zk (by repeat (first | (with_reducible first | exact HB.out | apply zc1 | apply zc2 | apply zc3) | exact HB.out))) : w.heap.size ≤ gb125)); replace HB := Za.mk (Zm (by repeat (first | (with_reducible first | exact HB.out | apply zc1 | apply zc2 | apply zc3) | exact HB.out)) hb); clear hb hbox hg) | ((with_reducible refine Zc1 (N := 3) rfl ?_); refine Zd1 ?hg (N := 3) ?hd (cs := #[.int .i64 a1_0, .int .i64 a1_1, .slice A1_2 l1_2.length c1_2, .int .i64 a1_3, .int .u32 a1_4]) (t := 25) ?hr ?_; (case hd => rfl); (case hg => rfl); (case hr => first | (go_simp; done) | (go_simp; rfl)); intro gb126 hg w105 hbox hb; have BK126 := Za.mk (hbox); have GW126 := Za.mk ((by rw [hg]; exact (Zk (by repeat (first | (with_reducible first | exact HB.out | apply zc1 | apply zc2 | apply zc3 | refine zc4 ?_ (by assumption)) | exact HB.out))) : w.heap.size ≤ gb126)); have GE126 := Za.mk ((by rw [hg]; exact (Zk (by repeat (first | (with_reducible first | exact HB.out | apply zc1 | apply zc2 | apply zc3 | refine zc4 ?_ (by assumption)) | exact HB.out))) : w.heap.size ≤ gb126)); replace HB := Za.mk (Zm (by repeat (first | (with_reducible first | exact HB.out | apply zc1 | apply zc2 | apply zc3 | refine zc4 ?_ (by assumption)) | exact HB.out)) hb); have NB125_126 := Za.mk ((by rw [hg]; exact Nat.ne_of_lt (Zs (g := gb125) (o := .cells #[.int .i64 a0_0, .int .i64 a0_1, .slice A0_2 l0_2.length c0_2, .int .i64 a0_3, .int .u32 a0_4] 25 (0, 0)) (by (with_reducible repeat (first | apply zb3 | apply zb2 | apply zb1)); exact BK125.out)) : gb125 ≠ gb126)); have NB126_125 := Za.mk ((by rw [hg]; exact Nat.ne_of_gt (Zs (g := gb125) (o := .cells #[.int .i64 a0_0, .int .i64 a0_1, .slice A0_2 l0_2.length c0_2, .int .i64 a0_3, .int .u32 a0_4] 25 (0, 0)) (by (with_reducible repeat (first | apply zb3 | apply zb2 | apply zb1)); exact BK125.out)) : gb126 ≠ gb125)); replace BK125 := Za.mk (Zi (g := gb125) (by (with_reducible repeat (first | apply zb3 | apply zb2 | apply zb1)); exact BK125.out) hb); clear hb hbox hg; have hnb106 := NB125_126.out; have hnc106 := NB126_125.out; have hcz107_0 : w105.cell? ⟨gb125, 0, none⟩ = some (.int .i64 a0_0) := (Zb BK125.out 0).trans rfl; have hcz107_1 : w105.cell? ⟨gb125, 1, none⟩ = some (.int .i64 a0_1) := (Zb BK125.out 1).trans rfl; have hcz107_2 : w105.cell? ⟨gb125, 2, none⟩ = some (.slice A0_2 l0_2.length c0_2) := (Zb BK125.out 2).trans rfl; have hcz107_3 : w105.cell? ⟨gb125, 3, none⟩ = some (.int .i64 a0_3) := (Zb BK125.out 3).trans rfl; have hcz107_4 : w105.cell? ⟨gb125, 4, none⟩ = some (.int .u32 a0_4) := (Zb BK125.out 4).trans rfl; have hfz107_0 := Zc BK125.out 0; have hfz107_1 := Zc BK125.out 1; have hfz107_2 := Zc BK125.out 2; have hfz107_3 := Zc BK125.out 3; have hfz107_4 := Zc BK125.out 4; have hcz108_0 : w105.cell? ⟨gb126, 0, none⟩ = some (.int .i64 a1_0) := (Zb BK126.out 0).trans rfl; have hcz108_1 : w105.cell? ⟨gb126, 1, none⟩ = some (.int .i64 a1_1) := (Zb BK126.out 1).trans rfl; have hcz108_2 : w105.cell? ⟨gb126, 2, none⟩ = some (.slice A1_2 l1_2.length c1_2) := (Zb BK126.out 2).trans rfl; have hcz108_3 : w105.cell? ⟨gb126, 3, none⟩ = some (.int .i64 a1_3) := (Zb BK126.out 3).trans rfl; have hcz108_4 : w105.cell? ⟨gb126, 4, none⟩ = some (.int .u32 a1_4) := (Zb BK126.out 4).trans rfl; have hfz108_0 := Zc BK126.out 0; have hfz108_1 := Zc BK126.out 1; have hfz108_2 := Zc BK126.out 2; have hfz108_3 := Zc BK126.out 3; have hfz108_4 := Zc BK126.out 4) | ((with_reducible refine Ze1 (f := 8) rfl ?_); refine goesL_ (some 16) rfl rfl Try.func8 (by kernel_rfl) rfl #[.agg #[.int .i64 a0_0, .int .i64 a0_1, .slice A0_2 l0_2.length c0_2, .int .i64 a0_3, .int .u32 a0_4], .agg #[.int .i64 a1_0, .int .i64 a1_1, .slice A1_2 l1_2.length c1_2, .int .i64 a1_3, .int .u32 a1_4]] rfl (by (try simp only [List.map_toArray, List.map_cons, List.map_nil]); first | done | rfl | (simp only [List.length_drop, List.length_take]; rfl)) ?_; (with_reducible refine (least_wrong.calls k a0_0 a0_1 _ _ l0_2 a0_3 a0_4 a1_0 a1_1 _ _ l1_2 a1_3 a1_4 t127 _ ?side1 ?side2 ?side3 ?side4 A3.out).mono ?_); (case side1 => repeat (first | exact (Kd.C_below HR0_2.out HB.out) | (with_reducible refine Kd.C_alloc ?_ _) | (with_reducible refine Kd.C_drewN ?_ _) | (with_reducible refine Kd.C_drew ?_))); (case side2 => exact HC0_2.out); (case side3 => repeat (first | exact (Kd.C_below HR1_2.out HB.out) | (with_reducible refine Kd.C_alloc ?_ _) | (with_reducible refine Kd.C_drewN ?_ _) | (with_reducible refine Kd.C_drew ?_))); (case side4 => exact HC1_2.out); rintro e w109 ⟨rfl, hb⟩; refine ⟨_, rfl, ?_⟩; replace BK125 := Za.mk (Zi (g := gb125) (by (with_reducible repeat (first | apply zb3 | apply zb2 | apply zb1)); exact BK125.out) hb); replace BK126 := Za.mk (Zi (g := gb126) (by (with_reducible repeat (first | apply zb3 | apply zb2 | apply zb1)); exact BK126.out) hb); replace HB := Za.mk (Zm (by repeat (first | (with_reducible first | exact HB.out | apply zc1 | apply zc2 | apply zc3 | refine zc4 ?_ (by assumption)) | exact HB.out)) hb); (try clear hb); (try clear hb2); (try clear hk); (try clear hi)))
  go_ret2
  exact ⟨_, by first | rfl | (simp [Zv, Zw] <;> rfl) | (simp [*, Zv, Zw] <;> rfl), by first | exact Kd.R_nil _ _ _ _ _ | exact Kd.N_nil _ _ _ _ _ | exact Kd.V_nil _ _ _ _ _ | exact Kd.Q_nil _ _ _ _ _ | exact Kd.S_nil _ _ _ _ _ | (go_simp; exact Kd.R_nil _ _ _ _ _), by repeat (first | (with_reducible first | exact HB.out | apply zc1 | apply zc2 | apply zc3 | refine zc4 ?_ (by assumption)) | exact HB.out)⟩
 (rw [if_pos c4] at H); (have c4b0 : (t127 == 0) = true := beq_iff_eq.mpr c4); (have c4b1 : (t127 != 0) = false := bne_eq_false_iff_eq.mpr c4); (clear c4)
 by_cases cW0 : (Lit.int .i64 a0_3).wf = true
 case neg => rw [if_neg cW0] at H; cases H
 (rw [if_pos cW0] at H); (have WA0 := Za.mk cW0); (clear cW0)
 by_cases cW1 : (Lit.int .i64 a1_3).wf = true
 case neg => rw [if_neg cW1] at H; cases H
 (rw [if_pos cW1] at H); (have WA1 := Za.mk cW1); (clear cW1); (obtain ⟨y129, hy129⟩ : ∃ y_ : List (S36), y_ = (([(⟨a0_3, a1_3⟩ : S36)] : List (S36))) := ⟨_, rfl⟩); (replace H : (Zr.l0 k y129 a0_0 a0_1 l0_2 a0_3 a0_4 a1_0 a1_1 l1_2 a1_3 a1_4 ([((a0_3, a1_3), [])] : PM)) = some (r1, r2) := by first | (rw [hy129]; with_reducible exact H) | (have H2_ := (Option.bind_some _ _).symm.trans H; rw [hy129]; with_reducible exact H2_) | (have H2_ := (Option.bind_some _ _).symm.trans H; with_reducible exact H2_) | with_reducible exact H | (rw [hy129]; exact H) | exact H); (have Ny129 := Za.mk hy129); (clear hy129); (have H' := Za.mk H); (clear H)
 go_enter Try.func4, Try.ntmps4
 go_wp2_with (first | ((with_reducible refine Zc1 (N := 2) rfl ?_); refine Zd1 ?hg (N := 2) ?hd (cs := #[.int .i64 a0_0, .int .i64 a0_1, .slice A0_2 l0_2.length c0_2, .int .i64 a0_3, .int .u32 a0_4]) (t := 25) ?hr ?_; (case hd => rfl); (case hg => rfl); (case hr => first | (go_simp; done) | (go_simp; rfl)); intro gb125 hg w5 hbox hb; have BK125 := Za.mk (hbox); have GW125 := Za.mk ((by rw [hg]; exact (Zk (by repeat (first | (with_reducible first | exact HB.out | apply zc1 | apply zc2 | apply zc3) | exact HB.out))) : w.heap.size ≤ gb125)); have GE125 := Za.mk ((by rw [hg]; exact (Zk (by repeat (first | (with_reducible first | exact HB.out | apply zc1 | apply zc2 | apply zc3) | exact HB.out))) : w.heap.size ≤ gb125)); replace HB := Za.mk (Zm (by repeat (first | (with_reducible first | exact HB.out | apply zc1 | apply zc2 | apply zc3) | exact HB.out)) hb); clear hb hbox hg) | ((with_reducible refine Zc1 (N := 3) rfl ?_); refine Zd1 ?hg (N := 3) ?hd (cs := #[.int .i64 a1_0, .int .i64 a1_1, .slice A1_2 l1_2.length c1_2, .int .i64 a1_3, .int .u32 a1_4]) (t := 25) ?hr ?_; (case hd => rfl); (case hg => rfl); (case hr => first | (go_simp; done) | (go_simp; rfl)); intro gb126 hg w6 hbox hb; have BK126 := Za.mk (hbox); have GW126 := Za.mk ((by rw [hg]; exact (Zk (by repeat (first | (with_reducible first | exact HB.out | apply zc1 | apply zc2 | apply zc3 | refine zc4 ?_ (by assumption)) | exact HB.out))) : w.heap.size ≤ gb126)); have GE126 := Za.mk ((by rw [hg]; exact (Zk (by repeat (first | (with_reducible first | exact HB.out | apply zc1 | apply zc2 | apply zc3 | refine zc4 ?_ (by assumption)) | exact HB.out))) : w.heap.size ≤ gb126)); replace HB := Za.mk (Zm (by repeat (first | (with_reducible first | exact HB.out | apply zc1 | apply zc2 | apply zc3 | refine zc4 ?_ (by assumption)) | exact HB.out)) hb); have NB125_126 := Za.mk ((by rw [hg]; exact Nat.ne_of_lt (Zs (g := gb125) (o := .cells #[.int .i64 a0_0, .int .i64 a0_1, .slice A0_2 l0_2.length c0_2, .int .i64 a0_3, .int .u32 a0_4] 25 (0, 0)) (by (with_reducible repeat (first | apply zb3 | apply zb2 | apply zb1)); exact BK125.out)) : gb125 ≠ gb126)); have NB126_125 := Za.mk ((by rw [hg]; exact Nat.ne_of_gt (Zs (g := gb125) (o := .cells #[.int .i64 a0_0, .int .i64 a0_1, .slice A0_2 l0_2.length c0_2, .int .i64 a0_3, .int .u32 a0_4] 25 (0, 0)) (by (with_reducible repeat (first | apply zb3 | apply zb2 | apply zb1)); exact BK125.out)) : gb126 ≠ gb125)); replace BK125 := Za.mk (Zi (g := gb125) (by (with_reducible repeat (first | apply zb3 | apply zb2 | apply zb1)); exact BK125.out) hb); clear hb hbox hg; have hnb7 := NB125_126.out; have hnc7 := NB126_125.out; have hcz8_0 : w6.cell? ⟨gb125, 0, none⟩ = some (.int .i64 a0_0) := (Zb BK125.out 0).trans rfl; have hcz8_1 : w6.cell? ⟨gb125, 1, none⟩ = some (.int .i64 a0_1) := (Zb BK125.out 1).trans rfl; have hcz8_2 : w6.cell? ⟨gb125, 2, none⟩ = some (.slice A0_2 l0_2.length c0_2) := (Zb BK125.out 2).trans rfl; have hcz8_3 : w6.cell? ⟨gb125, 3, none⟩ = some (.int .i64 a0_3) := (Zb BK125.out 3).trans rfl; have hcz8_4 : w6.cell? ⟨gb125, 4, none⟩ = some (.int .u32 a0_4) := (Zb BK125.out 4).trans rfl; have hfz8_0 := Zc BK125.out 0; have hfz8_1 := Zc BK125.out 1; have hfz8_2 := Zc BK125.out 2; have hfz8_3 := Zc BK125.out 3; have hfz8_4 := Zc BK125.out 4; have hcz9_0 : w6.cell? ⟨gb126, 0, none⟩ = some (.int .i64 a1_0) := (Zb BK126.out 0).trans rfl; have hcz9_1 : w6.cell? ⟨gb126, 1, none⟩ = some (.int .i64 a1_1) := (Zb BK126.out 1).trans rfl; have hcz9_2 : w6.cell? ⟨gb126, 2, none⟩ = some (.slice A1_2 l1_2.length c1_2) := (Zb BK126.out 2).trans rfl; have hcz9_3 : w6.cell? ⟨gb126, 3, none⟩ = some (.int .i64 a1_3) := (Zb BK126.out 3).trans rfl; have hcz9_4 : w6.cell? ⟨gb126, 4, none⟩ = some (.int .u32 a1_4) := (Zb BK126.out 4).trans rfl; have hfz9_0 := Zc BK126.out 0; have hfz9_1 := Zc BK126.out 1; have hfz9_2 := Zc BK126.out 2; have hfz9_3 := Zc BK126.out 3; have hfz9_4 := Zc BK126.out 4) | ((with_reducible refine Ze1 (f := 8) rfl ?_); refine goesL_ (some 16) rfl rfl Try.func8 (by kernel_rfl) rfl #[.agg #[.int .i64 a0_0, .int .i64 a0_1, .slice A0_2 l0_2.length c0_2, .int .i64 a0_3, .int .u32 a0_4], .agg #[.int .i64 a1_0, .int .i64 a1_1, .slice A1_2 l1_2.length c1_2, .int .i64 a1_3, .int .u32 a1_4]] rfl (by (try simp only [List.map_toArray, List.map_cons, List.map_nil]); first | done | rfl | (simp only [List.length_drop, List.length_take]; rfl)) ?_; (with_reducible refine (least_wrong.calls k a0_0 a0_1 _ _ l0_2 a0_3 a0_4 a1_0 a1_1 _ _ l1_2 a1_3 a1_4 t127 _ ?side1 ?side2 ?side3 ?side4 A3.out).mono ?_); (case side1 => repeat (first | exact (Kd.C_below HR0_2.out HB.out) | (with_reducible refine Kd.C_alloc ?_ _) | (with_reducible refine Kd.C_drewN ?_ _) | (with_reducible refine Kd.C_drew ?_))); (case side2 => exact HC0_2.out); (case side3 => repeat (first | exact (Kd.C_below HR1_2.out HB.out) | (with_reducible refine Kd.C_alloc ?_ _) | (with_reducible refine Kd.C_drewN ?_ _) | (with_reducible refine Kd.C_drew ?_))); (case side4 => exact HC1_2.out); rintro e w10 ⟨rfl, hb⟩; refine ⟨_, rfl, ?_⟩; replace BK125 := Za.mk (Zi (g := gb125) (by (with_reducible repeat (first | apply zb3 | apply zb2 | apply zb1)); exact BK125.out) hb); replace BK126 := Za.mk (Zi (g := gb126) (by (with_reducible repeat (first | apply zb3 | apply zb2 | apply zb1)); exact BK126.out) hb); replace HB := Za.mk (Zm (by repeat (first | (with_reducible first | exact HB.out | apply zc1 | apply zc2 | apply zc3 | refine zc4 ?_ (by assumption)) | exact HB.out)) hb); (try clear hb); (try clear hb2); (try clear hk); (try clear hi)) | ((with_reducible refine gate_makeMap rfl ?_); refine mapE_make rfl 37 rfl ?_; intro gb128 hg w11 hbox hb; have BK128 := Za.mk (hbox); have GW128 := Za.mk ((by rw [hg]; exact (Zk (by repeat (first | (with_reducible first | exact HB.out | apply zc1 | apply zc2 | apply zc3 | refine zc4 ?_ (by assumption)) | exact HB.out))) : w.heap.size ≤ gb128)); have GE128 := Za.mk ((by rw [hg]; exact (Zk (by repeat (first | (with_reducible first | exact HB.out | apply zc1 | apply zc2 | apply zc3 | refine zc4 ?_ (by assumption)) | exact HB.out))) : w.heap.size ≤ gb128)); replace HB := Za.mk (Zm (by repeat (first | (with_reducible first | exact HB.out | apply zc1 | apply zc2 | apply zc3 | refine zc4 ?_ (by assumption)) | exact HB.out)) hb); have NB125_128 := Za.mk ((by rw [hg]; exact Nat.ne_of_lt (Zs (g := gb125) (o := .cells #[.int .i64 a0_0, .int .i64 a0_1, .slice A0_2 l0_2.length c0_2, .int .i64 a0_3, .int .u32 a0_4] 25 (0, 0)) (by (with_reducible repeat (first | apply zb3 | apply zb2 | apply zb1)); exact BK125.out)) : gb125 ≠ gb128)); have NB128_125 := Za.mk ((by rw [hg]; exact Nat.ne_of_gt (Zs (g := gb125) (o := .cells #[.int .i64 a0_0, .int .i64 a0_1, .slice A0_2 l0_2.length c0_2, .int .i64 a0_3, .int .u32 a0_4] 25 (0, 0)) (by (with_reducible repeat (first | apply zb3 | apply zb2 | apply zb1)); exact BK125.out)) : gb128 ≠ gb125)); replace BK125 := Za.mk (Zi (g := gb125) (by (with_reducible repeat (first | apply zb3 | apply zb2 | apply zb1)); exact BK125.out) hb); have NB126_128 := Za.mk ((by rw [hg]; exact Nat.ne_of_lt (Zs (g := gb126) (o := .cells #[.int .i64 a1_0, .int .i64 a1_1, .slice A1_2 l1_2.length c1_2, .int .i64 a1_3, .int .u32 a1_4] 25 (0, 0)) (by (with_reducible repeat (first | apply zb3 | apply zb2 | apply zb1)); exact BK126.out)) : gb126 ≠ gb128)); have NB128_126 := Za.mk ((by rw [hg]; exact Nat.ne_of_gt (Zs (g := gb126) (o := .cells #[.int .i64 a1_0, .int .i64 a1_1, .slice A1_2 l1_2.length c1_2, .int .i64 a1_3, .int .u32 a1_4] 25 (0, 0)) (by (with_reducible repeat (first | apply zb3 | apply zb2 | apply zb1)); exact BK126.out)) : gb128 ≠ gb126)); replace BK126 := Za.mk (Zi (g := gb126) (by (with_reducible repeat (first | apply zb3 | apply zb2 | apply zb1)); exact BK126.out) hb); clear hb hbox hg; have hnb12 := NB125_128.out; have hnc12 := NB128_125.out; have hcz13_0 : w11.cell? ⟨gb125, 0, none⟩ = some (.int .i64 a0_0) := (Zb BK125.out 0).trans rfl; have hcz13_1 : w11.cell? ⟨gb125, 1, none⟩ = some (.int .i64 a0_1) := (Zb BK125.out 1).trans rfl; have hcz13_2 : w11.cell? ⟨gb125, 2, none⟩ = some (.slice A0_2 l0_2.length c0_2) := (Zb BK125.out 2).trans rfl; have hcz13_3 : w11.cell? ⟨gb125, 3, none⟩ = some (.int .i64 a0_3) := (Zb BK125.out 3).trans rfl; have hcz13_4 : w11.cell? ⟨gb125, 4, none⟩ = some (.int .u32 a0_4) := (Zb BK125.out 4).trans rfl; have hfz13_0 := Zc BK125.out 0; have hfz13_1 := Zc BK125.out 1; have hfz13_2 := Zc BK125.out 2; have hfz13_3 := Zc BK125.out 3; have hfz13_4 := Zc BK125.out 4; have hnb14 := NB126_128.out; have hnc14 := NB128_126.out; have hcz15_0 : w11.cell? ⟨gb126, 0, none⟩ = some (.int .i64 a1_0) := (Zb BK126.out 0).trans rfl; have hcz15_1 : w11.cell? ⟨gb126, 1, none⟩ = some (.int .i64 a1_1) := (Zb BK126.out 1).trans rfl; have hcz15_2 : w11.cell? ⟨gb126, 2, none⟩ = some (.slice A1_2 l1_2.length c1_2) := (Zb BK126.out 2).trans rfl; have hcz15_3 : w11.cell? ⟨gb126, 3, none⟩ = some (.int .i64 a1_3) := (Zb BK126.out 3).trans rfl; have hcz15_4 : w11.cell? ⟨gb126, 4, none⟩ = some (.int .u32 a1_4) := (Zb BK126.out 4).trans rfl; have hfz15_0 := Zc BK126.out 0; have hfz15_1 := Zc BK126.out 1; have hfz15_2 := Zc BK126.out 2; have hfz15_3 := Zc BK126.out 3; have hfz15_4 := Zc BK126.out 4) | ((with_reducible refine gate_insert rfl ?_); refine mapE_put rfl 37 Try.underlying37 _ _ _ (.inr rfl) rfl BK128.out (MapE.made _ w.heap.size) (by decide) a0_3 a1_3 ?hk WA0.out WA1.out _ rfl [] (Kd.R_nil _ _ _ _ _) ?_; (case hk => first | rfl | (go_simp; done) | (go_simp; rfl)); intro w12 om12 hbm hMM hgm; replace BK125 := Za.mk (Zf1 BK125.out hgm (fun e => NB125_128.out (Option.some.inj e))); replace BK126 := Za.mk (Zf1 BK126.out hgm (fun e => NB126_128.out (Option.some.inj e))); replace HB := Za.mk (HB.out.grown hgm HB.out.size (fun j hj => by cases hj; exact GE128.out)); replace BK128 := Za.mk hbm; have HO_129000 := Za.mk hMM; clear hbm hMM hgm; have hcy13_0 : w12.cell? ⟨gb125, 0, none⟩ = some (.int .i64 a0_0) := (Zb BK125.out 0).trans rfl; have hcy13_1 : w12.cell? ⟨gb125, 1, none⟩ = some (.int .i64 a0_1) := (Zb BK125.out 1).trans rfl; have hcy13_2 : w12.cell? ⟨gb125, 2, none⟩ = some (.slice A0_2 l0_2.length c0_2) := (Zb BK125.out 2).trans rfl; have hcy13_3 : w12.cell? ⟨gb125, 3, none⟩ = some (.int .i64 a0_3) := (Zb BK125.out 3).trans rfl; have hcy13_4 : w12.cell? ⟨gb125, 4, none⟩ = some (.int .u32 a0_4) := (Zb BK125.out 4).trans rfl; have hcy15_0 : w12.cell? ⟨gb126, 0, none⟩ = some (.int .i64 a1_0) := (Zb BK126.out 0).trans rfl; have hcy15_1 : w12.cell? ⟨gb126, 1, none⟩ = some (.int .i64 a1_1) := (Zb BK126.out 1).trans rfl; have hcy15_2 : w12.cell? ⟨gb126, 2, none⟩ = some (.slice A1_2 l1_2.length c1_2) := (Zb BK126.out 2).trans rfl; have hcy15_3 : w12.cell? ⟨gb126, 3, none⟩ = some (.int .i64 a1_3) := (Zb BK126.out 3).trans rfl; have hcy15_4 : w12.cell? ⟨gb126, 4, none⟩ = some (.int .u32 a1_4) := (Zb BK126.out 4).trans rfl) | ((with_reducible refine Zc1 (N := 32) rfl ?_); refine Kd.R_lit k36 _ 36 ?hg (N := 32) ?hd (xs := ([(⟨a0_3, a1_3⟩ : S36)] : List (S36))) (inner := [.int .i64 a0_3, .int .i64 a1_3]) (ok := fun _ => True) (okp := fun _ => True) ?hr ?hp (fun _ hk => hk) trivial (Below.refl _ _) (Nat.le_refl _) (by simp) ?_; (case hd => rfl); (case hg => rfl); (case hr => first | (go_simp; done) | (go_simp; rfl)); (case hp => exact (Reps.c2 (show Kd.M k36 _ _ _ (⟨a0_3, a1_3⟩ : S36) [.int .i64 a0_3, .int .i64 a1_3] from (k36_mkM _ _ _ (⟨a0_3, a1_3⟩ : S36) )) (Reps.none _ _))); intro v130 w17 ho18 hb hg_ hnew_; clear hg_ hnew_; (first | rw [← Ny129.out] at ho18 | (simp only [Int.reduceToNat] at ho18; rw [← Ny129.out] at ho18)); have n0_ := Za.mk (Kd.R_lower ho18 (Zk (by repeat (first | (with_reducible first | exact HB.out | apply zc1 | apply zc2 | apply zc3 | refine zc4 ?_ (by assumption)) | exact HB.out)))); have n1_ := Za.mk (Zi (g := gb125) (by (with_reducible repeat (first | apply zb3 | apply zb2 | apply zb1)); exact BK125.out) hb); have n2_ := Za.mk (Zi (g := gb126) (by (with_reducible repeat (first | apply zb3 | apply zb2 | apply zb1)); exact BK126.out) hb); have n3_ := Za.mk (Zi (g := gb128) (o := om12) (by (with_reducible repeat (first | apply zb3 | apply zb2 | apply zb1)); exact BK128.out) hb); have n4_ := Za.mk (Zm (by repeat (first | (with_reducible first | exact HB.out | apply zc1 | apply zc2 | apply zc3 | refine zc4 ?_ (by assumption)) | exact HB.out)) hb); clear BK125; clear BK126; have nM_ := Za.mk (MapE.below HO_129000.out hb); clear HO_129000; have HO_129000 := nM_; clear nM_; clear BK128; clear HB; have HO131 := n0_; have BK125 := n1_; have BK126 := n2_; have BK128 := n3_; have HB := n4_; clear n0_ n1_ n2_ n3_ n4_; clear hb ho18))
 go_loopg [8] k (fun kq v8 w' => ∃ (x8_1 : List (S36)) (x129000_1 : PM) (u129000 : Obj), Za (Zr.l0 kq x8_1 a0_0 a0_1 l0_2 a0_3 a0_4 a1_0 a1_1 l1_2 a1_3 a1_4 x129000_1 = some (r1, r2)) ∧ Za (kq ≤ k) ∧ Za (Kd.Q k36 36 w' w.heap.size (fun _ => True) v8 x8_1) ∧ Za (MapE w' w.heap.size u129000 x129000_1) ∧ Za (w'.heap[gb125]? = some (.cells #[.int .i64 a0_0, .int .i64 a0_1, (.slice A0_2 l0_2.length c0_2), .int .i64 a0_3, .int .u32 a0_4] 25 (0, 0))) ∧ Za (w'.heap[gb126]? = some (.cells #[.int .i64 a1_0, .int .i64 a1_1, (.slice A1_2 l1_2.length c1_2), .int .i64 a1_3, .int .u32 a1_4] 25 (0, 0))) ∧ Za (w'.heap[gb128]? = some (u129000)) ∧ Za (Below w.heap.size w w'))
 case atStart => exact ⟨(y129), ([((a0_3, a1_3), [])] : PM), _, H', ⟨Nat.le_refl _⟩, ⟨Kd.Q_of_R (by (with_reducible repeat (first | apply Kd.R_alloc | apply Kd.R_drewN | apply Kd.R_drew)); exact HO131.out)⟩, ⟨HO_129000.out⟩, ⟨by (with_reducible repeat (first | apply zb3 | apply zb2 | apply zb1)); exact BK125.out⟩, ⟨by (with_reducible repeat (first | apply zb3 | apply zb2 | apply zb1)); exact BK126.out⟩, ⟨by (with_reducible repeat (first | apply zb3 | apply zb2 | apply zb1)); exact BK128.out⟩, ⟨by repeat (first | (with_reducible first | exact HB.out | apply zc1 | apply zc2 | apply zc3 | refine zc4 ?_ (by assumption)) | exact HB.out)⟩⟩
 case round =>
  (clear H'); (try clear c1); (try clear c2); (try clear p2); (try clear c4); (try clear c4b0); (try clear c4b1); (try clear c7); (try clear c8); (try clear c12); (try clear c14); (try clear hcz13_0 hcz13_1 hcz13_2 hcz13_3 hcz13_4 hcz15_0 hcz15_1 hcz15_2 hcz15_3 hcz15_4 hcz16_0 hcz8_0 hcz8_1 hcz8_2 hcz8_3 hcz8_4 hcz9_0 hcz9_1 hcz9_2 hcz9_3 hcz9_4 hfz13_0 hfz13_1 hfz13_2 hfz13_3 hfz13_4 hfz15_0 hfz15_1 hfz15_2 hfz15_3 hfz15_4 hfz16_0 hfz8_0 hfz8_1 hfz8_2 hfz8_3 hfz8_4 hfz9_0 hfz9_1 hfz9_2 hfz9_3 hfz9_4); (obtain ⟨x8_1, x129000_1, u129000, HA, HK1, HO_8, HO_129000, BK125, BK126, BK128, HB⟩ := hrel)
  cases gk with
  | zero => exact absurd HA.out (by simp [Zr.l0])
  | succ k1 =>
   (have H := HA.out); (clear HA); (simp only [Zr.l0] at H)
   by_cases c19 : (x8_1.length : Int) > 0
   rotate_left
   ·rw [if_neg c19] at H
    (have c19b0 : decide (0 < (x8_1.length : Int)) = false := decide_eq_false c19); (have c19b1 : decide (0 < x8_1.length) = false := decide_eq_false (by omega)); (clear c19); (simp only [Option.some.injEq, Prod.mk.injEq] at H); (obtain ⟨rfl, rfl⟩ := H); (obtain ⟨Ao103, co103, eo103, _⟩ := Kd.Q_slice HO_8.out); (subst eo103)
    go_wp2
    go_ret2
    exact ⟨_, by first | rfl | (simp [Zv, Zw] <;> rfl) | (simp [*, Zv, Zw] <;> rfl), by first | exact Kd.R_nil _ _ _ _ _ | exact Kd.N_nil _ _ _ _ _ | exact Kd.V_nil _ _ _ _ _ | exact Kd.Q_nil _ _ _ _ _ | exact Kd.S_nil _ _ _ _ _ | (go_simp; exact Kd.R_nil _ _ _ _ _), by repeat (first | (with_reducible first | exact HB.out | apply zc1 | apply zc2 | apply zc3 | refine zc4 ?_ (by assumption)) | exact HB.out)⟩
   (rw [if_pos c19] at H); (have c19b0 : decide (0 < (x8_1.length : Int)) = true := decide_eq_true c19); (have c19b1 : decide (0 < x8_1.length) = true := decide_eq_true (by omega)); (clear c19)
   by_cases c20 : 0 < (x8_1.length : Int)
   rotate_left
   ·rw [if_neg c20] at H
    exact absurd H (by simp)
   (rw [if_pos c20] at H); (have c20b0 : decide (0 < (x8_1.length : Int)) = true := decide_eq_true c20); (have c20b1 : decide (0 < x8_1.length) = true := decide_eq_true (by omega)); (clear c20)
   by_cases cW0 : (Lit.int .i64 ((Ze x8_1 0).f0)).wf = true
   case neg => rw [if_neg cW0] at H; cases H
   (rw [if_pos cW0] at H); (have WP0 := Za.mk cW0); (clear cW0)
   by_cases cW1 : (Lit.int .i64 ((Ze x8_1 0).f1)).wf = true
   case neg => rw [if_neg cW1] at H; cases H
   (rw [if_pos cW1] at H); (have WP1 := Za.mk cW1); (clear cW1)
   by_cases c21 : 0 ≤ ((Ze x8_1 0).f0)
   rotate_left
   ·rw [if_neg c21] at H
    exact absurd H (by simp)
   (rw [if_pos c21] at H); (have c21b0 := eq_true c21); (have c21b1 : decide (0 ≤ ((Ze x8_1 0).f0)) = true := decide_eq_true c21); (clear c21); (obtain ⟨ji22, hji22⟩ : ∃ j_ : Int, (shr .u32 a0_4 ((Ze x8_1 0).f0)) = j_ := ⟨_, rfl⟩); (replace H : (if 0 ≤ ((Ze x8_1 0).f1) then (if (Go.bits .and .u32 (ji22) 1) = (Go.bits .and .u32 (shr .u32 a1_4 ((Ze x8_1 0).f1)) 1) then (Zr.l1 k1 x8_1 a0_1 0 a0_0 a0_1 l0_2 a0_3 a0_4 a1_0 a1_1 l1_2 a1_3 a1_4 x129000_1 ((Ze x8_1 0).f0) ((Ze x8_1 0).f1)) else (some ((lkP x129000_1 (((Ze x8_1 0).f0), ((Ze x8_1 0).f1))).getD [], 0))) else (none)) = some (r1, r2) := by first | (rw [hji22] at H; exact H) | (simp only [hji22] at H ⊢; exact H)); (have hji22_ : (a0_4 / 2 ^ min ((Ze x8_1 0).f0).toNat 32) = ji22 := hji22); (have hji22z : ((Ze x8_1 0).f0) ≤ 32 → (a0_4 / 2 ^ ((Ze x8_1 0).f0).toNat) = ji22 := shr_small hji22)
   by_cases c23 : 0 ≤ ((Ze x8_1 0).f1)
   rotate_left
   ·rw [if_neg c23] at H
    exact absurd H (by simp)
   (rw [if_pos c23] at H); (have c23b0 := eq_true c23); (have c23b1 : decide (0 ≤ ((Ze x8_1 0).f1)) = true := decide_eq_true c23); (clear c23); (obtain ⟨ji24, hji24⟩ : ∃ j_ : Int, (shr .u32 a1_4 ((Ze x8_1 0).f1)) = j_ := ⟨_, rfl⟩); (replace H : (if (Go.bits .and .u32 (ji22) 1) = (Go.bits .and .u32 (ji24) 1) then (Zr.l1 k1 x8_1 a0_1 0 a0_0 a0_1 l0_2 a0_3 a0_4 a1_0 a1_1 l1_2 a1_3 a1_4 x129000_1 ((Ze x8_1 0).f0) ((Ze x8_1 0).f1)) else (some ((lkP x129000_1 (((Ze x8_1 0).f0), ((Ze x8_1 0).f1))).getD [], 0))) = some (r1, r2) := by first | (rw [hji24] at H; exact H) | (simp only [hji24] at H ⊢; exact H)); (have hji24_ : (a1_4 / 2 ^ min ((Ze x8_1 0).f1).toNat 32) = ji24 := hji24); (have hji24z : ((Ze x8_1 0).f1) ≤ 32 → (a1_4 / 2 ^ ((Ze x8_1 0).f1).toNat) = ji24 := shr_small hji24)
   by_cases c25 : (Go.bits .and .u32 (ji22) 1) = (Go.bits .and .u32 (ji24) 1)
   rotate_left
   ·rw [if_neg c25] at H
    (have c25b0 : ((Go.bits .and .u32 (ji22) 1) == (Go.bits .and .u32 (ji24) 1)) = false := beq_eq_false_iff_ne.mpr c25); (have c25b1 : ((Go.bits .and .u32 (ji22) 1) != (Go.bits .and .u32 (ji24) 1)) = true := bne_iff_ne.mpr c25); (simp only [Option.some.injEq, Prod.mk.injEq] at H); (obtain ⟨rfl, rfl⟩ := H); (obtain ⟨Ao91, co91, eo91, _⟩ := Kd.Q_slice HO_8.out); (subst eo91); (have p132 : 0 ≤ (0 : Int) := (by omega)); (have q132 : 0 < (x8_1.length : Int) := of_decide_eq_true (by assumption)); (obtain ⟨ad132, e132, hx132_0, hx132_1⟩ := at_T36 (Kd.Q_reads' HO_8.out).2.2 0 p132 q132); (cases e132); (have qi132 : (0 < x8_1.length) = True := eq_true (by omega)); ((try rw [show ((0 : Int)).toNat = 0 from rfl] at hx132_0)); ((try rw [show 0 * 2 = 0 from rfl] at hx132_0)); ((try rw [Addr.add_zero'] at hx132_0)); ((try rw [show ((0 : Int)).toNat = 0 from rfl] at hx132_1)); ((try rw [show 0 * 2 = 0 from rfl] at hx132_1)); ((try rw [Addr.add_zero'] at hx132_1)); (replace p132 := eq_true p132); (replace q132 := eq_true q132)
    try go_wp2_with (first | ((with_reducible refine Zc1 (N := 9) rfl ?_); refine Zd1 ?hg (N := 9) ?hd (cs := #[.int .i64 0, .int .i64 0]) (t := 36) ?hr ?_; (case hd => rfl); (case hg => rfl); (case hr => first | (go_simp; done) | (go_simp; rfl)); intro gb133 hg w92 hbox hb; replace HO_8 := Za.mk (Kd.Q_below (Kd.Q_elderB (by (with_reducible repeat (first | apply Kd.Q_alloc | apply Kd.Q_drewN | apply Kd.Q_drew)); exact HO_8.out) gb133 (Nat.le_of_eq hg.symm)) hb); replace HO_129000 := Za.mk (MapE.below (by (with_reducible repeat (first | apply MapE.alloc | apply MapE.drewN | apply MapE.drew)); exact HO_129000.out) hb); have BK133 := Za.mk (hbox); have GW133 := Za.mk ((by rw [hg]; exact (Zk (by repeat (first | (with_reducible first | exact HB.out | apply zc1 | apply zc2 | apply zc3 | refine zc4 ?_ (by assumption)) | exact HB.out))) : w.heap.size ≤ gb133)); have GE133 := Za.mk ((by rw [hg]; exact (Zk (by repeat (first | (with_reducible first | exact HB.out | apply zc1 | apply zc2 | apply zc3 | refine zc4 ?_ (by assumption)) | exact HB.out))) : w.heap.size ≤ gb133)); replace HB := Za.mk (Zm (by repeat (first | (with_reducible first | exact HB.out | apply zc1 | apply zc2 | apply zc3 | refine zc4 ?_ (by assumption)) | exact HB.out)) hb); have NB125_133 := Za.mk ((by rw [hg]; exact Nat.ne_of_lt (Zs (g := gb125) (o := .cells #[.int .i64 a0_0, .int .i64 a0_1, .slice A0_2 l0_2.length c0_2, .int .i64 a0_3, .int .u32 a0_4] 25 (0, 0)) (by (with_reducible repeat (first | apply zb3 | apply zb2 | apply zb1)); exact BK125.out)) : gb125 ≠ gb133)); have NB133_125 := Za.mk ((by rw [hg]; exact Nat.ne_of_gt (Zs (g := gb125) (o := .cells #[.int .i64 a0_0, .int .i64 a0_1, .slice A0_2 l0_2.length c0_2, .int .i64 a0_3, .int .u32 a0_4] 25 (0, 0)) (by (with_reducible repeat (first | apply zb3 | apply zb2 | apply zb1)); exact BK125.out)) : gb133 ≠ gb125)); replace BK125 := Za.mk (Zi (g := gb125) (by (with_reducible repeat (first | apply zb3 | apply zb2 | apply zb1)); exact BK125.out) hb); have NB126_133 := Za.mk ((by rw [hg]; exact Nat.ne_of_lt (Zs (g := gb126) (o := .cells #[.int .i64 a1_0, .int .i64 a1_1, .slice A1_2 l1_2.length c1_2, .int .i64 a1_3, .int .u32 a1_4] 25 (0, 0)) (by (with_reducible repeat (first | apply zb3 | apply zb2 | apply zb1)); exact BK126.out)) : gb126 ≠ gb133)); have NB133_126 := Za.mk ((by rw [hg]; exact Nat.ne_of_gt (Zs (g := gb126) (o := .cells #[.int .i64 a1_0, .int .i64 a1_1, .slice A1_2 l1_2.length c1_2, .int .i64 a1_3, .int .u32 a1_4] 25 (0, 0)) (by (with_reducible repeat (first | apply zb3 | apply zb2 | apply zb1)); exact BK126.out)) : gb133 ≠ gb126)); replace BK126 := Za.mk (Zi (g := gb126) (by (with_reducible repeat (first | apply zb3 | apply zb2 | apply zb1)); exact BK126.out) hb); have NB128_133 := Za.mk ((by rw [hg]; exact Nat.ne_of_lt (Zs (g := gb128) (o := u129000) (by (with_reducible repeat (first | apply zb3 | apply zb2 | apply zb1)); exact BK128.out)) : gb128 ≠ gb133)); have NB133_128 := Za.mk ((by rw [hg]; exact Nat.ne_of_gt (Zs (g := gb128) (o := u129000) (by (with_reducible repeat (first | apply zb3 | apply zb2 | apply zb1)); exact BK128.out)) : gb133 ≠ gb128)); replace BK128 := Za.mk (Zi (g := gb128) (o := u129000) (by (with_reducible repeat (first | apply zb3 | apply zb2 | apply zb1)); exact BK128.out) hb); clear hb hbox hg; have hnb93 := NB133_125.out; have hnc93 := NB125_133.out; have hnb94 := NB133_126.out; have hnc94 := NB126_133.out; have hnb95 := NB133_128.out; have hnc95 := NB128_133.out; have hcz96_0 : w92.cell? ⟨gb133, 0, none⟩ = some (.int .i64 0) := (Zb BK133.out 0).trans rfl; have hcz96_1 : w92.cell? ⟨gb133, 1, none⟩ = some (.int .i64 0) := (Zb BK133.out 1).trans rfl; have hfz96_0 := Zc BK133.out 0; have hfz96_1 := Zc BK133.out 1))
    (have n0_ : Za (Kd.Q k36 36 ((w92.setCell ⟨gb133, 0, none⟩ (.int .i64 ((Ze x8_1 0).f0))).setCell ⟨gb133, 1, none⟩ (.int .i64 ((Ze x8_1 0).f1))) w.heap.size (fun k_ => k_ ≠ gb133) (.slice (some ad132) x8_1.length co91) x8_1) := ⟨by (with_reducible repeat (first | apply Kd.Q_alloc | apply Kd.Q_drewN | apply Kd.Q_drew)); exact Kd.Q_mono (Kd.Q_far (p := ⟨gb133, 1, none⟩) (Kd.Q_far (p := ⟨gb133, 0, none⟩) (Kd.Q_mono HO_8.out (fun k_ hk => (⟨hk, hk.2⟩ : _ ∧ k_ ≠ gb133))) (fun _ hk => hk.2) (.int .i64 ((Ze x8_1 0).f0))) (fun _ hk => hk.2) (.int .i64 ((Ze x8_1 0).f1))) (fun _ hk => hk.1.2)⟩); (have n1_ : Za (MapE ((w92.setCell ⟨gb133, 0, none⟩ (.int .i64 ((Ze x8_1 0).f0))).setCell ⟨gb133, 1, none⟩ (.int .i64 ((Ze x8_1 0).f1))) w.heap.size u129000 x129000_1) := ⟨MapE.set (MapE.set HO_129000.out BK133.out (by decide) _ _) (blk_put BK133.out 0 _ rfl) (by decide) _ _⟩); (have n2_ : Za (((w92.setCell ⟨gb133, 0, none⟩ (.int .i64 ((Ze x8_1 0).f0))).setCell ⟨gb133, 1, none⟩ (.int .i64 ((Ze x8_1 0).f1))).heap[gb125]? = some (.cells #[.int .i64 a0_0, .int .i64 a0_1, .slice A0_2 l0_2.length c0_2, .int .i64 a0_3, .int .u32 a0_4] 25 (0, 0))) := ⟨by (with_reducible repeat (first | refine Zq ?_ _ | refine Zl ?_ | refine Zn ?_ _)); refine Za1 ?_ NB125_133.out _; (with_reducible repeat (first | refine Zq ?_ _ | refine Zl ?_ | refine Zn ?_ _)); refine Za1 ?_ NB125_133.out _; (with_reducible repeat (first | apply zb3 | apply zb2 | apply zb1)); exact BK125.out⟩)
    (have n3_ : Za (((w92.setCell ⟨gb133, 0, none⟩ (.int .i64 ((Ze x8_1 0).f0))).setCell ⟨gb133, 1, none⟩ (.int .i64 ((Ze x8_1 0).f1))).heap[gb126]? = some (.cells #[.int .i64 a1_0, .int .i64 a1_1, .slice A1_2 l1_2.length c1_2, .int .i64 a1_3, .int .u32 a1_4] 25 (0, 0))) := ⟨by (with_reducible repeat (first | refine Zq ?_ _ | refine Zl ?_ | refine Zn ?_ _)); refine Za1 ?_ NB126_133.out _; (with_reducible repeat (first | refine Zq ?_ _ | refine Zl ?_ | refine Zn ?_ _)); refine Za1 ?_ NB126_133.out _; (with_reducible repeat (first | apply zb3 | apply zb2 | apply zb1)); exact BK126.out⟩); (have n4_ : Za (((w92.setCell ⟨gb133, 0, none⟩ (.int .i64 ((Ze x8_1 0).f0))).setCell ⟨gb133, 1, none⟩ (.int .i64 ((Ze x8_1 0).f1))).heap[gb128]? = some (u129000)) := ⟨by (with_reducible repeat (first | refine Zq ?_ _ | refine Zl ?_ | refine Zn ?_ _)); refine blk_farO ?_ NB128_133.out _; (with_reducible repeat (first | refine Zq ?_ _ | refine Zl ?_ | refine Zn ?_ _)); refine blk_farO ?_ NB128_133.out _; (with_reducible repeat (first | apply zb3 | apply zb2 | apply zb1)); exact BK128.out⟩); (have n5_ : Za (((w92.setCell ⟨gb133, 0, none⟩ (.int .i64 ((Ze x8_1 0).f0))).setCell ⟨gb133, 1, none⟩ (.int .i64 ((Ze x8_1 0).f1))).heap[gb133]? = some (.cells #[.int .i64 ((Ze x8_1 0).f0), .int .i64 ((Ze x8_1 0).f1)] 36 (0, 0))) := ⟨by (with_reducible repeat (first | refine Zq ?_ _ | refine Zl ?_ | refine Zn ?_ _)); refine blk_put (cs := #[.int .i64 ((Ze x8_1 0).f0), .int .i64 0]) ?_ 1 _ rfl; (with_reducible repeat (first | refine Zq ?_ _ | refine Zl ?_ | refine Zn ?_ _)); refine blk_put (cs := #[.int .i64 0, .int .i64 0]) ?_ 0 _ rfl; (with_reducible repeat (first | apply zb3 | apply zb2 | apply zb1)); exact BK133.out⟩)
    (have n6_ : Za (Below w.heap.size w ((w92.setCell ⟨gb133, 0, none⟩ (.int .i64 ((Ze x8_1 0).f0))).setCell ⟨gb133, 1, none⟩ (.int .i64 ((Ze x8_1 0).f1)))) := ⟨by repeat (first | (with_reducible first | exact HB.out | apply zc1 | apply zc2 | apply zc3 | refine zc4 ?_ (by assumption)) | exact HB.out)⟩); ((try clear HO_8)); ((try clear HO_129000)); ((try clear BK125)); ((try clear BK126)); ((try clear BK128)); ((try clear BK133)); ((try clear HB)); (generalize ((w92.setCell ⟨gb133, 0, none⟩ (.int .i64 ((Ze x8_1 0).f0))).setCell ⟨gb133, 1, none⟩ (.int .i64 ((Ze x8_1 0).f1))) = w97 at n0_ n1_ n2_ n3_ n4_ n5_ n6_ ⊢); (have HO_8 := n0_); (have HO_129000 := n1_); (have BK125 := n2_); (have BK126 := n3_); (have BK128 := n4_); (have BK133 := n5_); (have HB := n6_); (clear n0_ n1_ n2_ n3_ n4_ n5_ n6_); (replace HO_8 := Za.mk (Kd.Q_drew HO_8.out)); (replace HO_129000 := Za.mk (MapE.drew HO_129000.out)); (replace BK125 := Za.mk (Zl BK125.out)); (replace BK126 := Za.mk (Zl BK126.out)); (replace BK128 := Za.mk (Zl BK128.out)); (replace BK133 := Za.mk (Zl BK133.out)); (replace HB := Za.mk (below_drew1 HB.out))
    refine start_ (n := 13) (S := fun w' => w'.cell? ⟨gb125, 0, none⟩ = some (.int .i64 a0_0) ∧ w'.cell? ⟨gb125, 1, none⟩ = some (.int .i64 a0_1) ∧ w'.cell? ⟨gb125, 2, none⟩ = some (.slice A0_2 l0_2.length c0_2) ∧ w'.cell? ⟨gb125, 3, none⟩ = some (.int .i64 a0_3) ∧ w'.cell? ⟨gb125, 4, none⟩ = some (.int .u32 a0_4) ∧ w'.cell? ⟨gb133, 0, none⟩ = some (.int .i64 ((Ze x8_1 0).f0)) ∧ w'.cell? ⟨gb133, 1, none⟩ = some (.int .i64 ((Ze x8_1 0).f1)) ∧ w'.cell? ⟨gb126, 0, none⟩ = some (.int .i64 a1_0) ∧ w'.cell? ⟨gb126, 1, none⟩ = some (.int .i64 a1_1) ∧ w'.cell? ⟨gb126, 2, none⟩ = some (.slice A1_2 l1_2.length c1_2) ∧ w'.cell? ⟨gb126, 3, none⟩ = some (.int .i64 a1_3) ∧ w'.cell? ⟨gb126, 4, none⟩ = some (.int .u32 a1_4)) (ds := []) #[false, false, false, false, false, false, false, false, false, false, false, false, false] (by kernel_rfl) rfl rfl ⟨(Zb BK125.out 0).trans rfl, (Zb BK125.out 1).trans rfl, (Zb BK125.out 2).trans rfl, (Zb BK125.out 3).trans rfl, (Zb BK125.out 4).trans rfl, (Zb BK133.out 0).trans rfl, (Zb BK133.out 1).trans rfl, (Zb BK126.out 0).trans rfl, (Zb BK126.out 1).trans rfl, (Zb BK126.out 2).trans rfl, (Zb BK126.out 3).trans rfl, (Zb BK126.out 4).trans rfl⟩ (fun hHeld => ?_); refine with_tabW Zr.tab9 Zr.bits9 (fun HT_ HW_ => ?_)
    generalize w97.drew = w98 at HO_8 HO_129000 BK125 BK126 BK128 BK133 HB hHeld ⊢
    refine pure_ (i := 0) (N := some 41) (v := ?_) (a' := ?_) #[true, false, false, false, false, false, false, false, false, false, false, false, false] rfl rfl (Zj HT_.out (by kernel_rfl)) (fun _ _ _ h => h) (Or.inl ⟨by rfl, ?_⟩) ?_ ?_
    rotate_left
    ·intro w'
     go_simp
     with_reducible rfl
    rotate_left
    ·simp only [Act.put, List.setIfInBounds_toArray, List.set_cons_zero, List.set_cons_succ, Zg, Zf]
     rfl
    refine pure_ (i := 2) (N := some 43) (v := ?_) (a' := ?_) #[true, false, true, false, false, false, false, false, false, false, false, false, false] rfl rfl (Zj HT_.out (by kernel_rfl)) (fun _ _ _ h => h) (Or.inl ⟨by rfl, ?_⟩) ?_ ?_
    rotate_left
    ·intro w'
     go_simp
     with_reducible rfl
    rotate_left
    ·simp only [Act.put, List.setIfInBounds_toArray, List.set_cons_zero, List.set_cons_succ, Zg, Zf]
     rfl
    refine pure_ (i := 6) (N := some 47) (v := ?_) (a' := ?_) #[true, false, true, false, false, false, true, false, false, false, false, false, false] rfl rfl (Zj HT_.out (by kernel_rfl)) (fun _ _ _ h => h) (Or.inl ⟨by rfl, ?_⟩) ?_ ?_
    rotate_left
    ·intro w'
     go_simp
     with_reducible rfl
    rotate_left
    ·simp only [Act.put, List.setIfInBounds_toArray, List.set_cons_zero, List.set_cons_succ, Zg, Zf]
     rfl
    refine pure_ (i := 8) (N := some 49) (v := ?_) (a' := ?_) #[true, false, true, false, false, false, true, false, true, false, false, false, false] rfl rfl (Zj HT_.out (by kernel_rfl)) (fun _ _ _ h => h) (Or.inl ⟨by rfl, ?_⟩) ?_ ?_
    rotate_left
    ·intro w'
     go_simp
     with_reducible rfl
    rotate_left
    ·simp only [Act.put, List.setIfInBounds_toArray, List.set_cons_zero, List.set_cons_succ, Zg, Zf]
     rfl
    refine take_ (i := 1) (N := some 42) (v := ?_) (a' := ?_) #[true, true, true, false, false, false, true, false, true, false, false, false, false] rfl rfl (Zz HT_.out HW_.out (by kernel_rfl)) (fun _ _ _ h => h) (Or.inl ⟨by rfl, ?_⟩) hHeld ?_ ?_
    rotate_left
    ·rintro w' ⟨s0, s1, s2, s3, s4, s5, s6, s7, s8, s9, s10, s11⟩
     go_simp
     with_reducible rfl
    rotate_left
    ·simp only [Act.put, List.setIfInBounds_toArray, List.set_cons_zero, List.set_cons_succ, Zg, Zf]
     rfl
    refine take_ (i := 3) (N := some 44) (v := ?_) (a' := ?_) #[true, true, true, true, false, false, true, false, true, false, false, false, false] rfl rfl (Zz HT_.out HW_.out (by kernel_rfl)) (fun _ _ _ h => h) (Or.inl ⟨by rfl, ?_⟩) hHeld ?_ ?_
    rotate_left
    ·rintro w' ⟨s0, s1, s2, s3, s4, s5, s6, s7, s8, s9, s10, s11⟩
     go_simp
     with_reducible rfl
    rotate_left
    ·simp only [Act.put, List.setIfInBounds_toArray, List.set_cons_zero, List.set_cons_succ, Zg, Zf]
     rfl
    refine pure_ (i := 4) (N := some 45) (v := ?_) (a' := ?_) #[true, true, true, true, true, false, true, false, true, false, false, false, false] rfl rfl (Zj HT_.out (by kernel_rfl)) (fun _ _ _ h => h) (Or.inl ⟨by rfl, ?_⟩) ?_ ?_
    rotate_left
    ·intro w'
     go_simp
     with_reducible rfl
    rotate_left
    ·simp only [Act.put, List.setIfInBounds_toArray, List.set_cons_zero, List.set_cons_succ, Zg, Zf]
     rfl
    refine pure_ (i := 5) (N := some 46) (v := ?_) (a' := ?_) #[true, true, true, true, true, true, true, false, true, false, false, false, false] rfl rfl (Zj HT_.out (by kernel_rfl)) (fun _ _ _ h => h) (Or.inl ⟨by rfl, ?_⟩) ?_ ?_
    rotate_left
    ·intro w'
     go_simp
     with_reducible rfl
    rotate_left
    ·simp only [Act.put, List.setIfInBounds_toArray, List.set_cons_zero, List.set_cons_succ, Zg, Zf]
     rfl
    refine take_ (i := 7) (N := some 48) (v := ?_) (a' := ?_) #[true, true, true, true, true, true, true, true, true, false, false, false, false] rfl rfl (Zz HT_.out HW_.out (by kernel_rfl)) (fun _ _ _ h => h) (Or.inl ⟨by rfl, ?_⟩) hHeld ?_ ?_
    rotate_left
    ·rintro w' ⟨s0, s1, s2, s3, s4, s5, s6, s7, s8, s9, s10, s11⟩
     go_simp
     with_reducible rfl
    rotate_left
    ·simp only [Act.put, List.setIfInBounds_toArray, List.set_cons_zero, List.set_cons_succ, Zg, Zf]
     rfl
    refine take_ (i := 9) (N := some 50) (v := ?_) (a' := ?_) #[true, true, true, true, true, true, true, true, true, true, false, false, false] rfl rfl (Zz HT_.out HW_.out (by kernel_rfl)) (fun _ _ _ h => h) (Or.inl ⟨by rfl, ?_⟩) hHeld ?_ ?_
    rotate_left
    ·rintro w' ⟨s0, s1, s2, s3, s4, s5, s6, s7, s8, s9, s10, s11⟩
     go_simp
     with_reducible rfl
    rotate_left
    ·simp only [Act.put, List.setIfInBounds_toArray, List.set_cons_zero, List.set_cons_succ, Zg, Zf]
     rfl
    refine pure_ (i := 10) (N := some 51) (v := ?_) (a' := ?_) #[true, true, true, true, true, true, true, true, true, true, true, false, false] rfl rfl (Zj HT_.out (by kernel_rfl)) (fun _ _ _ h => h) (Or.inl ⟨by rfl, ?_⟩) ?_ ?_
    rotate_left
    ·intro w'
     go_simp
     with_reducible rfl
    rotate_left
    ·simp only [Act.put, List.setIfInBounds_toArray, List.set_cons_zero, List.set_cons_succ, Zg, Zf]
     rfl
    refine pure_ (i := 11) (N := some 52) (v := ?_) (a' := ?_) #[true, true, true, true, true, true, true, true, true, true, true, true, false] rfl rfl (Zj HT_.out (by kernel_rfl)) (fun _ _ _ h => h) (Or.inl ⟨by rfl, ?_⟩) ?_ ?_
    rotate_left
    ·intro w'
     go_simp
     with_reducible rfl
    rotate_left
    ·simp only [Act.put, List.setIfInBounds_toArray, List.set_cons_zero, List.set_cons_succ, Zg, Zf]
     rfl
    refine pure_ (i := 12) (N := some 53) (v := ?_) (a' := ?_) #[true, true, true, true, true, true, true, true, true, true, true, true, true] rfl rfl (Zj HT_.out (by kernel_rfl)) (fun _ _ _ h => h) (Or.inl ⟨by rfl, ?_⟩) ?_ ?_
    rotate_left
    ·intro w'
     go_simp
     with_reducible rfl
    rotate_left
    ·simp only [Act.put, List.setIfInBounds_toArray, List.set_cons_zero, List.set_cons_succ, Zg, Zf]
     rfl
    refine done_ (done_of HT_.out (by kernel_rfl)) ?_
    (have hcz99_0 : w98.cell? ⟨gb133, 0, none⟩ = some (.int .i64 ((Ze x8_1 0).f0)) := (Zb BK133.out 0).trans rfl); (have hcz99_1 : w98.cell? ⟨gb133, 1, none⟩ = some (.int .i64 ((Ze x8_1 0).f1)) := (Zb BK133.out 1).trans rfl); (have hfz99_0 := Zc BK133.out 0); (have hfz99_1 := Zc BK133.out 1); (have hnb100 := NB128_125.out); (have hnc100 := NB125_128.out); (have hnb101 := NB128_126.out); (have hnc101 := NB126_128.out)
    try go_wp2_with (first | (at_lookup; refine mapE_get0 rfl 37 Try.underlying37 _ _ rfl rfl BK128.out HO_129000.out ((Ze x8_1 0).f0) ((Ze x8_1 0).f1) ?hk WP0.out WP1.out ?_; (case hk => first | rfl | (go_simp; done) | (go_simp; rfl)); intro vL hRL; have HRL := Za.mk hRL; clear hRL))
    go_ret2
    exact ⟨_, by first | rfl | (simp [Zv, Zw] <;> rfl) | (simp only [← hji22, ← hji24]; first | rfl | (simp [Zv, Zw] <;> rfl)) | (simp [*, Zv, Zw] <;> rfl), by (with_reducible repeat (first | apply Kd.R_alloc | apply Kd.R_drewN | apply Kd.R_drew)); exact HRL.out, by repeat (first | (with_reducible first | exact HB.out | apply zc1 | apply zc2 | apply zc3 | refine zc4 ?_ (by assumption)) | exact HB.out)⟩
   (rw [if_pos c25] at H); (have c25b0 : ((Go.bits .and .u32 (ji22) 1) == (Go.bits .and .u32 (ji24) 1)) = true := beq_iff_eq.mpr c25); (have c25b1 : ((Go.bits .and .u32 (ji22) 1) != (Go.bits .and .u32 (ji24) 1)) = false := bne_eq_false_iff_eq.mpr c25); (clear c25); (have H' := Za.mk H); (clear H); (obtain ⟨Ao26, co26, eo26, _⟩ := Kd.Q_slice HO_8.out); (subst eo26); (have p132 : 0 ≤ (0 : Int) := (by omega)); (have q132 : 0 < (x8_1.length : Int) := of_decide_eq_true (by assumption)); (obtain ⟨ad132, e132, hx132_0, hx132_1⟩ := at_T36 (Kd.Q_reads' HO_8.out).2.2 0 p132 q132); (cases e132); (have qi132 : (0 < x8_1.length) = True := eq_true (by omega)); ((try rw [show ((0 : Int)).toNat = 0 from rfl] at hx132_0)); ((try rw [show 0 * 2 = 0 from rfl] at hx132_0)); ((try rw [Addr.add_zero'] at hx132_0)); ((try rw [show ((0 : Int)).toNat = 0 from rfl] at hx132_1)); ((try rw [show 0 * 2 = 0 from rfl] at hx132_1)); ((try rw [Addr.add_zero'] at hx132_1)); (replace p132 := eq_true p132); (replace q132 := eq_true q132)
   try go_wp2_with (first | ((with_reducible refine Zc1 (N := 9) rfl ?_); refine Zd1 ?hg (N := 9) ?hd (cs := #[.int .i64 0, .int .i64 0]) (t := 36) ?hr ?_; (case hd => rfl); (case hg => rfl); (case hr => first | (go_simp; done) | (go_simp; rfl)); intro gb133 hg w27 hbox hb; replace HO_8 := Za.mk (Kd.Q_below (Kd.Q_elderB (by (with_reducible repeat (first | apply Kd.Q_alloc | apply Kd.Q_drewN | apply Kd.Q_drew)); exact HO_8.out) gb133 (Nat.le_of_eq hg.symm)) hb); replace HO_129000 := Za.mk (MapE.below (by (with_reducible repeat (first | apply MapE.alloc | apply MapE.drewN | apply MapE.drew)); exact HO_129000.out) hb); have BK133 := Za.mk (hbox); have GW133 := Za.mk ((by rw [hg]; exact (Zk (by repeat (first | (with_reducible first | exact HB.out | apply zc1 | apply zc2 | apply zc3 | refine zc4 ?_ (by assumption)) | exact HB.out))) : w.heap.size ≤ gb133)); have GE133 := Za.mk ((by rw [hg]; exact (Zk (by repeat (first | (with_reducible first | exact HB.out | apply zc1 | apply zc2 | apply zc3 | refine zc4 ?_ (by assumption)) | exact HB.out))) : w.heap.size ≤ gb133)); replace HB := Za.mk (Zm (by repeat (first | (with_reducible first | exact HB.out | apply zc1 | apply zc2 | apply zc3 | refine zc4 ?_ (by assumption)) | exact HB.out)) hb); have NB125_133 := Za.mk ((by rw [hg]; exact Nat.ne_of_lt (Zs (g := gb125) (o := .cells #[.int .i64 a0_0, .int .i64 a0_1, .slice A0_2 l0_2.length c0_2, .int .i64 a0_3, .int .u32 a0_4] 25 (0, 0)) (by (with_reducible repeat (first | apply zb3 | apply zb2 | apply zb1)); exact BK125.out)) : gb125 ≠ gb133)); have NB133_125 := Za.mk ((by rw [hg]; exact Nat.ne_of_gt (Zs (g := gb125) (o := .cells #[.int .i64 a0_0, .int .i64 a0_1, .slice A0_2 l0_2.length c0_2, .int .i64 a0_3, .int .u32 a0_4] 25 (0, 0)) (by (with_reducible repeat (first | apply zb3 | apply zb2 | apply zb1)); exact BK125.out)) : gb133 ≠ gb125)); replace BK125 := Za.mk (Zi (g := gb125) (by (with_reducible repeat (first | apply zb3 | apply zb2 | apply zb1)); exact BK125.out) hb); have NB126_133 := Za.mk ((by rw [hg]; exact Nat.ne_of_lt (Zs (g := gb126) (o := .cells #[.int .i64 a1_0, .int .i64 a1_1, .slice A1_2 l1_2.length c1_2, .int .i64 a1_3, .int .u32 a1_4] 25 (0, 0)) (by (with_reducible repeat (first | apply zb3 | apply zb2 | apply zb1)); exact BK126.out)) : gb126 ≠ gb133)); have NB133_126 := Za.mk ((by rw [hg]; exact Nat.ne_of_gt (Zs (g := gb126) (o := .cells #[.int .i64 a1_0, .int .i64 a1_1, .slice A1_2 l1_2.length c1_2, .int .i64 a1_3, .int .u32 a1_4] 25 (0, 0)) (by (with_reducible repeat (first | apply zb3 | apply zb2 | apply zb1)); exact BK126.out)) : gb133 ≠ gb126)); replace BK126 := Za.mk (Zi (g := gb126) (by (with_reducible repeat (first | apply zb3 | apply zb2 | apply zb1)); exact BK126.out) hb); have NB128_133 := Za.mk ((by rw [hg]; exact Nat.ne_of_lt (Zs (g := gb128) (o := u129000) (by (with_reducible repeat (first | apply zb3 | apply zb2 | apply zb1)); exact BK128.out)) : gb128 ≠ gb133)); have NB133_128 := Za.mk ((by rw [hg]; exact Nat.ne_of_gt (Zs (g := gb128) (o := u129000) (by (with_reducible repeat (first | apply zb3 | apply zb2 | apply zb1)); exact BK128.out)) : gb133 ≠ gb128)); replace BK128 := Za.mk (Zi (g := gb128) (o := u129000) (by (with_reducible repeat (first | apply zb3 | apply zb2 | apply zb1)); exact BK128.out) hb); clear hb hbox hg; have hnb28 := NB133_125.out; have hnc28 := NB125_133.out; have hnb29 := NB133_126.out; have hnc29 := NB126_133.out; have hnb30 := NB133_128.out; have hnc30 := NB128_133.out; have hcz31_0 : w27.cell? ⟨gb133, 0, none⟩ = some (.int .i64 0) := (Zb BK133.out 0).trans rfl; have hcz31_1 : w27.cell? ⟨gb133, 1, none⟩ = some (.int .i64 0) := (Zb BK133.out 1).trans rfl; have hfz31_0 := Zc BK133.out 0; have hfz31_1 := Zc BK133.out 1))
   (have n0_ : Za (Kd.Q k36 36 ((w27.setCell ⟨gb133, 0, none⟩ (.int .i64 ((Ze x8_1 0).f0))).setCell ⟨gb133, 1, none⟩ (.int .i64 ((Ze x8_1 0).f1))) w.heap.size (fun k_ => k_ ≠ gb133) (.slice (some ad132) x8_1.length co26) x8_1) := ⟨by (with_reducible repeat (first | apply Kd.Q_alloc | apply Kd.Q_drewN | apply Kd.Q_drew)); exact Kd.Q_mono (Kd.Q_far (p := ⟨gb133, 1, none⟩) (Kd.Q_far (p := ⟨gb133, 0, none⟩) (Kd.Q_mono HO_8.out (fun k_ hk => (⟨hk, hk.2⟩ : _ ∧ k_ ≠ gb133))) (fun _ hk => hk.2) (.int .i64 ((Ze x8_1 0).f0))) (fun _ hk => hk.2) (.int .i64 ((Ze x8_1 0).f1))) (fun _ hk => hk.1.2)⟩); (have n1_ : Za (MapE ((w27.setCell ⟨gb133, 0, none⟩ (.int .i64 ((Ze x8_1 0).f0))).setCell ⟨gb133, 1, none⟩ (.int .i64 ((Ze x8_1 0).f1))) w.heap.size u129000 x129000_1) := ⟨MapE.set (MapE.set HO_129000.out BK133.out (by decide) _ _) (blk_put BK133.out 0 _ rfl) (by decide) _ _⟩); (have n2_ : Za (((w27.setCell ⟨gb133, 0, none⟩ (.int .i64 ((Ze x8_1 0).f0))).setCell ⟨gb133, 1, none⟩ (.int .i64 ((Ze x8_1 0).f1))).heap[gb125]? = some (.cells #[.int .i64 a0_0, .int .i64 a0_1, .slice A0_2 l0_2.length c0_2, .int .i64 a0_3, .int .u32 a0_4] 25 (0, 0))) := ⟨by (with_reducible repeat (first | refine Zq ?_ _ | refine Zl ?_ | refine Zn ?_ _)); refine Za1 ?_ NB125_133.out _; (with_reducible repeat (first | refine Zq ?_ _ | refine Zl ?_ | refine Zn ?_ _)); refine Za1 ?_ NB125_133.out _; (with_reducible repeat (first | apply zb3 | apply zb2 | apply zb1)); exact BK125.out⟩)
   (have n3_ : Za (((w27.setCell ⟨gb133, 0, none⟩ (.int .i64 ((Ze x8_1 0).f0))).setCell ⟨gb133, 1, none⟩ (.int .i64 ((Ze x8_1 0).f1))).heap[gb126]? = some (.cells #[.int .i64 a1_0, .int .i64 a1_1, .slice A1_2 l1_2.length c1_2, .int .i64 a1_3, .int .u32 a1_4] 25 (0, 0))) := ⟨by (with_reducible repeat (first | refine Zq ?_ _ | refine Zl ?_ | refine Zn ?_ _)); refine Za1 ?_ NB126_133.out _; (with_reducible repeat (first | refine Zq ?_ _ | refine Zl ?_ | refine Zn ?_ _)); refine Za1 ?_ NB126_133.out _; (with_reducible repeat (first | apply zb3 | apply zb2 | apply zb1)); exact BK126.out⟩); (have n4_ : Za (((w27.setCell ⟨gb133, 0, none⟩ (.int .i64 ((Ze x8_1 0).f0))).setCell ⟨gb133, 1, none⟩ (.int .i64 ((Ze x8_1 0).f1))).heap[gb128]? = some (u129000)) := ⟨by (with_reducible repeat (first | refine Zq ?_ _ | refine Zl ?_ | refine Zn ?_ _)); refine blk_farO ?_ NB128_133.out _; (with_reducible repeat (first | refine Zq ?_ _ | refine Zl ?_ | refine Zn ?_ _)); refine blk_farO ?_ NB128_133.out _; (with_reducible repeat (first | apply zb3 | apply zb2 | apply zb1)); exact BK128.out⟩); (have n5_ : Za (((w27.setCell ⟨gb133, 0, none⟩ (.int .i64 ((Ze x8_1 0).f0))).setCell ⟨gb133, 1, none⟩ (.int .i64 ((Ze x8_1 0).f1))).heap[gb133]? = some (.cells #[.int .i64 ((Ze x8_1 0).f0), .int .i64 ((Ze x8_1 0).f1)] 36 (0, 0))) := ⟨by (with_reducible repeat (first | refine Zq ?_ _ | refine Zl ?_ | refine Zn ?_ _)); refine blk_put (cs := #[.int .i64 ((Ze x8_1 0).f0), .int .i64 0]) ?_ 1 _ rfl; (with_reducible repeat (first | refine Zq ?_ _ | refine Zl ?_ | refine Zn ?_ _)); refine blk_put (cs := #[.int .i64 0, .int .i64 0]) ?_ 0 _ rfl; (with_reducible repeat (first | apply zb3 | apply zb2 | apply zb1)); exact BK133.out⟩)
   (have n6_ : Za (Below w.heap.size w ((w27.setCell ⟨gb133, 0, none⟩ (.int .i64 ((Ze x8_1 0).f0))).setCell ⟨gb133, 1, none⟩ (.int .i64 ((Ze x8_1 0).f1)))) := ⟨by repeat (first | (with_reducible first | exact HB.out | apply zc1 | apply zc2 | apply zc3 | refine zc4 ?_ (by assumption)) | exact HB.out)⟩); ((try clear HO_8)); ((try clear HO_129000)); ((try clear BK125)); ((try clear BK126)); ((try clear BK128)); ((try clear BK133)); ((try clear HB)); (generalize ((w27.setCell ⟨gb133, 0, none⟩ (.int .i64 ((Ze x8_1 0).f0))).setCell ⟨gb133, 1, none⟩ (.int .i64 ((Ze x8_1 0).f1))) = w32 at n0_ n1_ n2_ n3_ n4_ n5_ n6_ ⊢); (have HO_8 := n0_); (have HO_129000 := n1_); (have BK125 := n2_); (have BK126 := n3_); (have BK128 := n4_); (have BK133 := n5_); (have HB := n6_); (clear n0_ n1_ n2_ n3_ n4_ n5_ n6_); (replace HO_8 := Za.mk (Kd.Q_drew HO_8.out)); (replace HO_129000 := Za.mk (MapE.drew HO_129000.out)); (replace BK125 := Za.mk (Zl BK125.out)); (replace BK126 := Za.mk (Zl BK126.out)); (replace BK128 := Za.mk (Zl BK128.out)); (replace BK133 := Za.mk (Zl BK133.out)); (replace HB := Za.mk (below_drew1 HB.out))
   refine start_ (n := 13) (S := fun w' => w'.cell? ⟨gb125, 0, none⟩ = some (.int .i64 a0_0) ∧ w'.cell? ⟨gb125, 1, none⟩ = some (.int .i64 a0_1) ∧ w'.cell? ⟨gb125, 2, none⟩ = some (.slice A0_2 l0_2.length c0_2) ∧ w'.cell? ⟨gb125, 3, none⟩ = some (.int .i64 a0_3) ∧ w'.cell? ⟨gb125, 4, none⟩ = some (.int .u32 a0_4) ∧ w'.cell? ⟨gb133, 0, none⟩ = some (.int .i64 ((Ze x8_1 0).f0)) ∧ w'.cell? ⟨gb133, 1, none⟩ = some (.int .i64 ((Ze x8_1 0).f1)) ∧ w'.cell? ⟨gb126, 0, none⟩ = some (.int .i64 a1_0) ∧ w'.cell? ⟨gb126, 1, none⟩ = some (.int .i64 a1_1) ∧ w'.cell? ⟨gb126, 2, none⟩ = some (.slice A1_2 l1_2.length c1_2) ∧ w'.cell? ⟨gb126, 3, none⟩ = some (.int .i64 a1_3) ∧ w'.cell? ⟨gb126, 4, none⟩ = some (.int .u32 a1_4)) (ds := []) #[false, false, false, false, false, false, false, false, false, false, false, false, false] (by kernel_rfl) rfl rfl ⟨(Zb BK125.out 0).trans rfl, (Zb BK125.out 1).trans rfl, (Zb BK125.out 2).trans rfl, (Zb BK125.out 3).trans rfl, (Zb BK125.out 4).trans rfl, (Zb BK133.out 0).trans rfl, (Zb BK133.out 1).trans rfl, (Zb BK126.out 0).trans rfl, (Zb BK126.out 1).trans rfl, (Zb BK126.out 2).trans rfl, (Zb BK126.out 3).trans rfl, (Zb BK126.out 4).trans rfl⟩ (fun hHeld => ?_); refine with_tabW Zr.tab9 Zr.bits9 (fun HT_ HW_ => ?_)
   generalize w32.drew = w33 at HO_8 HO_129000 BK125 BK126 BK128 BK133 HB hHeld ⊢
   refine pure_ (i := 0) (N := some 41) (v := ?_) (a' := ?_) #[true, false, false, false, false, false, false, false, false, false, false, false, false] rfl rfl (Zj HT_.out (by kernel_rfl)) (fun _ _ _ h => h) (Or.inl ⟨by rfl, ?_⟩) ?_ ?_
   rotate_left
   ·intro w'
    go_simp
    with_reducible rfl
   rotate_left
   ·simp only [Act.put, List.setIfInBounds_toArray, List.set_cons_zero, List.set_cons_succ, Zg, Zf]
    rfl
   refine pure_ (i := 2) (N := some 43) (v := ?_) (a' := ?_) #[true, false, true, false, false, false, false, false, false, false, false, false, false] rfl rfl (Zj HT_.out (by kernel_rfl)) (fun _ _ _ h => h) (Or.inl ⟨by rfl, ?_⟩) ?_ ?_
   rotate_left
   ·intro w'
    go_simp
    with_reducible rfl
   rotate_left
   ·simp only [Act.put, List.setIfInBounds_toArray, List.set_cons_zero, List.set_cons_succ, Zg, Zf]
    rfl
   refine pure_ (i := 6) (N := some 47) (v := ?_) (a' := ?_) #[true, false, true, false, false, false, true, false, false, false, false, false, false] rfl rfl (Zj HT_.out (by kernel_rfl)) (fun _ _ _ h => h) (Or.inl ⟨by rfl, ?_⟩) ?_ ?_
   rotate_left
   ·intro w'
    go_simp
    with_reducible rfl
   rotate_left
   ·simp only [Act.put, List.setIfInBounds_toArray, List.set_cons_zero, List.set_cons_succ, Zg, Zf]
    rfl
   refine pure_ (i := 8) (N := some 49) (v := ?_) (a' := ?_) #[true, false, true, false, false, false, true, false, true, false, false, false, false] rfl rfl (Zj HT_.out (by kernel_rfl)) (fun _ _ _ h => h) (Or.inl ⟨by rfl, ?_⟩) ?_ ?_
   rotate_left
   ·intro w'
    go_simp
    with_reducible rfl
   rotate_left
   ·simp only [Act.put, List.setIfInBounds_toArray, List.set_cons_zero, List.set_cons_succ, Zg, Zf]
    rfl
   refine take_ (i := 1) (N := some 42) (v := ?_) (a' := ?_) #[true, true, true, false, false, false, true, false, true, false, false, false, false] rfl rfl (Zz HT_.out HW_.out (by kernel_rfl)) (fun _ _ _ h => h) (Or.inl ⟨by rfl, ?_⟩) hHeld ?_ ?_
   rotate_left
   ·rintro w' ⟨s0, s1, s2, s3, s4, s5, s6, s7, s8, s9, s10, s11⟩
    go_simp
    with_reducible rfl
   rotate_left
   ·simp only [Act.put, List.setIfInBounds_toArray, List.set_cons_zero, List.set_cons_succ, Zg, Zf]
    rfl
   refine take_ (i := 3) (N := some 44) (v := ?_) (a' := ?_) #[true, true, true, true, false, false, true, false, true, false, false, false, false] rfl rfl (Zz HT_.out HW_.out (by kernel_rfl)) (fun _ _ _ h => h) (Or.inl ⟨by rfl, ?_⟩) hHeld ?_ ?_
   rotate_left
   ·rintro w' ⟨s0, s1, s2, s3, s4, s5, s6, s7, s8, s9, s10, s11⟩
    go_simp
    with_reducible rfl
   rotate_left
   ·simp only [Act.put, List.setIfInBounds_toArray, List.set_cons_zero, List.set_cons_succ, Zg, Zf]
    rfl
   refine pure_ (i := 4) (N := some 45) (v := ?_) (a' := ?_) #[true, true, true, true, true, false, true, false, true, false, false, false, false] rfl rfl (Zj HT_.out (by kernel_rfl)) (fun _ _ _ h => h) (Or.inl ⟨by rfl, ?_⟩) ?_ ?_
   rotate_left
   ·intro w'
    go_simp
    with_reducible rfl
   rotate_left
   ·simp only [Act.put, List.setIfInBounds_toArray, List.set_cons_zero, List.set_cons_succ, Zg, Zf]
    rfl
   refine pure_ (i := 5) (N := some 46) (v := ?_) (a' := ?_) #[true, true, true, true, true, true, true, false, true, false, false, false, false] rfl rfl (Zj HT_.out (by kernel_rfl)) (fun _ _ _ h => h) (Or.inl ⟨by rfl, ?_⟩) ?_ ?_
   rotate_left
   ·intro w'
    go_simp
    with_reducible rfl
   rotate_left
   ·simp only [Act.put, List.setIfInBounds_toArray, List.set_cons_zero, List.set_cons_succ, Zg, Zf]
    rfl
   refine take_ (i := 7) (N := some 48) (v := ?_) (a' := ?_) #[true, true, true, true, true, true, true, true, true, false, false, false, false] rfl rfl (Zz HT_.out HW_.out (by kernel_rfl)) (fun _ _ _ h => h) (Or.inl ⟨by rfl, ?_⟩) hHeld ?_ ?_
   rotate_left
   ·rintro w' ⟨s0, s1, s2, s3, s4, s5, s6, s7, s8, s9, s10, s11⟩
    go_simp
    with_reducible rfl
   rotate_left
   ·simp only [Act.put, List.setIfInBounds_toArray, List.set_cons_zero, List.set_cons_succ, Zg, Zf]
    rfl
   refine take_ (i := 9) (N := some 50) (v := ?_) (a' := ?_) #[true, true, true, true, true, true, true, true, true, true, false, false, false] rfl rfl (Zz HT_.out HW_.out (by kernel_rfl)) (fun _ _ _ h => h) (Or.inl ⟨by rfl, ?_⟩) hHeld ?_ ?_
   rotate_left
   ·rintro w' ⟨s0, s1, s2, s3, s4, s5, s6, s7, s8, s9, s10, s11⟩
    go_simp
    with_reducible rfl
   rotate_left
   ·simp only [Act.put, List.setIfInBounds_toArray, List.set_cons_zero, List.set_cons_succ, Zg, Zf]
    rfl
   refine pure_ (i := 10) (N := some 51) (v := ?_) (a' := ?_) #[true, true, true, true, true, true, true, true, true, true, true, false, false] rfl rfl (Zj HT_.out (by kernel_rfl)) (fun _ _ _ h => h) (Or.inl ⟨by rfl, ?_⟩) ?_ ?_
   rotate_left
   ·intro w'
    go_simp
    with_reducible rfl
   rotate_left
   ·simp only [Act.put, List.setIfInBounds_toArray, List.set_cons_zero, List.set_cons_succ, Zg, Zf]
    rfl
   refine pure_ (i := 11) (N := some 52) (v := ?_) (a' := ?_) #[true, true, true, true, true, true, true, true, true, true, true, true, false] rfl rfl (Zj HT_.out (by kernel_rfl)) (fun _ _ _ h => h) (Or.inl ⟨by rfl, ?_⟩) ?_ ?_
   rotate_left
   ·intro w'
    go_simp
    with_reducible rfl
   rotate_left
   ·simp only [Act.put, List.setIfInBounds_toArray, List.set_cons_zero, List.set_cons_succ, Zg, Zf]
    rfl
   refine pure_ (i := 12) (N := some 53) (v := ?_) (a' := ?_) #[true, true, true, true, true, true, true, true, true, true, true, true, true] rfl rfl (Zj HT_.out (by kernel_rfl)) (fun _ _ _ h => h) (Or.inl ⟨by rfl, ?_⟩) ?_ ?_
   rotate_left
   ·intro w'
    go_simp
    with_reducible rfl
   rotate_left
   ·simp only [Act.put, List.setIfInBounds_toArray, List.set_cons_zero, List.set_cons_succ, Zg, Zf]
    rfl
   refine done_ (done_of HT_.out (by kernel_rfl)) ?_
   (have hnb34 := NB125_126.out); (have hnc34 := NB126_125.out); (have hnb35 := NB125_128.out); (have hnc35 := NB128_125.out); (have hcz36_0 : w33.cell? ⟨gb125, 0, none⟩ = some (.int .i64 a0_0) := (Zb BK125.out 0).trans rfl); (have hcz36_1 : w33.cell? ⟨gb125, 1, none⟩ = some (.int .i64 a0_1) := (Zb BK125.out 1).trans rfl); (have hcz36_2 : w33.cell? ⟨gb125, 2, none⟩ = some (.slice A0_2 l0_2.length c0_2) := (Zb BK125.out 2).trans rfl); (have hcz36_3 : w33.cell? ⟨gb125, 3, none⟩ = some (.int .i64 a0_3) := (Zb BK125.out 3).trans rfl); (have hcz36_4 : w33.cell? ⟨gb125, 4, none⟩ = some (.int .u32 a0_4) := (Zb BK125.out 4).trans rfl); (have hfz36_0 := Zc BK125.out 0); (have hfz36_1 := Zc BK125.out 1); (have hfz36_2 := Zc BK125.out 2); (have hfz36_3 := Zc BK125.out 3); (have hfz36_4 := Zc BK125.out 4)
   try go_wp2
   go_loopg [8, 59] k1 (fun kq v8 v59 w' => ∃ (x8_2 : List (S36)) (x59_2 : Int) (x129000_2 : PM) (u129000 : Obj), v59 = .int .i64 x59_2 ∧ Za (Zr.l1 kq x8_2 a0_1 x59_2 a0_0 a0_1 l0_2 a0_3 a0_4 a1_0 a1_1 l1_2 a1_3 a1_4 x129000_2 ((Ze x8_1 0).f0) ((Ze x8_1 0).f1) = some (r1, r2)) ∧ Za (kq ≤ k1) ∧ Za (Kd.Q k36 36 w' w.heap.size (fun k_ => k_ ≠ gb133) v8 x8_2) ∧ Za (MapE w' w.heap.size u129000 x129000_2) ∧ Za (w'.heap[gb125]? = some (.cells #[.int .i64 a0_0, .int .i64 a0_1, (.slice A0_2 l0_2.length c0_2), .int .i64 a0_3, .int .u32 a0_4] 25 (0, 0))) ∧ Za (w'.heap[gb126]? = some (.cells #[.int .i64 a1_0, .int .i64 a1_1, (.slice A1_2 l1_2.length c1_2), .int .i64 a1_3, .int .u32 a1_4] 25 (0, 0))) ∧ Za (w'.heap[gb128]? = some (u129000)) ∧ Za (w'.heap[gb133]? = some (.cells #[.int .i64 ((Ze x8_1 0).f0), .int .i64 ((Ze x8_1 0).f1)] 36 (0, 0))) ∧ Za (Below w.heap.size w w'))
   case atStart => exact ⟨(x8_1), (0), (x129000_1), (u129000), (by first | rfl | (simp; done) | (simp [*]; done)), H', ⟨Nat.le_refl _⟩, ⟨by (with_reducible repeat (first | apply Kd.Q_alloc | apply Kd.Q_drewN | apply Kd.Q_drew)); exact HO_8.out⟩, ⟨by (with_reducible repeat (first | apply MapE.alloc | apply MapE.drewN | apply MapE.drew)); exact HO_129000.out⟩, ⟨by (with_reducible repeat (first | apply zb3 | apply zb2 | apply zb1)); exact BK125.out⟩, ⟨by (with_reducible repeat (first | apply zb3 | apply zb2 | apply zb1)); exact BK126.out⟩, ⟨by (with_reducible repeat (first | apply zb3 | apply zb2 | apply zb1)); exact BK128.out⟩, ⟨by (with_reducible repeat (first | apply zb3 | apply zb2 | apply zb1)); exact BK133.out⟩, ⟨by repeat (first | (with_reducible first | exact HB.out | apply zc1 | apply zc2 | apply zc3 | refine zc4 ?_ (by assumption)) | exact HB.out)⟩⟩
   case round =>
    (clear H'); (try clear c1); (try clear p1); (try clear q1); (try clear hx1); (try clear qi1); (try clear c2); (try clear p2); (try clear c3); (try clear c4); (try clear c4b0); (try clear c4b1); (try clear c7); (try clear c8); (try clear c12); (try clear p13); (try clear q13); (try clear hx13); (try clear qi13); (try clear c14); (try clear c19); (try clear c19b0); (try clear c19b1); (try clear c20); (try clear c20b0); (try clear c20b1); (try clear c21); (try clear c21b0); (try clear c21b1); (try clear c23); (try clear c23b0); (try clear c23b1); (try clear c25); (try clear c25b0); (try clear c25b1); (try clear c28); (try clear c29); (try clear c30); (try clear c34); (try clear c35); (try clear hcz13_0 hcz13_1 hcz13_2 hcz13_3 hcz13_4 hcz15_0 hcz15_1 hcz15_2 hcz15_3 hcz15_4 hcz16_0 hcz31_0 hcz31_1 hcz36_0 hcz36_1 hcz36_2 hcz36_3 hcz36_4 hcz8_0 hcz8_1 hcz8_2 hcz8_3 hcz8_4 hcz9_0 hcz9_1 hcz9_2 hcz9_3 hcz9_4 hfz13_0 hfz13_1 hfz13_2 hfz13_3 hfz13_4 hfz15_0 hfz15_1 hfz15_2 hfz15_3 hfz15_4 hfz16_0 hfz31_0 hfz31_1 hfz36_0 hfz36_1 hfz36_2 hfz36_3 hfz36_4 hfz8_0 hfz8_1 hfz8_2 hfz8_3 hfz8_4 hfz9_0 hfz9_1 hfz9_2 hfz9_3 hfz9_4); (try clear hx132_0); (try clear hx132_1); (try clear p132); (try clear p2); (try clear q132); (obtain ⟨x8_2, x59_2, x129000_2, u129000, rfl, HA, HK2, HO_8, HO_129000, BK125, BK126, BK128, BK133, HB⟩ := hrel)
    cases gk with
    | zero => exact absurd HA.out (by simp [Zr.l1])
    | succ k2 =>
     (have H := HA.out); (clear HA); (simp only [Zr.l1] at H)
     by_cases c37 : x59_2 < a0_1
     rotate_left
     ·rw [if_neg c37] at H
      (have c37b0 : decide (x59_2 < a0_1) = false := decide_eq_false c37); (clear c37)
      by_cases c88 : 1 ≤ (x8_2.length : Int)
      rotate_left
      ·rw [if_neg c88] at H
       exact absurd H (by simp)
      (rw [if_pos c88] at H); (have c88b0 := eq_true c88); (have c88b1 : decide (1 ≤ (x8_2.length : Int)) = true := decide_eq_true c88); (clear c88); (obtain ⟨y151, hy151⟩ : ∃ y_ : List (S36), y_ = (x8_2.drop (1 : Int).toNat) := ⟨_, rfl⟩); (replace H : (Zr.l0 k2 y151 a0_0 a0_1 l0_2 a0_3 a0_4 a1_0 a1_1 l1_2 a1_3 a1_4 x129000_2) = some (r1, r2) := by first | (rw [hy151]; with_reducible exact H) | (have H2_ := (Option.bind_some _ _).symm.trans H; rw [hy151]; with_reducible exact H2_) | (have H2_ := (Option.bind_some _ _).symm.trans H; with_reducible exact H2_) | with_reducible exact H | (rw [hy151]; exact H) | exact H); (have Ny151 := Za.mk hy151); (clear hy151); (have H' := Za.mk H); (clear H); (obtain ⟨Ao89, co89, eo89, _⟩ := Kd.Q_slice HO_8.out); (subst eo89); (have q90 : (1 : Int) ≤ ((x8_2.length : Int) : Int) := of_decide_eq_true (by assumption)); (obtain ⟨i090, hi090, _, hsz90, _⟩ := info_parts info36); (have hcut90 := cut_from (P := Try.prog) 38 36 .i64 Try.underlying38 hi090 2 hsz90 Ao89 x8_2.length co89 1 (by omega) q90); (have hr90 := Kd.Q_drop (k := (1 : Int).toNat) HO_8.out (by omega)); (obtain ⟨A90, hA90⟩ : ∃ Aq_, Aq_ = (if co89 = (1 : Int).toNat then Ao89 else (Ao89 : Option Addr).map (·.add ((1 : Int).toNat * 2))) := ⟨_, rfl⟩); (obtain ⟨c90, hc90⟩ : ∃ cq_, cq_ = co89 - (1 : Int).toNat := ⟨_, rfl⟩); (have hy90 : y151.length = x8_2.length - (1 : Int).toNat := (by rw [Ny151.out, List.length_drop])); (rw [← Ny151.out] at hr90); (rw [← hy90, ← hA90, ← hc90] at hcut90); (replace hr90 : Kd.Q k36 36 wr w.heap.size (fun k_ => k_ ≠ gb133) (.slice A90 y151.length c90) y151 := (by rw [hA90, hc90, hy90]; exact hr90))
      (have HE90 : Za ((Value.slice A90 y151.length c90).ownBlock = (.slice Ao89 x8_2.length co89 : Value).ownBlock) := ⟨by rw [hA90]; split <;> (cases (Ao89 : Option Addr) <;> rfl)⟩); (clear hy90 hi090 hsz90 HO_8 hA90 hc90); (have HO153 := Za.mk hr90); (clear hr90); (replace q90 := eq_true q90)
      go_wp2
      (first | go_roundg k2 | (simp only [← hji24]; go_roundg k2) | (simp only [← hji22, ← hji24]; go_roundg k2))
      case measure => have := HK1.out; have := HK2.out; omega
      case rel => first | exact ⟨(y151), (x129000_2), (u129000), H', ⟨by have := HK1.out; have := HK2.out; omega⟩, ⟨by (with_reducible repeat (first | apply Kd.Q_alloc | apply Kd.Q_drewN | apply Kd.Q_drew)); exact Kd.Q_mono HO153.out (fun _ hk => trivial)⟩, ⟨by (with_reducible repeat (first | apply MapE.alloc | apply MapE.drewN | apply MapE.drew)); exact HO_129000.out⟩, ⟨by (with_reducible repeat (first | apply zb3 | apply zb2 | apply zb1)); exact BK125.out⟩, ⟨by (with_reducible repeat (first | apply zb3 | apply zb2 | apply zb1)); exact BK126.out⟩, ⟨by (with_reducible repeat (first | apply zb3 | apply zb2 | apply zb1)); exact BK128.out⟩, ⟨by repeat (first | (with_reducible first | exact HB.out | apply zc1 | apply zc2 | apply zc3 | refine zc4 ?_ (by assumption)) | exact HB.out)⟩⟩ | (subst hji24; subst hji22; exact ⟨(y151), (x129000_2), (u129000), H', ⟨by have := HK1.out; have := HK2.out; omega⟩, ⟨by (with_reducible repeat (first | apply Kd.Q_alloc | apply Kd.Q_drewN | apply Kd.Q_drew)); exact Kd.Q_mono HO153.out (fun _ hk => trivial)⟩, ⟨by (with_reducible repeat (first | apply MapE.alloc | apply MapE.drewN | apply MapE.drew)); exact HO_129000.out⟩, ⟨by (with_reducible repeat (first | apply zb3 | apply zb2 | apply zb1)); exact BK125.out⟩, ⟨by (with_reducible repeat (first | apply zb3 | apply zb2 | apply zb1)); exact BK126.out⟩, ⟨by (with_reducible repeat (first | apply zb3 | apply zb2 | apply zb1)); exact BK128.out⟩, ⟨by repeat (first | (with_reducible first | exact HB.out | apply zc1 | apply zc2 | apply zc3 | refine zc4 ?_ (by assumption)) | exact HB.out)⟩⟩)
     (rw [if_pos c37] at H); (have c37b0 : decide (x59_2 < a0_1) = true := decide_eq_true c37); (clear c37)
     by_cases c38 : 0 ≤ ((Ze x8_1 0).f0)
     rotate_left
     ·rw [if_neg c38] at H
      exact absurd H (by simp)
     (rw [if_pos c38] at H); (have c38b0 : decide (0 ≤ ((Ze x8_1 0).f0)) = true := decide_eq_true c38); (clear c38)
     by_cases c39 : ((Ze x8_1 0).f0) < (l0_2.length : Int)
     rotate_left
     ·rw [if_neg c39] at H
      exact absurd H (by simp)
     (rw [if_pos c39] at H); (have c39b0 : decide (((Ze x8_1 0).f0) < (l0_2.length : Int)) = true := decide_eq_true c39); (clear c39)
     by_cases c40 : 0 ≤ x59_2
     rotate_left
     ·rw [if_neg c40] at H
      exact absurd H (by simp)
     (rw [if_pos c40] at H); (have c40b0 : decide (0 ≤ x59_2) = true := decide_eq_true c40); (clear c40)
     by_cases c41 : x59_2 < ((Zd l0_2 ((Ze x8_1 0).f0)).length : Int)
     rotate_left
     ·rw [if_neg c41] at H
      exact absurd H (by simp)
     (rw [if_pos c41] at H); (have c41b0 : decide (x59_2 < ((Zd l0_2 ((Ze x8_1 0).f0)).length : Int)) = true := decide_eq_true c41); (clear c41)
     by_cases c42 : 0 ≤ ((Ze x8_1 0).f1)
     rotate_left
     ·rw [if_neg c42] at H
      exact absurd H (by simp)
     (rw [if_pos c42] at H); (have c42b0 : decide (0 ≤ ((Ze x8_1 0).f1)) = true := decide_eq_true c42); (clear c42)
     by_cases c43 : ((Ze x8_1 0).f1) < (l1_2.length : Int)
     rotate_left
     ·rw [if_neg c43] at H
      exact absurd H (by simp)
     (rw [if_pos c43] at H); (have c43b0 : decide (((Ze x8_1 0).f1) < (l1_2.length : Int)) = true := decide_eq_true c43); (clear c43)
     by_cases c44 : x59_2 < ((Zd l1_2 ((Ze x8_1 0).f1)).length : Int)
     rotate_left
     ·rw [if_neg c44] at H
      exact absurd H (by simp)
     (rw [if_pos c44] at H); (have c44b0 : decide (x59_2 < ((Zd l1_2 ((Ze x8_1 0).f1)).length : Int)) = true := decide_eq_true c44); (clear c44)
     by_cases cW0 : (Lit.int .i64 (rd (Zd l0_2 ((Ze x8_1 0).f0)) x59_2)).wf = true
     case neg => rw [if_neg cW0] at H; cases H
     (rw [if_pos cW0] at H); (have WQ0 := Za.mk cW0); (clear cW0)
     by_cases cW1 : (Lit.int .i64 (rd (Zd l1_2 ((Ze x8_1 0).f1)) x59_2)).wf = true
     case neg => rw [if_neg cW1] at H; cases H
     (rw [if_pos cW1] at H); (have WQ1 := Za.mk cW1); (clear cW1)
     by_cases c45 : (lkP x129000_2 ((rd (Zd l0_2 ((Ze x8_1 0).f0)) x59_2), (rd (Zd l1_2 ((Ze x8_1 0).f1)) x59_2))).isSome = true
     ·rw [if_pos c45] at H
      (have c45b := Za.mk c45); (clear c45); (have H' := Za.mk H); (clear H)
      try go_wp2
      (replace HO_8 := Za.mk (Kd.Q_drew HO_8.out)); (replace HO_129000 := Za.mk (MapE.drew HO_129000.out)); (replace BK125 := Za.mk (Zl BK125.out)); (replace BK126 := Za.mk (Zl BK126.out)); (replace BK128 := Za.mk (Zl BK128.out)); (replace BK133 := Za.mk (Zl BK133.out)); (replace HB := Za.mk (below_drew1 HB.out)); (have p134 : 0 ≤ (((Ze x8_1 0).f0) : Int) := of_decide_eq_true (by assumption)); (have q134 : ((Ze x8_1 0).f0) < (l0_2.length : Int) := of_decide_eq_true (by assumption)); (obtain ⟨ad134, A134_0, c134_0, e134, hx134_0, hl134_0, hi134_0⟩ := at_L1 HR0_2.out ((Ze x8_1 0).f0) p134 q134); (have hw134_0 := hx134_0); (cases e134); (replace hx134_0 := (HB.out.cell (World.block_lt_of_cell? w _ hx134_0)).trans hx134_0); (have HR134_0 := Za.mk hi134_0); (have HC134_0 := Za.mk hl134_0); (clear hi134_0 hl134_0); (replace p134 := eq_true p134); (replace q134 := eq_true q134); (have p135 : 0 ≤ (x59_2 : Int) := of_decide_eq_true (by assumption)); (have q135 : x59_2 < ((Zd l0_2 ((Ze x8_1 0).f0)).length : Int) := of_decide_eq_true (by assumption)); (obtain ⟨ad135, e135, hx135_0⟩ := Kd.at_int HR134_0.out x59_2 p135 q135); (have hw135_0 := hx135_0); (cases e135); (replace hx135_0 := (HB.out.cell (World.block_lt_of_cell? w _ hx135_0)).trans hx135_0); (replace p135 := eq_true p135); (replace q135 := eq_true q135); (have p136 : 0 ≤ (((Ze x8_1 0).f1) : Int) := of_decide_eq_true (by assumption)); (have q136 : ((Ze x8_1 0).f1) < (l1_2.length : Int) := of_decide_eq_true (by assumption)); (obtain ⟨ad136, A136_0, c136_0, e136, hx136_0, hl136_0, hi136_0⟩ := at_L1 HR1_2.out ((Ze x8_1 0).f1) p136 q136)
      (have hw136_0 := hx136_0); (cases e136); (replace hx136_0 := (HB.out.cell (World.block_lt_of_cell? w _ hx136_0)).trans hx136_0); (have HR136_0 := Za.mk hi136_0); (have HC136_0 := Za.mk hl136_0); (clear hi136_0 hl136_0); (replace p136 := eq_true p136); (replace q136 := eq_true q136); (have p137 : 0 ≤ (x59_2 : Int) := of_decide_eq_true (by assumption)); (have q137 : x59_2 < ((Zd l1_2 ((Ze x8_1 0).f1)).length : Int) := of_decide_eq_true (by assumption)); (obtain ⟨ad137, e137, hx137_0⟩ := Kd.at_int HR136_0.out x59_2 p137 q137); (have hw137_0 := hx137_0); (cases e137); (replace hx137_0 := (HB.out.cell (World.block_lt_of_cell? w _ hx137_0)).trans hx137_0); (replace p137 := eq_true p137); (replace q137 := eq_true q137)
      refine start_ (n := 21) (S := fun w' => w'.cell? ⟨gb125, 0, none⟩ = some (.int .i64 a0_0) ∧ w'.cell? ⟨gb125, 1, none⟩ = some (.int .i64 a0_1) ∧ w'.cell? ⟨gb125, 2, none⟩ = some (.slice (some ad134) l0_2.length c0_2) ∧ w'.cell? ⟨gb125, 3, none⟩ = some (.int .i64 a0_3) ∧ w'.cell? ⟨gb125, 4, none⟩ = some (.int .u32 a0_4) ∧ w'.cell? ⟨gb133, 0, none⟩ = some (.int .i64 ((Ze x8_1 0).f0)) ∧ w'.cell? ⟨gb133, 1, none⟩ = some (.int .i64 ((Ze x8_1 0).f1)) ∧ w'.cell? ⟨gb126, 0, none⟩ = some (.int .i64 a1_0) ∧ w'.cell? ⟨gb126, 1, none⟩ = some (.int .i64 a1_1) ∧ w'.cell? ⟨gb126, 2, none⟩ = some (.slice (some ad136) l1_2.length c1_2) ∧ w'.cell? ⟨gb126, 3, none⟩ = some (.int .i64 a1_3) ∧ w'.cell? ⟨gb126, 4, none⟩ = some (.int .u32 a1_4) ∧ w'.cell? (ad134.add (((Ze x8_1 0).f0)).toNat) = some (.slice (some ad135) (Zd l0_2 ((Ze x8_1 0).f0)).length c134_0) ∧ w'.cell? (ad135.add (x59_2).toNat) = some (.int .i64 (rd (Zd l0_2 ((Ze x8_1 0).f0)) x59_2)) ∧ w'.cell? (ad136.add (((Ze x8_1 0).f1)).toNat) = some (.slice (some ad137) (Zd l1_2 ((Ze x8_1 0).f1)).length c136_0) ∧ w'.cell? (ad137.add (x59_2).toNat) = some (.int .i64 (rd (Zd l1_2 ((Ze x8_1 0).f1)) x59_2))) (ds := []) #[false, false, false, false, false, false, false, false, false, false, false, false, false, false, false, false, false, false, false, false, false] (by kernel_rfl) rfl rfl ⟨(Zb BK125.out 0).trans rfl, (Zb BK125.out 1).trans rfl, (Zb BK125.out 2).trans rfl, (Zb BK125.out 3).trans rfl, (Zb BK125.out 4).trans rfl, (Zb BK133.out 0).trans rfl, (Zb BK133.out 1).trans rfl, (Zb BK126.out 0).trans rfl, (Zb BK126.out 1).trans rfl, (Zb BK126.out 2).trans rfl, (Zb BK126.out 3).trans rfl, (Zb BK126.out 4).trans rfl, ((HB.out.cell (World.block_lt_of_cell? w _ hw134_0)).trans hw134_0), ((HB.out.cell (World.block_lt_of_cell? w _ hw135_0)).trans hw135_0), ((HB.out.cell (World.block_lt_of_cell? w _ hw136_0)).trans hw136_0), ((HB.out.cell (World.block_lt_of_cell? w _ hw137_0)).trans hw137_0)⟩ (fun hHeld => ?_); refine with_tabW Zr.tab14 Zr.bits14 (fun HT_ HW_ => ?_)
      generalize wr.drew = w46 at HO_8 HO_129000 BK125 BK126 BK128 BK133 HB HR134_0 HR136_0 hx134_0 hx135_0 hx136_0 hx137_0 hHeld ⊢
      refine pure_ (i := 0) (N := some 62) (v := ?_) (a' := ?_) #[true, false, false, false, false, false, false, false, false, false, false, false, false, false, false, false, false, false, false, false, false] rfl rfl (Zj HT_.out (by kernel_rfl)) (fun _ _ _ h => h) (Or.inl ⟨by rfl, ?_⟩) ?_ ?_
      rotate_left
      ·intro w'
       go_simp
       with_reducible rfl
      rotate_left
      ·simp only [Act.put, List.setIfInBounds_toArray, List.set_cons_zero, List.set_cons_succ, Zg, Zf]
       rfl
      refine pure_ (i := 2) (N := some 64) (v := ?_) (a' := ?_) #[true, false, true, false, false, false, false, false, false, false, false, false, false, false, false, false, false, false, false, false, false] rfl rfl (Zj HT_.out (by kernel_rfl)) (fun _ _ _ h => h) (Or.inl ⟨by rfl, ?_⟩) ?_ ?_
      rotate_left
      ·intro w'
       go_simp
       with_reducible rfl
      rotate_left
      ·simp only [Act.put, List.setIfInBounds_toArray, List.set_cons_zero, List.set_cons_succ, Zg, Zf]
       rfl
      refine pure_ (i := 6) (N := some 68) (v := ?_) (a' := ?_) #[true, false, true, false, false, false, true, false, false, false, false, false, false, false, false, false, false, false, false, false, false] rfl rfl (Zj HT_.out (by kernel_rfl)) (fun _ _ _ h => h) (Or.inl ⟨by rfl, ?_⟩) ?_ ?_
      rotate_left
      ·intro w'
       go_simp
       with_reducible rfl
      rotate_left
      ·simp only [Act.put, List.setIfInBounds_toArray, List.set_cons_zero, List.set_cons_succ, Zg, Zf]
       rfl
      refine pure_ (i := 9) (N := some 71) (v := ?_) (a' := ?_) #[true, false, true, false, false, false, true, false, false, true, false, false, false, false, false, false, false, false, false, false, false] rfl rfl (Zj HT_.out (by kernel_rfl)) (fun _ _ _ h => h) (Or.inl ⟨by rfl, ?_⟩) ?_ ?_
      rotate_left
      ·intro w'
       go_simp
       with_reducible rfl
      rotate_left
      ·simp only [Act.put, List.setIfInBounds_toArray, List.set_cons_zero, List.set_cons_succ, Zg, Zf]
       rfl
      refine pure_ (i := 11) (N := some 73) (v := ?_) (a' := ?_) #[true, false, true, false, false, false, true, false, false, true, false, true, false, false, false, false, false, false, false, false, false] rfl rfl (Zj HT_.out (by kernel_rfl)) (fun _ _ _ h => h) (Or.inl ⟨by rfl, ?_⟩) ?_ ?_
      rotate_left
      ·intro w'
       go_simp
       with_reducible rfl
      rotate_left
      ·simp only [Act.put, List.setIfInBounds_toArray, List.set_cons_zero, List.set_cons_succ, Zg, Zf]
       rfl
      refine pure_ (i := 15) (N := some 77) (v := ?_) (a' := ?_) #[true, false, true, false, false, false, true, false, false, true, false, true, false, false, false, true, false, false, false, false, false] rfl rfl (Zj HT_.out (by kernel_rfl)) (fun _ _ _ h => h) (Or.inl ⟨by rfl, ?_⟩) ?_ ?_
      rotate_left
      ·intro w'
       go_simp
       with_reducible rfl
      rotate_left
      ·simp only [Act.put, List.setIfInBounds_toArray, List.set_cons_zero, List.set_cons_succ, Zg, Zf]
       rfl
      refine take_ (i := 1) (N := some 63) (v := ?_) (a' := ?_) #[true, true, true, false, false, false, true, false, false, true, false, true, false, false, false, true, false, false, false, false, false] rfl rfl (Zz HT_.out HW_.out (by kernel_rfl)) (fun _ _ _ h => h) (Or.inl ⟨by rfl, ?_⟩) hHeld ?_ ?_
      rotate_left
      ·rintro w' ⟨s0, s1, s2, s3, s4, s5, s6, s7, s8, s9, s10, s11, s12, s13, s14, s15⟩
       go_simp
       with_reducible rfl
      rotate_left
      ·simp only [Act.put, List.setIfInBounds_toArray, List.set_cons_zero, List.set_cons_succ, Zg, Zf]
       rfl
      refine take_ (i := 3) (N := some 65) (v := ?_) (a' := ?_) #[true, true, true, true, false, false, true, false, false, true, false, true, false, false, false, true, false, false, false, false, false] rfl rfl (Zz HT_.out HW_.out (by kernel_rfl)) (fun _ _ _ h => h) (Or.inl ⟨by rfl, ?_⟩) hHeld ?_ ?_
      rotate_left
      ·rintro w' ⟨s0, s1, s2, s3, s4, s5, s6, s7, s8, s9, s10, s11, s12, s13, s14, s15⟩
       go_simp
       with_reducible rfl
      rotate_left
      ·simp only [Act.put, List.setIfInBounds_toArray, List.set_cons_zero, List.set_cons_succ, Zg, Zf]
       rfl
      refine pure_ (i := 4) (N := some 66) (v := ?_) (a' := ?_) #[true, true, true, true, true, false, true, false, false, true, false, true, false, false, false, true, false, false, false, false, false] rfl rfl (Zj HT_.out (by kernel_rfl)) (fun _ _ _ h => h) (Or.inl ⟨by rfl, ?_⟩) ?_ ?_
      rotate_left
      ·intro w'
       go_simp
       with_reducible rfl
      rotate_left
      ·simp only [Act.put, List.setIfInBounds_toArray, List.set_cons_zero, List.set_cons_succ, Zg, Zf]
       rfl
      refine take_ (i := 5) (N := some 67) (v := ?_) (a' := ?_) #[true, true, true, true, true, true, true, false, false, true, false, true, false, false, false, true, false, false, false, false, false] rfl rfl (Zz HT_.out HW_.out (by kernel_rfl)) (fun _ _ _ h => h) (Or.inl ⟨by rfl, ?_⟩) hHeld ?_ ?_
      rotate_left
      ·rintro w' ⟨s0, s1, s2, s3, s4, s5, s6, s7, s8, s9, s10, s11, s12, s13, s14, s15⟩
       go_simp
       with_reducible rfl
      rotate_left
      ·simp only [Act.put, List.setIfInBounds_toArray, List.set_cons_zero, List.set_cons_succ, Zg, Zf]
       rfl
      refine pure_ (i := 7) (N := some 69) (v := ?_) (a' := ?_) #[true, true, true, true, true, true, true, true, false, true, false, true, false, false, false, true, false, false, false, false, false] rfl rfl (Zj HT_.out (by kernel_rfl)) (fun _ _ _ h => h) (Or.inl ⟨by rfl, ?_⟩) ?_ ?_
      rotate_left
      ·intro w'
       go_simp
       with_reducible rfl
      rotate_left
      ·simp only [Act.put, List.setIfInBounds_toArray, List.set_cons_zero, List.set_cons_succ, Zg, Zf]
       rfl
      refine take_ (i := 8) (N := some 70) (v := ?_) (a' := ?_) #[true, true, true, true, true, true, true, true, true, true, false, true, false, false, false, true, false, false, false, false, false] rfl rfl (Zz HT_.out HW_.out (by kernel_rfl)) (fun _ _ _ h => h) (Or.inl ⟨by rfl, ?_⟩) hHeld ?_ ?_
      rotate_left
      ·rintro w' ⟨s0, s1, s2, s3, s4, s5, s6, s7, s8, s9, s10, s11, s12, s13, s14, s15⟩
       go_simp
       with_reducible rfl
      rotate_left
      ·simp only [Act.put, List.setIfInBounds_toArray, List.set_cons_zero, List.set_cons_succ, Zg, Zf]
       rfl
      refine take_ (i := 10) (N := some 72) (v := ?_) (a' := ?_) #[true, true, true, true, true, true, true, true, true, true, true, true, false, false, false, true, false, false, false, false, false] rfl rfl (Zz HT_.out HW_.out (by kernel_rfl)) (fun _ _ _ h => h) (Or.inl ⟨by rfl, ?_⟩) hHeld ?_ ?_
      rotate_left
      ·rintro w' ⟨s0, s1, s2, s3, s4, s5, s6, s7, s8, s9, s10, s11, s12, s13, s14, s15⟩
       go_simp
       with_reducible rfl
      rotate_left
      ·simp only [Act.put, List.setIfInBounds_toArray, List.set_cons_zero, List.set_cons_succ, Zg, Zf]
       rfl
      refine take_ (i := 12) (N := some 74) (v := ?_) (a' := ?_) #[true, true, true, true, true, true, true, true, true, true, true, true, true, false, false, true, false, false, false, false, false] rfl rfl (Zz HT_.out HW_.out (by kernel_rfl)) (fun _ _ _ h => h) (Or.inl ⟨by rfl, ?_⟩) hHeld ?_ ?_
      rotate_left
      ·rintro w' ⟨s0, s1, s2, s3, s4, s5, s6, s7, s8, s9, s10, s11, s12, s13, s14, s15⟩
       go_simp
       with_reducible rfl
      rotate_left
      ·simp only [Act.put, List.setIfInBounds_toArray, List.set_cons_zero, List.set_cons_succ, Zg, Zf]
       rfl
      refine pure_ (i := 13) (N := some 75) (v := ?_) (a' := ?_) #[true, true, true, true, true, true, true, true, true, true, true, true, true, true, false, true, false, false, false, false, false] rfl rfl (Zj HT_.out (by kernel_rfl)) (fun _ _ _ h => h) (Or.inl ⟨by rfl, ?_⟩) ?_ ?_
      rotate_left
      ·intro w'
       go_simp
       with_reducible rfl
      rotate_left
      ·simp only [Act.put, List.setIfInBounds_toArray, List.set_cons_zero, List.set_cons_succ, Zg, Zf]
       rfl
      refine take_ (i := 14) (N := some 76) (v := ?_) (a' := ?_) #[true, true, true, true, true, true, true, true, true, true, true, true, true, true, true, true, false, false, false, false, false] rfl rfl (Zz HT_.out HW_.out (by kernel_rfl)) (fun _ _ _ h => h) (Or.inl ⟨by rfl, ?_⟩) hHeld ?_ ?_
      rotate_left
      ·rintro w' ⟨s0, s1, s2, s3, s4, s5, s6, s7, s8, s9, s10, s11, s12, s13, s14, s15⟩
       go_simp
       with_reducible rfl
      rotate_left
      ·simp only [Act.put, List.setIfInBounds_toArray, List.set_cons_zero, List.set_cons_succ, Zg, Zf]
       rfl
      refine pure_ (i := 16) (N := some 78) (v := ?_) (a' := ?_) #[true, true, true, true, true, true, true, true, true, true, true, true, true, true, true, true, true, false, false, false, false] rfl rfl (Zj HT_.out (by kernel_rfl)) (fun _ _ _ h => h) (Or.inl ⟨by rfl, ?_⟩) ?_ ?_
      rotate_left
      ·intro w'
       go_simp
       with_reducible rfl
      rotate_left
      ·simp only [Act.put, List.setIfInBounds_toArray, List.set_cons_zero, List.set_cons_succ, Zg, Zf]
       rfl
      refine take_ (i := 17) (N := some 79) (v := ?_) (a' := ?_) #[true, true, true, true, true, true, true, true, true, true, true, true, true, true, true, true, true, true, false, false, false] rfl rfl (Zz HT_.out HW_.out (by kernel_rfl)) (fun _ _ _ h => h) (Or.inl ⟨by rfl, ?_⟩) hHeld ?_ ?_
      rotate_left
      ·rintro w' ⟨s0, s1, s2, s3, s4, s5, s6, s7, s8, s9, s10, s11, s12, s13, s14, s15⟩
       go_simp
       with_reducible rfl
      rotate_left
      ·simp only [Act.put, List.setIfInBounds_toArray, List.set_cons_zero, List.set_cons_succ, Zg, Zf]
       rfl
      refine pure_ (i := 18) (N := some 80) (v := ?_) (a' := ?_) #[true, true, true, true, true, true, true, true, true, true, true, true, true, true, true, true, true, true, true, false, false] rfl rfl (Zj HT_.out (by kernel_rfl)) (fun _ _ _ h => h) (Or.inl ⟨by rfl, ?_⟩) ?_ ?_
      rotate_left
      ·intro w'
       go_simp
       with_reducible rfl
      rotate_left
      ·simp only [Act.put, List.setIfInBounds_toArray, List.set_cons_zero, List.set_cons_succ, Zg, Zf]
       rfl
      refine one_ (i := 19) (N := some 11) #[true, true, true, true, true, true, true, true, true, true, true, true, true, true, true, true, true, true, true, true, false] rfl rfl (one_of HT_.out (by kernel_rfl)) (by decide) (fun K hK => ?_)
      refine box_step ?hg (N := 11) ?hd (cs := #[.int .i64 0, .int .i64 0]) (t := 36) ?hr ?_; (case hd => rfl); (case hg => rfl); (case hr => first | (go_simp; done) | (go_simp; rfl))
      intro gb138 hg w47 hbox hb
      (replace HO_8 := Za.mk (Kd.Q_below (Kd.Q_elderB (by (with_reducible repeat (first | apply Kd.Q_alloc | apply Kd.Q_drewN | apply Kd.Q_drew)); exact HO_8.out) gb138 (Nat.le_of_eq hg.symm)) hb)); (replace HO_129000 := Za.mk (MapE.below (by (with_reducible repeat (first | apply MapE.alloc | apply MapE.drewN | apply MapE.drew)); exact HO_129000.out) hb)); (have BK138 := Za.mk (hbox)); (have GW138 := Za.mk ((by rw [hg]; exact (Zk (by repeat (first | (with_reducible first | exact HB.out | apply zc1 | apply zc2 | apply zc3 | refine zc4 ?_ (by assumption)) | exact HB.out))) : w.heap.size ≤ gb138))); (have GE138 := Za.mk ((by rw [hg]; exact (Zk (by repeat (first | (with_reducible first | exact HB.out | apply zc1 | apply zc2 | apply zc3 | refine zc4 ?_ (by assumption)) | exact HB.out))) : w.heap.size ≤ gb138))); (replace HB := Za.mk (Zm (by repeat (first | (with_reducible first | exact HB.out | apply zc1 | apply zc2 | apply zc3 | refine zc4 ?_ (by assumption)) | exact HB.out)) hb)); (have NB125_138 := Za.mk ((by rw [hg]; exact Nat.ne_of_lt (Zs (g := gb125) (o := .cells #[.int .i64 a0_0, .int .i64 a0_1, .slice (some ad134) l0_2.length c0_2, .int .i64 a0_3, .int .u32 a0_4] 25 (0, 0)) (by (with_reducible repeat (first | apply zb3 | apply zb2 | apply zb1)); exact BK125.out)) : gb125 ≠ gb138))); (have NB138_125 := Za.mk ((by rw [hg]; exact Nat.ne_of_gt (Zs (g := gb125) (o := .cells #[.int .i64 a0_0, .int .i64 a0_1, .slice (some ad134) l0_2.length c0_2, .int .i64 a0_3, .int .u32 a0_4] 25 (0, 0)) (by (with_reducible repeat (first | apply zb3 | apply zb2 | apply zb1)); exact BK125.out)) : gb138 ≠ gb125)))
      (replace BK125 := Za.mk (Zi (g := gb125) (by (with_reducible repeat (first | apply zb3 | apply zb2 | apply zb1)); exact BK125.out) hb)); (have NB126_138 := Za.mk ((by rw [hg]; exact Nat.ne_of_lt (Zs (g := gb126) (o := .cells #[.int .i64 a1_0, .int .i64 a1_1, .slice (some ad136) l1_2.length c1_2, .int .i64 a1_3, .int .u32 a1_4] 25 (0, 0)) (by (with_reducible repeat (first | apply zb3 | apply zb2 | apply zb1)); exact BK126.out)) : gb126 ≠ gb138))); (have NB138_126 := Za.mk ((by rw [hg]; exact Nat.ne_of_gt (Zs (g := gb126) (o := .cells #[.int .i64 a1_0, .int .i64 a1_1, .slice (some ad136) l1_2.length c1_2, .int .i64 a1_3, .int .u32 a1_4] 25 (0, 0)) (by (with_reducible repeat (first | apply zb3 | apply zb2 | apply zb1)); exact BK126.out)) : gb138 ≠ gb126))); (replace BK126 := Za.mk (Zi (g := gb126) (by (with_reducible repeat (first | apply zb3 | apply zb2 | apply zb1)); exact BK126.out) hb)); (have NB128_138 := Za.mk ((by rw [hg]; exact Nat.ne_of_lt (Zs (g := gb128) (o := u129000) (by (with_reducible repeat (first | apply zb3 | apply zb2 | apply zb1)); exact BK128.out)) : gb128 ≠ gb138))); (have NB138_128 := Za.mk ((by rw [hg]; exact Nat.ne_of_gt (Zs (g := gb128) (o := u129000) (by (with_reducible repeat (first | apply zb3 | apply zb2 | apply zb1)); exact BK128.out)) : gb138 ≠ gb128))); (replace BK128 := Za.mk (Zi (g := gb128) (o := u129000) (by (with_reducible repeat (first | apply zb3 | apply zb2 | apply zb1)); exact BK128.out) hb)); (have NB133_138 := Za.mk ((by rw [hg]; exact Nat.ne_of_lt (Zs (g := gb133) (o := .cells #[.int .i64 ((Ze x8_1 0).f0), .int .i64 ((Ze x8_1 0).f1)] 36 (0, 0)) (by (with_reducible repeat (first | apply zb3 | apply zb2 | apply zb1)); exact BK133.out)) : gb133 ≠ gb138)))
      (have NB138_133 := Za.mk ((by rw [hg]; exact Nat.ne_of_gt (Zs (g := gb133) (o := .cells #[.int .i64 ((Ze x8_1 0).f0), .int .i64 ((Ze x8_1 0).f1)] 36 (0, 0)) (by (with_reducible repeat (first | apply zb3 | apply zb2 | apply zb1)); exact BK133.out)) : gb138 ≠ gb133))); (replace BK133 := Za.mk (Zi (g := gb133) (by (with_reducible repeat (first | apply zb3 | apply zb2 | apply zb1)); exact BK133.out) hb)); (clear hb hbox hg)
      refine hK.out _ _ ⟨(Zb BK125.out 0).trans rfl, (Zb BK125.out 1).trans rfl, (Zb BK125.out 2).trans rfl, (Zb BK125.out 3).trans rfl, (Zb BK125.out 4).trans rfl, (Zb BK133.out 0).trans rfl, (Zb BK133.out 1).trans rfl, (Zb BK126.out 0).trans rfl, (Zb BK126.out 1).trans rfl, (Zb BK126.out 2).trans rfl, (Zb BK126.out 3).trans rfl, (Zb BK126.out 4).trans rfl, ((HB.out.cell (World.block_lt_of_cell? w _ hw134_0)).trans hw134_0), ((HB.out.cell (World.block_lt_of_cell? w _ hw135_0)).trans hw135_0), ((HB.out.cell (World.block_lt_of_cell? w _ hw136_0)).trans hw136_0), ((HB.out.cell (World.block_lt_of_cell? w _ hw137_0)).trans hw137_0)⟩ (fun hHeld => ?_)
      clear hK K
      refine norm_ (a' := ?_) ?_ ?_
      rotate_left
      ·show Act.put _ (some 11) _ = _
       simp only [Act.put, List.setIfInBounds_toArray, List.set_cons_zero, List.set_cons_succ, Zg, Zf]
       rfl
      refine one_ (i := 20) (N := none) #[true, true, true, true, true, true, true, true, true, true, true, true, true, true, true, true, true, true, true, true, true] rfl rfl (one_of HT_.out (by kernel_rfl)) (by decide) (fun K hK => ?_)
      (have hs48 : w47.cell? ⟨gb138, 0, none⟩ = some (.int .i64 0) := (Zb BK138.out 0).trans rfl); (have hfs48 := Zc BK138.out 0); (have hns48_0 := NB125_138.out); (have hns48_1 := NB126_138.out); (have hns48_2 := NB128_138.out); (have hns48_3 := NB133_138.out); (have hms48_0 := NB138_125.out); (have hms48_1 := NB138_126.out); (have hms48_2 := NB138_128.out); (have hms48_3 := NB138_133.out); (have hs49 : w47.cell? ⟨gb138, 1, none⟩ = some (.int .i64 0) := (Zb BK138.out 1).trans rfl); (have hfs49 := Zc BK138.out 1); (have hns49_0 := NB125_138.out); (have hns49_1 := NB126_138.out); (have hns49_2 := NB128_138.out); (have hns49_3 := NB133_138.out); (have hms49_0 := NB138_125.out); (have hms49_1 := NB138_126.out); (have hms49_2 := NB138_128.out); (have hms49_3 := NB138_133.out)
      refine skip_ (w1 := ?_) (by rfl) rfl ?_ ?_
      rotate_left
      ·go_simp
       rfl
      refine hK.out _ _ ⟨((Zy (p := ⟨gb138, _, none⟩) NB125_138.out _).trans (((Zy (p := ⟨gb138, _, none⟩) NB125_138.out _).trans (hHeld.1)))), ((Zy (p := ⟨gb138, _, none⟩) NB125_138.out _).trans (((Zy (p := ⟨gb138, _, none⟩) NB125_138.out _).trans (hHeld.2.1)))), ((Zy (p := ⟨gb138, _, none⟩) NB125_138.out _).trans (((Zy (p := ⟨gb138, _, none⟩) NB125_138.out _).trans (hHeld.2.2.1)))), ((Zy (p := ⟨gb138, _, none⟩) NB125_138.out _).trans (((Zy (p := ⟨gb138, _, none⟩) NB125_138.out _).trans (hHeld.2.2.2.1)))), ((Zy (p := ⟨gb138, _, none⟩) NB125_138.out _).trans (((Zy (p := ⟨gb138, _, none⟩) NB125_138.out _).trans (hHeld.2.2.2.2.1)))), ((Zy (p := ⟨gb138, _, none⟩) NB133_138.out _).trans (((Zy (p := ⟨gb138, _, none⟩) NB133_138.out _).trans (hHeld.2.2.2.2.2.1)))), ((Zy (p := ⟨gb138, _, none⟩) NB133_138.out _).trans (((Zy (p := ⟨gb138, _, none⟩) NB133_138.out _).trans (hHeld.2.2.2.2.2.2.1)))), ((Zy (p := ⟨gb138, _, none⟩) NB126_138.out _).trans (((Zy (p := ⟨gb138, _, none⟩) NB126_138.out _).trans (hHeld.2.2.2.2.2.2.2.1)))), ((Zy (p := ⟨gb138, _, none⟩) NB126_138.out _).trans (((Zy (p := ⟨gb138, _, none⟩) NB126_138.out _).trans (hHeld.2.2.2.2.2.2.2.2.1)))), ((Zy (p := ⟨gb138, _, none⟩) NB126_138.out _).trans (((Zy (p := ⟨gb138, _, none⟩) NB126_138.out _).trans (hHeld.2.2.2.2.2.2.2.2.2.1)))), ((Zy (p := ⟨gb138, _, none⟩) NB126_138.out _).trans (((Zy (p := ⟨gb138, _, none⟩) NB126_138.out _).trans (hHeld.2.2.2.2.2.2.2.2.2.2.1)))), ((Zy (p := ⟨gb138, _, none⟩) NB126_138.out _).trans (((Zy (p := ⟨gb138, _, none⟩) NB126_138.out _).trans (hHeld.2.2.2.2.2.2.2.2.2.2.2.1)))), ((Zy (p := ⟨gb138, _, none⟩) (by first | exact Nat.ne_of_lt (Nat.lt_of_lt_of_le (by have := World.block_lt_of_cell? _ _ hw134_0; first | rwa [Zo] at this | exact this) GW138.out) | (rw [Zo]; exact Nat.ne_of_lt (Nat.lt_of_lt_of_le (by have := World.block_lt_of_cell? _ _ hw134_0; first | rwa [Zo] at this | exact this) GW138.out)) | (show (Addr.add _ _).block ≠ _; rw [Zo]; exact Nat.ne_of_lt (Nat.lt_of_lt_of_le (by have := World.block_lt_of_cell? _ _ hw134_0; first | rwa [Zo] at this | exact this) GW138.out)) | (dsimp only; exact Nat.ne_of_lt (Nat.lt_of_lt_of_le (by have := World.block_lt_of_cell? _ _ hw134_0; first | rwa [Zo] at this | exact this) GW138.out))) _).trans (((Zy (p := ⟨gb138, _, none⟩) (by first | exact Nat.ne_of_lt (Nat.lt_of_lt_of_le (by have := World.block_lt_of_cell? _ _ hw134_0; first | rwa [Zo] at this | exact this) GW138.out) | (rw [Zo]; exact Nat.ne_of_lt (Nat.lt_of_lt_of_le (by have := World.block_lt_of_cell? _ _ hw134_0; first | rwa [Zo] at this | exact this) GW138.out)) | (show (Addr.add _ _).block ≠ _; rw [Zo]; exact Nat.ne_of_lt (Nat.lt_of_lt_of_le (by have := World.block_lt_of_cell? _ _ hw134_0; first | rwa [Zo] at this | exact this) GW138.out)) | (dsimp only; exact Nat.ne_of_lt (Nat.lt_of_lt_of_le (by have := World.block_lt_of_cell? _ _ hw134_0; first | rwa [Zo] at this | exact this) GW138.out))) _).trans (hHeld.2.2.2.2.2.2.2.2.2.2.2.2.1)))), ((Zy (p := ⟨gb138, _, none⟩) (by first | exact Nat.ne_of_lt (Nat.lt_of_lt_of_le (by have := World.block_lt_of_cell? _ _ hw135_0; first | rwa [Zo] at this | exact this) GW138.out) | (rw [Zo]; exact Nat.ne_of_lt (Nat.lt_of_lt_of_le (by have := World.block_lt_of_cell? _ _ hw135_0; first | rwa [Zo] at this | exact this) GW138.out)) | (show (Addr.add _ _).block ≠ _; rw [Zo]; exact Nat.ne_of_lt (Nat.lt_of_lt_of_le (by have := World.block_lt_of_cell? _ _ hw135_0; first | rwa [Zo] at this | exact this) GW138.out)) | (dsimp only; exact Nat.ne_of_lt (Nat.lt_of_lt_of_le (by have := World.block_lt_of_cell? _ _ hw135_0; first | rwa [Zo] at this | exact this) GW138.out))) _).trans (((Zy (p := ⟨gb138, _, none⟩) (by first | exact Nat.ne_of_lt (Nat.lt_of_lt_of_le (by have := World.block_lt_of_cell? _ _ hw135_0; first | rwa [Zo] at this | exact this) GW138.out) | (rw [Zo]; exact Nat.ne_of_lt (Nat.lt_of_lt_of_le (by have := World.block_lt_of_cell? _ _ hw135_0; first | rwa [Zo] at this | exact this) GW138.out)) | (show (Addr.add _ _).block ≠ _; rw [Zo]; exact Nat.ne_of_lt (Nat.lt_of_lt_of_le (by have := World.block_lt_of_cell? _ _ hw135_0; first | rwa [Zo] at this | exact this) GW138.out)) | (dsimp only; exact Nat.ne_of_lt (Nat.lt_of_lt_of_le (by have := World.block_lt_of_cell? _ _ hw135_0; first | rwa [Zo] at this | exact this) GW138.out))) _).trans (hHeld.2.2.2.2.2.2.2.2.2.2.2.2.2.1)))), ((Zy (p := ⟨gb138, _, none⟩) (by first | exact Nat.ne_of_lt (Nat.lt_of_lt_of_le (by have := World.block_lt_of_cell? _ _ hw136_0; first | rwa [Zo] at this | exact this) GW138.out) | (rw [Zo]; exact Nat.ne_of_lt (Nat.lt_of_lt_of_le (by have := World.block_lt_of_cell? _ _ hw136_0; first | rwa [Zo] at this | exact this) GW138.out)) | (show (Addr.add _ _).block ≠ _; rw [Zo]; exact Nat.ne_of_lt (Nat.lt_of_lt_of_le (by have := World.block_lt_of_cell? _ _ hw136_0; first | rwa [Zo] at this | exact this) GW138.out)) | (dsimp only; exact Nat.ne_of_lt (Nat.lt_of_lt_of_le (by have := World.block_lt_of_cell? _ _ hw136_0; first | rwa [Zo] at this | exact this) GW138.out))) _).trans (((Zy (p := ⟨gb138, _, none⟩) (by first | exact Nat.ne_of_lt (Nat.lt_of_lt_of_le (by have := World.block_lt_of_cell? _ _ hw136_0; first | rwa [Zo] at this | exact this) GW138.out) | (rw [Zo]; exact Nat.ne_of_lt (Nat.lt_of_lt_of_le (by have := World.block_lt_of_cell? _ _ hw136_0; first | rwa [Zo] at this | exact this) GW138.out)) | (show (Addr.add _ _).block ≠ _; rw [Zo]; exact Nat.ne_of_lt (Nat.lt_of_lt_of_le (by have := World.block_lt_of_cell? _ _ hw136_0; first | rwa [Zo] at this | exact this) GW138.out)) | (dsimp only; exact Nat.ne_of_lt (Nat.lt_of_lt_of_le (by have := World.block_lt_of_cell? _ _ hw136_0; first | rwa [Zo] at this | exact this) GW138.out))) _).trans (hHeld.2.2.2.2.2.2.2.2.2.2.2.2.2.2.1)))), ((Zy (p := ⟨gb138, _, none⟩) (by first | exact Nat.ne_of_lt (Nat.lt_of_lt_of_le (by have := World.block_lt_of_cell? _ _ hw137_0; first | rwa [Zo] at this | exact this) GW138.out) | (rw [Zo]; exact Nat.ne_of_lt (Nat.lt_of_lt_of_le (by have := World.block_lt_of_cell? _ _ hw137_0; first | rwa [Zo] at this | exact this) GW138.out)) | (show (Addr.add _ _).block ≠ _; rw [Zo]; exact Nat.ne_of_lt (Nat.lt_of_lt_of_le (by have := World.block_lt_of_cell? _ _ hw137_0; first | rwa [Zo] at this | exact this) GW138.out)) | (dsimp only; exact Nat.ne_of_lt (Nat.lt_of_lt_of_le (by have := World.block_lt_of_cell? _ _ hw137_0; first | rwa [Zo] at this | exact this) GW138.out))) _).trans (((Zy (p := ⟨gb138, _, none⟩) (by first | exact Nat.ne_of_lt (Nat.lt_of_lt_of_le (by have := World.block_lt_of_cell? _ _ hw137_0; first | rwa [Zo] at this | exact this) GW138.out) | (rw [Zo]; exact Nat.ne_of_lt (Nat.lt_of_lt_of_le (by have := World.block_lt_of_cell? _ _ hw137_0; first | rwa [Zo] at this | exact this) GW138.out)) | (show (Addr.add _ _).block ≠ _; rw [Zo]; exact Nat.ne_of_lt (Nat.lt_of_lt_of_le (by have := World.block_lt_of_cell? _ _ hw137_0; first | rwa [Zo] at this | exact this) GW138.out)) | (dsimp only; exact Nat.ne_of_lt (Nat.lt_of_lt_of_le (by have := World.block_lt_of_cell? _ _ hw137_0; first | rwa [Zo] at this | exact this) GW138.out))) _).trans (hHeld.2.2.2.2.2.2.2.2.2.2.2.2.2.2.2))))⟩ (fun hHeld => ?_)
      clear hK K
      refine done_ (done_of HT_.out (by kernel_rfl)) ?_
      (have n0_ : Za (Kd.Q k36 36 ((w47.setCell ⟨gb138, 0, none⟩ (.int .i64 (rd (Zd l0_2 ((Ze x8_1 0).f0)) x59_2))).setCell ⟨gb138, 1, none⟩ (.int .i64 (rd (Zd l1_2 ((Ze x8_1 0).f1)) x59_2))) w.heap.size (fun k_ => k_ ≠ gb133 ∧ k_ ≠ gb138) u8 x8_2) := ⟨by (with_reducible repeat (first | apply Kd.Q_alloc | apply Kd.Q_drewN | apply Kd.Q_drew)); exact Kd.Q_mono (Kd.Q_far (p := ⟨gb138, 1, none⟩) (Kd.Q_far (p := ⟨gb138, 0, none⟩) (Kd.Q_mono HO_8.out (fun k_ hk => (⟨hk, hk.2⟩ : _ ∧ k_ ≠ gb138))) (fun _ hk => hk.2) (.int .i64 (rd (Zd l0_2 ((Ze x8_1 0).f0)) x59_2))) (fun _ hk => hk.2) (.int .i64 (rd (Zd l1_2 ((Ze x8_1 0).f1)) x59_2))) (fun _ hk => ⟨hk.1.1, hk.1.2⟩)⟩); (have n1_ : Za (MapE ((w47.setCell ⟨gb138, 0, none⟩ (.int .i64 (rd (Zd l0_2 ((Ze x8_1 0).f0)) x59_2))).setCell ⟨gb138, 1, none⟩ (.int .i64 (rd (Zd l1_2 ((Ze x8_1 0).f1)) x59_2))) w.heap.size u129000 x129000_2) := ⟨MapE.set (MapE.set HO_129000.out BK138.out (by decide) _ _) (blk_put BK138.out 0 _ rfl) (by decide) _ _⟩); (have n2_ : Za (((w47.setCell ⟨gb138, 0, none⟩ (.int .i64 (rd (Zd l0_2 ((Ze x8_1 0).f0)) x59_2))).setCell ⟨gb138, 1, none⟩ (.int .i64 (rd (Zd l1_2 ((Ze x8_1 0).f1)) x59_2))).heap[gb125]? = some (.cells #[.int .i64 a0_0, .int .i64 a0_1, .slice (some ad134) l0_2.length c0_2, .int .i64 a0_3, .int .u32 a0_4] 25 (0, 0))) := ⟨by (with_reducible repeat (first | refine Zq ?_ _ | refine Zl ?_ | refine Zn ?_ _)); refine Za1 ?_ NB125_138.out _; (with_reducible repeat (first | refine Zq ?_ _ | refine Zl ?_ | refine Zn ?_ _)); refine Za1 ?_ NB125_138.out _; (with_reducible repeat (first | apply zb3 | apply zb2 | apply zb1)); exact BK125.out⟩)
      (have n3_ : Za (((w47.setCell ⟨gb138, 0, none⟩ (.int .i64 (rd (Zd l0_2 ((Ze x8_1 0).f0)) x59_2))).setCell ⟨gb138, 1, none⟩ (.int .i64 (rd (Zd l1_2 ((Ze x8_1 0).f1)) x59_2))).heap[gb126]? = some (.cells #[.int .i64 a1_0, .int .i64 a1_1, .slice (some ad136) l1_2.length c1_2, .int .i64 a1_3, .int .u32 a1_4] 25 (0, 0))) := ⟨by (with_reducible repeat (first | refine Zq ?_ _ | refine Zl ?_ | refine Zn ?_ _)); refine Za1 ?_ NB126_138.out _; (with_reducible repeat (first | refine Zq ?_ _ | refine Zl ?_ | refine Zn ?_ _)); refine Za1 ?_ NB126_138.out _; (with_reducible repeat (first | apply zb3 | apply zb2 | apply zb1)); exact BK126.out⟩); (have n4_ : Za (((w47.setCell ⟨gb138, 0, none⟩ (.int .i64 (rd (Zd l0_2 ((Ze x8_1 0).f0)) x59_2))).setCell ⟨gb138, 1, none⟩ (.int .i64 (rd (Zd l1_2 ((Ze x8_1 0).f1)) x59_2))).heap[gb128]? = some (u129000)) := ⟨by (with_reducible repeat (first | refine Zq ?_ _ | refine Zl ?_ | refine Zn ?_ _)); refine blk_farO ?_ NB128_138.out _; (with_reducible repeat (first | refine Zq ?_ _ | refine Zl ?_ | refine Zn ?_ _)); refine blk_farO ?_ NB128_138.out _; (with_reducible repeat (first | apply zb3 | apply zb2 | apply zb1)); exact BK128.out⟩); (have n5_ : Za (((w47.setCell ⟨gb138, 0, none⟩ (.int .i64 (rd (Zd l0_2 ((Ze x8_1 0).f0)) x59_2))).setCell ⟨gb138, 1, none⟩ (.int .i64 (rd (Zd l1_2 ((Ze x8_1 0).f1)) x59_2))).heap[gb133]? = some (.cells #[.int .i64 ((Ze x8_1 0).f0), .int .i64 ((Ze x8_1 0).f1)] 36 (0, 0))) := ⟨by (with_reducible repeat (first | refine Zq ?_ _ | refine Zl ?_ | refine Zn ?_ _)); refine Za1 ?_ NB133_138.out _; (with_reducible repeat (first | refine Zq ?_ _ | refine Zl ?_ | refine Zn ?_ _)); refine Za1 ?_ NB133_138.out _; (with_reducible repeat (first | apply zb3 | apply zb2 | apply zb1)); exact BK133.out⟩)
      (have n6_ : Za (((w47.setCell ⟨gb138, 0, none⟩ (.int .i64 (rd (Zd l0_2 ((Ze x8_1 0).f0)) x59_2))).setCell ⟨gb138, 1, none⟩ (.int .i64 (rd (Zd l1_2 ((Ze x8_1 0).f1)) x59_2))).heap[gb138]? = some (.cells #[.int .i64 (rd (Zd l0_2 ((Ze x8_1 0).f0)) x59_2), .int .i64 (rd (Zd l1_2 ((Ze x8_1 0).f1)) x59_2)] 36 (0, 0))) := ⟨by (with_reducible repeat (first | refine Zq ?_ _ | refine Zl ?_ | refine Zn ?_ _)); refine blk_put (cs := #[.int .i64 (rd (Zd l0_2 ((Ze x8_1 0).f0)) x59_2), .int .i64 0]) ?_ 1 _ rfl; (with_reducible repeat (first | refine Zq ?_ _ | refine Zl ?_ | refine Zn ?_ _)); refine blk_put (cs := #[.int .i64 0, .int .i64 0]) ?_ 0 _ rfl; (with_reducible repeat (first | apply zb3 | apply zb2 | apply zb1)); exact BK138.out⟩); (have n7_ : Za (Below w.heap.size w ((w47.setCell ⟨gb138, 0, none⟩ (.int .i64 (rd (Zd l0_2 ((Ze x8_1 0).f0)) x59_2))).setCell ⟨gb138, 1, none⟩ (.int .i64 (rd (Zd l1_2 ((Ze x8_1 0).f1)) x59_2)))) := ⟨by repeat (first | (with_reducible first | exact HB.out | apply zc1 | apply zc2 | apply zc3 | refine zc4 ?_ (by assumption)) | exact HB.out)⟩); ((try clear HO_8)); ((try clear HO_129000)); ((try clear BK125)); ((try clear BK126)); ((try clear BK128)); ((try clear BK133)); ((try clear BK138)); ((try clear HB)); (generalize ((w47.setCell ⟨gb138, 0, none⟩ (.int .i64 (rd (Zd l0_2 ((Ze x8_1 0).f0)) x59_2))).setCell ⟨gb138, 1, none⟩ (.int .i64 (rd (Zd l1_2 ((Ze x8_1 0).f1)) x59_2))) = w47x at n0_ n1_ n2_ n3_ n4_ n5_ n6_ n7_ ⊢)
      (have HO_8 := n0_); (have HO_129000 := n1_); (have BK125 := n2_); (have BK126 := n3_); (have BK128 := n4_); (have BK133 := n5_); (have BK138 := n6_); (have HB := n7_); (clear n0_ n1_ n2_ n3_ n4_ n5_ n6_ n7_); (have hcx_0 : w47x.cell? ⟨gb138, 0, none⟩ = some (.int .i64 (rd (Zd l0_2 ((Ze x8_1 0).f0)) x59_2)) := (Zb BK138.out 0).trans rfl); (have hcx_1 : w47x.cell? ⟨gb138, 1, none⟩ = some (.int .i64 (rd (Zd l1_2 ((Ze x8_1 0).f1)) x59_2)) := (Zb BK138.out 1).trans rfl)
      try go_wp2_with (first | (at_lookup; refine mapE_get rfl 37 Try.underlying37 _ _ rfl rfl BK128.out HO_129000.out (rd (Zd l0_2 ((Ze x8_1 0).f0)) x59_2) (rd (Zd l1_2 ((Ze x8_1 0).f1)) x59_2) ?hk WQ0.out WQ1.out ?_; (case hk => first | rfl | (go_simp; done) | (go_simp; rfl)); intro vL hRL; clear hRL; rw [c45b.out]))
      (first | go_roundg k2 | (simp only [← hji24]; go_roundg k2) | (simp only [← hji22, ← hji24]; go_roundg k2))
      case measure => have := HK1.out; have := HK2.out; omega
      case rel => first | exact ⟨(x8_2), (wrap64 (x59_2 + 1)), (x129000_2), (u129000), (by first | rfl | (simp; done) | (simp [*]; done)), H', ⟨by have := HK1.out; have := HK2.out; omega⟩, ⟨by (with_reducible repeat (first | apply Kd.Q_alloc | apply Kd.Q_drewN | apply Kd.Q_drew)); exact Kd.Q_mono HO_8.out (fun _ hk => hk.1)⟩, ⟨by (with_reducible repeat (first | apply MapE.alloc | apply MapE.drewN | apply MapE.drew)); exact HO_129000.out⟩, ⟨by (with_reducible repeat (first | apply zb3 | apply zb2 | apply zb1)); exact BK125.out⟩, ⟨by (with_reducible repeat (first | apply zb3 | apply zb2 | apply zb1)); exact BK126.out⟩, ⟨by (with_reducible repeat (first | apply zb3 | apply zb2 | apply zb1)); exact BK128.out⟩, ⟨by (with_reducible repeat (first | apply zb3 | apply zb2 | apply zb1)); exact BK133.out⟩, ⟨by repeat (first | (with_reducible first | exact HB.out | apply zc1 | apply zc2 | apply zc3) | exact HB.out)⟩⟩ | (subst hji24; subst hji22; exact ⟨(x8_2), (wrap64 (x59_2 + 1)), (x129000_2), (u129000), (by first | rfl | (simp; done) | (simp [*]; done)), H', ⟨by have := HK1.out; have := HK2.out; omega⟩, ⟨by (with_reducible repeat (first | apply Kd.Q_alloc | apply Kd.Q_drewN | apply Kd.Q_drew)); exact Kd.Q_mono HO_8.out (fun _ hk => hk.1)⟩, ⟨by (with_reducible repeat (first | apply MapE.alloc | apply MapE.drewN | apply MapE.drew)); exact HO_129000.out⟩, ⟨by (with_reducible repeat (first | apply zb3 | apply zb2 | apply zb1)); exact BK125.out⟩, ⟨by (with_reducible repeat (first | apply zb3 | apply zb2 | apply zb1)); exact BK126.out⟩, ⟨by (with_reducible repeat (first | apply zb3 | apply zb2 | apply zb1)); exact BK128.out⟩, ⟨by (with_reducible repeat (first | apply zb3 | apply zb2 | apply zb1)); exact BK133.out⟩, ⟨by repeat (first | (with_reducible first | exact HB.out | apply zc1 | apply zc2 | apply zc3) | exact HB.out)⟩⟩)
     (rw [if_neg c45] at H); (have c45b := Za.mk (Bool.eq_false_iff.2 c45)); (clear c45); (obtain ⟨y75, hy75⟩ : ∃ y_ : List Int, y_ = (lkP x129000_2 (((Ze x8_1 0).f0), ((Ze x8_1 0).f1))).getD [] := ⟨_, rfl⟩); (rw [← hy75] at H); (have Ny75 := Za.mk hy75); (clear hy75); (replace H := Option.bind_eq_some_iff.mp H); (obtain ⟨t139, A590, H⟩ := H); (replace H : ((some (([x59_2] : List Int) : List Int)).bind fun y142 => (if t139.length + y142.length < 17592186044416 then (if x129000_2.length < 1000000 then (if x8_2.length < 8796093022208 then (Zr.l1 k2 (x8_2 ++ [(⟨rd (Zd l0_2 ((Ze x8_1 0).f0)) x59_2, rd (Zd l1_2 ((Ze x8_1 0).f1)) x59_2⟩ : S36)]) a0_1 (wrap64 (x59_2 + 1)) a0_0 a0_1 l0_2 a0_3 a0_4 a1_0 a1_1 l1_2 a1_3 a1_4 ((((rd (Zd l0_2 ((Ze x8_1 0).f0)) x59_2), (rd (Zd l1_2 ((Ze x8_1 0).f1)) x59_2)), t139 ++ y142) :: x129000_2) ((Ze x8_1 0).f0) ((Ze x8_1 0).f1)) else (none)) else (none)) else (none))) = some (r1, r2) := H); (have A59 := Za.mk A590); (clear A590); (obtain ⟨y142, hy142⟩ : ∃ y_ : List Int, y_ = (([x59_2] : List Int)) := ⟨_, rfl⟩); (replace H : (if t139.length + y142.length < 17592186044416 then (if x129000_2.length < 1000000 then (if x8_2.length < 8796093022208 then (Zr.l1 k2 (x8_2 ++ [(⟨rd (Zd l0_2 ((Ze x8_1 0).f0)) x59_2, rd (Zd l1_2 ((Ze x8_1 0).f1)) x59_2⟩ : S36)]) a0_1 (wrap64 (x59_2 + 1)) a0_0 a0_1 l0_2 a0_3 a0_4 a1_0 a1_1 l1_2 a1_3 a1_4 ((((rd (Zd l0_2 ((Ze x8_1 0).f0)) x59_2), (rd (Zd l1_2 ((Ze x8_1 0).f1)) x59_2)), t139 ++ y142) :: x129000_2) ((Ze x8_1 0).f0) ((Ze x8_1 0).f1)) else (none)) else (none)) else (none)) = some (r1, r2) := by first | (rw [hy142]; with_reducible exact H) | (have H2_ := (Option.bind_some _ _).symm.trans H; rw [hy142]; with_reducible exact H2_) | (have H2_ := (Option.bind_some _ _).symm.trans H; with_reducible exact H2_) | with_reducible exact H | (rw [hy142]; exact H) | exact H)
     (have Ny142 := Za.mk hy142); (clear hy142)
     by_cases c60 : t139.length + y142.length < 17592186044416
     rotate_left
     ·rw [if_neg c60] at H
      exact absurd H (by simp)
     (rw [if_pos c60] at H); (have LMc60 := Za.mk c60); (clear c60); (obtain ⟨y145, hy145⟩ : ∃ y_ : List Int, y_ = (t139 ++ y142) := ⟨_, rfl⟩); (replace H : (if x129000_2.length < 1000000 then (if x8_2.length < 8796093022208 then (Zr.l1 k2 (x8_2 ++ [(⟨rd (Zd l0_2 ((Ze x8_1 0).f0)) x59_2, rd (Zd l1_2 ((Ze x8_1 0).f1)) x59_2⟩ : S36)]) a0_1 (wrap64 (x59_2 + 1)) a0_0 a0_1 l0_2 a0_3 a0_4 a1_0 a1_1 l1_2 a1_3 a1_4 ((((rd (Zd l0_2 ((Ze x8_1 0).f0)) x59_2), (rd (Zd l1_2 ((Ze x8_1 0).f1)) x59_2)), y145) :: x129000_2) ((Ze x8_1 0).f0) ((Ze x8_1 0).f1)) else (none)) else (none)) = some (r1, r2) := by first | (rw [hy145]; with_reducible exact H) | (have H2_ := (Option.bind_some _ _).symm.trans H; rw [hy145]; with_reducible exact H2_) | (have H2_ := (Option.bind_some _ _).symm.trans H; with_reducible exact H2_) | with_reducible exact H | (rw [hy145]; exact H) | exact H); (have Ny145 := Za.mk hy145); (clear hy145)
     by_cases cMM : x129000_2.length < 1000000
     case neg => rw [if_neg cMM] at H; cases H
     (rw [if_pos cMM] at H); (have LMM := Za.mk cMM); (clear cMM)
     by_cases c61 : x8_2.length < 8796093022208
     rotate_left
     ·rw [if_neg c61] at H
      exact absurd H (by simp)
     (rw [if_pos c61] at H); (have LMc61 := Za.mk c61); (clear c61); (obtain ⟨y148, hy148⟩ : ∃ y_ : List (S36), y_ = (x8_2 ++ [(⟨rd (Zd l0_2 ((Ze x8_1 0).f0)) x59_2, rd (Zd l1_2 ((Ze x8_1 0).f1)) x59_2⟩ : S36)]) := ⟨_, rfl⟩); (replace H : (Zr.l1 k2 y148 a0_1 (wrap64 (x59_2 + 1)) a0_0 a0_1 l0_2 a0_3 a0_4 a1_0 a1_1 l1_2 a1_3 a1_4 ((((rd (Zd l0_2 ((Ze x8_1 0).f0)) x59_2), (rd (Zd l1_2 ((Ze x8_1 0).f1)) x59_2)), y145) :: x129000_2) ((Ze x8_1 0).f0) ((Ze x8_1 0).f1)) = some (r1, r2) := by first | (rw [hy148]; with_reducible exact H) | (have H2_ := (Option.bind_some _ _).symm.trans H; rw [hy148]; with_reducible exact H2_) | (have H2_ := (Option.bind_some _ _).symm.trans H; with_reducible exact H2_) | with_reducible exact H | (rw [hy148]; exact H) | exact H); (have Ny148 := Za.mk hy148); (clear hy148); (have H' := Za.mk H); (clear H)
     try go_wp2
     (replace HO_8 := Za.mk (Kd.Q_drew HO_8.out)); (replace HO_129000 := Za.mk (MapE.drew HO_129000.out)); (replace BK125 := Za.mk (Zl BK125.out)); (replace BK126 := Za.mk (Zl BK126.out)); (replace BK128 := Za.mk (Zl BK128.out)); (replace BK133 := Za.mk (Zl BK133.out)); (replace HB := Za.mk (below_drew1 HB.out)); (have p134 : 0 ≤ (((Ze x8_1 0).f0) : Int) := of_decide_eq_true (by assumption)); (have q134 : ((Ze x8_1 0).f0) < (l0_2.length : Int) := of_decide_eq_true (by assumption)); (obtain ⟨ad134, A134_0, c134_0, e134, hx134_0, hl134_0, hi134_0⟩ := at_L1 HR0_2.out ((Ze x8_1 0).f0) p134 q134); (have hw134_0 := hx134_0); (cases e134); (replace hx134_0 := (HB.out.cell (World.block_lt_of_cell? w _ hx134_0)).trans hx134_0); (have HR134_0 := Za.mk hi134_0); (have HC134_0 := Za.mk hl134_0); (clear hi134_0 hl134_0); (replace p134 := eq_true p134); (replace q134 := eq_true q134); (have p135 : 0 ≤ (x59_2 : Int) := of_decide_eq_true (by assumption)); (have q135 : x59_2 < ((Zd l0_2 ((Ze x8_1 0).f0)).length : Int) := of_decide_eq_true (by assumption)); (obtain ⟨ad135, e135, hx135_0⟩ := Kd.at_int HR134_0.out x59_2 p135 q135); (have hw135_0 := hx135_0); (cases e135); (replace hx135_0 := (HB.out.cell (World.block_lt_of_cell? w _ hx135_0)).trans hx135_0); (replace p135 := eq_true p135); (replace q135 := eq_true q135); (have p136 : 0 ≤ (((Ze x8_1 0).f1) : Int) := of_decide_eq_true (by assumption)); (have q136 : ((Ze x8_1 0).f1) < (l1_2.length : Int) := of_decide_eq_true (by assumption)); (obtain ⟨ad136, A136_0, c136_0, e136, hx136_0, hl136_0, hi136_0⟩ := at_L1 HR1_2.out ((Ze x8_1 0).f1) p136 q136)
     (have hw136_0 := hx136_0); (cases e136); (replace hx136_0 := (HB.out.cell (World.block_lt_of_cell? w _ hx136_0)).trans hx136_0); (have HR136_0 := Za.mk hi136_0); (have HC136_0 := Za.mk hl136_0); (clear hi136_0 hl136_0); (replace p136 := eq_true p136); (replace q136 := eq_true q136); (have p137 : 0 ≤ (x59_2 : Int) := of_decide_eq_true (by assumption)); (have q137 : x59_2 < ((Zd l1_2 ((Ze x8_1 0).f1)).length : Int) := of_decide_eq_true (by assumption)); (obtain ⟨ad137, e137, hx137_0⟩ := Kd.at_int HR136_0.out x59_2 p137 q137); (have hw137_0 := hx137_0); (cases e137); (replace hx137_0 := (HB.out.cell (World.block_lt_of_cell? w _ hx137_0)).trans hx137_0); (replace p137 := eq_true p137); (replace q137 := eq_true q137)
     refine start_ (n := 21) (S := fun w' => w'.cell? ⟨gb125, 0, none⟩ = some (.int .i64 a0_0) ∧ w'.cell? ⟨gb125, 1, none⟩ = some (.int .i64 a0_1) ∧ w'.cell? ⟨gb125, 2, none⟩ = some (.slice (some ad134) l0_2.length c0_2) ∧ w'.cell? ⟨gb125, 3, none⟩ = some (.int .i64 a0_3) ∧ w'.cell? ⟨gb125, 4, none⟩ = some (.int .u32 a0_4) ∧ w'.cell? ⟨gb133, 0, none⟩ = some (.int .i64 ((Ze x8_1 0).f0)) ∧ w'.cell? ⟨gb133, 1, none⟩ = some (.int .i64 ((Ze x8_1 0).f1)) ∧ w'.cell? ⟨gb126, 0, none⟩ = some (.int .i64 a1_0) ∧ w'.cell? ⟨gb126, 1, none⟩ = some (.int .i64 a1_1) ∧ w'.cell? ⟨gb126, 2, none⟩ = some (.slice (some ad136) l1_2.length c1_2) ∧ w'.cell? ⟨gb126, 3, none⟩ = some (.int .i64 a1_3) ∧ w'.cell? ⟨gb126, 4, none⟩ = some (.int .u32 a1_4) ∧ w'.cell? (ad134.add (((Ze x8_1 0).f0)).toNat) = some (.slice (some ad135) (Zd l0_2 ((Ze x8_1 0).f0)).length c134_0) ∧ w'.cell? (ad135.add (x59_2).toNat) = some (.int .i64 (rd (Zd l0_2 ((Ze x8_1 0).f0)) x59_2)) ∧ w'.cell? (ad136.add (((Ze x8_1 0).f1)).toNat) = some (.slice (some ad137) (Zd l1_2 ((Ze x8_1 0).f1)).length c136_0) ∧ w'.cell? (ad137.add (x59_2).toNat) = some (.int .i64 (rd (Zd l1_2 ((Ze x8_1 0).f1)) x59_2))) (ds := []) #[false, false, false, false, false, false, false, false, false, false, false, false, false, false, false, false, false, false, false, false, false] (by kernel_rfl) rfl rfl ⟨(Zb BK125.out 0).trans rfl, (Zb BK125.out 1).trans rfl, (Zb BK125.out 2).trans rfl, (Zb BK125.out 3).trans rfl, (Zb BK125.out 4).trans rfl, (Zb BK133.out 0).trans rfl, (Zb BK133.out 1).trans rfl, (Zb BK126.out 0).trans rfl, (Zb BK126.out 1).trans rfl, (Zb BK126.out 2).trans rfl, (Zb BK126.out 3).trans rfl, (Zb BK126.out 4).trans rfl, ((HB.out.cell (World.block_lt_of_cell? w _ hw134_0)).trans hw134_0), ((HB.out.cell (World.block_lt_of_cell? w _ hw135_0)).trans hw135_0), ((HB.out.cell (World.block_lt_of_cell? w _ hw136_0)).trans hw136_0), ((HB.out.cell (World.block_lt_of_cell? w _ hw137_0)).trans hw137_0)⟩ (fun hHeld => ?_); refine with_tabW Zr.tab14 Zr.bits14 (fun HT_ HW_ => ?_)
     generalize wr.drew = w62 at HO_8 HO_129000 BK125 BK126 BK128 BK133 HB HR134_0 HR136_0 hx134_0 hx135_0 hx136_0 hx137_0 hHeld ⊢
     refine pure_ (i := 0) (N := some 62) (v := ?_) (a' := ?_) #[true, false, false, false, false, false, false, false, false, false, false, false, false, false, false, false, false, false, false, false, false] rfl rfl (Zj HT_.out (by kernel_rfl)) (fun _ _ _ h => h) (Or.inl ⟨by rfl, ?_⟩) ?_ ?_
     rotate_left
     ·intro w'
      go_simp
      with_reducible rfl
     rotate_left
     ·simp only [Act.put, List.setIfInBounds_toArray, List.set_cons_zero, List.set_cons_succ, Zg, Zf]
      rfl
     refine pure_ (i := 2) (N := some 64) (v := ?_) (a' := ?_) #[true, false, true, false, false, false, false, false, false, false, false, false, false, false, false, false, false, false, false, false, false] rfl rfl (Zj HT_.out (by kernel_rfl)) (fun _ _ _ h => h) (Or.inl ⟨by rfl, ?_⟩) ?_ ?_
     rotate_left
     ·intro w'
      go_simp
      with_reducible rfl
     rotate_left
     ·simp only [Act.put, List.setIfInBounds_toArray, List.set_cons_zero, List.set_cons_succ, Zg, Zf]
      rfl
     refine pure_ (i := 6) (N := some 68) (v := ?_) (a' := ?_) #[true, false, true, false, false, false, true, false, false, false, false, false, false, false, false, false, false, false, false, false, false] rfl rfl (Zj HT_.out (by kernel_rfl)) (fun _ _ _ h => h) (Or.inl ⟨by rfl, ?_⟩) ?_ ?_
     rotate_left
     ·intro w'
      go_simp
      with_reducible rfl
     rotate_left
     ·simp only [Act.put, List.setIfInBounds_toArray, List.set_cons_zero, List.set_cons_succ, Zg, Zf]
      rfl
     refine pure_ (i := 9) (N := some 71) (v := ?_) (a' := ?_) #[true, false, true, false, false, false, true, false, false, true, false, false, false, false, false, false, false, false, false, false, false] rfl rfl (Zj HT_.out (by kernel_rfl)) (fun _ _ _ h => h) (Or.inl ⟨by rfl, ?_⟩) ?_ ?_
     rotate_left
     ·intro w'
      go_simp
      with_reducible rfl
     rotate_left
     ·simp only [Act.put, List.setIfInBounds_toArray, List.set_cons_zero, List.set_cons_succ, Zg, Zf]
      rfl
     refine pure_ (i := 11) (N := some 73) (v := ?_) (a' := ?_) #[true, false, true, false, false, false, true, false, false, true, false, true, false, false, false, false, false, false, false, false, false] rfl rfl (Zj HT_.out (by kernel_rfl)) (fun _ _ _ h => h) (Or.inl ⟨by rfl, ?_⟩) ?_ ?_
     rotate_left
     ·intro w'
      go_simp
      with_reducible rfl
     rotate_left
     ·simp only [Act.put, List.setIfInBounds_toArray, List.set_cons_zero, List.set_cons_succ, Zg, Zf]
      rfl
     refine pure_ (i := 15) (N := some 77) (v := ?_) (a' := ?_) #[true, false, true, false, false, false, true, false, false, true, false, true, false, false, false, true, false, false, false, false, false] rfl rfl (Zj HT_.out (by kernel_rfl)) (fun _ _ _ h => h) (Or.inl ⟨by rfl, ?_⟩) ?_ ?_
     rotate_left
     ·intro w'
      go_simp
      with_reducible rfl
     rotate_left
     ·simp only [Act.put, List.setIfInBounds_toArray, List.set_cons_zero, List.set_cons_succ, Zg, Zf]
      rfl
     refine take_ (i := 1) (N := some 63) (v := ?_) (a' := ?_) #[true, true, true, false, false, false, true, false, false, true, false, true, false, false, false, true, false, false, false, false, false] rfl rfl (Zz HT_.out HW_.out (by kernel_rfl)) (fun _ _ _ h => h) (Or.inl ⟨by rfl, ?_⟩) hHeld ?_ ?_
     rotate_left
     ·rintro w' ⟨s0, s1, s2, s3, s4, s5, s6, s7, s8, s9, s10, s11, s12, s13, s14, s15⟩
      go_simp
      with_reducible rfl
     rotate_left
     ·simp only [Act.put, List.setIfInBounds_toArray, List.set_cons_zero, List.set_cons_succ, Zg, Zf]
      rfl
     refine take_ (i := 3) (N := some 65) (v := ?_) (a' := ?_) #[true, true, true, true, false, false, true, false, false, true, false, true, false, false, false, true, false, false, false, false, false] rfl rfl (Zz HT_.out HW_.out (by kernel_rfl)) (fun _ _ _ h => h) (Or.inl ⟨by rfl, ?_⟩) hHeld ?_ ?_
     rotate_left
     ·rintro w' ⟨s0, s1, s2, s3, s4, s5, s6, s7, s8, s9, s10, s11, s12, s13, s14, s15⟩
      go_simp
      with_reducible rfl
     rotate_left
     ·simp only [Act.put, List.setIfInBounds_toArray, List.set_cons_zero, List.set_cons_succ, Zg, Zf]
      rfl
     refine pure_ (i := 4) (N := some 66) (v := ?_) (a' := ?_) #[true, true, true, true, true, false, true, false, false, true, false, true, false, false, false, true, false, false, false, false, false] rfl rfl (Zj HT_.out (by kernel_rfl)) (fun _ _ _ h => h) (Or.inl ⟨by rfl, ?_⟩) ?_ ?_
     rotate_left
     ·intro w'
      go_simp
      with_reducible rfl
     rotate_left
     ·simp only [Act.put, List.setIfInBounds_toArray, List.set_cons_zero, List.set_cons_succ, Zg, Zf]
      rfl
     refine take_ (i := 5) (N := some 67) (v := ?_) (a' := ?_) #[true, true, true, true, true, true, true, false, false, true, false, true, false, false, false, true, false, false, false, false, false] rfl rfl (Zz HT_.out HW_.out (by kernel_rfl)) (fun _ _ _ h => h) (Or.inl ⟨by rfl, ?_⟩) hHeld ?_ ?_
     rotate_left
     ·rintro w' ⟨s0, s1, s2, s3, s4, s5, s6, s7, s8, s9, s10, s11, s12, s13, s14, s15⟩
      go_simp
      with_reducible rfl
     rotate_left
     ·simp only [Act.put, List.setIfInBounds_toArray, List.set_cons_zero, List.set_cons_succ, Zg, Zf]
      rfl
     refine pure_ (i := 7) (N := some 69) (v := ?_) (a' := ?_) #[true, true, true, true, true, true, true, true, false, true, false, true, false, false, false, true, false, false, false, false, false] rfl rfl (Zj HT_.out (by kernel_rfl)) (fun _ _ _ h => h) (Or.inl ⟨by rfl, ?_⟩) ?_ ?_
     rotate_left
     ·intro w'
      go_simp
      with_reducible rfl
     rotate_left
     ·simp only [Act.put, List.setIfInBounds_toArray, List.set_cons_zero, List.set_cons_succ, Zg, Zf]
      rfl
     refine take_ (i := 8) (N := some 70) (v := ?_) (a' := ?_) #[true, true, true, true, true, true, true, true, true, true, false, true, false, false, false, true, false, false, false, false, false] rfl rfl (Zz HT_.out HW_.out (by kernel_rfl)) (fun _ _ _ h => h) (Or.inl ⟨by rfl, ?_⟩) hHeld ?_ ?_
     rotate_left
     ·rintro w' ⟨s0, s1, s2, s3, s4, s5, s6, s7, s8, s9, s10, s11, s12, s13, s14, s15⟩
      go_simp
      with_reducible rfl
     rotate_left
     ·simp only [Act.put, List.setIfInBounds_toArray, List.set_cons_zero, List.set_cons_succ, Zg, Zf]
      rfl
     refine take_ (i := 10) (N := some 72) (v := ?_) (a' := ?_) #[true, true, true, true, true, true, true, true, true, true, true, true, false, false, false, true, false, false, false, false, false] rfl rfl (Zz HT_.out HW_.out (by kernel_rfl)) (fun _ _ _ h => h) (Or.inl ⟨by rfl, ?_⟩) hHeld ?_ ?_
     rotate_left
     ·rintro w' ⟨s0, s1, s2, s3, s4, s5, s6, s7, s8, s9, s10, s11, s12, s13, s14, s15⟩
      go_simp
      with_reducible rfl
     rotate_left
     ·simp only [Act.put, List.setIfInBounds_toArray, List.set_cons_zero, List.set_cons_succ, Zg, Zf]
      rfl
     refine take_ (i := 12) (N := some 74) (v := ?_) (a' := ?_) #[true, true, true, true, true, true, true, true, true, true, true, true, true, false, false, true, false, false, false, false, false] rfl rfl (Zz HT_.out HW_.out (by kernel_rfl)) (fun _ _ _ h => h) (Or.inl ⟨by rfl, ?_⟩) hHeld ?_ ?_
     rotate_left
     ·rintro w' ⟨s0, s1, s2, s3, s4, s5, s6, s7, s8, s9, s10, s11, s12, s13, s14, s15⟩
      go_simp
      with_reducible rfl
     rotate_left
     ·simp only [Act.put, List.setIfInBounds_toArray, List.set_cons_zero, List.set_cons_succ, Zg, Zf]
      rfl
     refine pure_ (i := 13) (N := some 75) (v := ?_) (a' := ?_) #[true, true, true, true, true, true, true, true, true, true, true, true, true, true, false, true, false, false, false, false, false] rfl rfl (Zj HT_.out (by kernel_rfl)) (fun _ _ _ h => h) (Or.inl ⟨by rfl, ?_⟩) ?_ ?_
     rotate_left
     ·intro w'
      go_simp
      with_reducible rfl
     rotate_left
     ·simp only [Act.put, List.setIfInBounds_toArray, List.set_cons_zero, List.set_cons_succ, Zg, Zf]
      rfl
     refine take_ (i := 14) (N := some 76) (v := ?_) (a' := ?_) #[true, true, true, true, true, true, true, true, true, true, true, true, true, true, true, true, false, false, false, false, false] rfl rfl (Zz HT_.out HW_.out (by kernel_rfl)) (fun _ _ _ h => h) (Or.inl ⟨by rfl, ?_⟩) hHeld ?_ ?_
     rotate_left
     ·rintro w' ⟨s0, s1, s2, s3, s4, s5, s6, s7, s8, s9, s10, s11, s12, s13, s14, s15⟩
      go_simp
      with_reducible rfl
     rotate_left
     ·simp only [Act.put, List.setIfInBounds_toArray, List.set_cons_zero, List.set_cons_succ, Zg, Zf]
      rfl
     refine pure_ (i := 16) (N := some 78) (v := ?_) (a' := ?_) #[true, true, true, true, true, true, true, true, true, true, true, true, true, true, true, true, true, false, false, false, false] rfl rfl (Zj HT_.out (by kernel_rfl)) (fun _ _ _ h => h) (Or.inl ⟨by rfl, ?_⟩) ?_ ?_
     rotate_left
     ·intro w'
      go_simp
      with_reducible rfl
     rotate_left
     ·simp only [Act.put, List.setIfInBounds_toArray, List.set_cons_zero, List.set_cons_succ, Zg, Zf]
      rfl
     refine take_ (i := 17) (N := some 79) (v := ?_) (a' := ?_) #[true, true, true, true, true, true, true, true, true, true, true, true, true, true, true, true, true, true, false, false, false] rfl rfl (Zz HT_.out HW_.out (by kernel_rfl)) (fun _ _ _ h => h) (Or.inl ⟨by rfl, ?_⟩) hHeld ?_ ?_
     rotate_left
     ·rintro w' ⟨s0, s1, s2, s3, s4, s5, s6, s7, s8, s9, s10, s11, s12, s13, s14, s15⟩
      go_simp
      with_reducible rfl
     rotate_left
     ·simp only [Act.put, List.setIfInBounds_toArray, List.set_cons_zero, List.set_cons_succ, Zg, Zf]
      rfl
     refine pure_ (i := 18) (N := some 80) (v := ?_) (a' := ?_) #[true, true, true, true, true, true, true, true, true, true, true, true, true, true, true, true, true, true, true, false, false] rfl rfl (Zj HT_.out (by kernel_rfl)) (fun _ _ _ h => h) (Or.inl ⟨by rfl, ?_⟩) ?_ ?_
     rotate_left
     ·intro w'
      go_simp
      with_reducible rfl
     rotate_left
     ·simp only [Act.put, List.setIfInBounds_toArray, List.set_cons_zero, List.set_cons_succ, Zg, Zf]
      rfl
     refine one_ (i := 19) (N := some 11) #[true, true, true, true, true, true, true, true, true, true, true, true, true, true, true, true, true, true, true, true, false] rfl rfl (one_of HT_.out (by kernel_rfl)) (by decide) (fun K hK => ?_)
     refine box_step ?hg (N := 11) ?hd (cs := #[.int .i64 0, .int .i64 0]) (t := 36) ?hr ?_; (case hd => rfl); (case hg => rfl); (case hr => first | (go_simp; done) | (go_simp; rfl))
     intro gb138 hg w63 hbox hb
     (replace HO_8 := Za.mk (Kd.Q_below (Kd.Q_elderB (by (with_reducible repeat (first | apply Kd.Q_alloc | apply Kd.Q_drewN | apply Kd.Q_drew)); exact HO_8.out) gb138 (Nat.le_of_eq hg.symm)) hb)); (replace HO_129000 := Za.mk (MapE.below (by (with_reducible repeat (first | apply MapE.alloc | apply MapE.drewN | apply MapE.drew)); exact HO_129000.out) hb)); (have BK138 := Za.mk (hbox)); (have GW138 := Za.mk ((by rw [hg]; exact (Zk (by repeat (first | (with_reducible first | exact HB.out | apply zc1 | apply zc2 | apply zc3 | refine zc4 ?_ (by assumption)) | exact HB.out))) : w.heap.size ≤ gb138))); (have GE138 := Za.mk ((by rw [hg]; exact (Zk (by repeat (first | (with_reducible first | exact HB.out | apply zc1 | apply zc2 | apply zc3 | refine zc4 ?_ (by assumption)) | exact HB.out))) : w.heap.size ≤ gb138))); (replace HB := Za.mk (Zm (by repeat (first | (with_reducible first | exact HB.out | apply zc1 | apply zc2 | apply zc3 | refine zc4 ?_ (by assumption)) | exact HB.out)) hb)); (have NB125_138 := Za.mk ((by rw [hg]; exact Nat.ne_of_lt (Zs (g := gb125) (o := .cells #[.int .i64 a0_0, .int .i64 a0_1, .slice (some ad134) l0_2.length c0_2, .int .i64 a0_3, .int .u32 a0_4] 25 (0, 0)) (by (with_reducible repeat (first | apply zb3 | apply zb2 | apply zb1)); exact BK125.out)) : gb125 ≠ gb138))); (have NB138_125 := Za.mk ((by rw [hg]; exact Nat.ne_of_gt (Zs (g := gb125) (o := .cells #[.int .i64 a0_0, .int .i64 a0_1, .slice (some ad134) l0_2.length c0_2, .int .i64 a0_3, .int .u32 a0_4] 25 (0, 0)) (by (with_reducible repeat (first | apply zb3 | apply zb2 | apply zb1)); exact BK125.out)) : gb138 ≠ gb125)))
     (replace BK125 := Za.mk (Zi (g := gb125) (by (with_reducible repeat (first | apply zb3 | apply zb2 | apply zb1)); exact BK125.out) hb)); (have NB126_138 := Za.mk ((by rw [hg]; exact Nat.ne_of_lt (Zs (g := gb126) (o := .cells #[.int .i64 a1_0, .int .i64 a1_1, .slice (some ad136) l1_2.length c1_2, .int .i64 a1_3, .int .u32 a1_4] 25 (0, 0)) (by (with_reducible repeat (first | apply zb3 | apply zb2 | apply zb1)); exact BK126.out)) : gb126 ≠ gb138))); (have NB138_126 := Za.mk ((by rw [hg]; exact Nat.ne_of_gt (Zs (g := gb126) (o := .cells #[.int .i64 a1_0, .int .i64 a1_1, .slice (some ad136) l1_2.length c1_2, .int .i64 a1_3, .int .u32 a1_4] 25 (0, 0)) (by (with_reducible repeat (first | apply zb3 | apply zb2 | apply zb1)); exact BK126.out)) : gb138 ≠ gb126))); (replace BK126 := Za.mk (Zi (g := gb126) (by (with_reducible repeat (first | apply zb3 | apply zb2 | apply zb1)); exact BK126.out) hb)); (have NB128_138 := Za.mk ((by rw [hg]; exact Nat.ne_of_lt (Zs (g := gb128) (o := u129000) (by (with_reducible repeat (first | apply zb3 | apply zb2 | apply zb1)); exact BK128.out)) : gb128 ≠ gb138))); (have NB138_128 := Za.mk ((by rw [hg]; exact Nat.ne_of_gt (Zs (g := gb128) (o := u129000) (by (with_reducible repeat (first | apply zb3 | apply zb2 | apply zb1)); exact BK128.out)) : gb138 ≠ gb128))); (replace BK128 := Za.mk (Zi (g := gb128) (o := u129000) (by (with_reducible repeat (first | apply zb3 | apply zb2 | apply zb1)); exact BK128.out) hb)); (have NB133_138 := Za.mk ((by rw [hg]; exact Nat.ne_of_lt (Zs (g := gb133) (o := .cells #[.int .i64 ((Ze x8_1 0).f0), .int .i64 ((Ze x8_1 0).f1)] 36 (0, 0)) (by (with_reducible repeat (first | apply zb3 | apply zb2 | apply zb1)); exact BK133.out)) : gb133 ≠ gb138)))
     (have NB138_133 := Za.mk ((by rw [hg]; exact Nat.ne_of_gt (Zs (g := gb133) (o := .cells #[.int .i64 ((Ze x8_1 0).f0), .int .i64 ((Ze x8_1 0).f1)] 36 (0, 0)) (by (with_reducible repeat (first | apply zb3 | apply zb2 | apply zb1)); exact BK133.out)) : gb138 ≠ gb133))); (replace BK133 := Za.mk (Zi (g := gb133) (by (with_reducible repeat (first | apply zb3 | apply zb2 | apply zb1)); exact BK133.out) hb)); (clear hb hbox hg)
     refine hK.out _ _ ⟨(Zb BK125.out 0).trans rfl, (Zb BK125.out 1).trans rfl, (Zb BK125.out 2).trans rfl, (Zb BK125.out 3).trans rfl, (Zb BK125.out 4).trans rfl, (Zb BK133.out 0).trans rfl, (Zb BK133.out 1).trans rfl, (Zb BK126.out 0).trans rfl, (Zb BK126.out 1).trans rfl, (Zb BK126.out 2).trans rfl, (Zb BK126.out 3).trans rfl, (Zb BK126.out 4).trans rfl, ((HB.out.cell (World.block_lt_of_cell? w _ hw134_0)).trans hw134_0), ((HB.out.cell (World.block_lt_of_cell? w _ hw135_0)).trans hw135_0), ((HB.out.cell (World.block_lt_of_cell? w _ hw136_0)).trans hw136_0), ((HB.out.cell (World.block_lt_of_cell? w _ hw137_0)).trans hw137_0)⟩ (fun hHeld => ?_)
     clear hK K
     refine norm_ (a' := ?_) ?_ ?_
     rotate_left
     ·show Act.put _ (some 11) _ = _
      simp only [Act.put, List.setIfInBounds_toArray, List.set_cons_zero, List.set_cons_succ, Zg, Zf]
      rfl
     refine one_ (i := 20) (N := none) #[true, true, true, true, true, true, true, true, true, true, true, true, true, true, true, true, true, true, true, true, true] rfl rfl (one_of HT_.out (by kernel_rfl)) (by decide) (fun K hK => ?_)
     (have hs64 : w63.cell? ⟨gb138, 0, none⟩ = some (.int .i64 0) := (Zb BK138.out 0).trans rfl); (have hfs64 := Zc BK138.out 0); (have hns64_0 := NB125_138.out); (have hns64_1 := NB126_138.out); (have hns64_2 := NB128_138.out); (have hns64_3 := NB133_138.out); (have hms64_0 := NB138_125.out); (have hms64_1 := NB138_126.out); (have hms64_2 := NB138_128.out); (have hms64_3 := NB138_133.out); (have hs65 : w63.cell? ⟨gb138, 1, none⟩ = some (.int .i64 0) := (Zb BK138.out 1).trans rfl); (have hfs65 := Zc BK138.out 1); (have hns65_0 := NB125_138.out); (have hns65_1 := NB126_138.out); (have hns65_2 := NB128_138.out); (have hns65_3 := NB133_138.out); (have hms65_0 := NB138_125.out); (have hms65_1 := NB138_126.out); (have hms65_2 := NB138_128.out); (have hms65_3 := NB138_133.out)
     refine skip_ (w1 := ?_) (by rfl) rfl ?_ ?_
     rotate_left
     ·go_simp
      rfl
     refine hK.out _ _ ⟨((Zy (p := ⟨gb138, _, none⟩) NB125_138.out _).trans (((Zy (p := ⟨gb138, _, none⟩) NB125_138.out _).trans (hHeld.1)))), ((Zy (p := ⟨gb138, _, none⟩) NB125_138.out _).trans (((Zy (p := ⟨gb138, _, none⟩) NB125_138.out _).trans (hHeld.2.1)))), ((Zy (p := ⟨gb138, _, none⟩) NB125_138.out _).trans (((Zy (p := ⟨gb138, _, none⟩) NB125_138.out _).trans (hHeld.2.2.1)))), ((Zy (p := ⟨gb138, _, none⟩) NB125_138.out _).trans (((Zy (p := ⟨gb138, _, none⟩) NB125_138.out _).trans (hHeld.2.2.2.1)))), ((Zy (p := ⟨gb138, _, none⟩) NB125_138.out _).trans (((Zy (p := ⟨gb138, _, none⟩) NB125_138.out _).trans (hHeld.2.2.2.2.1)))), ((Zy (p := ⟨gb138, _, none⟩) NB133_138.out _).trans (((Zy (p := ⟨gb138, _, none⟩) NB133_138.out _).trans (hHeld.2.2.2.2.2.1)))), ((Zy (p := ⟨gb138, _, none⟩) NB133_138.out _).trans (((Zy (p := ⟨gb138, _, none⟩) NB133_138.out _).trans (hHeld.2.2.2.2.2.2.1)))), ((Zy (p := ⟨gb138, _, none⟩) NB126_138.out _).trans (((Zy (p := ⟨gb138, _, none⟩) NB126_138.out _).trans (hHeld.2.2.2.2.2.2.2.1)))), ((Zy (p := ⟨gb138, _, none⟩) NB126_138.out _).trans (((Zy (p := ⟨gb138, _, none⟩) NB126_138.out _).trans (hHeld.2.2.2.2.2.2.2.2.1)))), ((Zy (p := ⟨gb138, _, none⟩) NB126_138.out _).trans (((Zy (p := ⟨gb138, _, none⟩) NB126_138.out _).trans (hHeld.2.2.2.2.2.2.2.2.2.1)))), ((Zy (p := ⟨gb138, _, none⟩) NB126_138.out _).trans (((Zy (p := ⟨gb138, _, none⟩) NB126_138.out _).trans (hHeld.2.2.2.2.2.2.2.2.2.2.1)))), ((Zy (p := ⟨gb138, _, none⟩) NB126_138.out _).trans (((Zy (p := ⟨gb138, _, none⟩) NB126_138.out _).trans (hHeld.2.2.2.2.2.2.2.2.2.2.2.1)))), ((Zy (p := ⟨gb138, _, none⟩) (by first | exact Nat.ne_of_lt (Nat.lt_of_lt_of_le (by have := World.block_lt_of_cell? _ _ hw134_0; first | rwa [Zo] at this | exact this) GW138.out) | (rw [Zo]; exact Nat.ne_of_lt (Nat.lt_of_lt_of_le (by have := World.block_lt_of_cell? _ _ hw134_0; first | rwa [Zo] at this | exact this) GW138.out)) | (show (Addr.add _ _).block ≠ _; rw [Zo]; exact Nat.ne_of_lt (Nat.lt_of_lt_of_le (by have := World.block_lt_of_cell? _ _ hw134_0; first | rwa [Zo] at this | exact this) GW138.out)) | (dsimp only; exact Nat.ne_of_lt (Nat.lt_of_lt_of_le (by have := World.block_lt_of_cell? _ _ hw134_0; first | rwa [Zo] at this | exact this) GW138.out))) _).trans (((Zy (p := ⟨gb138, _, none⟩) (by first | exact Nat.ne_of_lt (Nat.lt_of_lt_of_le (by have := World.block_lt_of_cell? _ _ hw134_0; first | rwa [Zo] at this | exact this) GW138.out) | (rw [Zo]; exact Nat.ne_of_lt (Nat.lt_of_lt_of_le (by have := World.block_lt_of_cell? _ _ hw134_0; first | rwa [Zo] at this | exact this) GW138.out)) | (show (Addr.add _ _).block ≠ _; rw [Zo]; exact Nat.ne_of_lt (Nat.lt_of_lt_of_le (by have := World.block_lt_of_cell? _ _ hw134_0; first | rwa [Zo] at this | exact this) GW138.out)) | (dsimp only; exact Nat.ne_of_lt (Nat.lt_of_lt_of_le (by have := World.block_lt_of_cell? _ _ hw134_0; first | rwa [Zo] at this | exact this) GW138.out))) _).trans (hHeld.2.2.2.2.2.2.2.2.2.2.2.2.1)))), ((Zy (p := ⟨gb138, _, none⟩) (by first | exact Nat.ne_of_lt (Nat.lt_of_lt_of_le (by have := World.block_lt_of_cell? _ _ hw135_0; first | rwa [Zo] at this | exact this) GW138.out) | (rw [Zo]; exact Nat.ne_of_lt (Nat.lt_of_lt_of_le (by have := World.block_lt_of_cell? _ _ hw135_0; first | rwa [Zo] at this | exact this) GW138.out)) | (show (Addr.add _ _).block ≠ _; rw [Zo]; exact Nat.ne_of_lt (Nat.lt_of_lt_of_le (by have := World.block_lt_of_cell? _ _ hw135_0; first | rwa [Zo] at this | exact this) GW138.out)) | (dsimp only; exact Nat.ne_of_lt (Nat.lt_of_lt_of_le (by have := World.block_lt_of_cell? _ _ hw135_0; first | rwa [Zo] at this | exact this) GW138.out))) _).trans (((Zy (p := ⟨gb138, _, none⟩) (by first | exact Nat.ne_of_lt (Nat.lt_of_lt_of_le (by have := World.block_lt_of_cell? _ _ hw135_0; first | rwa [Zo] at this | exact this) GW138.out) | (rw [Zo]; exact Nat.ne_of_lt (Nat.lt_of_lt_of_le (by have := World.block_lt_of_cell? _ _ hw135_0; first | rwa [Zo] at this | exact this) GW138.out)) | (show (Addr.add _ _).block ≠ _; rw [Zo]; exact Nat.ne_of_lt (Nat.lt_of_lt_of_le (by have := World.block_lt_of_cell? _ _ hw135_0; first | rwa [Zo] at this | exact this) GW138.out)) | (dsimp only; exact Nat.ne_of_lt (Nat.lt_of_lt_of_le (by have := World.block_lt_of_cell? _ _ hw135_0; first | rwa [Zo] at this | exact this) GW138.out))) _).trans (hHeld.2.2.2.2.2.2.2.2.2.2.2.2.2.1)))), ((Zy (p := ⟨gb138, _, none⟩) (by first | exact Nat.ne_of_lt (Nat.lt_of_lt_of_le (by have := World.block_lt_of_cell? _ _ hw136_0; first | rwa [Zo] at this | exact this) GW138.out) | (rw [Zo]; exact Nat.ne_of_lt (Nat.lt_of_lt_of_le (by have := World.block_lt_of_cell? _ _ hw136_0; first | rwa [Zo] at this | exact this) GW138.out)) | (show (Addr.add _ _).block ≠ _; rw [Zo]; exact Nat.ne_of_lt (Nat.lt_of_lt_of_le (by have := World.block_lt_of_cell? _ _ hw136_0; first | rwa [Zo] at this | exact this) GW138.out)) | (dsimp only; exact Nat.ne_of_lt (Nat.lt_of_lt_of_le (by have := World.block_lt_of_cell? _ _ hw136_0; first | rwa [Zo] at this | exact this) GW138.out))) _).trans (((Zy (p := ⟨gb138, _, none⟩) (by first | exact Nat.ne_of_lt (Nat.lt_of_lt_of_le (by have := World.block_lt_of_cell? _ _ hw136_0; first | rwa [Zo] at this | exact this) GW138.out) | (rw [Zo]; exact Nat.ne_of_lt (Nat.lt_of_lt_of_le (by have := World.block_lt_of_cell? _ _ hw136_0; first | rwa [Zo] at this | exact this) GW138.out)) | (show (Addr.add _ _).block ≠ _; rw [Zo]; exact Nat.ne_of_lt (Nat.lt_of_lt_of_le (by have := World.block_lt_of_cell? _ _ hw136_0; first | rwa [Zo] at this | exact this) GW138.out)) | (dsimp only; exact Nat.ne_of_lt (Nat.lt_of_lt_of_le (by have := World.block_lt_of_cell? _ _ hw136_0; first | rwa [Zo] at this | exact this) GW138.out))) _).trans (hHeld.2.2.2.2.2.2.2.2.2.2.2.2.2.2.1)))), ((Zy (p := ⟨gb138, _, none⟩) (by first | exact Nat.ne_of_lt (Nat.lt_of_lt_of_le (by have := World.block_lt_of_cell? _ _ hw137_0; first | rwa [Zo] at this | exact this) GW138.out) | (rw [Zo]; exact Nat.ne_of_lt (Nat.lt_of_lt_of_le (by have := World.block_lt_of_cell? _ _ hw137_0; first | rwa [Zo] at this | exact this) GW138.out)) | (show (Addr.add _ _).block ≠ _; rw [Zo]; exact Nat.ne_of_lt (Nat.lt_of_lt_of_le (by have := World.block_lt_of_cell? _ _ hw137_0; first | rwa [Zo] at this | exact this) GW138.out)) | (dsimp only; exact Nat.ne_of_lt (Nat.lt_of_lt_of_le (by have := World.block_lt_of_cell? _ _ hw137_0; first | rwa [Zo] at this | exact this) GW138.out))) _).trans (((Zy (p := ⟨gb138, _, none⟩) (by first | exact Nat.ne_of_lt (Nat.lt_of_lt_of_le (by have := World.block_lt_of_cell? _ _ hw137_0; first | rwa [Zo] at this | exact this) GW138.out) | (rw [Zo]; exact Nat.ne_of_lt (Nat.lt_of_lt_of_le (by have := World.block_lt_of_cell? _ _ hw137_0; first | rwa [Zo] at this | exact this) GW138.out)) | (show (Addr.add _ _).block ≠ _; rw [Zo]; exact Nat.ne_of_lt (Nat.lt_of_lt_of_le (by have := World.block_lt_of_cell? _ _ hw137_0; first | rwa [Zo] at this | exact this) GW138.out)) | (dsimp only; exact Nat.ne_of_lt (Nat.lt_of_lt_of_le (by have := World.block_lt_of_cell? _ _ hw137_0; first | rwa [Zo] at this | exact this) GW138.out))) _).trans (hHeld.2.2.2.2.2.2.2.2.2.2.2.2.2.2.2))))⟩ (fun hHeld => ?_)
     clear hK K
     refine done_ (done_of HT_.out (by kernel_rfl)) ?_
     (have hnb66 := NB138_125.out); (have hnc66 := NB125_138.out); (have hnb67 := NB138_126.out); (have hnc67 := NB126_138.out); (have hnb68 := NB138_128.out); (have hnc68 := NB128_138.out); (have hnb69 := NB138_133.out); (have hnc69 := NB133_138.out); (have hnb71 := NB128_125.out); (have hnc71 := NB125_128.out); (have hnb72 := NB128_126.out); (have hnc72 := NB126_128.out); (have hnb73 := NB128_133.out); (have hnc73 := NB133_128.out); (have n0_ : Za (Kd.Q k36 36 ((w63.setCell ⟨gb138, 0, none⟩ (.int .i64 (rd (Zd l0_2 ((Ze x8_1 0).f0)) x59_2))).setCell ⟨gb138, 1, none⟩ (.int .i64 (rd (Zd l1_2 ((Ze x8_1 0).f1)) x59_2))) w.heap.size (fun k_ => k_ ≠ gb133 ∧ k_ ≠ gb138) u8 x8_2) := ⟨by (with_reducible repeat (first | apply Kd.Q_alloc | apply Kd.Q_drewN | apply Kd.Q_drew)); exact Kd.Q_mono (Kd.Q_far (p := ⟨gb138, 1, none⟩) (Kd.Q_far (p := ⟨gb138, 0, none⟩) (Kd.Q_mono HO_8.out (fun k_ hk => (⟨hk, hk.2⟩ : _ ∧ k_ ≠ gb138))) (fun _ hk => hk.2) (.int .i64 (rd (Zd l0_2 ((Ze x8_1 0).f0)) x59_2))) (fun _ hk => hk.2) (.int .i64 (rd (Zd l1_2 ((Ze x8_1 0).f1)) x59_2))) (fun _ hk => ⟨hk.1.1, hk.1.2⟩)⟩); (have n1_ : Za (MapE ((w63.setCell ⟨gb138, 0, none⟩ (.int .i64 (rd (Zd l0_2 ((Ze x8_1 0).f0)) x59_2))).setCell ⟨gb138, 1, none⟩ (.int .i64 (rd (Zd l1_2 ((Ze x8_1 0).f1)) x59_2))) w.heap.size u129000 x129000_2) := ⟨MapE.set (MapE.set HO_129000.out BK138.out (by decide) _ _) (blk_put BK138.out 0 _ rfl) (by decide) _ _⟩); (have n2_ : Za (((w63.setCell ⟨gb138, 0, none⟩ (.int .i64 (rd (Zd l0_2 ((Ze x8_1 0).f0)) x59_2))).setCell ⟨gb138, 1, none⟩ (.int .i64 (rd (Zd l1_2 ((Ze x8_1 0).f1)) x59_2))).heap[gb125]? = some (.cells #[.int .i64 a0_0, .int .i64 a0_1, .slice (some ad134) l0_2.length c0_2, .int .i64 a0_3, .int .u32 a0_4] 25 (0, 0))) := ⟨by (with_reducible repeat (first | refine Zq ?_ _ | refine Zl ?_ | refine Zn ?_ _)); refine Za1 ?_ NB125_138.out _; (with_reducible repeat (first | refine Zq ?_ _ | refine Zl ?_ | refine Zn ?_ _)); refine Za1 ?_ NB125_138.out _; (with_reducible repeat (first | apply zb3 | apply zb2 | apply zb1)); exact BK125.out⟩)
     (have n3_ : Za (((w63.setCell ⟨gb138, 0, none⟩ (.int .i64 (rd (Zd l0_2 ((Ze x8_1 0).f0)) x59_2))).setCell ⟨gb138, 1, none⟩ (.int .i64 (rd (Zd l1_2 ((Ze x8_1 0).f1)) x59_2))).heap[gb126]? = some (.cells #[.int .i64 a1_0, .int .i64 a1_1, .slice (some ad136) l1_2.length c1_2, .int .i64 a1_3, .int .u32 a1_4] 25 (0, 0))) := ⟨by (with_reducible repeat (first | refine Zq ?_ _ | refine Zl ?_ | refine Zn ?_ _)); refine Za1 ?_ NB126_138.out _; (with_reducible repeat (first | refine Zq ?_ _ | refine Zl ?_ | refine Zn ?_ _)); refine Za1 ?_ NB126_138.out _; (with_reducible repeat (first | apply zb3 | apply zb2 | apply zb1)); exact BK126.out⟩); (have n4_ : Za (((w63.setCell ⟨gb138, 0, none⟩ (.int .i64 (rd (Zd l0_2 ((Ze x8_1 0).f0)) x59_2))).setCell ⟨gb138, 1, none⟩ (.int .i64 (rd (Zd l1_2 ((Ze x8_1 0).f1)) x59_2))).heap[gb128]? = some (u129000)) := ⟨by (with_reducible repeat (first | refine Zq ?_ _ | refine Zl ?_ | refine Zn ?_ _)); refine blk_farO ?_ NB128_138.out _; (with_reducible repeat (first | refine Zq ?_ _ | refine Zl ?_ | refine Zn ?_ _)); refine blk_farO ?_ NB128_138.out _; (with_reducible repeat (first | apply zb3 | apply zb2 | apply zb1)); exact BK128.out⟩); (have n5_ : Za (((w63.setCell ⟨gb138, 0, none⟩ (.int .i64 (rd (Zd l0_2 ((Ze x8_1 0).f0)) x59_2))).setCell ⟨gb138, 1, none⟩ (.int .i64 (rd (Zd l1_2 ((Ze x8_1 0).f1)) x59_2))).heap[gb133]? = some (.cells #[.int .i64 ((Ze x8_1 0).f0), .int .i64 ((Ze x8_1 0).f1)] 36 (0, 0))) := ⟨by (with_reducible repeat (first | refine Zq ?_ _ | refine Zl ?_ | refine Zn ?_ _)); refine Za1 ?_ NB133_138.out _; (with_reducible repeat (first | refine Zq ?_ _ | refine Zl ?_ | refine Zn ?_ _)); refine Za1 ?_ NB133_138.out _; (with_reducible repeat (first | apply zb3 | apply zb2 | apply zb1)); exact BK133.out⟩)
     (have n6_ : Za (((w63.setCell ⟨gb138, 0, none⟩ (.int .i64 (rd (Zd l0_2 ((Ze x8_1 0).f0)) x59_2))).setCell ⟨gb138, 1, none⟩ (.int .i64 (rd (Zd l1_2 ((Ze x8_1 0).f1)) x59_2))).heap[gb138]? = some (.cells #[.int .i64 (rd (Zd l0_2 ((Ze x8_1 0).f0)) x59_2), .int .i64 (rd (Zd l1_2 ((Ze x8_1 0).f1)) x59_2)] 36 (0, 0))) := ⟨by (with_reducible repeat (first | refine Zq ?_ _ | refine Zl ?_ | refine Zn ?_ _)); refine blk_put (cs := #[.int .i64 (rd (Zd l0_2 ((Ze x8_1 0).f0)) x59_2), .int .i64 0]) ?_ 1 _ rfl; (with_reducible repeat (first | refine Zq ?_ _ | refine Zl ?_ | refine Zn ?_ _)); refine blk_put (cs := #[.int .i64 0, .int .i64 0]) ?_ 0 _ rfl; (with_reducible repeat (first | apply zb3 | apply zb2 | apply zb1)); exact BK138.out⟩); (have n7_ : Za (Below w.heap.size w ((w63.setCell ⟨gb138, 0, none⟩ (.int .i64 (rd (Zd l0_2 ((Ze x8_1 0).f0)) x59_2))).setCell ⟨gb138, 1, none⟩ (.int .i64 (rd (Zd l1_2 ((Ze x8_1 0).f1)) x59_2)))) := ⟨by repeat (first | (with_reducible first | exact HB.out | apply zc1 | apply zc2 | apply zc3 | refine zc4 ?_ (by assumption)) | exact HB.out)⟩); ((try clear HO_8)); ((try clear HO_129000)); ((try clear BK125)); ((try clear BK126)); ((try clear BK128)); ((try clear BK133)); ((try clear BK138)); ((try clear HB)); (generalize ((w63.setCell ⟨gb138, 0, none⟩ (.int .i64 (rd (Zd l0_2 ((Ze x8_1 0).f0)) x59_2))).setCell ⟨gb138, 1, none⟩ (.int .i64 (rd (Zd l1_2 ((Ze x8_1 0).f1)) x59_2))) = w76 at n0_ n1_ n2_ n3_ n4_ n5_ n6_ n7_ ⊢)
     (have HO_8 := n0_); (have HO_129000 := n1_); (have BK125 := n2_); (have BK126 := n3_); (have BK128 := n4_); (have BK133 := n5_); (have BK138 := n6_); (have HB := n7_); (clear n0_ n1_ n2_ n3_ n4_ n5_ n6_ n7_); (have hcx_0 : w76.cell? ⟨gb138, 0, none⟩ = some (.int .i64 (rd (Zd l0_2 ((Ze x8_1 0).f0)) x59_2)) := (Zb BK138.out 0).trans rfl); (have hcx_1 : w76.cell? ⟨gb138, 1, none⟩ = some (.int .i64 (rd (Zd l1_2 ((Ze x8_1 0).f1)) x59_2)) := (Zb BK138.out 1).trans rfl)
     try go_wp2_with (first | (at_lookup; refine mapE_get rfl 37 Try.underlying37 _ _ rfl rfl BK128.out HO_129000.out (rd (Zd l0_2 ((Ze x8_1 0).f0)) x59_2) (rd (Zd l1_2 ((Ze x8_1 0).f1)) x59_2) ?hk WQ0.out WQ1.out ?_; (case hk => first | rfl | (go_simp; done) | (go_simp; rfl)); intro vL hRL; clear hRL; rw [c45b.out]))
     (obtain ⟨v75, hR75, hL75⟩ := MapE.look HO_129000.out WP0.out WP1.out); (rw [← Ny75.out] at hR75); (obtain ⟨Ao75, co75, eo75⟩ := Kd.R_slice hR75); (subst eo75); (have HL75 := Za.mk hL75); (clear hL75); (have HM := HO_129000); (clear HO_129000); (have HO_129000 := Za.mk hR75); (clear hR75); (have nM_ := Za.mk (MapE.drew HM.out)); (clear HM); (have HM := nM_); (clear nM_); (replace HO_8 := Za.mk (Kd.Q_drew HO_8.out)); (replace HO_129000 := Za.mk (Kd.R_drew HO_129000.out)); (replace BK125 := Za.mk (Zl BK125.out)); (replace BK126 := Za.mk (Zl BK126.out)); (replace BK128 := Za.mk (Zl BK128.out)); (replace BK133 := Za.mk (Zl BK133.out)); (replace BK138 := Za.mk (Zl BK138.out)); (replace HB := Za.mk (below_drew1 HB.out))
     refine start_ (n := 10) (S := fun w' => w'.cell? ⟨gb138, 0, none⟩ = some (.int .i64 (rd (Zd l0_2 ((Ze x8_1 0).f0)) x59_2)) ∧ w'.cell? ⟨gb138, 1, none⟩ = some (.int .i64 (rd (Zd l1_2 ((Ze x8_1 0).f1)) x59_2)) ∧ w'.cell? ⟨gb133, 0, none⟩ = some (.int .i64 ((Ze x8_1 0).f0)) ∧ w'.cell? ⟨gb133, 1, none⟩ = some (.int .i64 ((Ze x8_1 0).f1)) ∧ (Instr.lookup 37 (.map (some gb128)) (.agg #[.int .i64 ((Ze x8_1 0).f0), .int .i64 ((Ze x8_1 0).f1)]) false).run Try.prog w' = .ok (.slice Ao75 y75.length co75) w') (ds := [9]) #[false, false, false, false, false, false, false, false, false, false] (by kernel_rfl) rfl rfl ⟨(Zb BK138.out 0).trans rfl, (Zb BK138.out 1).trans rfl, (Zb BK133.out 0).trans rfl, (Zb BK133.out 1).trans rfl, (HL75.out _ gb128 37 Try.underlying37 BK128.out).1⟩ (fun hHeld => ?_); refine with_tabW Zr.tab17 Zr.bits17 (fun HT_ HW_ => ?_)
     (generalize w76.drew = w77 at HM HO_8 HO_129000 BK125 BK126 BK128 BK133 BK138 HB hHeld ⊢); (have BE := Za.mk (Below.refl w77.heap.size w77)); (have BM := Za.mk (Zs BK128.out))
     refine pure_ (i := 0) (N := some 89) (v := ?_) (a' := ?_) #[true, false, false, false, false, false, false, false, false, false] rfl rfl (Zj HT_.out (by kernel_rfl)) (fun _ _ _ h => h) (Or.inl ⟨by rfl, ?_⟩) ?_ ?_
     rotate_left
     ·intro w'
      go_simp
      with_reducible rfl
     rotate_left
     ·simp only [Act.put, List.setIfInBounds_toArray, List.set_cons_zero, List.set_cons_succ, Zg, Zf]
      rfl
     refine pure_ (i := 2) (N := some 91) (v := ?_) (a' := ?_) #[true, false, true, false, false, false, false, false, false, false] rfl rfl (Zj HT_.out (by kernel_rfl)) (fun _ _ _ h => h) (Or.inl ⟨by rfl, ?_⟩) ?_ ?_
     rotate_left
     ·intro w'
      go_simp
      with_reducible rfl
     rotate_left
     ·simp only [Act.put, List.setIfInBounds_toArray, List.set_cons_zero, List.set_cons_succ, Zg, Zf]
      rfl
     refine pure_ (i := 6) (N := some 95) (v := ?_) (a' := ?_) #[true, false, true, false, false, false, true, false, false, false] rfl rfl (Zj HT_.out (by kernel_rfl)) (fun _ _ _ h => h) (Or.inl ⟨by rfl, ?_⟩) ?_ ?_
     rotate_left
     ·intro w'
      go_simp
      with_reducible rfl
     rotate_left
     ·simp only [Act.put, List.setIfInBounds_toArray, List.set_cons_zero, List.set_cons_succ, Zg, Zf]
      rfl
     refine take_ (i := 1) (N := some 90) (v := ?_) (a' := ?_) #[true, true, true, false, false, false, true, false, false, false] rfl rfl (Zz HT_.out HW_.out (by kernel_rfl)) (fun _ _ _ h => h) (Or.inl ⟨by rfl, ?_⟩) hHeld ?_ ?_
     rotate_left
     ·rintro w' ⟨s0, s1, s2, s3, s4⟩
      go_simp
      with_reducible rfl
     rotate_left
     ·simp only [Act.put, List.setIfInBounds_toArray, List.set_cons_zero, List.set_cons_succ, Zg, Zf]
      rfl
     refine take_ (i := 3) (N := some 92) (v := ?_) (a' := ?_) #[true, true, true, true, false, false, true, false, false, false] rfl rfl (Zz HT_.out HW_.out (by kernel_rfl)) (fun _ _ _ h => h) (Or.inl ⟨by rfl, ?_⟩) hHeld ?_ ?_
     rotate_left
     ·rintro w' ⟨s0, s1, s2, s3, s4⟩
      go_simp
      with_reducible rfl
     rotate_left
     ·simp only [Act.put, List.setIfInBounds_toArray, List.set_cons_zero, List.set_cons_succ, Zg, Zf]
      rfl
     refine take_ (i := 4) (N := some 93) (v := ?_) (a' := ?_) #[true, true, true, true, true, false, true, false, false, false] rfl rfl (Zz HT_.out HW_.out (by kernel_rfl)) (fun _ _ _ h => h) (Or.inl ⟨by rfl, ?_⟩) hHeld ?_ ?_
     rotate_left
     ·rintro w' ⟨s0, s1, s2, s3, s4⟩
      go_simp
      with_reducible rfl
     rotate_left
     ·simp only [Act.put, List.setIfInBounds_toArray, List.set_cons_zero, List.set_cons_succ, Zg, Zf]
      rfl
     refine join_ (σ := Value × Value) 2 #[true, true, true, true, true, true, true, true, false, false] (fun s_ => [(94, s_.1), (96, s_.2)]) (fun s_ w' => (w'.cell? ⟨gb138, 0, none⟩ = some (.int .i64 (rd (Zd l0_2 ((Ze x8_1 0).f0)) x59_2)) ∧ w'.cell? ⟨gb138, 1, none⟩ = some (.int .i64 (rd (Zd l1_2 ((Ze x8_1 0).f1)) x59_2)) ∧ w'.cell? ⟨gb133, 0, none⟩ = some (.int .i64 ((Ze x8_1 0).f0)) ∧ w'.cell? ⟨gb133, 1, none⟩ = some (.int .i64 ((Ze x8_1 0).f1)) ∧ (Instr.lookup 37 (.map (some gb128)) (.agg #[.int .i64 ((Ze x8_1 0).f0), .int .i64 ((Ze x8_1 0).f1)]) false).run Try.prog w' = .ok (.slice Ao75 y75.length co75) w') ∧ (Kd.R (Kd.int .i64) 3 w' w.heap.size (fun k_ => some k_ ≠ (s_.2 : Value).ownBlock ∧ some k_ ≠ (.slice Ao75 y75.length co75 : Value).ownBlock) s_.1 t139) ∧ (Kd.R (Kd.int .i64) 3 w' w.heap.size (fun k_ => some k_ ≠ (s_.1 : Value).ownBlock ∧ some k_ ≠ (.slice Ao75 y75.length co75 : Value).ownBlock) s_.2 y142) ∧ (Kd.R (Kd.int .i64) 3 w' w.heap.size (fun k_ => some k_ ≠ (s_.1 : Value).ownBlock ∧ some k_ ≠ (s_.2 : Value).ownBlock) (.slice Ao75 y75.length co75) y75) ∧ (Kd.Q k36 36 w' w.heap.size (fun k_ => k_ ≠ gb133 ∧ k_ ≠ gb138) u8 x8_2) ∧ (w'.heap[gb125]? = some (.cells #[.int .i64 a0_0, .int .i64 a0_1, .slice (some ad134) l0_2.length c0_2, .int .i64 a0_3, .int .u32 a0_4] 25 (0, 0))) ∧ (w'.heap[gb126]? = some (.cells #[.int .i64 a1_0, .int .i64 a1_1, .slice (some ad136) l1_2.length c1_2, .int .i64 a1_3, .int .u32 a1_4] 25 (0, 0))) ∧ (w'.heap[gb128]? = some (u129000)) ∧ (w'.heap[gb133]? = some (.cells #[.int .i64 ((Ze x8_1 0).f0), .int .i64 ((Ze x8_1 0).f1)] 36 (0, 0))) ∧ (w'.heap[gb138]? = some (.cells #[.int .i64 (rd (Zd l0_2 ((Ze x8_1 0).f0)) x59_2), .int .i64 (rd (Zd l1_2 ((Ze x8_1 0).f1)) x59_2)] 36 (0, 0))) ∧ (Below w.heap.size w w') ∧ (Below w77.heap.size w77 w') ∧ (∀ k_, (s_.1 : Value).ownBlock = some k_ → w77.heap.size ≤ k_)) ?_ ?_
     rotate_left
     ·intro hCont
      refine two_ (i := 5) (j := 7) (Ni := some 94) (Nj := some 96) #[true, true, true, true, true, true, true, false, false, false] #[true, true, true, true, true, false, true, true, false, false] rfl rfl rfl rfl (two_of HT_.out (by kernel_rfl)) (by decide) (by decide) (fun K hK => ?_) (fun K hK => ?_)
      ·skip
       refine goes_ Try.func9 (by kernel_rfl) rfl #[.slice Ao75 y75.length co75] (by rfl) rfl rfl (by (try simp only [List.map_toArray, List.map_cons, List.map_nil]); first | done | rfl | (simp only [List.length_drop, List.length_take]; rfl)) ?_
       with_reducible refine (slices_Clone_Sint_int.calls _ _ y75 t139 _ ?side1 ?side2 A59.out).mono ?_
       (case side1 => repeat (first | exact (Kd.R_reads' HO_129000.out).2.2 | (with_reducible refine Kd.C_alloc ?_ _) | (with_reducible refine Kd.C_drewN ?_ _) | (with_reducible refine Kd.C_drew ?_)))
       (case side2 => exact (Kd.R_reads' HO_129000.out).2.1)
       rintro e w78 ⟨v140, rfl, ho0, hb⟩
       refine ⟨_, rfl, ?_⟩
       (have GV : Za (∀ k_, (v140 : Value).ownBlock = some k_ → w77.heap.size ≤ k_) := ⟨fun k_ hk_ => Nat.le_trans BE.out.size (Kd.R_base ho0 k_ hk_)⟩); (have BE2 := Za.mk (Zm BE.out hb)); (clear BE); (have BE := BE2); (clear BE2); (replace HO_8 := Za.mk (Kd.Q_below (by (with_reducible repeat (first | apply Kd.Q_alloc | apply Kd.Q_drewN | apply Kd.Q_drew)); exact HO_8.out) hb)); (have HO141 := Za.mk (Kd.R_lower (Kd.R_new' ho0 (Kd.R_lt (by (with_reducible repeat (first | apply Kd.R_alloc | apply Kd.R_drewN | apply Kd.R_drew)); exact HO_129000.out))) (Zk (by repeat (first | (with_reducible first | exact HB.out | apply zc1 | apply zc2 | apply zc3 | refine zc4 ?_ (by assumption)) | exact HB.out))))); (replace HO_129000 := Za.mk (Kd.R_elder' (by (with_reducible repeat (first | apply Kd.R_alloc | apply Kd.R_drewN | apply Kd.R_drew)); exact HO_129000.out) (Kd.R_base ho0) hb)); (replace BK125 := Za.mk (Zi (g := gb125) (by (with_reducible repeat (first | apply zb3 | apply zb2 | apply zb1)); exact BK125.out) hb)); (replace BK126 := Za.mk (Zi (g := gb126) (by (with_reducible repeat (first | apply zb3 | apply zb2 | apply zb1)); exact BK126.out) hb)); (replace BK128 := Za.mk (Zi (g := gb128) (o := u129000) (by (with_reducible repeat (first | apply zb3 | apply zb2 | apply zb1)); exact BK128.out) hb)); (replace BK133 := Za.mk (Zi (g := gb133) (by (with_reducible repeat (first | apply zb3 | apply zb2 | apply zb1)); exact BK133.out) hb)); (replace BK138 := Za.mk (Zi (g := gb138) (by (with_reducible repeat (first | apply zb3 | apply zb2 | apply zb1)); exact BK138.out) hb))
       (replace HB := Za.mk (Zm (by repeat (first | (with_reducible first | exact HB.out | apply zc1 | apply zc2 | apply zc3 | refine zc4 ?_ (by assumption)) | exact HB.out)) hb)); ((try clear hb)); ((try clear hb2)); ((try clear hk)); ((try clear hi)); ((try clear ho0))
       refine hK.out _ _ ⟨(Zb BK138.out 0).trans rfl, (Zb BK138.out 1).trans rfl, (Zb BK133.out 0).trans rfl, (Zb BK133.out 1).trans rfl, (HL75.out _ gb128 37 Try.underlying37 BK128.out).1⟩ (fun hHeld => ?_)
       clear hK K
       refine norm_ (a' := ?_) ?_ ?_
       rotate_left
       ·show Act.put _ (some 94) _ = _
        simp only [Act.put, List.setIfInBounds_toArray, List.set_cons_zero, List.set_cons_succ, Zg, Zf]
        rfl
       refine one_ (i := 7) (N := some 96) #[true, true, true, true, true, true, true, true, false, false] rfl rfl (one_of HT_.out (by kernel_rfl)) (by decide) (fun K hK => ?_)
       refine Kd.R_lit_step (Kd.int .i64) _ 3 ?hg (N := 96) ?hd (xs := ([x59_2] : List Int)) (inner := [.int .i64 x59_2]) (ok := fun _ => True) (okp := fun _ => True) ?hr ?hp (fun _ hk => hk) trivial (Below.refl _ _) (Nat.le_refl _) (by simp) ?_; (case hd => rfl); (case hg => rfl); (case hr => first | (go_simp; done) | (go_simp; rfl)); (case hp => exact (Reps.one (show Kd.M (Kd.int .i64) _ _ _ x59_2 [.int .i64 x59_2] from rfl) (Reps.none _ _)))
       intro v143 w79 ho80 hb hg_ hnew_
       (have BE2 := Za.mk (Zm BE.out hb)); (clear BE); (have BE := BE2); (clear BE2); (clear hg_ hnew_)
       (first | rw [← Ny142.out] at ho80 | (simp only [Int.reduceToNat] at ho80; rw [← Ny142.out] at ho80))
       (replace HO_8 := Za.mk (Kd.Q_below (by (with_reducible repeat (first | apply Kd.Q_alloc | apply Kd.Q_drewN | apply Kd.Q_drew)); exact HO_8.out) hb)); (have HO144 := Za.mk (Kd.R_lower (Kd.R_new' (Kd.R_new' ho80 (Kd.R_lt (by (with_reducible repeat (first | apply Kd.R_alloc | apply Kd.R_drewN | apply Kd.R_drew)); exact HO_129000.out))) (Kd.R_lt (by (with_reducible repeat (first | apply Kd.R_alloc | apply Kd.R_drewN | apply Kd.R_drew)); exact HO141.out))) (Zk (by repeat (first | (with_reducible first | exact HB.out | apply zc1 | apply zc2 | apply zc3 | refine zc4 ?_ (by assumption)) | exact HB.out))))); (replace HO_129000 := Za.mk (Kd.R_elder' (by (with_reducible repeat (first | apply Kd.R_alloc | apply Kd.R_drewN | apply Kd.R_drew)); exact HO_129000.out) (Kd.R_base ho80) hb)); (replace HO141 := Za.mk (Kd.R_elder' (by (with_reducible repeat (first | apply Kd.R_alloc | apply Kd.R_drewN | apply Kd.R_drew)); exact HO141.out) (Kd.R_base ho80) hb)); (replace BK125 := Za.mk (Zi (g := gb125) (by (with_reducible repeat (first | apply zb3 | apply zb2 | apply zb1)); exact BK125.out) hb)); (replace BK126 := Za.mk (Zi (g := gb126) (by (with_reducible repeat (first | apply zb3 | apply zb2 | apply zb1)); exact BK126.out) hb)); (replace BK128 := Za.mk (Zi (g := gb128) (o := u129000) (by (with_reducible repeat (first | apply zb3 | apply zb2 | apply zb1)); exact BK128.out) hb)); (replace BK133 := Za.mk (Zi (g := gb133) (by (with_reducible repeat (first | apply zb3 | apply zb2 | apply zb1)); exact BK133.out) hb))
       (replace BK138 := Za.mk (Zi (g := gb138) (by (with_reducible repeat (first | apply zb3 | apply zb2 | apply zb1)); exact BK138.out) hb)); (replace HB := Za.mk (Zm (by repeat (first | (with_reducible first | exact HB.out | apply zc1 | apply zc2 | apply zc3 | refine zc4 ?_ (by assumption)) | exact HB.out)) hb)); (clear hb ho80)
       refine hK.out _ _ ⟨(Zb BK138.out 0).trans rfl, (Zb BK138.out 1).trans rfl, (Zb BK133.out 0).trans rfl, (Zb BK133.out 1).trans rfl, (HL75.out _ gb128 37 Try.underlying37 BK128.out).1⟩ (fun hHeld => ?_)
       clear hK K
       refine norm_ (a' := ?_) ?_ ?_
       rotate_left
       ·show Act.put _ (some 96) _ = _
        simp only [Act.put, List.setIfInBounds_toArray, List.set_cons_zero, List.set_cons_succ, Zg, Zf]
        rfl
       exact norm_ (by simp only [putAll, Act.put, List.setIfInBounds_toArray, List.set_cons_zero, List.set_cons_succ]) (hCont (v140, v143) _ ⟨hHeld, (by (with_reducible repeat (first | apply Kd.R_alloc | apply Kd.R_drewN | apply Kd.R_drew)); exact Kd.R_mono HO141.out (fun _ hk => ⟨hk.2, hk.1.2⟩)), (by (with_reducible repeat (first | apply Kd.R_alloc | apply Kd.R_drewN | apply Kd.R_drew)); exact Kd.R_mono HO144.out (fun _ hk => ⟨hk.2, hk.1.2⟩)), (by (with_reducible repeat (first | apply Kd.R_alloc | apply Kd.R_drewN | apply Kd.R_drew)); exact Kd.R_mono HO_129000.out (fun _ hk => ⟨hk.1.2, hk.2⟩)), (by (with_reducible repeat (first | apply Kd.Q_alloc | apply Kd.Q_drewN | apply Kd.Q_drew)); exact HO_8.out), (by (with_reducible repeat (first | apply zb3 | apply zb2 | apply zb1)); exact BK125.out), (by (with_reducible repeat (first | apply zb3 | apply zb2 | apply zb1)); exact BK126.out), (by (with_reducible repeat (first | apply zb3 | apply zb2 | apply zb1)); exact BK128.out), (by (with_reducible repeat (first | apply zb3 | apply zb2 | apply zb1)); exact BK133.out), (by (with_reducible repeat (first | apply zb3 | apply zb2 | apply zb1)); exact BK138.out), (by repeat (first | (with_reducible first | exact HB.out | apply zc1 | apply zc2 | apply zc3 | refine zc4 ?_ (by assumption)) | exact HB.out)), BE.out, GV.out⟩)
      skip
      refine Kd.R_lit_step (Kd.int .i64) _ 3 ?hg (N := 96) ?hd (xs := ([x59_2] : List Int)) (inner := [.int .i64 x59_2]) (ok := fun _ => True) (okp := fun _ => True) ?hr ?hp (fun _ hk => hk) trivial (Below.refl _ _) (Nat.le_refl _) (by simp) ?_; (case hd => rfl); (case hg => rfl); (case hr => first | (go_simp; done) | (go_simp; rfl)); (case hp => exact (Reps.one (show Kd.M (Kd.int .i64) _ _ _ x59_2 [.int .i64 x59_2] from rfl) (Reps.none _ _)))
      intro v143 w78 ho79 hb hg_ hnew_
      (have BE2 := Za.mk (Zm BE.out hb)); (clear BE); (have BE := BE2); (clear BE2); (clear hg_ hnew_)
      (first | rw [← Ny142.out] at ho79 | (simp only [Int.reduceToNat] at ho79; rw [← Ny142.out] at ho79))
      (replace HO_8 := Za.mk (Kd.Q_below (by (with_reducible repeat (first | apply Kd.Q_alloc | apply Kd.Q_drewN | apply Kd.Q_drew)); exact HO_8.out) hb)); (have HO144 := Za.mk (Kd.R_lower (Kd.R_new' ho79 (Kd.R_lt (by (with_reducible repeat (first | apply Kd.R_alloc | apply Kd.R_drewN | apply Kd.R_drew)); exact HO_129000.out))) (Zk (by repeat (first | (with_reducible first | exact HB.out | apply zc1 | apply zc2 | apply zc3 | refine zc4 ?_ (by assumption)) | exact HB.out))))); (replace HO_129000 := Za.mk (Kd.R_elder' (by (with_reducible repeat (first | apply Kd.R_alloc | apply Kd.R_drewN | apply Kd.R_drew)); exact HO_129000.out) (Kd.R_base ho79) hb)); (replace BK125 := Za.mk (Zi (g := gb125) (by (with_reducible repeat (first | apply zb3 | apply zb2 | apply zb1)); exact BK125.out) hb)); (replace BK126 := Za.mk (Zi (g := gb126) (by (with_reducible repeat (first | apply zb3 | apply zb2 | apply zb1)); exact BK126.out) hb)); (replace BK128 := Za.mk (Zi (g := gb128) (o := u129000) (by (with_reducible repeat (first | apply zb3 | apply zb2 | apply zb1)); exact BK128.out) hb)); (replace BK133 := Za.mk (Zi (g := gb133) (by (with_reducible repeat (first | apply zb3 | apply zb2 | apply zb1)); exact BK133.out) hb)); (replace BK138 := Za.mk (Zi (g := gb138) (by (with_reducible repeat (first | apply zb3 | apply zb2 | apply zb1)); exact BK138.out) hb)); (replace HB := Za.mk (Zm (by repeat (first | (with_reducible first | exact HB.out | apply zc1 | apply zc2 | apply zc3 | refine zc4 ?_ (by assumption)) | exact HB.out)) hb))
      clear hb ho79
      refine hK.out _ _ ⟨(Zb BK138.out 0).trans rfl, (Zb BK138.out 1).trans rfl, (Zb BK133.out 0).trans rfl, (Zb BK133.out 1).trans rfl, (HL75.out _ gb128 37 Try.underlying37 BK128.out).1⟩ (fun hHeld => ?_)
      clear hK K
      refine norm_ (a' := ?_) ?_ ?_
      rotate_left
      ·show Act.put _ (some 96) _ = _
       simp only [Act.put, List.setIfInBounds_toArray, List.set_cons_zero, List.set_cons_succ, Zg, Zf]
       rfl
      refine one_ (i := 5) (N := some 94) #[true, true, true, true, true, true, true, true, false, false] rfl rfl (one_of HT_.out (by kernel_rfl)) (by decide) (fun K hK => ?_)
      refine goes_ Try.func9 (by kernel_rfl) rfl #[.slice Ao75 y75.length co75] (by rfl) rfl rfl (by (try simp only [List.map_toArray, List.map_cons, List.map_nil]); first | done | rfl | (simp only [List.length_drop, List.length_take]; rfl)) ?_
      with_reducible refine (slices_Clone_Sint_int.calls _ _ y75 t139 _ ?side1 ?side2 A59.out).mono ?_
      (case side1 => repeat (first | exact (Kd.R_reads' HO_129000.out).2.2 | (with_reducible refine Kd.C_alloc ?_ _) | (with_reducible refine Kd.C_drewN ?_ _) | (with_reducible refine Kd.C_drew ?_)))
      (case side2 => exact (Kd.R_reads' HO_129000.out).2.1)
      rintro e w80 ⟨v140, rfl, ho0, hb⟩
      refine ⟨_, rfl, ?_⟩
      (have GV : Za (∀ k_, (v140 : Value).ownBlock = some k_ → w77.heap.size ≤ k_) := ⟨fun k_ hk_ => Nat.le_trans BE.out.size (Kd.R_base ho0 k_ hk_)⟩); (have BE2 := Za.mk (Zm BE.out hb)); (clear BE); (have BE := BE2); (clear BE2); (replace HO_8 := Za.mk (Kd.Q_below (by (with_reducible repeat (first | apply Kd.Q_alloc | apply Kd.Q_drewN | apply Kd.Q_drew)); exact HO_8.out) hb)); (have HO141 := Za.mk (Kd.R_lower (Kd.R_new' (Kd.R_new' ho0 (Kd.R_lt (by (with_reducible repeat (first | apply Kd.R_alloc | apply Kd.R_drewN | apply Kd.R_drew)); exact HO_129000.out))) (Kd.R_lt (by (with_reducible repeat (first | apply Kd.R_alloc | apply Kd.R_drewN | apply Kd.R_drew)); exact HO144.out))) (Zk (by repeat (first | (with_reducible first | exact HB.out | apply zc1 | apply zc2 | apply zc3 | refine zc4 ?_ (by assumption)) | exact HB.out))))); (replace HO_129000 := Za.mk (Kd.R_elder' (by (with_reducible repeat (first | apply Kd.R_alloc | apply Kd.R_drewN | apply Kd.R_drew)); exact HO_129000.out) (Kd.R_base ho0) hb)); (replace HO144 := Za.mk (Kd.R_elder' (by (with_reducible repeat (first | apply Kd.R_alloc | apply Kd.R_drewN | apply Kd.R_drew)); exact HO144.out) (Kd.R_base ho0) hb)); (replace BK125 := Za.mk (Zi (g := gb125) (by (with_reducible repeat (first | apply zb3 | apply zb2 | apply zb1)); exact BK125.out) hb)); (replace BK126 := Za.mk (Zi (g := gb126) (by (with_reducible repeat (first | apply zb3 | apply zb2 | apply zb1)); exact BK126.out) hb)); (replace BK128 := Za.mk (Zi (g := gb128) (o := u129000) (by (with_reducible repeat (first | apply zb3 | apply zb2 | apply zb1)); exact BK128.out) hb))
      (replace BK133 := Za.mk (Zi (g := gb133) (by (with_reducible repeat (first | apply zb3 | apply zb2 | apply zb1)); exact BK133.out) hb)); (replace BK138 := Za.mk (Zi (g := gb138) (by (with_reducible repeat (first | apply zb3 | apply zb2 | apply zb1)); exact BK138.out) hb)); (replace HB := Za.mk (Zm (by repeat (first | (with_reducible first | exact HB.out | apply zc1 | apply zc2 | apply zc3 | refine zc4 ?_ (by assumption)) | exact HB.out)) hb)); ((try clear hb)); ((try clear hb2)); ((try clear hk)); ((try clear hi)); ((try clear ho0))
      refine hK.out _ _ ⟨(Zb BK138.out 0).trans rfl, (Zb BK138.out 1).trans rfl, (Zb BK133.out 0).trans rfl, (Zb BK133.out 1).trans rfl, (HL75.out _ gb128 37 Try.underlying37 BK128.out).1⟩ (fun hHeld => ?_)
      clear hK K
      refine norm_ (a' := ?_) ?_ ?_
      rotate_left
      ·show Act.put _ (some 94) _ = _
       simp only [Act.put, List.setIfInBounds_toArray, List.set_cons_zero, List.set_cons_succ, Zg, Zf]
       rfl
      exact norm_ (by simp only [putAll, Act.put, List.setIfInBounds_toArray, List.set_cons_zero, List.set_cons_succ]) (hCont (v140, v143) _ ⟨hHeld, (by (with_reducible repeat (first | apply Kd.R_alloc | apply Kd.R_drewN | apply Kd.R_drew)); exact Kd.R_mono HO141.out (fun _ hk => ⟨hk.2, hk.1.2⟩)), (by (with_reducible repeat (first | apply Kd.R_alloc | apply Kd.R_drewN | apply Kd.R_drew)); exact Kd.R_mono HO144.out (fun _ hk => ⟨hk.2, hk.1.2⟩)), (by (with_reducible repeat (first | apply Kd.R_alloc | apply Kd.R_drewN | apply Kd.R_drew)); exact Kd.R_mono HO_129000.out (fun _ hk => ⟨hk.2, hk.1.2⟩)), (by (with_reducible repeat (first | apply Kd.Q_alloc | apply Kd.Q_drewN | apply Kd.Q_drew)); exact HO_8.out), (by (with_reducible repeat (first | apply zb3 | apply zb2 | apply zb1)); exact BK125.out), (by (with_reducible repeat (first | apply zb3 | apply zb2 | apply zb1)); exact BK126.out), (by (with_reducible repeat (first | apply zb3 | apply zb2 | apply zb1)); exact BK128.out), (by (with_reducible repeat (first | apply zb3 | apply zb2 | apply zb1)); exact BK133.out), (by (with_reducible repeat (first | apply zb3 | apply zb2 | apply zb1)); exact BK138.out), (by repeat (first | (with_reducible first | exact HB.out | apply zc1 | apply zc2 | apply zc3 | refine zc4 ?_ (by assumption)) | exact HB.out)), BE.out, GV.out⟩)
     rintro ⟨v140, v143⟩ w81 ⟨hS_, h0_, h1_, h2_, h3_, h4_, h5_, h6_, h7_, h8_, h9_, h10_, h11_⟩
     (clear BE); (have BE := Za.mk h10_); (have GV := Za.mk h11_); (clear h10_ h11_); (have n0_ : Za (Kd.R (Kd.int .i64) 3 w81 w.heap.size (fun k_ => some k_ ≠ (v143 : Value).ownBlock ∧ some k_ ≠ (.slice Ao75 y75.length co75 : Value).ownBlock) v140 t139) := ⟨h0_⟩); (have n1_ : Za (Kd.R (Kd.int .i64) 3 w81 w.heap.size (fun k_ => some k_ ≠ (v140 : Value).ownBlock ∧ some k_ ≠ (.slice Ao75 y75.length co75 : Value).ownBlock) v143 y142) := ⟨h1_⟩); (have n2_ : Za (Kd.R (Kd.int .i64) 3 w81 w.heap.size (fun k_ => some k_ ≠ (v140 : Value).ownBlock ∧ some k_ ≠ (v143 : Value).ownBlock) (.slice Ao75 y75.length co75) y75) := ⟨h2_⟩); (have n3_ : Za (Kd.Q k36 36 w81 w.heap.size (fun k_ => k_ ≠ gb133 ∧ k_ ≠ gb138) u8 x8_2) := ⟨h3_⟩); (have n4_ : Za (w81.heap[gb125]? = some (.cells #[.int .i64 a0_0, .int .i64 a0_1, .slice (some ad134) l0_2.length c0_2, .int .i64 a0_3, .int .u32 a0_4] 25 (0, 0))) := ⟨h4_⟩); (have n5_ : Za (w81.heap[gb126]? = some (.cells #[.int .i64 a1_0, .int .i64 a1_1, .slice (some ad136) l1_2.length c1_2, .int .i64 a1_3, .int .u32 a1_4] 25 (0, 0))) := ⟨h5_⟩); (have n6_ : Za (w81.heap[gb128]? = some (u129000)) := ⟨h6_⟩); (have n7_ : Za (w81.heap[gb133]? = some (.cells #[.int .i64 ((Ze x8_1 0).f0), .int .i64 ((Ze x8_1 0).f1)] 36 (0, 0))) := ⟨h7_⟩); (have n8_ : Za (w81.heap[gb138]? = some (.cells #[.int .i64 (rd (Zd l0_2 ((Ze x8_1 0).f0)) x59_2), .int .i64 (rd (Zd l1_2 ((Ze x8_1 0).f1)) x59_2)] 36 (0, 0))) := ⟨h8_⟩); (have n9_ : Za (Below w.heap.size w w81) := ⟨h9_⟩)
     (clear HO_8); (clear HO_129000); (clear BK125); (clear BK126); (clear BK128); (clear BK133); (clear BK138); (clear HB); (clear h0_ h1_ h2_ h3_ h4_ h5_ h6_ h7_ h8_ h9_); (have HO141 := n0_); (have HO144 := n1_); (have HO_129000 := n2_); (have HO_8 := n3_); (have BK125 := n4_); (have BK126 := n5_); (have BK128 := n6_); (have BK133 := n7_); (have BK138 := n8_); (have HB := n9_); (clear n0_ n1_ n2_ n3_ n4_ n5_ n6_ n7_ n8_ n9_); (have hHeld : w81.cell? ⟨gb138, 0, none⟩ = some (.int .i64 (rd (Zd l0_2 ((Ze x8_1 0).f0)) x59_2)) ∧ w81.cell? ⟨gb138, 1, none⟩ = some (.int .i64 (rd (Zd l1_2 ((Ze x8_1 0).f1)) x59_2)) ∧ w81.cell? ⟨gb133, 0, none⟩ = some (.int .i64 ((Ze x8_1 0).f0)) ∧ w81.cell? ⟨gb133, 1, none⟩ = some (.int .i64 ((Ze x8_1 0).f1)) ∧ (Instr.lookup 37 (.map (some gb128)) (.agg #[.int .i64 ((Ze x8_1 0).f0), .int .i64 ((Ze x8_1 0).f1)]) false).run Try.prog w81 = .ok (.slice Ao75 y75.length co75) w81 := hS_); (obtain ⟨Ao83, co83, eo83⟩ := Kd.R_slice HO144.out)
     (first | subst eo83 | (injection eo83 with f1_ f2_ f3_; have f4_ := f1_.symm; have f5_ := f3_.symm; clear f1_ f2_ f3_; subst f4_; subst f5_))
     refine norm_ (a' := ?_) ?_ ?_
     rotate_left
     ·simp only [putAll, Act.put, List.setIfInBounds_toArray, List.set_cons_zero, List.set_cons_succ]
      rfl
     refine one_ (i := 8) (N := some 97) #[true, true, true, true, true, true, true, true, true, false] rfl rfl (one_of HT_.out (by kernel_rfl)) (by decide) (fun K hK => ?_)
     refine Kd.R_append_rows_step (Kd.int .i64) (w0 := w) w.heap.size (by rfl) (.tmp 94) (.tmp 96) 26 3 (.int .i64 0) 8 rfl Try.underlying26 info3 rfl (by decide) (by omega) v140 t139 y142 _ _ _ (fun k_ => some k_ ≠ (.slice Ao75 y75.length co75 : Value).ownBlock ∧ some k_ ≠ (.slice Ao83 y142.length co83 : Value).ownBlock) (fun _ => False) rfl rfl ?aO ?aR (fun _ _ h => h) (fun _ h => h.elim) ?aF ?aB ?aS ?aL ?_
     (case aR => repeat (first | exact (Kd.R_reads' HO144.out).2.2 | (with_reducible refine Kd.C_alloc ?_ _) | (with_reducible refine Kd.C_drewN ?_ _) | (with_reducible refine Kd.C_drew ?_)))
     (case aB => exact (by repeat (first | (with_reducible first | exact HB.out | apply zc1 | apply zc2 | apply zc3 | refine zc4 ?_ (by assumption)) | exact HB.out)))
     (case aF => exact (fun k_ hk => ⟨Kd.fresh' (Kd.R_lt (by (with_reducible repeat (first | apply Kd.R_alloc | apply Kd.R_drewN | apply Kd.R_drew)); exact HO_129000.out)) k_ hk, Kd.fresh' (Kd.R_lt (by (with_reducible repeat (first | apply Kd.R_alloc | apply Kd.R_drewN | apply Kd.R_drew)); exact HO144.out)) k_ hk⟩))
     (case aO => exact (by (with_reducible repeat (first | apply Kd.R_alloc | apply Kd.R_drewN | apply Kd.R_drew)); exact Kd.R_mono HO141.out (fun _ hk => ⟨hk.2, hk.1⟩)))
     (case aS => exact (Zk (by repeat (first | (with_reducible first | exact HB.out | apply zc1 | apply zc2 | apply zc3 | refine zc4 ?_ (by assumption)) | exact HB.out))))
     (case aL => have := LMc60.out; omega)
     intro v146 w82 ho hb hg hat
     (have BE2 := Za.mk (BE.out.grown hg BE.out.size (fun j_ hj_ => GV.out j_ hj_))); (clear BE); (have BE := BE2); (clear BE2); (rw [← Ny145.out] at ho); (replace HO_8 := Za.mk (Kd.Q_over' (by (with_reducible repeat (first | apply Kd.Q_alloc | apply Kd.Q_drewN | apply Kd.Q_drew)); exact HO_8.out) (Kd.R_typed (by (with_reducible repeat (first | apply Kd.R_alloc | apply Kd.R_drewN | apply Kd.R_drew)); exact HO141.out)) (by decide) hg)); (replace HO_129000 := Za.mk (Kd.R_after (ok := (fun k_ => some k_ ≠ (.slice Ao83 y142.length co83 : Value).ownBlock)) (by (with_reducible repeat (first | apply Kd.R_alloc | apply Kd.R_drewN | apply Kd.R_drew)); exact Kd.R_mono HO_129000.out (fun _ hk => ⟨hk.2, hk.1⟩)) hg hat)); (replace BK125 := Za.mk (Zf1 (g := gb125) (by (with_reducible repeat (first | apply zb3 | apply zb2 | apply zb1)); exact BK125.out) hg (Kd.R_ne HO141.out BK125.out (by decide)))); (replace BK126 := Za.mk (Zf1 (g := gb126) (by (with_reducible repeat (first | apply zb3 | apply zb2 | apply zb1)); exact BK126.out) hg (Kd.R_ne HO141.out BK126.out (by decide)))); (replace BK128 := Za.mk (Zf1 (g := gb128) (o := u129000) (by (with_reducible repeat (first | apply zb3 | apply zb2 | apply zb1)); exact BK128.out) hg (fun e_ => by have h1_ := GV.out gb128 e_.symm; have h2_ := BM.out; omega))); (replace BK133 := Za.mk (Zf1 (g := gb133) (by (with_reducible repeat (first | apply zb3 | apply zb2 | apply zb1)); exact BK133.out) hg (Kd.R_ne HO141.out BK133.out (by decide)))); (replace BK138 := Za.mk (Zf1 (g := gb138) (by (with_reducible repeat (first | apply zb3 | apply zb2 | apply zb1)); exact BK138.out) hg (Kd.R_ne HO141.out BK138.out (by decide))))
     (replace HO144 := Za.mk (Kd.R_after (ok := (fun k_ => some k_ ≠ (.slice Ao75 y75.length co75 : Value).ownBlock)) (by (with_reducible repeat (first | apply Kd.R_alloc | apply Kd.R_drewN | apply Kd.R_drew)); exact Kd.R_mono HO144.out (fun _ hk => ⟨hk.2, hk.1⟩)) hg hat)); (replace HB := Za.mk (hb)); (have HO147 := Za.mk (ho)); (clear HO141); (clear ho hb hg hat); (obtain ⟨Ao84, co84, eo84⟩ := Kd.R_slice HO147.out)
     (first | subst eo84 | (injection eo84 with f1_ f2_ f3_; have f4_ := f1_.symm; have f5_ := f3_.symm; clear f1_ f2_ f3_; subst f4_; subst f5_))
     refine hK.out _ _ ⟨(Zb BK138.out 0).trans rfl, (Zb BK138.out 1).trans rfl, (Zb BK133.out 0).trans rfl, (Zb BK133.out 1).trans rfl, (HL75.out _ gb128 37 Try.underlying37 BK128.out).1⟩ (fun hHeld => ?_)
     clear hK K
     refine norm_ (a' := ?_) ?_ ?_
     rotate_left
     ·show Act.put _ (some 97) _ = _
      simp only [Act.put, List.setIfInBounds_toArray, List.set_cons_zero, List.set_cons_succ, Zg, Zf]
      rfl
     refine last_ (i := 9) (N := none) #[true, true, true, true, true, true, true, true, true, true] rfl rfl (one_of HT_.out (by kernel_rfl)) (by decide) (fun K hK => ?_)
     (obtain ⟨w85, om85, hrun85, hb85, hM85, hg85⟩ := MapE.store Try.underlying37 BK128.out (MapE.below HM.out BE.out) LMM.out WQ0.out WQ1.out (Kd.R_mono HO147.out (fun _ _ => trivial))); (obtain ⟨es85, cl85, eM85⟩ := HM.out.isMap); (have hrun86 : (Instr.mapUpdate 37 (.map (some gb128)) (.agg #[.int .i64 (rd (Zd l0_2 ((Ze x8_1 0).f0)) x59_2), .int .i64 (rd (Zd l1_2 ((Ze x8_1 0).f1)) x59_2)]) (.slice Ao84 y145.length co84)).run Try.prog w82 = .ok () w85 := hrun85); (clear hrun85)
     refine skip_ (w1 := w85) (by rfl) rfl ?_ ?_
     ·go_simp
     refine hK.out _ _ ?_
     clear hK K
     refine done_ (done_of HT_.out (by kernel_rfl)) ?_
     (replace HO_8 := Za.mk (Q_mapgrown HO_8.out hg85 (eM85 ▸ BK128.out))); (replace BK125 := Za.mk (Zf1 BK125.out hg85 (fun e => NB125_128.out (Option.some.inj e)))); (replace BK126 := Za.mk (Zf1 BK126.out hg85 (fun e => NB126_128.out (Option.some.inj e)))); (replace BK133 := Za.mk (Zf1 BK133.out hg85 (fun e => NB133_128.out (Option.some.inj e)))); (replace BK138 := Za.mk (Zf1 BK138.out hg85 (fun e => NB138_128.out (Option.some.inj e)))); (replace HB := Za.mk (HB.out.grown hg85 HB.out.size (fun j hj => by cases hj; exact GE128.out))); (replace BK128 := Za.mk hb85); (replace HO_129000 := Za.mk hM85); (clear HO144 HO147 HM BE GV BM hrun86 hb85 hM85 hg85 eM85 hHeld); (have hcz86_0 : w85.cell? ⟨gb138, 0, none⟩ = some (.int .i64 (rd (Zd l0_2 ((Ze x8_1 0).f0)) x59_2)) := (Zb BK138.out 0).trans rfl); (have hcz86_1 : w85.cell? ⟨gb138, 1, none⟩ = some (.int .i64 (rd (Zd l1_2 ((Ze x8_1 0).f1)) x59_2)) := (Zb BK138.out 1).trans rfl); (have hfz86_0 := Zc BK138.out 0); (have hfz86_1 := Zc BK138.out 1)
     try go_wp2_with (first | ((with_reducible refine gate_builtin (b := .append) (xs := #[.tmp 98, .tmp 100]) rfl ?_); at_builtin; refine Kd.Q_append k36 (w0 := w) w.heap.size rfl (.tmp 98) (.tmp 100) 38 36 (.agg #[(.int .i64 0), (.int .i64 0)]) 16 rfl Try.underlying38 info36 rfl (by decide) (by omega) u8 x8_2 (⟨rd (Zd l0_2 ((Ze x8_1 0).f0)) x59_2, rd (Zd l1_2 ((Ze x8_1 0).f1)) x59_2⟩ : S36) [.int .i64 (rd (Zd l0_2 ((Ze x8_1 0).f0)) x59_2), .int .i64 (rd (Zd l1_2 ((Ze x8_1 0).f1)) x59_2)] (fun k_ => k_ ≠ gb133 ∧ k_ ≠ gb138) (fun _ => False) rfl (by first | (go_simp; done) | (go_simp; rfl)) ?aP (fun _ hk => hk.elim) ?aF ?aO ?aB ?aS ?aL ?_; (case aP => exact k36_mkM _ _ _ (⟨rd (Zd l0_2 ((Ze x8_1 0).f0)) x59_2, rd (Zd l1_2 ((Ze x8_1 0).f1)) x59_2⟩ : S36)); (case aB => exact (by repeat (first | (with_reducible first | exact HB.out | apply zc1 | apply zc2 | apply zc3 | refine zc4 ?_ (by assumption)) | exact HB.out))); (case aF => exact (fun k_ hk => ⟨Kd.freshB (g := gb133) (o := .cells #[.int .i64 ((Ze x8_1 0).f0), .int .i64 ((Ze x8_1 0).f1)] 36 (0, 0)) (by (with_reducible repeat (first | apply zb3 | apply zb2 | apply zb1)); exact BK133.out) k_ hk, Kd.freshB (g := gb138) (o := .cells #[.int .i64 (rd (Zd l0_2 ((Ze x8_1 0).f0)) x59_2), .int .i64 (rd (Zd l1_2 ((Ze x8_1 0).f1)) x59_2)] 36 (0, 0)) (by (with_reducible repeat (first | apply zb3 | apply zb2 | apply zb1)); exact BK138.out) k_ hk⟩)); (case aO => exact (by (with_reducible repeat (first | apply Kd.Q_alloc | apply Kd.Q_drewN | apply Kd.Q_drew)); exact HO_8.out)); (case aS => exact (Zk (by repeat (first | (with_reducible first | exact HB.out | apply zc1 | apply zc2 | apply zc3 | refine zc4 ?_ (by assumption)) | exact HB.out)))); (case aL => have := LMc61.out; omega); intro v149 w87 ho hb hg hat; rw [← Ny148.out] at ho; replace BK125 := Za.mk (Zf1 BK125.out hg (Kd.Q_ne HO_8.out BK125.out (by decide))); replace BK126 := Za.mk (Zf1 BK126.out hg (Kd.Q_ne HO_8.out BK126.out (by decide))); replace BK128 := Za.mk (Zf1 BK128.out hg (Q_neM HO_8.out HO_129000.out BK128.out)); replace HO_129000 := Za.mk (MapE.grownT HO_129000.out hg (Kd.Q_typed HO_8.out) (by decide)); replace BK133 := Za.mk (Zf1 BK133.out hg (Kd.Q_away HO_8.out (fun _ hk => hk.1))); replace HB := Za.mk hb; have HO150 := Za.mk ho; clear BK138 HO_8; clear ho hb hg hat))
     (first | go_roundg k2 | (simp only [← hji24]; go_roundg k2) | (simp only [← hji22, ← hji24]; go_roundg k2))
     case measure => have := HK1.out; have := HK2.out; omega
     case rel => first | exact ⟨(y148), (wrap64 (x59_2 + 1)), ((((rd (Zd l0_2 ((Ze x8_1 0).f0)) x59_2), (rd (Zd l1_2 ((Ze x8_1 0).f1)) x59_2)), y145) :: x129000_2), (om85), (by first | rfl | (simp; done) | (simp [*]; done)), H', ⟨by have := HK1.out; have := HK2.out; omega⟩, ⟨by (with_reducible repeat (first | apply Kd.Q_alloc | apply Kd.Q_drewN | apply Kd.Q_drew)); exact Kd.Q_mono HO150.out (fun _ hk => hk.1)⟩, ⟨by (with_reducible repeat (first | apply MapE.alloc | apply MapE.drewN | apply MapE.drew)); exact HO_129000.out⟩, ⟨by (with_reducible repeat (first | apply zb3 | apply zb2 | apply zb1)); exact BK125.out⟩, ⟨by (with_reducible repeat (first | apply zb3 | apply zb2 | apply zb1)); exact BK126.out⟩, ⟨by (with_reducible repeat (first | apply zb3 | apply zb2 | apply zb1)); exact BK128.out⟩, ⟨by (with_reducible repeat (first | apply zb3 | apply zb2 | apply zb1)); exact BK133.out⟩, ⟨by repeat (first | (with_reducible first | exact HB.out | apply zc1 | apply zc2 | apply zc3) | exact HB.out)⟩⟩ | (subst hji24; subst hji22; exact ⟨(y148), (wrap64 (x59_2 + 1)), ((((rd (Zd l0_2 ((Ze x8_1 0).f0)) x59_2), (rd (Zd l1_2 ((Ze x8_1 0).f1)) x59_2)), y145) :: x129000_2), (om85), (by first | rfl | (simp; done) | (simp [*]; done)), H', ⟨by have := HK1.out; have := HK2.out; omega⟩, ⟨by (with_reducible repeat (first | apply Kd.Q_alloc | apply Kd.Q_drewN | apply Kd.Q_drew)); exact Kd.Q_mono HO150.out (fun _ hk => hk.1)⟩, ⟨by (with_reducible repeat (first | apply MapE.alloc | apply MapE.drewN | apply MapE.drew)); exact HO_129000.out⟩, ⟨by (with_reducible repeat (first | apply zb3 | apply zb2 | apply zb1)); exact BK125.out⟩, ⟨by (with_reducible repeat (first | apply zb3 | apply zb2 | apply zb1)); exact BK126.out⟩, ⟨by (with_reducible repeat (first | apply zb3 | apply zb2 | apply zb1)); exact BK128.out⟩, ⟨by (with_reducible repeat (first | apply zb3 | apply zb2 | apply zb1)); exact BK133.out⟩, ⟨by repeat (first | (with_reducible first | exact HB.out | apply zc1 | apply zc2 | apply zc3) | exact HB.out)⟩⟩)
end Go.Proofs.Ytdoenjnjpenboaa.PLeastAparts
