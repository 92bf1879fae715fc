import Derived.Test.YtnppgmbhdomelaaPTableTreesx0
import Derived.Test.YtnppgmbhdomelaaPTableTreesx3
import Derived.Test.YtnppgmbhdomelaaPTableTreesx5
import Derived.Maps.OwnSet
import Derived.DeepKeys4
namespace Go.Proofs.Ytnppgmbhdomelaa.PTableTrees
open Go.RowKit Go.Proofs.YtnppgmbhdomelaaW.PrintWords Go.Proofs.YtnppgmbhdomelaaW.PrintLast Go.Proofs.YtnppgmbhdomelaaW.PrintMore
set_option linter.unusedVariables false
set_option linter.unusedSimpArgs false
/-! ### a map from 4 numbers to a number -/
abbrev PM4 := List ((Int × Int × Int × Int) × Int)
def lkM4 : PM4 → (Int × Int × Int × Int) → Option Int
  | [], _ => none
  | (a, c) :: r, x => if a = x then some c else lkM4 r x
def keyLM4 (ka kb kc kd : Int) : Lit := .string (keyBytes [.int .i64 ka, .int .i64 kb, .int .i64 kc, .int .i64 kd])
def keyVM4 (ka kb kc kd : Int) : Value := .agg #[.int .i64 ka, .int .i64 kb, .int .i64 kc, .int .i64 kd]
theorem laidM4 : laidOutB Try.prog = true := by kernel_rfl
theorem rowKM4 : (57 : TypeId) < Try.prog.types.size := of_decide_eq_true (by kernel_rfl)
theorem wideKM4 : (match Try.prog.underlying 57 with | some (.array _ _) | some (.struct _) => true | _ => false) = true := by kernel_rfl
theorem cellsKM4 : Try.prog.cellsOf 57 = 4 := by kernel_rfl
theorem cells3M4 : Try.prog.cellsOf 3 = 1 := by kernel_rfl
theorem keyTM4 : Try.prog.keyType 57 = true := by kernel_rfl
theorem lawM4 : Maps.Keyed Try.prog 57 := Maps.Keyed.of_law (deep_law_laid laidM4 (m := 2) (by omega) rowKM4 (by kernel_rfl) wideKM4)
theorem zeroM4 (w : World) : (zeroValue 2).run Try.prog w = .ok (.int .i64 0) w := by kernel_rfl
theorem keyOfM4 {ka kb kc kd : Int} (hka : (Lit.int .i64 ka).wf = true) (hkb : (Lit.int .i64 kb).wf = true) (hkc : (Lit.int .i64 kc).wf = true) (hkd : (Lit.int .i64 kd).wf = true) : keyOf Try.prog 57 (keyVM4 ka kb kc kd) = some (keyLM4 ka kb kc kd) := by
  have h2 : (keyVM4 ka kb kc kd).formed Try.prog 57 = true := by simp [keyVM4, Value.formed, Try.underlying57, cellsKM4]
  obtain ⟨n, hn⟩ : ∃ n, Try.prog.types.size + 1 = n + 2 := ⟨Try.prog.types.size - 1, by have : (57 : Nat) < Try.prog.types.size := rowKM4; omega⟩
  have h3 : Try.prog.keyLits (n + 2) 57 [.int .i64 ka, .int .i64 kb, .int .i64 kc, .int .i64 kd] = some [.int .i64 ka, .int .i64 kb, .int .i64 kc, .int .i64 kd] := by
    simp [Program.keyLits, Try.underlying57, Try.underlying3, cellsKM4, cells3M4, show List.range 4 = [0, 1, 2, 3] from rfl, hka, hkb, hkc, hkd]
  unfold keyOf
  rw [Try.underlying57]
  simp only [keyTM4, h2, Bool.and_self, if_true]
  rw [hn]
  have h4 : (keyVM4 ka kb kc kd).cells.toList = [.int .i64 ka, .int .i64 kb, .int .i64 kc, .int .i64 kd] := rfl
  rw [h4, h3]
  rfl
theorem keyM4_inj {ka kb kc kd ka' kb' kc' kd' : Int} (hka : (Lit.int .i64 ka).wf = true) (hkb : (Lit.int .i64 kb).wf = true) (hkc : (Lit.int .i64 kc).wf = true) (hkd : (Lit.int .i64 kd).wf = true) (hka' : (Lit.int .i64 ka').wf = true) (hkb' : (Lit.int .i64 kb').wf = true) (hkc' : (Lit.int .i64 kc').wf = true) (hkd' : (Lit.int .i64 kd').wf = true) (h : keyLM4 ka kb kc kd = keyLM4 ka' kb' kc' kd') : (ka, kb, kc, kd) = (ka', kb', kc', kd') := by
  have h1 := keyOfM4 hka hkb hkc hkd
  rw [h] at h1
  have h2 := lawM4.inj h1 (keyOfM4 hka' hkb' hkc' hkd')
  simp only [keyVM4, Value.agg.injEq, Array.mk.injEq, List.cons.injEq, Value.int.injEq, true_and, and_true] at h2
  obtain ⟨eka, ekb, ekc, ekd⟩ := h2
  subst eka ekb ekc ekd
  rfl
theorem keyM4_lit (ka kb kc kd : Int) : WideAt.IsKeyLit (keyLM4 ka kb kc kd) := by trivial
def MapM4 (w : World) (b : Nat) (m : PM4) : Prop :=
  ∃ n D, w.ownsMap (H := Unit) Try.prog 57 (plainElem Try.prog 2) b n D ∧ n ≤ m.length ∧ ∀ ka kb kc kd, (Lit.int .i64 ka).wf = true → (Lit.int .i64 kb).wf = true → (Lit.int .i64 kc).wf = true → (Lit.int .i64 kd).wf = true → Maps.has D (keyLM4 ka kb kc kd) = (lkM4 m (ka, kb, kc, kd)).isSome ∧ D.atKey (keyLM4 ka kb kc kd) (.lit (.int .i64 0)) = .lit (.int .i64 ((lkM4 m (ka, kb, kc, kd)).getD 0))
section
variable {w w' : World} {b : Nat} {m : PM4}
theorem MapM4.kept {row : Option Nat} (h : MapM4 w b m) (hg : w.grownBy w' row) (hne : some b ≠ row) : MapM4 w' b m := by
  obtain ⟨n, D, h1, h2, h3⟩ := h
  exact ⟨n, D, h1.kept hg hne, h2, h3⟩
theorem MapM4.isMap (h : MapM4 w b m) : ∃ es cl, w.heap[b]? = some (.map es cl) := by
  obtain ⟨n, D, ⟨es, cl, h1, _⟩, _⟩ := h
  exact ⟨es, cl, h1⟩
theorem MapM4.made (w : World) : MapM4 (w.alloc (.map #[] 0)) w.heap.size [] := ⟨0, _, World.ownsMap_made _ _ _ _, Nat.le_refl _, fun _ _ _ _ _ _ _ _ => ⟨rfl, rfl⟩⟩
theorem MapM4.put {ka kb kc kd c : Int} {n : Nat} {D : DataW Unit} (hka : (Lit.int .i64 ka).wf = true) (hkb : (Lit.int .i64 kb).wf = true) (hkc : (Lit.int .i64 kc).wf = true) (hkd : (Lit.int .i64 kd).wf = true) (h1 : w'.ownsMap (H := Unit) Try.prog 57 (plainElem Try.prog 2) b (n + 1) (D.put (keyLM4 ka kb kc kd) (.lit (.int .i64 c)))) (hD : Maps.IsMap D) (h2 : n ≤ m.length)
    (h3 : ∀ ka kb kc kd, (Lit.int .i64 ka).wf = true → (Lit.int .i64 kb).wf = true → (Lit.int .i64 kc).wf = true → (Lit.int .i64 kd).wf = true → Maps.has D (keyLM4 ka kb kc kd) = (lkM4 m (ka, kb, kc, kd)).isSome ∧ D.atKey (keyLM4 ka kb kc kd) (.lit (.int .i64 0)) = .lit (.int .i64 ((lkM4 m (ka, kb, kc, kd)).getD 0))) : MapM4 w' b (((ka, kb, kc, kd), c) :: m) := by
  refine ⟨n + 1, _, h1, Nat.succ_le_succ h2, fun ka' kb' kc' kd' hka' hkb' hkc' hkd' => ?_⟩
  by_cases e : (ka, kb, kc, kd) = (ka', kb', kc', kd')
  · cases e
    rw [Maps.has_put_same hD (keyM4_lit _ _ _ _), Maps.atKey_put_same hD (keyM4_lit _ _ _ _)]
    simp only [lkM4, if_true, Option.isSome_some, Option.getD_some]
    first | trivial | exact ⟨trivial, trivial⟩ | exact ⟨rfl, rfl⟩
  · have hne : keyLM4 ka' kb' kc' kd' ≠ keyLM4 ka kb kc kd := fun q => e (keyM4_inj hka hkb hkc hkd hka' hkb' hkc' hkd' q.symm)
    rw [Maps.has_put_other hne, Maps.atKey_put_other hne]
    simp only [lkM4, if_neg e]
    exact h3 ka' kb' kc' kd' hka' hkb' hkc' hkd'
section
variable {ops : Array Oper} {rest : List Oper} {o : Oper} {a_ : Act} {Q : Exit → Act → World → Prop}
theorem mapM4_put (hgd : o.guard = none) (x y z : Operand) (hop : o.op = Op.mapUpdate 47 x y z ∨ o.op = Op.insert 47 x y z)
    (hm : a_.eval x = .map (some b)) (hM : MapM4 w b m) (hn : m.length < 1000000) (ka kb kc kd k : Int) (hx : a_.eval y = keyVM4 ka kb kc kd) (hv : a_.eval z = .int .i64 k) (hka : (Lit.int .i64 ka).wf = true) (hkb : (Lit.int .i64 kb).wf = true) (hkc : (Lit.int .i64 kc).wf = true) (hkd : (Lit.int .i64 kd).wf = true) (hk : (Lit.int .i64 k).wf = true)
    (h : ∀ w1, MapM4 w1 b (((ka, kb, kc, kd), k) :: m) → w.grownBy w1 (some b) → wpList Try.prog ops Q rest (a_.put o.dst undef) w1) : wpList Try.prog ops Q (o :: rest) a_ w := by
  obtain ⟨n, D, h1, h2, h3⟩ := hM
  refine wpList_plain hgd fun K' hK' => ?_
  obtain ⟨w', hrun, r1, r2⟩ := h1.update lawM4 Try.underlying47 (by unfold maxLen; omega) (keyOfM4 hka hkb hkc hkd) (plainElem_int Try.underlying2 hk)
  unfold Oper.wp
  rcases hop with hop | hop <;>
  · simp [execOp, hop, hm, hx, hv, hrun, Result.andThen]
    exact hK' _ _ (h w' (MapM4.put hka hkb hkc hkd r1 h1.isMap h2 h3) r2)
theorem mapM4_get (hgd : o.guard = none) (x y : Operand) (hop : o.op = Op.lookup 47 x y true)
    (hm : a_.eval x = .map (some b)) (hM : MapM4 w b m) (ka kb kc kd : Int) (hx : a_.eval y = keyVM4 ka kb kc kd) (hka : (Lit.int .i64 ka).wf = true) (hkb : (Lit.int .i64 kb).wf = true) (hkc : (Lit.int .i64 kc).wf = true) (hkd : (Lit.int .i64 kd).wf = true)
    (h : wpList Try.prog ops Q rest (a_.put o.dst (.tuple #[.int .i64 ((lkM4 m (ka, kb, kc, kd)).getD 0), .bool (lkM4 m (ka, kb, kc, kd)).isSome])) w) : wpList Try.prog ops Q (o :: rest) a_ w := by
  obtain ⟨n, D, h1, h2, h3⟩ := hM
  refine wpList_lookup_own_ok_int w hgd x y 47 hop 57 2 .i64 lawM4 Try.underlying47 Try.underlying2 (zeroM4 w) b n D hm h1 _ _ hx (keyOfM4 hka hkb hkc hkd) fun c hat hwc => ?_
  obtain ⟨g1, g2⟩ := h3 ka kb kc kd hka hkb hkc hkd
  rw [g2] at hat
  injection hat with hat
  injection hat with _ hat
  rw [g1, ← hat]
  exact h
end
theorem MapM4.run_get (hM : MapM4 w b m) {ka kb kc kd : Int} (hka : (Lit.int .i64 ka).wf = true) (hkb : (Lit.int .i64 kb).wf = true) (hkc : (Lit.int .i64 kc).wf = true) (hkd : (Lit.int .i64 kd).wf = true) : (Instr.lookup 47 (.map (some b)) (.agg #[.int .i64 ka, .int .i64 kb, .int .i64 kc, .int .i64 kd]) true).run Try.prog w = .ok (.tuple #[.int .i64 ((lkM4 m (ka, kb, kc, kd)).getD 0), .bool (lkM4 m (ka, kb, kc, kd)).isSome]) w := by
  obtain ⟨n, D, h1, h2, h3⟩ := hM
  obtain ⟨g1, g2⟩ := h3 ka kb kc kd hka hkb hkc hkd
  obtain ⟨v2, ps2, s1, s2⟩ := h1.look_ok lawM4 Try.underlying47 (zeroM4 w) (zd := .lit (.int .i64 0)) (zp := []) (plainElem_int Try.underlying2 (by decide)) (keyOfM4 hka hkb hkc hkd)
  obtain ⟨c, rfl, hc, hwc⟩ := plainElem_int_inv Try.underlying2 s2
  have e := congrArg Prod.fst hc
  simp only at e
  rw [g2] at e
  injection e with e
  injection e with _ e
  rw [g1, ← e] at s1
  exact s1
end
section
variable {w w' : World} {b : Nat} {m : PM4} {ops : Array Oper} {o : Oper} {a_ : Act} {Q : Exit → Act → World → Prop} {Kc : Act → World → Prop}
theorem mapM4_put_step (hw : Region.wanted o (yielded ops a_.tmps) = true) (x y z : Operand) (hop : o.op = Op.mapUpdate 47 x y z ∨ o.op = Op.insert 47 x y z)
    (hm : a_.eval x = .map (some b)) (hM : MapM4 w b m) (hn : m.length < 1000000) (ka kb kc kd k : Int) (hx : a_.eval y = keyVM4 ka kb kc kd) (hv : a_.eval z = .int .i64 k) (hka : (Lit.int .i64 ka).wf = true) (hkb : (Lit.int .i64 kb).wf = true) (hkc : (Lit.int .i64 kc).wf = true) (hkd : (Lit.int .i64 kd).wf = true) (hk : (Lit.int .i64 k).wf = true)
    (h : ∀ w1, MapM4 w1 b (((ka, kb, kc, kd), k) :: m) → w.grownBy w1 (some b) → Kc (a_.put o.dst undef) w1) :
    if Region.wanted o (yielded ops a_.tmps) = true then Oper.wp Try.prog o a_ w Kc Q else Kc (a_.put o.dst undef) w := by
  rw [if_pos hw]
  obtain ⟨n, D, h1, h2, h3⟩ := hM
  obtain ⟨w', hrun, r1, r2⟩ := h1.update lawM4 Try.underlying47 (by unfold maxLen; omega) (keyOfM4 hka hkb hkc hkd) (plainElem_int Try.underlying2 hk)
  unfold Oper.wp
  rcases hop with hop | hop <;>
  · simp [execOp, hop, hm, hx, hv, hrun, Result.andThen]
    exact h w' (MapM4.put hka hkb hkc hkd r1 h1.isMap h2 h3) r2
end
section
variable {w w' : World} {ops : Array Oper} {rest : List Oper} {o : Oper} {a_ : Act} {Q : Exit → Act → World → Prop}
theorem mapM4_make (hgd : o.guard = none) (hop : o.op = Op.makeMap 47 none)
    (h : ∀ g, g = w.heap.size → ∀ w1, MapM4 w1 g [] → Below w.heap.size w w1 → wpList Try.prog ops Q rest (a_.put o.dst (.map (some g))) w1) : wpList Try.prog ops Q (o :: rest) a_ w := by
  refine Kd.event_run hgd (v := .map (some w.heap.size)) (w1 := w.alloc (.map #[] 0)) ?_ (h _ rfl _ (MapM4.made w) (below_alloc (Below.refl _ _) _))
  simp [execOp, hop, run_makeMap, Result.andThen]
end
/-! ### a map from 3 numbers to a number -/
abbrev PM3 := List ((Int × Int × Int) × Int)
def lkM3 : PM3 → (Int × Int × Int) → Option Int
  | [], _ => none
  | (a, c) :: r, x => if a = x then some c else lkM3 r x
def keyLM3 (ka kb kc : Int) : Lit := .string (keyBytes [.int .i64 ka, .int .i64 kb, .int .i64 kc])
def keyVM3 (ka kb kc : Int) : Value := .agg #[.int .i64 ka, .int .i64 kb, .int .i64 kc]
theorem laidM3 : laidOutB Try.prog = true := by kernel_rfl
theorem rowKM3 : (43 : TypeId) < Try.prog.types.size := of_decide_eq_true (by kernel_rfl)
theorem wideKM3 : (match Try.prog.underlying 43 with | some (.array _ _) | some (.struct _) => true | _ => false) = true := by kernel_rfl
theorem cellsKM3 : Try.prog.cellsOf 43 = 3 := by kernel_rfl
theorem cells3M3 : Try.prog.cellsOf 3 = 1 := by kernel_rfl
theorem keyTM3 : Try.prog.keyType 43 = true := by kernel_rfl
theorem lawM3 : Maps.Keyed Try.prog 43 := Maps.Keyed.of_law (deep_law_laid laidM3 (m := 2) (by omega) rowKM3 (by kernel_rfl) wideKM3)
theorem zeroM3 (w : World) : (zeroValue 2).run Try.prog w = .ok (.int .i64 0) w := by kernel_rfl
theorem keyOfM3 {ka kb kc : Int} (hka : (Lit.int .i64 ka).wf = true) (hkb : (Lit.int .i64 kb).wf = true) (hkc : (Lit.int .i64 kc).wf = true) : keyOf Try.prog 43 (keyVM3 ka kb kc) = some (keyLM3 ka kb kc) := by
  have h2 : (keyVM3 ka kb kc).formed Try.prog 43 = true := by simp [keyVM3, Value.formed, Try.underlying43, cellsKM3]
  obtain ⟨n, hn⟩ : ∃ n, Try.prog.types.size + 1 = n + 2 := ⟨Try.prog.types.size - 1, by have : (43 : Nat) < Try.prog.types.size := rowKM3; omega⟩
  have h3 : Try.prog.keyLits (n + 2) 43 [.int .i64 ka, .int .i64 kb, .int .i64 kc] = some [.int .i64 ka, .int .i64 kb, .int .i64 kc] := by
    simp [Program.keyLits, Try.underlying43, Try.underlying3, cellsKM3, cells3M3, show List.range 3 = [0, 1, 2] from rfl, hka, hkb, hkc]
  unfold keyOf
  rw [Try.underlying43]
  simp only [keyTM3, h2, Bool.and_self, if_true]
  rw [hn]
  have h4 : (keyVM3 ka kb kc).cells.toList = [.int .i64 ka, .int .i64 kb, .int .i64 kc] := rfl
  rw [h4, h3]
  rfl
theorem keyM3_inj {ka kb kc ka' kb' kc' : Int} (hka : (Lit.int .i64 ka).wf = true) (hkb : (Lit.int .i64 kb).wf = true) (hkc : (Lit.int .i64 kc).wf = true) (hka' : (Lit.int .i64 ka').wf = true) (hkb' : (Lit.int .i64 kb').wf = true) (hkc' : (Lit.int .i64 kc').wf = true) (h : keyLM3 ka kb kc = keyLM3 ka' kb' kc') : (ka, kb, kc) = (ka', kb', kc') := by
  have h1 := keyOfM3 hka hkb hkc
  rw [h] at h1
  have h2 := lawM3.inj h1 (keyOfM3 hka' hkb' hkc')
  simp only [keyVM3, Value.agg.injEq, Array.mk.injEq, List.cons.injEq, Value.int.injEq, true_and, and_true] at h2
  obtain ⟨eka, ekb, ekc⟩ := h2
  subst eka ekb ekc
  rfl
theorem keyM3_lit (ka kb kc : Int) : WideAt.IsKeyLit (keyLM3 ka kb kc) := by trivial
def MapM3 (w : World) (b : Nat) (m : PM3) : Prop :=
  ∃ n D, w.ownsMap (H := Unit) Try.prog 43 (plainElem Try.prog 2) b n D ∧ n ≤ m.length ∧ ∀ ka kb kc, (Lit.int .i64 ka).wf = true → (Lit.int .i64 kb).wf = true → (Lit.int .i64 kc).wf = true → Maps.has D (keyLM3 ka kb kc) = (lkM3 m (ka, kb, kc)).isSome ∧ D.atKey (keyLM3 ka kb kc) (.lit (.int .i64 0)) = .lit (.int .i64 ((lkM3 m (ka, kb, kc)).getD 0))
section
variable {w w' : World} {b : Nat} {m : PM3}
theorem MapM3.kept {row : Option Nat} (h : MapM3 w b m) (hg : w.grownBy w' row) (hne : some b ≠ row) : MapM3 w' b m := by
  obtain ⟨n, D, h1, h2, h3⟩ := h
  exact ⟨n, D, h1.kept hg hne, h2, h3⟩
theorem MapM3.isMap (h : MapM3 w b m) : ∃ es cl, w.heap[b]? = some (.map es cl) := by
  obtain ⟨n, D, ⟨es, cl, h1, _⟩, _⟩ := h
  exact ⟨es, cl, h1⟩
theorem MapM3.made (w : World) : MapM3 (w.alloc (.map #[] 0)) w.heap.size [] := ⟨0, _, World.ownsMap_made _ _ _ _, Nat.le_refl _, fun _ _ _ _ _ _ => ⟨rfl, rfl⟩⟩
theorem MapM3.put {ka kb kc c : Int} {n : Nat} {D : DataW Unit} (hka : (Lit.int .i64 ka).wf = true) (hkb : (Lit.int .i64 kb).wf = true) (hkc : (Lit.int .i64 kc).wf = true) (h1 : w'.ownsMap (H := Unit) Try.prog 43 (plainElem Try.prog 2) b (n + 1) (D.put (keyLM3 ka kb kc) (.lit (.int .i64 c)))) (hD : Maps.IsMap D) (h2 : n ≤ m.length)
    (h3 : ∀ ka kb kc, (Lit.int .i64 ka).wf = true → (Lit.int .i64 kb).wf = true → (Lit.int .i64 kc).wf = true → Maps.has D (keyLM3 ka kb kc) = (lkM3 m (ka, kb, kc)).isSome ∧ D.atKey (keyLM3 ka kb kc) (.lit (.int .i64 0)) = .lit (.int .i64 ((lkM3 m (ka, kb, kc)).getD 0))) : MapM3 w' b (((ka, kb, kc), c) :: m) := by
  refine ⟨n + 1, _, h1, Nat.succ_le_succ h2, fun ka' kb' kc' hka' hkb' hkc' => ?_⟩
  by_cases e : (ka, kb, kc) = (ka', kb', kc')
  · cases e
    rw [Maps.has_put_same hD (keyM3_lit _ _ _), Maps.atKey_put_same hD (keyM3_lit _ _ _)]
    simp only [lkM3, if_true, Option.isSome_some, Option.getD_some]
    first | trivial | exact ⟨trivial, trivial⟩ | exact ⟨rfl, rfl⟩
  · have hne : keyLM3 ka' kb' kc' ≠ keyLM3 ka kb kc := fun q => e (keyM3_inj hka hkb hkc hka' hkb' hkc' q.symm)
    rw [Maps.has_put_other hne, Maps.atKey_put_other hne]
    simp only [lkM3, if_neg e]
    exact h3 ka' kb' kc' hka' hkb' hkc'
section
variable {ops : Array Oper} {rest : List Oper} {o : Oper} {a_ : Act} {Q : Exit → Act → World → Prop}
theorem mapM3_put (hgd : o.guard = none) (x y z : Operand) (hop : o.op = Op.mapUpdate 39 x y z ∨ o.op = Op.insert 39 x y z)
    (hm : a_.eval x = .map (some b)) (hM : MapM3 w b m) (hn : m.length < 1000000) (ka kb kc k : Int) (hx : a_.eval y = keyVM3 ka kb kc) (hv : a_.eval z = .int .i64 k) (hka : (Lit.int .i64 ka).wf = true) (hkb : (Lit.int .i64 kb).wf = true) (hkc : (Lit.int .i64 kc).wf = true) (hk : (Lit.int .i64 k).wf = true)
    (h : ∀ w1, MapM3 w1 b (((ka, kb, kc), k) :: m) → w.grownBy w1 (some b) → wpList Try.prog ops Q rest (a_.put o.dst undef) w1) : wpList Try.prog ops Q (o :: rest) a_ w := by
  obtain ⟨n, D, h1, h2, h3⟩ := hM
  refine wpList_plain hgd fun K' hK' => ?_
  obtain ⟨w', hrun, r1, r2⟩ := h1.update lawM3 Try.underlying39 (by unfold maxLen; omega) (keyOfM3 hka hkb hkc) (plainElem_int Try.underlying2 hk)
  unfold Oper.wp
  rcases hop with hop | hop <;>
  · simp [execOp, hop, hm, hx, hv, hrun, Result.andThen]
    exact hK' _ _ (h w' (MapM3.put hka hkb hkc r1 h1.isMap h2 h3) r2)
theorem mapM3_get (hgd : o.guard = none) (x y : Operand) (hop : o.op = Op.lookup 39 x y true)
    (hm : a_.eval x = .map (some b)) (hM : MapM3 w b m) (ka kb kc : Int) (hx : a_.eval y = keyVM3 ka kb kc) (hka : (Lit.int .i64 ka).wf = true) (hkb : (Lit.int .i64 kb).wf = true) (hkc : (Lit.int .i64 kc).wf = true)
    (h : wpList Try.prog ops Q rest (a_.put o.dst (.tuple #[.int .i64 ((lkM3 m (ka, kb, kc)).getD 0), .bool (lkM3 m (ka, kb, kc)).isSome])) w) : wpList Try.prog ops Q (o :: rest) a_ w := by
  obtain ⟨n, D, h1, h2, h3⟩ := hM
  refine wpList_lookup_own_ok_int w hgd x y 39 hop 43 2 .i64 lawM3 Try.underlying39 Try.underlying2 (zeroM3 w) b n D hm h1 _ _ hx (keyOfM3 hka hkb hkc) fun c hat hwc => ?_
  obtain ⟨g1, g2⟩ := h3 ka kb kc hka hkb hkc
  rw [g2] at hat
  injection hat with hat
  injection hat with _ hat
  rw [g1, ← hat]
  exact h
end
theorem MapM3.run_get (hM : MapM3 w b m) {ka kb kc : Int} (hka : (Lit.int .i64 ka).wf = true) (hkb : (Lit.int .i64 kb).wf = true) (hkc : (Lit.int .i64 kc).wf = true) : (Instr.lookup 39 (.map (some b)) (.agg #[.int .i64 ka, .int .i64 kb, .int .i64 kc]) true).run Try.prog w = .ok (.tuple #[.int .i64 ((lkM3 m (ka, kb, kc)).getD 0), .bool (lkM3 m (ka, kb, kc)).isSome]) w := by
  obtain ⟨n, D, h1, h2, h3⟩ := hM
  obtain ⟨g1, g2⟩ := h3 ka kb kc hka hkb hkc
  obtain ⟨v2, ps2, s1, s2⟩ := h1.look_ok lawM3 Try.underlying39 (zeroM3 w) (zd := .lit (.int .i64 0)) (zp := []) (plainElem_int Try.underlying2 (by decide)) (keyOfM3 hka hkb hkc)
  obtain ⟨c, rfl, hc, hwc⟩ := plainElem_int_inv Try.underlying2 s2
  have e := congrArg Prod.fst hc
  simp only at e
  rw [g2] at e
  injection e with e
  injection e with _ e
  rw [g1, ← e] at s1
  exact s1
end
section
variable {w w' : World} {b : Nat} {m : PM3} {ops : Array Oper} {o : Oper} {a_ : Act} {Q : Exit → Act → World → Prop} {Kc : Act → World → Prop}
theorem mapM3_put_step (hw : Region.wanted o (yielded ops a_.tmps) = true) (x y z : Operand) (hop : o.op = Op.mapUpdate 39 x y z ∨ o.op = Op.insert 39 x y z)
    (hm : a_.eval x = .map (some b)) (hM : MapM3 w b m) (hn : m.length < 1000000) (ka kb kc k : Int) (hx : a_.eval y = keyVM3 ka kb kc) (hv : a_.eval z = .int .i64 k) (hka : (Lit.int .i64 ka).wf = true) (hkb : (Lit.int .i64 kb).wf = true) (hkc : (Lit.int .i64 kc).wf = true) (hk : (Lit.int .i64 k).wf = true)
    (h : ∀ w1, MapM3 w1 b (((ka, kb, kc), k) :: m) → w.grownBy w1 (some b) → Kc (a_.put o.dst undef) w1) :
    if Region.wanted o (yielded ops a_.tmps) = true then Oper.wp Try.prog o a_ w Kc Q else Kc (a_.put o.dst undef) w := by
  rw [if_pos hw]
  obtain ⟨n, D, h1, h2, h3⟩ := hM
  obtain ⟨w', hrun, r1, r2⟩ := h1.update lawM3 Try.underlying39 (by unfold maxLen; omega) (keyOfM3 hka hkb hkc) (plainElem_int Try.underlying2 hk)
  unfold Oper.wp
  rcases hop with hop | hop <;>
  · simp [execOp, hop, hm, hx, hv, hrun, Result.andThen]
    exact h w' (MapM3.put hka hkb hkc r1 h1.isMap h2 h3) r2
end
section
variable {w w' : World} {ops : Array Oper} {rest : List Oper} {o : Oper} {a_ : Act} {Q : Exit → Act → World → Prop}
theorem mapM3_make (hgd : o.guard = none) (hop : o.op = Op.makeMap 39 none)
    (h : ∀ g, g = w.heap.size → ∀ w1, MapM3 w1 g [] → Below w.heap.size w w1 → wpList Try.prog ops Q rest (a_.put o.dst (.map (some g))) w1) : wpList Try.prog ops Q (o :: rest) a_ w := by
  refine Kd.event_run hgd (v := .map (some w.heap.size)) (w1 := w.alloc (.map #[] 0)) ?_ (h _ rfl _ (MapM3.made w) (below_alloc (Below.refl _ _) _))
  simp [execOp, hop, run_makeMap, Result.andThen]
end
end Go.Proofs.Ytnppgmbhdomelaa.PTableTrees
