import Derived.Test.YtnppgmbhdomelaaPTableTreesx6
namespace Go.Proofs.Ytnppgmbhdomelaa.PTableTrees
open Go.RowKit Go.Proofs.YtnppgmbhdomelaaW.PrintWords Go.Proofs.YtnppgmbhdomelaaW.PrintLast Go.Proofs.YtnppgmbhdomelaaW.PrintMore
attribute [local go_sem] max2_int min2_int max_two min_two max_three min_three max_four min_four
set_option linter.unusedVariables false
set_option linter.unusedSimpArgs false
/-! ### table.Count: what is known, in memory -/
def cntL (R : Int → Int → Int → Int → PM4 → Option (Int × PM4)) (S : Int → Int → Int → PM4 → Option (Int × PM4)) (right : List Int) (rule dot i j left : Int) : Nat → Int → Int → PM4 → Option (Int × PM4)
  | 0, _, _, _ => none
  | n + 1, mid, sum, m => if mid ≤ wrap64 (wrap64 (j - left) + 1) then
      (if left = 1 ∧ mid < j then cntL R S right rule dot i j left n (wrap64 (mid + 1)) sum m else
        (R rule (wrap64 (dot + 1)) mid j m).bind fun p => if p.1 > 0 then (if 0 ≤ dot then (if dot < (right.length : Int) then (S (rd right dot) i mid p.2).bind fun q => (table_times.f q.1 p.1).bind fun t => cntL R S right rule dot i j left n (wrap64 (mid + 1)) (mn (wrap64 (sum + t)) 1099511627777) q.2 else none) else none)
          else cntL R S right rule dot i j left n (wrap64 (mid + 1)) sum p.2)
    else some (sum, m)
def sgnL (R : Int → Int → Int → Int → PM4 → Option (Int × PM4)) (y i j : Int) : List S45 → Int → Int → PM4 → Option (Int × PM4)
  | [], _, s, m => some (mn s 1099511627777, m)
  | r :: t, q, s, m => if r.f0 = y then (R q 0 i j m).bind fun p => sgnL R y i j t (q + 1) (wrap64 (s + p.1)) p.2 else sgnL R y i j t (q + 1) s m
def sgnF (R : Int → Int → Int → Int → PM4 → Option (Int × PM4)) (K : Int) (rules : List S45) (ws : List Int) (x i j : Int) (m : PM4) : Option (Int × PM4) :=
  if x < K then (if j = wrap64 (i + 1) then (if 0 ≤ i then (if i < (ws.length : Int) then some (if rd ws i = x then 1 else 0, m) else none) else none) else some (0, m))
  else if rules.length < 1000000 then sgnL R (wrap64 (x - K)) i j rules 0 0 m else none
def cntF (K : Int) (rules : List S45) (ws : List Int) : Nat → Int → Int → Int → Int → PM4 → Option (Int × PM4)
  | 0, _, _, _, _, _ => none
  | k + 1, rule, dot, i, j, m => if 0 ≤ rule then (if rule < (rules.length : Int) then
      (if wrap64 (((rd_T45 rules rule).f1.length : Int) - dot) > wrap64 (j - i) then some (if wrap64 (((rd_T45 rules rule).f1.length : Int) - dot) = 0 ∧ i = j then 1 else 0, m)
       else if wrap64 (((rd_T45 rules rule).f1.length : Int) - dot) = 0 then some (if i = j then 1 else 0, m)
       else if (Lit.int .i64 rule).wf = true ∧ (Lit.int .i64 dot).wf = true ∧ (Lit.int .i64 i).wf = true ∧ (Lit.int .i64 j).wf = true then
         (match lkM4 m (rule, dot, i, j) with
          | some v => some (v, m)
          | none => (cntL (cntF K rules ws k) (sgnF (cntF K rules ws k) K rules ws) (rd_T45 rules rule).f1 rule dot i j (wrap64 (((rd_T45 rules rule).f1.length : Int) - dot)) ((j - i).toNat + 2) (wrap64 (i + 1)) 0 m).bind fun p =>
              if p.2.length < 1000000 ∧ (Lit.int .i64 p.1).wf = true then some (p.1, ((rule, dot, i, j), p.1) :: p.2) else none)
       else none) else none) else none
theorem MapM4.move {w w1 : World} {b : Nat} {m : PM4} (h : MapM4 w b m) (e : w1.heap[b]? = w.heap[b]?) : MapM4 w1 b m := by
  obtain ⟨n, D, ⟨es, cl, h1, h2⟩, h3⟩ := h
  exact ⟨n, D, ⟨es, cl, e.trans h1, h2⟩, h3⟩
theorem MapM4.lt {w : World} {b : Nat} {m : PM4} (h : MapM4 w b m) : b < w.heap.size := by
  obtain ⟨es, cl, h1⟩ := h.isMap
  exact (Array.getElem?_eq_some_iff.1 h1).1
/-- A call leaves all but the map. -/
structure Km (gm : Nat) (W W1 : World) : Prop where
  size : W.heap.size ≤ W1.heap.size
  blk : ∀ b, b < W.heap.size → b ≠ gm → W1.heap[b]? = W.heap[b]?
theorem Km.refl (gm : Nat) (W : World) : Km gm W W := ⟨Nat.le_refl _, fun _ _ _ => rfl⟩
theorem Km.trans {gm : Nat} {W W1 W2 : World} (h : Km gm W W1) (k : Km gm W1 W2) : Km gm W W2 := ⟨Nat.le_trans h.size k.size, fun b hb hn => (k.blk b (Nat.lt_of_lt_of_le hb h.size) hn).trans (h.blk b hb hn)⟩
theorem Km.below {gm : Nat} {W W1 : World} (h : Below W.heap.size W W1) : Km gm W W1 := ⟨h.size, fun b hb _ => h.block b hb⟩
theorem Km.drewN {gm : Nat} {W W1 : World} (h : Km gm W W1) (q : Nat) : Km gm W (W1.drewN q) := ⟨h.size, h.blk⟩
/-- A store into a block that was not there yet. -/
theorem Km.set {gm : Nat} {W W1 : World} (h : Km gm W W1) {g : Nat} (hg : W.heap.size ≤ g) (j : Nat) (v : Value) : Km gm W (W1.setCell ⟨g, j, none⟩ v) :=
  ⟨by simpa [World.setCell] using h.size, fun b hb hn => (Below.heap_setCell W1 ⟨g, j, none⟩ v b (fun e => by have e : b = g := e; omega)).trans (h.blk b hb hn)⟩
theorem Km.grown {gm : Nat} {W W1 W2 : World} (h : Km gm W W1) (hg : W1.grownBy W2 (some gm)) : Km gm W W2 :=
  ⟨Nat.le_trans h.size hg.size, fun b hb hn => (hg.block b (Nat.lt_of_lt_of_le hb h.size) (fun e => hn (Option.some.inj e))).trans (h.blk b hb hn)⟩
structure CS (w0 : World) (gc gm : Nat) (K N St : Int) (A0 : Option Addr) (n0 c0 : Nat) (A1 : Option Addr) (n1 c1 : Nat) (m : PM4) (W : World) : Prop where
  hb : Below w0.heap.size w0 W
  kc : W.heap[gc]? = some (.cells #[.int .i64 K, .int .i64 N, .int .i64 St, .slice A0 n0 c0, .slice A1 n1 c1, .map (some gm)] 49 (0, 0))
  km : MapM4 W gm m
  g1 : w0.heap.size ≤ gc
  g2 : w0.heap.size ≤ gm
section
variable {w0 : World} {gc gm : Nat} {K N St : Int} {A0 : Option Addr} {n0 c0 : Nat} {A1 : Option Addr} {n1 c1 : Nat} {m m1 : PM4} {W W1 : World}
theorem CS.ne (h : CS w0 gc gm K N St A0 n0 c0 A1 n1 c1 m W) : gc ≠ gm := by
  intro e
  obtain ⟨es, cl, h1⟩ := h.km.isMap
  have a := h.kc
  rw [e, h1] at a
  cases a
theorem CS.below (h : CS w0 gc gm K N St A0 n0 c0 A1 n1 c1 m W) (hb : Below W.heap.size W W1) : CS w0 gc gm K N St A0 n0 c0 A1 n1 c1 m W1 :=
  ⟨below_step h.hb hb, blk_below h.kc hb, h.km.move (hb.block gm h.km.lt), h.g1, h.g2⟩
theorem CS.drewN (h : CS w0 gc gm K N St A0 n0 c0 A1 n1 c1 m W) (q : Nat) : CS w0 gc gm K N St A0 n0 c0 A1 n1 c1 m (W.drewN q) := h.below (pw_below_drewN (Below.refl _ _) q)
theorem CS.drew (h : CS w0 gc gm K N St A0 n0 c0 A1 n1 c1 m W) : CS w0 gc gm K N St A0 n0 c0 A1 n1 c1 m W.drew := h.below (below_drew1 (Below.refl _ _))
theorem CS.set (h : CS w0 gc gm K N St A0 n0 c0 A1 n1 c1 m W) {g t : Nat} {cells : Array Value} (hk : W.heap[g]? = some (.cells cells t (0, 0))) (ht : t ≠ 49) (hg : w0.heap.size ≤ g) (j : Nat) (v : Value) : CS w0 gc gm K N St A0 n0 c0 A1 n1 c1 m (W.setCell ⟨g, j, none⟩ v) := by
  have n1 : gc ≠ g := by
    intro e
    have a := h.kc
    rw [e, hk] at a
    injection a with a
    injection a with _ a
    exact ht a
  have n2 : gm ≠ g := by
    intro e
    obtain ⟨es, cl, h1⟩ := h.km.isMap
    rw [e, hk] at h1
    cases h1
  exact ⟨h.hb.setCell hg v, (Below.heap_setCell W ⟨g, j, none⟩ v gc n1).trans h.kc, h.km.move (Below.heap_setCell W ⟨g, j, none⟩ v gm n2), h.g1, h.g2⟩
theorem CS.put (h : CS w0 gc gm K N St A0 n0 c0 A1 n1 c1 m W) (hM : MapM4 W1 gm m1) (hg : W.grownBy W1 (some gm)) : CS w0 gc gm K N St A0 n0 c0 A1 n1 c1 m1 W1 :=
  ⟨h.hb.grown hg h.hb.size (fun k e => by cases e; exact h.g2), blk_grown h.kc hg (fun e => h.ne (Option.some.inj e)), hM, h.g1, h.g2⟩
end
/-- What a call of Rest leaves. -/
def RestP (w0 : World) (gc gm : Nat) (K N St : Int) (A0 : Option Addr) (n0 c0 : Nat) (A1 : Option Addr) (n1 c1 : Nat) (W : World) (p : Int × PM4) (e : Ending) (w' : World) : Prop :=
  e = .returned (.int .i64 p.1) ∧ CS w0 gc gm K N St A0 n0 c0 A1 n1 c1 p.2 w' ∧ Km gm W w'
end Go.Proofs.Ytnppgmbhdomelaa.PTableTrees
