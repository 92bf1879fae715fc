import Derived.Test.YtnppgmbhdomelaaPTableTreesx9
namespace Go.Proofs.Ytnppgmbhdomelaa.PTableTrees
open Go.RowKit Go.Proofs.YtnppgmbhdomelaaW.PrintWords Go.Proofs.YtnppgmbhdomelaaW.PrintLast Go.Proofs.YtnppgmbhdomelaaW.PrintMore
attribute [local go_sem] max2_int min2_int max_two min_two max_three min_three max_four min_four
set_option linter.unusedVariables false
set_option linter.unusedSimpArgs false
/-! ### coppicerref.Bush: what is known, in memory -/
def treesL (Rw : List Int → Int → Int → PM3 → Option (Int × PM3)) (y i j : Int) : List S45 → Int → PM3 → Option (Int × PM3)
  | [], s, m => some (s, m)
  | r :: t, s, m => if r.f0 = y then (Rw r.f1 i j m).bind fun p => treesL Rw y i j t (wrap64 (s + p.1)) p.2 else treesL Rw y i j t s m
def treesF (Rw : List Int → Int → Int → PM3 → Option (Int × PM3)) (K : Int) (rules : List S45) (ws : List Int) (x i j : Int) (m : PM3) : Option (Int × PM3) :=
  if x < K then (if j = wrap64 (i + 1) then (if 0 ≤ i then (if i < (ws.length : Int) then some (if rd ws i = x then 1 else 0, m) else none) else none) else some (0, m))
  else if i = j then some (0, m)
  else if (Lit.int .i64 x).wf = true ∧ (Lit.int .i64 i).wf = true ∧ (Lit.int .i64 j).wf = true then
    (match lkM3 m (x, i, j) with
     | some v => some (v, m)
     | none => if rules.length < 1000000 then (treesL Rw (wrap64 (x - K)) i j rules 0 m).bind fun p =>
         if p.2.length < 1000000 ∧ (Lit.int .i64 (if p.1 > 1099511627776 then 1099511627777 else p.1)).wf = true then some (if p.1 > 1099511627776 then 1099511627777 else p.1, ((x, i, j), if p.1 > 1099511627776 then 1099511627777 else p.1) :: p.2) else none else none)
  else none
def rowL (kk : Nat) (Rw : List Int → Int → Int → PM3 → Option (Int × PM3)) (Tr : Int → Int → Int → PM3 → Option (Int × PM3)) (signs : List Int) (i j : Int) : Nat → Int → Int → PM3 → Option (Int × PM3)
  | 0, _, _, _ => none
  | n + 1, mid, s, m => if mid < j then (Rw (signs.drop 1) mid j m).bind fun p =>
      (if p.1 > 0 then (Tr (rd signs 0) i mid p.2).bind fun q => (coppicerref_capped.f kk q.1 p.1).bind fun t => rowL kk Rw Tr signs i j n (wrap64 (mid + 1)) (if wrap64 (s + t) > 1099511627776 then 1099511627777 else wrap64 (s + t)) q.2
       else rowL kk Rw Tr signs i j n (wrap64 (mid + 1)) (if s > 1099511627776 then 1099511627777 else s) p.2)
    else some (s, m)
def rowF (K : Int) (rules : List S45) (ws : List Int) : Nat → List Int → Int → Int → PM3 → Option (Int × PM3)
  | 0, _, _, _, _ => none
  | k + 1, signs, i, j, m => if signs.length < 1000000 then (if (signs.length : Int) > wrap64 (j - i) then some (0, m)
      else if (signs.length : Int) = 0 then some (if i = j then 1 else 0, m)
      else if (signs.length : Int) = 1 then treesF (rowF K rules ws k) K rules ws (rd signs 0) i j m
      else rowL k (rowF K rules ws k) (treesF (rowF K rules ws k) K rules ws) signs i j ((j - i).toNat + 2) (wrap64 (i + 1)) 0 m) else none
theorem MapM3.move {w w1 : World} {b : Nat} {m : PM3} (h : MapM3 w b m) (e : w1.heap[b]? = w.heap[b]?) : MapM3 w1 b m := by
  obtain ⟨n, D, ⟨es, cl, h1, h2⟩, h3⟩ := h
  exact ⟨n, D, ⟨es, cl, e.trans h1, h2⟩, h3⟩
theorem MapM3.lt {w : World} {b : Nat} {m : PM3} (h : MapM3 w b m) : b < w.heap.size := by
  obtain ⟨es, cl, h1⟩ := h.isMap
  exact (Array.getElem?_eq_some_iff.1 h1).1
structure BS (w0 : World) (gc gm : Nat) (K N St : Int) (A0 : Option Addr) (n0 c0 : Nat) (A1 : Option Addr) (n1 c1 : Nat) (m : PM3) (W : World) : Prop where
  hb : Below w0.heap.size w0 W
  kc : W.heap[gc]? = some (.cells #[.int .i64 K, .int .i64 N, .int .i64 St, .slice A0 n0 c0, .slice A1 n1 c1, .map (some gm)] 41 (0, 0))
  km : MapM3 W gm m
  g1 : w0.heap.size ≤ gc
  g2 : w0.heap.size ≤ gm
section
variable {w0 : World} {gc gm : Nat} {K N St : Int} {A0 : Option Addr} {n0 c0 : Nat} {A1 : Option Addr} {n1 c1 : Nat} {m m1 : PM3} {W W1 : World}
theorem BS.ne (h : BS w0 gc gm K N St A0 n0 c0 A1 n1 c1 m W) : gc ≠ gm := by
  intro e
  obtain ⟨es, cl, h1⟩ := h.km.isMap
  have a := h.kc
  rw [e, h1] at a
  cases a
theorem BS.below (h : BS w0 gc gm K N St A0 n0 c0 A1 n1 c1 m W) (hb : Below W.heap.size W W1) : BS w0 gc gm K N St A0 n0 c0 A1 n1 c1 m W1 :=
  ⟨below_step h.hb hb, blk_below h.kc hb, h.km.move (hb.block gm h.km.lt), h.g1, h.g2⟩
theorem BS.drewN (h : BS w0 gc gm K N St A0 n0 c0 A1 n1 c1 m W) (q : Nat) : BS w0 gc gm K N St A0 n0 c0 A1 n1 c1 m (W.drewN q) := h.below (pw_below_drewN (Below.refl _ _) q)
theorem BS.drew (h : BS w0 gc gm K N St A0 n0 c0 A1 n1 c1 m W) : BS w0 gc gm K N St A0 n0 c0 A1 n1 c1 m W.drew := h.below (below_drew1 (Below.refl _ _))
theorem BS.set (h : BS w0 gc gm K N St A0 n0 c0 A1 n1 c1 m W) {g t : Nat} {cells : Array Value} (hk : W.heap[g]? = some (.cells cells t (0, 0))) (ht : t ≠ 41) (hg : w0.heap.size ≤ g) (j : Nat) (v : Value) : BS w0 gc gm K N St A0 n0 c0 A1 n1 c1 m (W.setCell ⟨g, j, none⟩ v) := by
  have n1 : gc ≠ g := by
    intro e
    have a := h.kc
    rw [e, hk] at a
    injection a with a
    injection a with _ a
    exact ht a
  have n2 : gm ≠ g := by
    intro e
    obtain ⟨es, cl, h1⟩ := h.km.isMap
    rw [e, hk] at h1
    cases h1
  exact ⟨h.hb.setCell hg v, (Below.heap_setCell W ⟨g, j, none⟩ v gc n1).trans h.kc, h.km.move (Below.heap_setCell W ⟨g, j, none⟩ v gm n2), h.g1, h.g2⟩
theorem BS.put (h : BS w0 gc gm K N St A0 n0 c0 A1 n1 c1 m W) (hM : MapM3 W1 gm m1) (hg : W.grownBy W1 (some gm)) : BS w0 gc gm K N St A0 n0 c0 A1 n1 c1 m1 W1 :=
  ⟨h.hb.grown hg h.hb.size (fun k e => by cases e; exact h.g2), blk_grown h.kc hg (fun e => h.ne (Option.some.inj e)), hM, h.g1, h.g2⟩
end
/-- What a call of Row or Trees leaves. -/
def BushP (w0 : World) (gc gm : Nat) (K N St : Int) (A0 : Option Addr) (n0 c0 : Nat) (A1 : Option Addr) (n1 c1 : Nat) (W : World) (p : Int × PM3) (e : Ending) (w' : World) : Prop :=
  e = .returned (.int .i64 p.1) ∧ BS w0 gc gm K N St A0 n0 c0 A1 n1 c1 p.2 w' ∧ Km gm W w'
/-- What a call of Row is told to do. -/
def RowC (w0 : World) (gc gm : Nat) (K N St : Int) (A0 : Option Addr) (n0 c0 : Nat) (A1 : Option Addr) (n1 c1 : Nat) (R : List Int → Int → Int → PM3 → Option (Int × PM3)) : Prop :=
  ∀ (As : Option Addr) (cs : Nat) (signs : List Int) (i j : Int) (m : PM3) (W : World) (p : Int × PM3), Kd.C (Kd.int .i64) w0 As signs.length signs → signs.length ≤ cs → BS w0 gc gm K N St A0 n0 c0 A1 n1 c1 m W → R signs i j m = some p →
    Calls Try.prog 15 #[.pointer (some ⟨gc, 0, none⟩), .slice As signs.length cs, .int .i64 i, .int .i64 j] W (BushP w0 gc gm K N St A0 n0 c0 A1 n1 c1 W p)
theorem gate_mapUpdate {t : TypeId} {m x v : Operand} {ops : Array Oper} {rest : List Oper} {o : Oper} {a : Act} {Q : Exit → Act → World → Prop} {w : World} (_ho : o.op = .mapUpdate t m x v) (h : wpList Try.prog ops Q (o :: rest) a w) : wpList Try.prog ops Q (o :: rest) a w := h
end Go.Proofs.Ytnppgmbhdomelaa.PTableTrees
