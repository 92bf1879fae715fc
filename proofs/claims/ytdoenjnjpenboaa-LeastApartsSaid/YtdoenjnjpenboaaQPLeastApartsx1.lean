-- Printed by a turn of a template of the kit, and shortened: remarks and what nothing here uses are left out.
import Derived.Test.YtdoenjnjpenboaaQPLeastApartsx0
namespace Go.Proofs.Ytdoenjnjpenboaa.PLeastAparts
open Go.RowKit Go.Proofs.YtdoenjnjpenboaaW.PrintWords Go.Proofs.YtdoenjnjpenboaaW.PrintLast Go.Proofs.YtdoenjnjpenboaaW.PrintMore
attribute [local go_sem] max2_int min2_int max_two min_two max_three min_three max_four min_four
set_option linter.unusedVariables false
set_option linter.unusedSimpArgs false
set_option maxHeartbeats 8000000 in
set_option maxRecDepth 100000 in
theorem slices_IndexFunc_SSint_Sint.any (p : (List Int) → Bool) (g : Nat) (lb : Array Value) (eg : ∀ args w, (callFunc g args).run Try.prog w = .ok (.enter g args) w) (A : Option Addr) (c : Nat) (l : List (List Int)) (w : World) (q_ : Int) (hq_ : Lib.idxBy (fun _ y => p y) l default = q_) (hr : Kd.C (Kd.slice 3 (Kd.int .i64)) w A l.length l)
    (hp : ∀ (W : World) (x : (List Int)) (v : Value), x ∈ l → Below w.heap.size w W → ((Kd.slice 3 (Kd.int .i64))).K W x [v] → Calls Try.prog g (#[v] ++ lb) W fun e w' => e = .returned (.bool (p x)) ∧ Below w.heap.size w w') :
    Calls Try.prog 18 #[.slice A l.length c, .func (.func g) #[] lb] w fun e w' => e = .returned (.int .i64 q_) ∧ Below w.heap.size w w' := by
  have HQ := Za.mk hq_
  clear hq_
  have HR := Za.mk hr
  have HP := Za.mk hp
  have hbig := hr.2.1
  clear hr hp
  go_enter Try.func18, Try.ntmps18
  go_wp2
  go_loopg [5, 8] l.length (fun gg _ s8 wr => ∃ kk : Nat, kk ≤ l.length ∧ l.length - kk ≤ gg ∧ s8 = .int .i64 kk ∧ Za (Below w.heap.size w wr) ∧ Za (∀ j, j < kk → p l[j]! = false))
  case atStart => exact ⟨0, Nat.zero_le _, by omega, rfl, ⟨Below.refl _ w⟩, ⟨fun j hj => absurd hj (Nat.not_lt_zero _)⟩⟩
  case round =>
    obtain ⟨kk, hkk, hg, rfl, BW, A0⟩ := hrel
    by_cases hlt : kk < l.length
    · have hltz : (kk : Int) < (l.length : Int) := by omega
      obtain ⟨ad, rfl, hcs⟩ := HR.out.2.2 (by omega)
      obtain ⟨cs, hcl, hK, hcell⟩ := hcs kk _ (List.getElem?_eq_getElem hlt)
      obtain ⟨v, rfl⟩ : ∃ v, cs = [v] := List.length_eq_one_iff.1 hcl
      have l2 : wr.cell? (ad.add kk) = some v := by
        have := hcell 0 v rfl
        simp only [Nat.add_zero, show ((Kd.slice 3 (Kd.int .i64))).sz = 1 from rfl, Nat.mul_one] at this
        exact pw_cell_below BW.out this
      have hcall := HP.out wr l[kk] v (List.getElem_mem _) BW.out (((Kd.slice 3 (Kd.int .i64))).K_below BW.out hK)
      have hpk : Za (l[kk]! = l[kk]) := ⟨by simp [hlt]⟩
      clear hcs hcl hK hcell
      generalize hy : l[kk] = y at hcall hpk
      clear hy
      cases hq : p y with
      | true =>
        rw [hq] at hcall
        go_wp2_with (go_at_fn g; refine hcall.mono ?_; rintro e w' ⟨rfl, hb'⟩)
        go_ret
        refine ⟨?_, hb'⟩
        have := Lib.idxBy_hit (fun _ y => p y) l l.length kk default hlt (Nat.le_refl _) (by show p l[kk]! = true; rw [hpk.out]; exact hq) A0.out
        rw [List.take_length, HQ.out] at this
        rw [this]
        rfl
      | false =>
        rw [hq] at hcall
        go_wp2_with (go_at_fn g; refine hcall.mono ?_; rintro e w' ⟨rfl, hb'⟩)
        go_roundg (l.length - (kk + 1))
        case measure => omega
        case rel =>
          refine ⟨kk + 1, by omega, by omega, by go_num, ⟨hb'⟩, ⟨fun j hj => ?_⟩⟩
          by_cases e : j = kk
          · subst e
            rw [hpk.out]; exact hq
          · exact A0.out j (by omega)
    · have hltz : ¬ (kk : Int) < (l.length : Int) := by omega
      have : kk = l.length := by omega
      subst this
      go_wp2
      go_ret
      refine ⟨?_, BW.out⟩
      have := Lib.idxBy_miss (fun _ y => p y) l l.length default A0.out
      rw [List.take_length, HQ.out] at this
      rw [this]
      rfl
set_option maxHeartbeats 8000000 in
set_option maxRecDepth 100000 in
theorem slices_IndexFunc_SSint_Sint.anyO (p : (List Int) → Option Bool) (g : Nat) (lb : Array Value) (eg : ∀ args w, (callFunc g args).run Try.prog w = .ok (.enter g args) w) (A : Option Addr) (c : Nat) (l : List (List Int)) (w : World) (q_ : Int) (hq_ : idxO p l 0 = some q_) (hr : Kd.C (Kd.slice 3 (Kd.int .i64)) w A l.length l)
    (hp : ∀ (W : World) (x : (List Int)) (cs : List Value) (b : Bool), x ∈ l → Below w.heap.size w W → ((Kd.slice 3 (Kd.int .i64))).K W x cs → p x = some b → Calls Try.prog g (#[cs.getD 0 undef] ++ lb) W fun e w' => e = .returned (.bool b) ∧ Below w.heap.size w w') :
    Calls Try.prog 18 #[.slice A l.length c, .func (.func g) #[] lb] w fun e w' => e = .returned (.int .i64 q_) ∧ Below w.heap.size w w' := by
  have HQ := Za.mk hq_
  clear hq_
  have HR := Za.mk hr
  have HP := Za.mk hp
  have hbig := hr.2.1
  clear hr hp
  go_enter Try.func18, Try.ntmps18
  go_wp2
  go_loopg [5, 8] l.length (fun gg _ s8 wr => ∃ kk : Nat, kk ≤ l.length ∧ l.length - kk ≤ gg ∧ s8 = .int .i64 kk ∧ Za (Below w.heap.size w wr) ∧ Za (idxO p (l.drop kk) kk = some q_))
  case atStart => exact ⟨0, Nat.zero_le _, by omega, rfl, ⟨Below.refl _ w⟩, ⟨HQ.out⟩⟩
  case round =>
    obtain ⟨kk, hkk, hg, rfl, BW, A0⟩ := hrel
    by_cases hlt : kk < l.length
    · have hltz : (kk : Int) < (l.length : Int) := by omega
      have HD := A0.out
      rw [List.drop_eq_getElem_cons hlt] at HD
      unfold idxO at HD
      cases hq : p l[kk] with
      | none => rw [hq] at HD; cases HD
      | some b =>
      rw [hq] at HD
      simp only [Option.bind_some] at HD
      have HE := Za.mk HD
      clear HD A0
      obtain ⟨ad, rfl, hcs⟩ := HR.out.2.2 (by omega)
      obtain ⟨cs, hcl, hK, hcell⟩ := hcs kk _ (List.getElem?_eq_getElem hlt)
      obtain ⟨v, rfl⟩ : ∃ v, cs = [v] := List.length_eq_one_iff.1 hcl
      have l2 : wr.cell? (ad.add kk) = some v := by
        have := hcell 0 v rfl
        simp only [Nat.add_zero, show ((Kd.slice 3 (Kd.int .i64))).sz = 1 from rfl, Nat.mul_one] at this
        exact pw_cell_below BW.out this
      have hcall := HP.out wr l[kk] _ b (List.getElem_mem _) BW.out (((Kd.slice 3 (Kd.int .i64))).K_below BW.out hK) hq
      clear hcs hcl hK hcell hq
      generalize hy : l[kk] = y at hcall
      clear hy
      cases b with
      | true =>
        go_wp2_with (go_at_fn g; refine hcall.mono ?_; rintro e w' ⟨rfl, hb'⟩)
        go_ret
        refine ⟨?_, hb'⟩
        have := Option.some.inj (show some (kk : Int) = some q_ from HE.out)
        rw [this]
        rfl
      | false =>
        go_wp2_with (go_at_fn g; refine hcall.mono ?_; rintro e w' ⟨rfl, hb'⟩)
        go_roundg (l.length - (kk + 1))
        case measure => omega
        case rel => exact ⟨kk + 1, by omega, by omega, by go_num, ⟨hb'⟩, ⟨HE.out⟩⟩
    · have hltz : ¬ (kk : Int) < (l.length : Int) := by omega
      have : kk = l.length := by omega
      subst this
      have HD := A0.out
      rw [List.drop_length] at HD
      have := Option.some.inj (show some (-1 : Int) = some q_ from HD)
      subst this
      clear HD A0 HQ
      go_wp2
      go_ret
      exact ⟨rfl, BW.out⟩
set_option maxHeartbeats 8000000 in
set_option maxRecDepth 100000 in
theorem slices_ContainsFunc_SSint_Sint.any (p : (List Int) → Bool) (g : Nat) (lb : Array Value) (eg : ∀ args w, (callFunc g args).run Try.prog w = .ok (.enter g args) w) (A : Option Addr) (c : Nat) (l : List (List Int)) (w : World) (hr : Kd.C (Kd.slice 3 (Kd.int .i64)) w A l.length l)
    (hp : ∀ (W : World) (x : (List Int)) (v : Value), x ∈ l → Below w.heap.size w W → ((Kd.slice 3 (Kd.int .i64))).K W x [v] → Calls Try.prog g (#[v] ++ lb) W fun e w' => e = .returned (.bool (p x)) ∧ Below w.heap.size w w') :
    Calls Try.prog 15 #[.slice A l.length c, .func (.func g) #[] lb] w fun e w' => e = .returned (.bool (l.any p)) ∧ Below w.heap.size w w' := by
  rw [show l.any p = decide (0 ≤ Lib.idxBy (fun _ y => p y) l default) from (Lib.idxBy_nonneg_iff (fun _ y => p y) l default).symm]
  obtain ⟨q_, hq_⟩ : ∃ q_, Lib.idxBy (fun _ y => p y) l default = q_ := ⟨_, rfl⟩
  have hix := slices_IndexFunc_SSint_Sint.any p g lb eg A c l w q_ hq_ hr hp
  rw [hq_]
  clear hr hp
  have e6 : ∀ args w, (callFunc 18 args).run Try.prog w = .ok (.enter 18 args) w := enters_of Try.func18 (by kernel_rfl) rfl
  go_enter Try.func15, Try.ntmps15
  go_wp2_with (go_at_fn 18; refine hix.mono ?_; rintro e w' ⟨rfl, hb'⟩)
  go_ret
  exact ⟨rfl, hb'⟩
set_option maxHeartbeats 8000000 in
set_option maxRecDepth 100000 in
theorem slices_ContainsFunc_SSint_Sint.anyO (p : (List Int) → Option Bool) (g : Nat) (lb : Array Value) (eg : ∀ args w, (callFunc g args).run Try.prog w = .ok (.enter g args) w) (A : Option Addr) (c : Nat) (l : List (List Int)) (w : World) (q_ : Bool) (hq_ : anyO p l = some q_) (hr : Kd.C (Kd.slice 3 (Kd.int .i64)) w A l.length l)
    (hp : ∀ (W : World) (x : (List Int)) (cs : List Value) (b : Bool), x ∈ l → Below w.heap.size w W → ((Kd.slice 3 (Kd.int .i64))).K W x cs → p x = some b → Calls Try.prog g (#[cs.getD 0 undef] ++ lb) W fun e w' => e = .returned (.bool b) ∧ Below w.heap.size w w') :
    Calls Try.prog 15 #[.slice A l.length c, .func (.func g) #[] lb] w fun e w' => e = .returned (.bool q_) ∧ Below w.heap.size w w' := by
  obtain ⟨q, hq, rfl⟩ := idx_anyO p l 0 q_ (Int.le_refl _) hq_
  have hix := slices_IndexFunc_SSint_Sint.anyO p g lb eg A c l w q hq hr hp
  clear hr hp hq hq_
  have e6 : ∀ args w, (callFunc 18 args).run Try.prog w = .ok (.enter 18 args) w := enters_of Try.func18 (by kernel_rfl) rfl
  go_enter Try.func15, Try.ntmps15
  go_wp2_with (go_at_fn 18; refine hix.mono ?_; rintro e w' ⟨rfl, hb'⟩)
  go_ret
  exact ⟨rfl, hb'⟩
def machine_Check_1.f (l0 : List Int) (a1_0 : Int) (a1_1 : Int) (l1_2 : List (List Int)) (a1_3 : Int) (a1_4 : Int) : Option (Bool) := some ((l0.length : Int) != a1_1)
set_option maxHeartbeats 8000000 in
set_option maxRecDepth 100000 in
theorem machine_Check_1.calls (A0 : Option Addr) (c0 : Nat) (l0 : List Int) (a1_0 : Int) (a1_1 : Int) (A1_2 : Option Addr) (c1_2 : Nat) (l1_2 : List (List Int)) (a1_3 : Int) (a1_4 : Int) (g1 : Nat) (r : Bool) (w : World) (hr0 : Kd.C (Kd.int .i64) w A0 l0.length l0) (hc0 : l0.length ≤ c0) (hr1_2 : Kd.C (Kd.slice 3 (Kd.int .i64)) w A1_2 l1_2.length l1_2) (hc1_2 : l1_2.length ≤ c1_2) (hbk1 : w.heap[g1]? = some (.cells #[.int .i64 a1_0, .int .i64 a1_1, .slice A1_2 l1_2.length c1_2, .int .i64 a1_3, .int .u32 a1_4] 25 (0, 0))) (h : machine_Check_1.f l0 a1_0 a1_1 l1_2 a1_3 a1_4 = some r) :
    Calls Try.prog 16 #[.slice A0 l0.length c0, .pointer (some ⟨g1, 0, none⟩)] w fun e w' => e = .returned (.bool r) ∧ Drawn0 w w' := by
 (have HR0 := Za.mk hr0); (have HC0 := Za.mk hc0); (clear hr0 hc0); (have HR1_2 := Za.mk hr1_2); (have HC1_2 := Za.mk hc1_2); (clear hr1_2 hc1_2); (have BK1 := Za.mk hbk1); (clear hbk1); (have H : (some ((l0.length : Int) != a1_1)) = some r := h); (clear h); (obtain rfl := Option.some.inj H); (have hcz3_0 : w.cell? ⟨g1, 0, none⟩ = some (.int .i64 a1_0) := (Zb BK1.out 0).trans rfl); (have hcz3_1 : w.cell? ⟨g1, 1, none⟩ = some (.int .i64 a1_1) := (Zb BK1.out 1).trans rfl); (have hcz3_2 : w.cell? ⟨g1, 2, none⟩ = some (.slice A1_2 l1_2.length c1_2) := (Zb BK1.out 2).trans rfl); (have hcz3_3 : w.cell? ⟨g1, 3, none⟩ = some (.int .i64 a1_3) := (Zb BK1.out 3).trans rfl); (have hcz3_4 : w.cell? ⟨g1, 4, none⟩ = some (.int .u32 a1_4) := (Zb BK1.out 4).trans rfl); (have hfz3_0 := Zc BK1.out 0); (have hfz3_1 := Zc BK1.out 1); (have hfz3_2 := Zc BK1.out 2); (have hfz3_3 := Zc BK1.out 3); (have hfz3_4 := Zc BK1.out 4)
 go_enter Try.func16, Try.ntmps16
 go_wp2
 go_ret
 exact ⟨by first | rfl | (simp; done) | (simp [*]; done), by repeat (first | exact Drawn0.refl _ | apply Drawn0.step)⟩
def slices_Grow_Sint_int.f (l0 : List Int) (a1 : Int) : Option (List Int) := if 0 ≤ a1 then (if a1 < 17592186044416 then some [] else none) else none
theorem slices_Grow_Sint_int.toR {w : World} {base : Nat} {ok : Nat → Prop} {v : Value} (h : Kd.R (Kd.int .i64) 3 w base ok v []) : Kd.R (Kd.int .i64) 3 w base ok v [] := h
theorem slices_Grow_Sint_int.toS {w : World} {base : Nat} {ok : Nat → Prop} {v : Value} (h : Kd.R (Kd.int .i64) 3 w base ok v []) : Kd.S (Kd.int .i64) 3 w base ok v [] := by
  obtain ⟨h0, inner, ho, hr⟩ := h
  exact ⟨fun _ => 0, h0, inner, ho, ⟨hr.1, fun j p hj => by simp at hj⟩⟩
set_option maxHeartbeats 8000000 in
set_option maxRecDepth 100000 in
theorem slices_Grow_Sint_int.nil (a1 : Int) (r : List Int) (w : World) (h : slices_Grow_Sint_int.f [] a1 = some r) :
    Calls Try.prog 19 #[.slice none 0 0, .int .i64 a1] w fun e w' => ∃ v0_ : Value, e = .returned (v0_) ∧ Kd.R (Kd.int .i64) 3 w' w.heap.size (fun _ => True) v0_ r ∧ Below w.heap.size w w' := by
  unfold slices_Grow_Sint_int.f at h
  by_cases c1 : 0 ≤ a1
  case neg => rw [if_neg c1] at h; exact absurd h (by simp)
  rw [if_pos c1] at h
  by_cases c2 : a1 < 17592186044416
  case neg => rw [if_neg c2] at h; exact absurd h (by simp)
  rw [if_pos c2] at h
  obtain rfl := Option.some.inj h
  clear h
  have c1b : decide (a1 < 0) = false := decide_eq_false (by omega)
  have WR : Za (wrap64 a1 = a1) := ⟨by unfold wrap64; omega⟩
  have LM : Za (0 ≤ a1 ∧ a1 < 17592186044416) := ⟨⟨c1, c2⟩⟩
  by_cases c3 : a1 > 0
  · have c3b : decide (0 < wrap64 a1) = true := decide_eq_true (by rw [WR.out]; exact c3)
    clear c1 c2 c3
    have hl : (([] : List Int).length + (wrap64 a1).toNat) * 8 ≤ 140737488355328 := by have := LM.out; rw [WR.out]; simp only [List.length_nil]; omega
    have HL := Za.mk hl
    clear hl
    go_enter Try.func19, Try.ntmps19
    go_wp2_with (at_builtin; refine Kd.R_append_zeros (Kd.int .i64) (w0 := w) w.heap.size rfl (.tmp 20) (.tmp 21) 26 3 3 (.int .i64 0) 8 rfl Try.underlying26 Try.underlying3 info3 rfl (by decide) (by omega) (.slice none 0 0) ([] : List Int) 0 (wrap64 a1) (fun _ => True) rfl rfl rfl ?aF ?aO (by rw [WR.out]; exact LM.out.1) ?aB ?aS ?aL ?_; (case aF => exact (fun _ _ => trivial)); (case aO => exact Kd.R_nil _ _ _ _ _); (case aB => exact Below.refl _ _); (case aS => exact Nat.le_refl _); (case aL => exact HL.out); intro v1 w1 ho hb hg hat; obtain ⟨A1, k1, rfl⟩ := Kd.R_slice ho; have HO := Za.mk ho; have HB := Za.mk hb; clear ho hb hg hat)
    go_ret
    exact ⟨_, rfl, slices_Grow_Sint_int.toR (Kd.R_take (m := 0) HO.out (Nat.zero_le _)), HB.out⟩
  · have c3b : decide (0 < wrap64 a1) = false := decide_eq_false (by rw [WR.out]; exact c3)
    clear c1 c2 c3
    go_enter Try.func19, Try.ntmps19
    go_wp2
    go_ret
    exact ⟨_, rfl, slices_Grow_Sint_int.toR (Kd.R_nil _ _ _ _ _), Below.refl _ _⟩
mutual
def Zb1.l0 : Nat → List (List Int) → Int → List (List Int) → Int → Int → Option (List Int)
  | 0, _, _, _, _, _ => none
  | k + 1, x0, x3, x9, x10, x11 => if x11 < x10 then (if 0 ≤ x11 then (if x11 < (x9.length : Int) then (if (wrap64 (x3 + ((Zd x9 x11).length : Int))) < 0 then (none) else (Zb1.l0 k x0 (wrap64 (x3 + ((Zd x9 x11).length : Int))) x9 x10 (wrap64 (x11 + 1)))) else (none)) else (none)) else ((slices_Grow_Sint_int.f ([] : List Int) x3).bind fun t102 => (Zb1.l1 k t102 x0 (x0.length : Int) 0))
def Zb1.l1 : Nat → List Int → List (List Int) → Int → Int → Option (List Int)
  | 0, _, _, _, _ => none
  | k + 1, x6, x25, x26, x27 => if x27 < x26 then (if 0 ≤ x27 then (if x27 < (x25.length : Int) then (if x6.length + (Zd x25 x27).length < 17592186044416 then (Zb1.l1 k (x6 ++ (Zd x25 x27)) x25 x26 (wrap64 (x27 + 1))) else (none)) else (none)) else (none)) else (some x6)
end
def Zb1.f (k : Nat) (l0 : List (List Int)) : Option (List Int) := Zb1.l0 k l0 0 l0 (l0.length : Int) 0
theorem Zb1.mono_l : ∀ k, (∀ y0 y1 y2 y3 y4, LeO (Zb1.l0 k y0 y1 y2 y3 y4) (Zb1.l0 (k + 1) y0 y1 y2 y3 y4)) ∧ (∀ y0 y1 y2 y3, LeO (Zb1.l1 k y0 y1 y2 y3) (Zb1.l1 (k + 1) y0 y1 y2 y3))
  | 0 => ⟨fun _ _ _ _ _ r h => by simp [Zb1.l0] at h, fun _ _ _ _ r h => by simp [Zb1.l1] at h⟩
  | k + 1 => by
    obtain ⟨ih0, ih1⟩ := Zb1.mono_l k
    refine ⟨?_, ?_⟩
    · intro y0 y1 y2 y3 y4
      unfold Zb1.l0
      repeat' first
      | (with_reducible exact ih0 _ _ _ _ _)
      | (with_reducible exact ih1 _ _ _ _)
      | (with_reducible exact LeO.refl _)
      | (with_reducible exact LeO.none _)
      | (with_reducible refine LeO.ite ?_ ?_)
      | (with_reducible refine LeO.bind ?_ (fun _ => ?_))
      | exact ih0 _ _ _ _ _
      | exact ih1 _ _ _ _
      | exact LeO.none _
      | refine LeO.ite ?_ ?_
      | refine LeO.bind ?_ (fun _ => ?_)
    · intro y0 y1 y2 y3
      unfold Zb1.l1
      repeat' first
      | (with_reducible exact ih0 _ _ _ _ _)
      | (with_reducible exact ih1 _ _ _ _)
      | (with_reducible exact LeO.refl _)
      | (with_reducible exact LeO.none _)
      | (with_reducible refine LeO.ite ?_ ?_)
      | (with_reducible refine LeO.bind ?_ (fun _ => ?_))
      | exact ih0 _ _ _ _ _
      | exact ih1 _ _ _ _
      | exact LeO.none _
      | refine LeO.ite ?_ ?_
      | refine LeO.bind ?_ (fun _ => ?_)
theorem Zb1.mono : ∀ a0 k, LeO (Zb1.f k a0) (Zb1.f (k + 1) a0) := by
  intro a0 k
  obtain ⟨ih0, ih1⟩ := Zb1.mono_l k
  unfold Zb1.f
  repeat' first
      | (with_reducible exact ih0 _ _ _ _ _)
      | (with_reducible exact ih1 _ _ _ _)
      | (with_reducible exact LeO.refl _)
      | (with_reducible exact LeO.none _)
      | (with_reducible refine LeO.ite ?_ ?_)
      | (with_reducible refine LeO.bind ?_ (fun _ => ?_))
      | exact ih0 _ _ _ _ _
      | exact ih1 _ _ _ _
      | exact LeO.none _
      | refine LeO.ite ?_ ?_
      | refine LeO.bind ?_ (fun _ => ?_)
set_option maxHeartbeats 8000000 in
set_option maxRecDepth 100000 in
theorem Zb1.calls (k : Nat) (A0 : Option Addr) (c0 : Nat) (l0 : List (List Int)) (r : List Int) (w : World) (hr0 : Kd.C (Kd.slice 3 (Kd.int .i64)) w A0 l0.length l0) (hc0 : l0.length ≤ c0) (h : Zb1.f k l0 = some r) :
    Calls Try.prog 17 #[.slice A0 l0.length c0] w fun e w' => ∃ v0_ : Value, e = .returned (v0_) ∧ Kd.R (Kd.int .i64) 3 w' w.heap.size (fun _ => True) v0_ r ∧ Below w.heap.size w w' := by
 (have HR0 := Za.mk hr0); (have HC0 := Za.mk hc0); (clear hr0 hc0); (have HB := Za.mk (Below.refl w.heap.size w)); (have H : (Zb1.l0 k l0 0 l0 (l0.length : Int) 0) = some r := h); (clear h); (have H' := Za.mk H); (clear H)
 go_enter Try.func17, Try.ntmps17
 go_wp2
 go_loopg [3, 11] k (fun kq v3 v11 w' => ∃ (x3_1 : Int) (x11_1 : Int), v3 = .int .i64 x3_1 ∧ v11 = .int .i64 x11_1 ∧ Za (Zb1.l0 kq l0 x3_1 l0 (l0.length : Int) x11_1 = some r) ∧ Za (kq ≤ k) ∧ Za (Below w.heap.size w w'))
 case atStart => exact ⟨(0), (0), (by first | rfl | (simp; done) | (simp [*]; done)), (by first | rfl | (simp; done) | (simp [*]; done)), H', ⟨Nat.le_refl _⟩, ⟨by repeat (first | (with_reducible first | exact HB.out | apply zc1 | apply zc2 | apply zc3) | exact HB.out)⟩⟩
 case round =>
  (clear H'); (try clear c1); (obtain ⟨x3_1, x11_1, rfl, rfl, HA, HK1, HB⟩ := hrel)
  cases gk with
  | zero => exact absurd HA.out (by simp [Zb1.l0])
  | succ k1 =>
   (have H := HA.out); (clear HA); (simp only [Zb1.l0] at H)
   by_cases c2 : x11_1 < (l0.length : Int)
   ·rw [if_pos c2] at H
    (have c2b0 : decide (x11_1 < (l0.length : Int)) = true := decide_eq_true c2); (clear c2)
    by_cases c3 : 0 ≤ x11_1
    rotate_left
    ·rw [if_neg c3] at H
     exact absurd H (by simp)
    (rw [if_pos c3] at H); (have c3b0 : decide (0 ≤ x11_1) = true := decide_eq_true c3); (clear c3)
    by_cases c4 : x11_1 < (l0.length : Int)
    rotate_left
    ·rw [if_neg c4] at H
     exact absurd H (by simp)
    (rw [if_pos c4] at H); (have c4b0 : decide (x11_1 < (l0.length : Int)) = true := decide_eq_true c4); (clear c4)
    by_cases c5 : (wrap64 (x3_1 + ((Zd l0 x11_1).length : Int))) < 0
    ·rw [if_pos c5] at H
     exact absurd H (by simp)
    (rw [if_neg c5] at H); (have c5b0 : decide ((wrap64 (x3_1 + ((Zd l0 x11_1).length : Int))) < 0) = false := decide_eq_false c5); (clear c5); (have H' := Za.mk H); (clear H); (have p101 : 0 ≤ (x11_1 : Int) := of_decide_eq_true (by assumption)); (have q101 : x11_1 < (l0.length : Int) := of_decide_eq_true (by assumption)); (obtain ⟨ad101, A101_0, c101_0, e101, hx101_0, hl101_0, hi101_0⟩ := at_L1 HR0.out x11_1 p101 q101); (cases e101); (replace hx101_0 := (HB.out.cell (World.block_lt_of_cell? w _ hx101_0)).trans hx101_0); (have HR101_0 := Za.mk hi101_0); (have HC101_0 := Za.mk hl101_0); (clear hi101_0 hl101_0); (replace p101 := eq_true p101); (replace q101 := eq_true q101)
    go_wp2
    go_roundg k1
    case measure => have := HK1.out; omega
    case rel => exact ⟨(wrap64 (x3_1 + ((Zd l0 x11_1).length : Int))), (wrap64 (x11_1 + 1)), (by first | rfl | (simp; done) | (simp [*]; done)), (by first | rfl | (simp; done) | (simp [*]; done)), H', ⟨by have := HK1.out; omega⟩, ⟨by repeat (first | (with_reducible first | exact HB.out | apply zc1 | apply zc2 | apply zc3) | exact HB.out)⟩⟩
   (rw [if_neg c2] at H); (have c2b0 : decide (x11_1 < (l0.length : Int)) = false := decide_eq_false c2); (clear c2); (replace H := Option.bind_eq_some_iff.mp H); (obtain ⟨t102, A60, H⟩ := H); (replace H : (Zb1.l1 k1 t102 l0 (l0.length : Int) 0) = some r := H); (have A6 := Za.mk A60); (clear A60); (have H' := Za.mk H); (clear H)
   go_wp2_with (first | ((with_reducible refine Ze1 (f := 19) rfl ?_); refine goesL_ (some 24) rfl rfl Try.func19 (by kernel_rfl) rfl #[.slice none 0 0, .int .i64 x3_1] rfl (by (try simp only [List.map_toArray, List.map_cons, List.map_nil]); first | done | rfl | (simp only [List.length_drop, List.length_take]; rfl)) ?_; (refine (slices_Grow_Sint_int.nil x3_1 t102 _ A6.out).mono ?_); rintro e w7 ⟨v103, rfl, ho0, hb⟩; refine ⟨_, rfl, ?_⟩; have HO104 := Za.mk (Kd.R_lower ho0 (Zk (by repeat (first | (with_reducible first | exact HB.out | apply zc1 | apply zc2 | apply zc3) | exact HB.out)))); replace HB := Za.mk (Zm (by repeat (first | (with_reducible first | exact HB.out | apply zc1 | apply zc2 | apply zc3) | exact HB.out)) hb); (try clear hb); (try clear hb2); (try clear hk); (try clear hi); (try clear ho0)))
   go_loopg [6, 27] k1 (fun kq v6 v27 w' => ∃ (x6_2 : List Int) (x27_2 : Int), v27 = .int .i64 x27_2 ∧ Za (Zb1.l1 kq x6_2 l0 (l0.length : Int) x27_2 = some r) ∧ Za (kq ≤ k1) ∧ Za (Kd.R (Kd.int .i64) 3 w' w.heap.size (fun _ => True) v6 x6_2) ∧ Za (Below w.heap.size w w'))
   case atStart => exact ⟨(t102), (0), (by first | rfl | (simp; done) | (simp [*]; done)), H', ⟨Nat.le_refl _⟩, ⟨by (with_reducible repeat (first | apply Kd.R_alloc | apply Kd.R_drewN | apply Kd.R_drew)); exact HO104.out⟩, ⟨by repeat (first | (with_reducible first | exact HB.out | apply zc1 | apply zc2 | apply zc3) | exact HB.out)⟩⟩
   case round =>
    (clear H'); (try clear c1); (try clear p1); (try clear q1); (try clear hx1); (try clear c2); (try clear c2b0); (try clear p2); (try clear c3); (try clear c3b0); (try clear c4); (try clear c4b0); (try clear c5); (try clear c5b0); (try clear p6); (try clear hx101_0); (try clear p101); (try clear q101); (obtain ⟨x6_2, x27_2, rfl, HA, HK2, HO_6, HB⟩ := hrel)
    cases gk with
    | zero => exact absurd HA.out (by simp [Zb1.l1])
    | succ k2 =>
     (have H := HA.out); (clear HA); (simp only [Zb1.l1] at H)
     by_cases c8 : x27_2 < (l0.length : Int)
     rotate_left
     ·rw [if_neg c8] at H
      (have c8b0 : decide (x27_2 < (l0.length : Int)) = false := decide_eq_false c8); (clear c8); (obtain rfl := Option.some.inj H)
      go_wp2
      go_ret
      exact ⟨_, by first | rfl | (simp [Zv, Zw] <;> rfl) | (simp [*, Zv, Zw] <;> rfl), by (with_reducible repeat (first | apply Kd.R_alloc | apply Kd.R_drewN | apply Kd.R_drew)); exact HO_6.out, by repeat (first | (with_reducible first | exact HB.out | apply zc1 | apply zc2 | apply zc3) | exact HB.out)⟩
     (rw [if_pos c8] at H); (have c8b0 : decide (x27_2 < (l0.length : Int)) = true := decide_eq_true c8); (clear c8)
     by_cases c9 : 0 ≤ x27_2
     rotate_left
     ·rw [if_neg c9] at H
      exact absurd H (by simp)
     (rw [if_pos c9] at H); (have c9b0 : decide (0 ≤ x27_2) = true := decide_eq_true c9); (clear c9)
     by_cases c10 : x27_2 < (l0.length : Int)
     rotate_left
     ·rw [if_neg c10] at H
      exact absurd H (by simp)
     (rw [if_pos c10] at H); (have c10b0 : decide (x27_2 < (l0.length : Int)) = true := decide_eq_true c10); (clear c10)
     by_cases c11 : x6_2.length + (Zd l0 x27_2).length < 17592186044416
     rotate_left
     ·rw [if_neg c11] at H
      exact absurd H (by simp)
     (rw [if_pos c11] at H); (have LMc11 := Za.mk c11); (clear c11); (obtain ⟨y106, hy106⟩ : ∃ y_ : List Int, y_ = (x6_2 ++ (Zd l0 x27_2)) := ⟨_, rfl⟩); (replace H : (Zb1.l1 k2 y106 l0 (l0.length : Int) (wrap64 (x27_2 + 1))) = some r := by first | (rw [hy106]; with_reducible exact H) | (have H2_ := (Option.bind_some _ _).symm.trans H; rw [hy106]; with_reducible exact H2_) | (have H2_ := (Option.bind_some _ _).symm.trans H; with_reducible exact H2_) | with_reducible exact H | (rw [hy106]; exact H) | exact H); (have Ny106 := Za.mk hy106); (clear hy106); (have H' := Za.mk H); (clear H); (have p105 : 0 ≤ (x27_2 : Int) := of_decide_eq_true (by assumption)); (have q105 : x27_2 < (l0.length : Int) := of_decide_eq_true (by assumption)); (obtain ⟨ad105, A105_0, c105_0, e105, hx105_0, hl105_0, hi105_0⟩ := at_L1 HR0.out x27_2 p105 q105); (cases e105); (replace hx105_0 := (HB.out.cell (World.block_lt_of_cell? w _ hx105_0)).trans hx105_0); (have HR105_0 := Za.mk hi105_0); (have HC105_0 := Za.mk hl105_0); (clear hi105_0 hl105_0); (replace p105 := eq_true p105); (replace q105 := eq_true q105)
     go_wp2_with (first | ((with_reducible refine gate_builtin (b := .append) (xs := #[.tmp 31, .tmp 32]) rfl ?_); at_builtin; refine Kd.R_append_rows (Kd.int .i64) (w0 := w) w.heap.size rfl (.tmp 31) (.tmp 32) 26 3 (.int .i64 0) 8 rfl Try.underlying26 info3 rfl (by decide) (by omega) u6 x6_2 (Zd l0 x27_2) _ _ _ (fun _ => True) (fun _ => False) rfl rfl ?aO ?aR (fun _ _ h => h) (fun _ h => h.elim) ?aF ?aB ?aS ?aL ?_; (case aR => repeat (first | exact (Kd.C_below HR105_0.out HB.out) | (with_reducible refine Kd.C_alloc ?_ _) | (with_reducible refine Kd.C_drewN ?_ _) | (with_reducible refine Kd.C_drew ?_))); (case aB => exact (by repeat (first | (with_reducible first | exact HB.out | apply zc1 | apply zc2 | apply zc3) | exact HB.out))); (case aF => exact (fun _ _ => trivial)); (case aO => exact (by (with_reducible repeat (first | apply Kd.R_alloc | apply Kd.R_drewN | apply Kd.R_drew)); exact HO_6.out)); (case aS => exact (Zk (by repeat (first | (with_reducible first | exact HB.out | apply zc1 | apply zc2 | apply zc3) | exact HB.out)))); (case aL => have := LMc11.out; omega); intro v107 w12 ho hb hg hat; rw [← Ny106.out] at ho; replace HB := Za.mk (hb); have HO108 := Za.mk (ho); clear HO_6; clear ho hb hg hat))
     go_roundg k2
     case measure => have := HK1.out; have := HK2.out; omega
     case rel => exact ⟨(y106), (wrap64 (x27_2 + 1)), (by first | rfl | (simp; done) | (simp [*]; done)), H', ⟨by have := HK1.out; have := HK2.out; omega⟩, ⟨by (with_reducible repeat (first | apply Kd.R_alloc | apply Kd.R_drewN | apply Kd.R_drew)); exact HO108.out⟩, ⟨by repeat (first | (with_reducible first | exact HB.out | apply zc1 | apply zc2 | apply zc3) | exact HB.out)⟩⟩
def machine_Check_1_any.f (l0 : List (List Int)) (a1_0 : Int) (a1_1 : Int) (l1_2 : List (List Int)) (a1_3 : Int) (a1_4 : Int) : Option Bool := anyO (fun x : List Int => machine_Check_1.f x a1_0 a1_1 l1_2 a1_3 a1_4) l0
set_option maxHeartbeats 8000000 in
set_option maxRecDepth 100000 in
theorem machine_Check_1_any.calls (A0 : Option Addr) (c0 : Nat) (l0 : List (List Int)) (a1_0 : Int) (a1_1 : Int) (A1_2 : Option Addr) (c1_2 : Nat) (l1_2 : List (List Int)) (a1_3 : Int) (a1_4 : Int) (g1 : Nat) (r : Bool) (w : World) (hr0 : Kd.C (Kd.slice 3 (Kd.int .i64)) w A0 l0.length l0) (hc0 : l0.length ≤ c0) (hr1_2 : Kd.C (Kd.slice 3 (Kd.int .i64)) w A1_2 l1_2.length l1_2) (hc1_2 : l1_2.length ≤ c1_2) (hbk1 : w.heap[g1]? = some (.cells #[.int .i64 a1_0, .int .i64 a1_1, .slice A1_2 l1_2.length c1_2, .int .i64 a1_3, .int .u32 a1_4] 25 (0, 0))) (h : machine_Check_1_any.f l0 a1_0 a1_1 l1_2 a1_3 a1_4 = some r) :
    Calls Try.prog 15 #[.slice A0 l0.length c0, .func (.func 16) #[] #[.pointer (some ⟨g1, 0, none⟩)]] w fun e w' => e = .returned (.bool r) ∧ Below w.heap.size w w' := by
 refine slices_ContainsFunc_SSint_Sint.anyO (fun x : List Int => machine_Check_1.f x a1_0 a1_1 l1_2 a1_3 a1_4) 16 #[.pointer (some ⟨g1, 0, none⟩)] (enters_of Try.func16 (by kernel_rfl) rfl) A0 c0 l0 w r h hr0 ?_
 intro W x cs b hx hB hK hp
 obtain ⟨A, c, rfl, hc, hr⟩ := hK
 refine (machine_Check_1.calls A c x a1_0 a1_1 A1_2 c1_2 l1_2 a1_3 a1_4 g1 b W hr hc (Kd.C_below hr1_2 hB) hc1_2 (Zi hbk1 hB) hp).mono ?_
 rintro e w' ⟨rfl, h2⟩
 exact ⟨rfl, Zm hB h2.below⟩
end Go.Proofs.Ytdoenjnjpenboaa.PLeastAparts
