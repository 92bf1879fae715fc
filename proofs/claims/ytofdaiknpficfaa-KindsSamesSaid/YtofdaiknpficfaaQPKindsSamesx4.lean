-- Printed by a turn of a template of the kit, and shortened: remarks and what nothing here uses are left out.
import Derived.Test.YtofdaiknpficfaaQPKindsSamesx0
namespace Go.Proofs.Ytofdaiknpficfaa.PKindsSames
open Go.RowKit Go.Proofs.YtofdaiknpficfaaW.PrintWords Go.Proofs.YtofdaiknpficfaaW.PrintLast Go.Proofs.YtofdaiknpficfaaW.PrintMore
attribute [local go_sem] max2_int min2_int max_two min_two max_three min_three max_four min_four
set_option linter.unusedVariables false
set_option linter.unusedSimpArgs false
set_option maxHeartbeats 8000000 in
set_option maxRecDepth 100000 in
theorem slices_IndexFunc_Sint_int.any (p : Int → Bool) (g : Nat) (lb : Array Value) (eg : ∀ args w, (callFunc g args).run Try.prog w = .ok (.enter g args) w) (A : Option Addr) (c : Nat) (l : List Int) (w : World) (q_ : Int) (hq_ : Lib.idxBy (fun _ y => p y) l default = q_) (hr : Kd.C (Kd.int .i64) w A l.length l)
    (hp : ∀ (W : World) (x : Int) (v : Value), x ∈ l → Below w.heap.size w W → ((Kd.int .i64)).K W x [v] → Calls Try.prog g (#[v] ++ lb) W fun e w' => e = .returned (.bool (p x)) ∧ Below w.heap.size w w') :
    Calls Try.prog 38 #[.slice A l.length c, .func (.func g) #[] lb] w fun e w' => e = .returned (.int .i64 q_) ∧ Below w.heap.size w w' := by
  have HQ := Za.mk hq_
  clear hq_
  have HR := Za.mk hr
  have HP := Za.mk hp
  have hbig := hr.2.1
  clear hr hp
  go_enter Try.func38, Try.ntmps38
  go_wp2
  go_loopg [5, 8] l.length (fun gg _ s8 wr => ∃ kk : Nat, kk ≤ l.length ∧ l.length - kk ≤ gg ∧ s8 = .int .i64 kk ∧ Za (Below w.heap.size w wr) ∧ Za (∀ j, j < kk → p l[j]! = false))
  case atStart => exact ⟨0, Nat.zero_le _, by omega, rfl, ⟨Below.refl _ w⟩, ⟨fun j hj => absurd hj (Nat.not_lt_zero _)⟩⟩
  case round =>
    obtain ⟨kk, hkk, hg, rfl, BW, A0⟩ := hrel
    by_cases hlt : kk < l.length
    · have hltz : (kk : Int) < (l.length : Int) := by omega
      obtain ⟨ad, rfl, hcs⟩ := HR.out.2.2 (by omega)
      obtain ⟨cs, hcl, hK, hcell⟩ := hcs kk _ (List.getElem?_eq_getElem hlt)
      obtain ⟨v, rfl⟩ : ∃ v, cs = [v] := List.length_eq_one_iff.1 hcl
      have l2 : wr.cell? (ad.add kk) = some v := by
        have := hcell 0 v rfl
        simp only [Nat.add_zero, show ((Kd.int .i64)).sz = 1 from rfl, Nat.mul_one] at this
        exact pw_cell_below BW.out this
      have hcall := HP.out wr l[kk] v (List.getElem_mem _) BW.out (((Kd.int .i64)).K_below BW.out hK)
      have hpk : Za (l[kk]! = l[kk]) := ⟨by simp [hlt]⟩
      clear hcs hcl hK hcell
      generalize hy : l[kk] = y at hcall hpk
      clear hy
      cases hq : p y with
      | true =>
        rw [hq] at hcall
        go_wp2_with (go_at_fn g; refine hcall.mono ?_; rintro e w' ⟨rfl, hb'⟩)
        go_ret
        refine ⟨?_, hb'⟩
        have := Lib.idxBy_hit (fun _ y => p y) l l.length kk default hlt (Nat.le_refl _) (by show p l[kk]! = true; rw [hpk.out]; exact hq) A0.out
        rw [List.take_length, HQ.out] at this
        rw [this]
        rfl
      | false =>
        rw [hq] at hcall
        go_wp2_with (go_at_fn g; refine hcall.mono ?_; rintro e w' ⟨rfl, hb'⟩)
        go_roundg (l.length - (kk + 1))
        case measure => omega
        case rel =>
          refine ⟨kk + 1, by omega, by omega, by go_num, ⟨hb'⟩, ⟨fun j hj => ?_⟩⟩
          by_cases e : j = kk
          · subst e
            rw [hpk.out]; exact hq
          · exact A0.out j (by omega)
    · have hltz : ¬ (kk : Int) < (l.length : Int) := by omega
      have : kk = l.length := by omega
      subst this
      go_wp2
      go_ret
      refine ⟨?_, BW.out⟩
      have := Lib.idxBy_miss (fun _ y => p y) l l.length default A0.out
      rw [List.take_length, HQ.out] at this
      rw [this]
      rfl
set_option maxHeartbeats 8000000 in
set_option maxRecDepth 100000 in
theorem slices_IndexFunc_Sint_int.anyO (p : Int → Option Bool) (g : Nat) (lb : Array Value) (eg : ∀ args w, (callFunc g args).run Try.prog w = .ok (.enter g args) w) (A : Option Addr) (c : Nat) (l : List Int) (w : World) (q_ : Int) (hq_ : idxO p l 0 = some q_) (hr : Kd.C (Kd.int .i64) w A l.length l)
    (hp : ∀ (W : World) (x : Int) (cs : List Value) (b : Bool), x ∈ l → Below w.heap.size w W → ((Kd.int .i64)).K W x cs → p x = some b → Calls Try.prog g (#[cs.getD 0 undef] ++ lb) W fun e w' => e = .returned (.bool b) ∧ Below w.heap.size w w') :
    Calls Try.prog 38 #[.slice A l.length c, .func (.func g) #[] lb] w fun e w' => e = .returned (.int .i64 q_) ∧ Below w.heap.size w w' := by
  have HQ := Za.mk hq_
  clear hq_
  have HR := Za.mk hr
  have HP := Za.mk hp
  have hbig := hr.2.1
  clear hr hp
  go_enter Try.func38, Try.ntmps38
  go_wp2
  go_loopg [5, 8] l.length (fun gg _ s8 wr => ∃ kk : Nat, kk ≤ l.length ∧ l.length - kk ≤ gg ∧ s8 = .int .i64 kk ∧ Za (Below w.heap.size w wr) ∧ Za (idxO p (l.drop kk) kk = some q_))
  case atStart => exact ⟨0, Nat.zero_le _, by omega, rfl, ⟨Below.refl _ w⟩, ⟨HQ.out⟩⟩
  case round =>
    obtain ⟨kk, hkk, hg, rfl, BW, A0⟩ := hrel
    by_cases hlt : kk < l.length
    · have hltz : (kk : Int) < (l.length : Int) := by omega
      have HD := A0.out
      rw [List.drop_eq_getElem_cons hlt] at HD
      unfold idxO at HD
      cases hq : p l[kk] with
      | none => rw [hq] at HD; cases HD
      | some b =>
      rw [hq] at HD
      simp only [Option.bind_some] at HD
      have HE := Za.mk HD
      clear HD A0
      obtain ⟨ad, rfl, hcs⟩ := HR.out.2.2 (by omega)
      obtain ⟨cs, hcl, hK, hcell⟩ := hcs kk _ (List.getElem?_eq_getElem hlt)
      obtain ⟨v, rfl⟩ : ∃ v, cs = [v] := List.length_eq_one_iff.1 hcl
      have l2 : wr.cell? (ad.add kk) = some v := by
        have := hcell 0 v rfl
        simp only [Nat.add_zero, show ((Kd.int .i64)).sz = 1 from rfl, Nat.mul_one] at this
        exact pw_cell_below BW.out this
      have hcall := HP.out wr l[kk] _ b (List.getElem_mem _) BW.out (((Kd.int .i64)).K_below BW.out hK) hq
      clear hcs hcl hK hcell hq
      generalize hy : l[kk] = y at hcall
      clear hy
      cases b with
      | true =>
        go_wp2_with (go_at_fn g; refine hcall.mono ?_; rintro e w' ⟨rfl, hb'⟩)
        go_ret
        refine ⟨?_, hb'⟩
        have := Option.some.inj (show some (kk : Int) = some q_ from HE.out)
        rw [this]
        rfl
      | false =>
        go_wp2_with (go_at_fn g; refine hcall.mono ?_; rintro e w' ⟨rfl, hb'⟩)
        go_roundg (l.length - (kk + 1))
        case measure => omega
        case rel => exact ⟨kk + 1, by omega, by omega, by go_num, ⟨hb'⟩, ⟨HE.out⟩⟩
    · have hltz : ¬ (kk : Int) < (l.length : Int) := by omega
      have : kk = l.length := by omega
      subst this
      have HD := A0.out
      rw [List.drop_length] at HD
      have := Option.some.inj (show some (-1 : Int) = some q_ from HD)
      subst this
      clear HD A0 HQ
      go_wp2
      go_ret
      exact ⟨rfl, BW.out⟩
set_option maxHeartbeats 8000000 in
set_option maxRecDepth 100000 in
theorem slices_ContainsFunc_Sint_int.any (p : Int → Bool) (g : Nat) (lb : Array Value) (eg : ∀ args w, (callFunc g args).run Try.prog w = .ok (.enter g args) w) (A : Option Addr) (c : Nat) (l : List Int) (w : World) (hr : Kd.C (Kd.int .i64) w A l.length l)
    (hp : ∀ (W : World) (x : Int) (v : Value), x ∈ l → Below w.heap.size w W → ((Kd.int .i64)).K W x [v] → Calls Try.prog g (#[v] ++ lb) W fun e w' => e = .returned (.bool (p x)) ∧ Below w.heap.size w w') :
    Calls Try.prog 30 #[.slice A l.length c, .func (.func g) #[] lb] w fun e w' => e = .returned (.bool (l.any p)) ∧ Below w.heap.size w w' := by
  rw [show l.any p = decide (0 ≤ Lib.idxBy (fun _ y => p y) l default) from (Lib.idxBy_nonneg_iff (fun _ y => p y) l default).symm]
  obtain ⟨q_, hq_⟩ : ∃ q_, Lib.idxBy (fun _ y => p y) l default = q_ := ⟨_, rfl⟩
  have hix := slices_IndexFunc_Sint_int.any p g lb eg A c l w q_ hq_ hr hp
  rw [hq_]
  clear hr hp
  have e6 : ∀ args w, (callFunc 38 args).run Try.prog w = .ok (.enter 38 args) w := enters_of Try.func38 (by kernel_rfl) rfl
  go_enter Try.func30, Try.ntmps30
  go_wp2_with (go_at_fn 38; refine hix.mono ?_; rintro e w' ⟨rfl, hb'⟩)
  go_ret
  exact ⟨rfl, hb'⟩
set_option maxHeartbeats 8000000 in
set_option maxRecDepth 100000 in
theorem slices_ContainsFunc_Sint_int.anyO (p : Int → Option Bool) (g : Nat) (lb : Array Value) (eg : ∀ args w, (callFunc g args).run Try.prog w = .ok (.enter g args) w) (A : Option Addr) (c : Nat) (l : List Int) (w : World) (q_ : Bool) (hq_ : anyO p l = some q_) (hr : Kd.C (Kd.int .i64) w A l.length l)
    (hp : ∀ (W : World) (x : Int) (cs : List Value) (b : Bool), x ∈ l → Below w.heap.size w W → ((Kd.int .i64)).K W x cs → p x = some b → Calls Try.prog g (#[cs.getD 0 undef] ++ lb) W fun e w' => e = .returned (.bool b) ∧ Below w.heap.size w w') :
    Calls Try.prog 30 #[.slice A l.length c, .func (.func g) #[] lb] w fun e w' => e = .returned (.bool q_) ∧ Below w.heap.size w w' := by
  obtain ⟨q, hq, rfl⟩ := idx_anyO p l 0 q_ (Int.le_refl _) hq_
  have hix := slices_IndexFunc_Sint_int.anyO p g lb eg A c l w q hq hr hp
  clear hr hp hq hq_
  have e6 : ∀ args w, (callFunc 38 args).run Try.prog w = .ok (.enter 38 args) w := enters_of Try.func38 (by kernel_rfl) rfl
  go_enter Try.func30, Try.ntmps30
  go_wp2_with (go_at_fn 38; refine hix.mono ?_; rintro e w' ⟨rfl, hb'⟩)
  go_ret
  exact ⟨rfl, hb'⟩
def machine_Words_1.f (a0 : Int) (a1_0 : Int) : Option (Bool) := if a0 < 0 then (some true) else (some (decide (a0 ≥ a1_0)))
set_option maxHeartbeats 8000000 in
set_option maxRecDepth 100000 in
theorem machine_Words_1.calls (a0 : Int) (a1_0 : Int) (g1 : Nat) (r : Bool) (w : World) (hbk1 : w.heap[g1]? = some (.cells #[.int .i64 a1_0] 3 (0, 0))) (h : machine_Words_1.f a0 a1_0 = some r) :
    Calls Try.prog 31 #[.int .i64 a0, .pointer (some ⟨g1, 0, none⟩)] w fun e w' => e = .returned (.bool r) ∧ Zt w w' := by
 (have hu3 := Try.underlying3); (have BK1 := Za.mk hbk1); (clear hbk1); (have H : (if a0 < 0 then (some true) else (some (decide (a0 ≥ a1_0)))) = some r := h); (clear h)
 by_cases c3 : a0 < 0
 ·rw [if_pos c3] at H
  (have c3b0 : decide (a0 < 0) = true := decide_eq_true c3); (clear c3); (obtain rfl := Option.some.inj H)
  go_enter Try.func31, Try.ntmps31
  go_wp2
  go_ret
  exact ⟨by first | rfl | (simp; done) | (simp [*]; done), by repeat (first | exact Zt.refl _ | apply Zt.step)⟩
 (rw [if_neg c3] at H); (have c3b0 : decide (a0 < 0) = false := decide_eq_false c3); (clear c3); (obtain rfl := Option.some.inj H); (have hcz4_0 : w.cell? ⟨g1, 0, none⟩ = some (.int .i64 a1_0) := (Zb BK1.out 0).trans rfl); (have hfz4_0 := Zc BK1.out 0)
 go_enter Try.func31, Try.ntmps31
 go_wp2
 go_ret
 exact ⟨by first | rfl | (simp; done) | (simp [*]; done), by repeat (first | exact Zt.refl _ | apply Zt.step)⟩
def machine_Words_1_any.f (l0 : List Int) (a1_0 : Int) : Option Bool := anyO (fun x : Int => machine_Words_1.f x a1_0) l0
set_option maxHeartbeats 8000000 in
set_option maxRecDepth 100000 in
theorem machine_Words_1_any.calls (A0 : Option Addr) (c0 : Nat) (l0 : List Int) (a1_0 : Int) (g1 : Nat) (r : Bool) (w : World) (hr0 : Kd.C (Kd.int .i64) w A0 l0.length l0) (hc0 : l0.length ≤ c0) (hbk1 : w.heap[g1]? = some (.cells #[.int .i64 a1_0] 3 (0, 0))) (h : machine_Words_1_any.f l0 a1_0 = some r) :
    Calls Try.prog 30 #[.slice A0 l0.length c0, .func (.func 31) #[] #[.pointer (some ⟨g1, 0, none⟩)]] w fun e w' => e = .returned (.bool r) ∧ Below w.heap.size w w' := by
 refine slices_ContainsFunc_Sint_int.anyO (fun x : Int => machine_Words_1.f x a1_0) 31 #[.pointer (some ⟨g1, 0, none⟩)] (enters_of Try.func31 (by kernel_rfl) rfl) A0 c0 l0 w r h hr0 ?_
 intro W x cs b hx hB hK hp
 obtain rfl := hK
 refine (machine_Words_1.calls x a1_0 g1 b W   (Zn hbk1 hB) hp).mono ?_
 rintro e w' ⟨rfl, h2⟩
 exact ⟨rfl, Zo hB h2.below⟩
def machine_Words.f (a0 : Int) (l1 : List Int) : Option (Int) := if (l1.length : Int) > 12 then (some 1) else ((machine_Words_1_any.f l1 a0).bind fun t122 => (if t122 = true then (some 2) else (some 0)))
set_option maxHeartbeats 8000000 in
set_option maxRecDepth 100000 in
theorem machine_Words.calls (a0 : Int) (A1 : Option Addr) (c1 : Nat) (l1 : List Int) (r : Int) (w : World) (hr1 : Kd.C (Kd.int .i64) w A1 l1.length l1) (hc1 : l1.length ≤ c1) (h : machine_Words.f a0 l1 = some r) :
    Calls Try.prog 17 #[.int .i64 a0, .slice A1 l1.length c1] w fun e w' => e = .returned (.int .i64 r) ∧ Below w.heap.size w w' := by
 (have hu3 := Try.underlying3); (have HR1 := Za.mk hr1); (have HC1 := Za.mk hc1); (clear hr1 hc1); (have HB := Za.mk (Below.refl w.heap.size w)); (have H : (if (l1.length : Int) > 12 then (some 1) else ((machine_Words_1_any.f l1 a0).bind fun t122 => (if t122 = true then (some 2) else (some 0)))) = some r := h); (clear h)
 by_cases c3 : (l1.length : Int) > 12
 ·rw [if_pos c3] at H
  (have c3b0 : decide (12 < (l1.length : Int)) = true := decide_eq_true c3); (have c3b1 : decide (12 < l1.length) = true := decide_eq_true (by omega)); (clear c3); (obtain rfl := Option.some.inj H)
  go_enter Try.func17, Try.ntmps17
  go_wp2_with (first | ((with_reducible refine Zb1 (N := 2) rfl ?_); refine Zi1 ?hg (N := 2) ?hd (cs := #[.int .i64 a0]) (t := 3) ?hr ?_; (case hd => rfl); (case hg => rfl); (case hr => first | (go_simp; done) | (go_simp; rfl)); intro gb121 hg w4 hbox hb; have BK121 := Za.mk (hbox); have GW121 := Za.mk ((by rw [hg]; exact (Zl (by repeat (first | (with_reducible first | exact HB.out | apply zc1 | apply zc2 | apply zc3) | exact HB.out))) : w.heap.size ≤ gb121)); have GE121 := Za.mk ((by rw [hg]; exact (Zl (by repeat (first | (with_reducible first | exact HB.out | apply zc1 | apply zc2 | apply zc3) | exact HB.out))) : w.heap.size ≤ gb121)); replace HB := Za.mk (Zo (by repeat (first | (with_reducible first | exact HB.out | apply zc1 | apply zc2 | apply zc3) | exact HB.out)) hb); clear hb hbox hg))
  go_ret
  exact ⟨by first | rfl | (simp [Zu, Zv] <;> rfl) | (simp [*, Zu, Zv] <;> rfl), by repeat (first | (with_reducible first | exact HB.out | apply zc1 | apply zc2 | apply zc3 | refine zc4 ?_ (by assumption)) | exact HB.out)⟩
 (rw [if_neg c3] at H); (have c3b0 : decide (12 < (l1.length : Int)) = false := decide_eq_false c3); (have c3b1 : decide (12 < l1.length) = false := decide_eq_false (by omega)); (clear c3); (replace H := Option.bind_eq_some_iff.mp H); (obtain ⟨t122, A50, H⟩ := H); (replace H : (if t122 = true then (some 2) else (some 0)) = some r := H); (have A5 := Za.mk A50); (clear A50)
 by_cases c6 : t122 = true
 ·subst c6
  (have H1 : (some 2) = some r := by rw [if_pos rfl] at H; exact H); (clear H); (have H := H1); (clear H1); (obtain rfl := Option.some.inj H)
  go_enter Try.func17, Try.ntmps17
  go_wp2_with (first | ((with_reducible refine Zb1 (N := 2) rfl ?_); refine Zi1 ?hg (N := 2) ?hd (cs := #[.int .i64 a0]) (t := 3) ?hr ?_; (case hd => rfl); (case hg => rfl); (case hr => first | (go_simp; done) | (go_simp; rfl)); intro gb121 hg w7 hbox hb; have BK121 := Za.mk (hbox); have GW121 := Za.mk ((by rw [hg]; exact (Zl (by repeat (first | (with_reducible first | exact HB.out | apply zc1 | apply zc2 | apply zc3) | exact HB.out))) : w.heap.size ≤ gb121)); have GE121 := Za.mk ((by rw [hg]; exact (Zl (by repeat (first | (with_reducible first | exact HB.out | apply zc1 | apply zc2 | apply zc3) | exact HB.out))) : w.heap.size ≤ gb121)); replace HB := Za.mk (Zo (by repeat (first | (with_reducible first | exact HB.out | apply zc1 | apply zc2 | apply zc3) | exact HB.out)) hb); clear hb hbox hg) | ((with_reducible refine gate_callee (f := 30) rfl ?_); refine goesL_ (some 10) rfl rfl Try.func30 (by kernel_rfl) rfl #[.slice A1 l1.length c1, .func (.func 31) #[] #[.pointer (some ⟨gb121, 0, none⟩)]] rfl (by (try simp only [List.map_toArray, List.map_cons, List.map_nil]); first | done | rfl | (simp only [List.length_drop, List.length_take]; rfl)) ?_; (with_reducible refine (machine_Words_1_any.calls _ _ l1 a0 gb121 true _ ?side1 ?side2 ?side3 A5.out).mono ?_); (case side1 => repeat (first | exact (Kd.C_below HR1.out HB.out) | (with_reducible refine Kd.C_alloc ?_ _) | (with_reducible refine Kd.C_drewN ?_ _) | (with_reducible refine Kd.C_drew ?_))); (case side2 => exact HC1.out); (case side3 => exact (by (with_reducible repeat (first | apply zb3 | apply zb2 | apply zb1)); exact BK121.out)); rintro e w8 ⟨rfl, hb⟩; refine ⟨_, rfl, ?_⟩; replace BK121 := Za.mk (Zn (g := gb121) (by (with_reducible repeat (first | apply zb3 | apply zb2 | apply zb1)); exact BK121.out) hb); replace HB := Za.mk (Zo (by repeat (first | (with_reducible first | exact HB.out | apply zc1 | apply zc2 | apply zc3 | refine zc4 ?_ (by assumption)) | exact HB.out)) hb); (try clear hb); (try clear hb2); (try clear hk); (try clear hi)))
  go_ret
  exact ⟨by first | rfl | (simp [Zu, Zv] <;> rfl) | (simp [*, Zu, Zv] <;> rfl), by repeat (first | (with_reducible first | exact HB.out | apply zc1 | apply zc2 | apply zc3 | refine zc4 ?_ (by assumption)) | exact HB.out)⟩
 (replace c6 := Bool.eq_false_iff.mpr c6); (subst c6); (have H1 : (some 0) = some r := by rw [if_neg (show ¬ (false = true) by decide)] at H; exact H); (clear H); (have H := H1); (clear H1); (obtain rfl := Option.some.inj H)
 go_enter Try.func17, Try.ntmps17
 go_wp2_with (first | ((with_reducible refine Zb1 (N := 2) rfl ?_); refine Zi1 ?hg (N := 2) ?hd (cs := #[.int .i64 a0]) (t := 3) ?hr ?_; (case hd => rfl); (case hg => rfl); (case hr => first | (go_simp; done) | (go_simp; rfl)); intro gb121 hg w9 hbox hb; have BK121 := Za.mk (hbox); have GW121 := Za.mk ((by rw [hg]; exact (Zl (by repeat (first | (with_reducible first | exact HB.out | apply zc1 | apply zc2 | apply zc3) | exact HB.out))) : w.heap.size ≤ gb121)); have GE121 := Za.mk ((by rw [hg]; exact (Zl (by repeat (first | (with_reducible first | exact HB.out | apply zc1 | apply zc2 | apply zc3) | exact HB.out))) : w.heap.size ≤ gb121)); replace HB := Za.mk (Zo (by repeat (first | (with_reducible first | exact HB.out | apply zc1 | apply zc2 | apply zc3) | exact HB.out)) hb); clear hb hbox hg) | ((with_reducible refine gate_callee (f := 30) rfl ?_); refine goesL_ (some 10) rfl rfl Try.func30 (by kernel_rfl) rfl #[.slice A1 l1.length c1, .func (.func 31) #[] #[.pointer (some ⟨gb121, 0, none⟩)]] rfl (by (try simp only [List.map_toArray, List.map_cons, List.map_nil]); first | done | rfl | (simp only [List.length_drop, List.length_take]; rfl)) ?_; (with_reducible refine (machine_Words_1_any.calls _ _ l1 a0 gb121 false _ ?side1 ?side2 ?side3 A5.out).mono ?_); (case side1 => repeat (first | exact (Kd.C_below HR1.out HB.out) | (with_reducible refine Kd.C_alloc ?_ _) | (with_reducible refine Kd.C_drewN ?_ _) | (with_reducible refine Kd.C_drew ?_))); (case side2 => exact HC1.out); (case side3 => exact (by (with_reducible repeat (first | apply zb3 | apply zb2 | apply zb1)); exact BK121.out)); rintro e w10 ⟨rfl, hb⟩; refine ⟨_, rfl, ?_⟩; replace BK121 := Za.mk (Zn (g := gb121) (by (with_reducible repeat (first | apply zb3 | apply zb2 | apply zb1)); exact BK121.out) hb); replace HB := Za.mk (Zo (by repeat (first | (with_reducible first | exact HB.out | apply zc1 | apply zc2 | apply zc3 | refine zc4 ?_ (by assumption)) | exact HB.out)) hb); (try clear hb); (try clear hb2); (try clear hk); (try clear hi)))
 go_ret
 exact ⟨by first | rfl | (simp [Zu, Zv] <;> rfl) | (simp [*, Zu, Zv] <;> rfl), by repeat (first | (with_reducible first | exact HB.out | apply zc1 | apply zc2 | apply zc3 | refine zc4 ?_ (by assumption)) | exact HB.out)⟩
def Zk1.l0 : Nat → List Int → Int → Int → Int → Option (Int)
  | 0, _, _, _, _ => none
  | k + 1, x0, x1, x7, x8 => if x8 < x7 then (if 0 ≤ x8 then (if x8 < (x0.length : Int) then (if x1 = (rd x0 x8) then (some x8) else (Zk1.l0 k x0 x1 x7 (wrap64 (x8 + 1)))) else (none)) else (none)) else (some (-1))
def Zk1.f (k : Nat) (l0 : List Int) (a1 : Int) : Option (Int) := Zk1.l0 k l0 a1 (l0.length : Int) 0
theorem Zk1.mono_l : ∀ k, (∀ y0 y1 y2 y3, LeO (Zk1.l0 k y0 y1 y2 y3) (Zk1.l0 (k + 1) y0 y1 y2 y3))
  | 0 => fun _ _ _ _ r h => by simp [Zk1.l0] at h
  | k + 1 => by
    have ih0 := Zk1.mono_l k
    · intro y0 y1 y2 y3
      unfold Zk1.l0
      repeat' first
      | (with_reducible exact ih0 _ _ _ _)
      | (with_reducible exact LeO.refl _)
      | (with_reducible exact LeO.none _)
      | (with_reducible refine LeO.ite ?_ ?_)
      | (with_reducible refine LeO.bind ?_ (fun _ => ?_))
      | exact ih0 _ _ _ _
      | exact LeO.none _
      | refine LeO.ite ?_ ?_
      | refine LeO.bind ?_ (fun _ => ?_)
theorem Zk1.mono : ∀ a0 a1 k, LeO (Zk1.f k a0 a1) (Zk1.f (k + 1) a0 a1) := by
  intro a0 a1 k
  have ih0 := Zk1.mono_l k
  unfold Zk1.f
  repeat' first
      | (with_reducible exact ih0 _ _ _ _)
      | (with_reducible exact LeO.refl _)
      | (with_reducible exact LeO.none _)
      | (with_reducible refine LeO.ite ?_ ?_)
      | (with_reducible refine LeO.bind ?_ (fun _ => ?_))
      | exact ih0 _ _ _ _
      | exact LeO.none _
      | refine LeO.ite ?_ ?_
      | refine LeO.bind ?_ (fun _ => ?_)
set_option maxHeartbeats 8000000 in
set_option maxRecDepth 100000 in
theorem Zk1.calls (k : Nat) (A0 : Option Addr) (c0 : Nat) (l0 : List Int) (a1 : Int) (r : Int) (w : World) (hr0 : Kd.C (Kd.int .i64) w A0 l0.length l0) (hc0 : l0.length ≤ c0) (h : Zk1.f k l0 a1 = some r) :
    Calls Try.prog 39 #[.slice A0 l0.length c0, .int .i64 a1] w fun e w' => e = .returned (.int .i64 r) ∧ Zt w w' := by
 (have hu3 := Try.underlying3); (have HR0 := Za.mk hr0); (have HC0 := Za.mk hc0); (clear hr0 hc0); (have H : (Zk1.l0 k l0 a1 (l0.length : Int) 0) = some r := h); (clear h); (have H' := Za.mk H); (clear H)
 go_enter Try.func39, Try.ntmps39
 go_wp2
 go_loopg [8] k (fun kq v8 w' => ∃ (x8_1 : Int), v8 = .int .i64 x8_1 ∧ Za (Zk1.l0 kq l0 a1 (l0.length : Int) x8_1 = some r) ∧ Za (kq ≤ k) ∧ Zt w w')
 case atStart => exact ⟨(0), (by first | rfl | (simp; done) | (simp [*]; done)), H', ⟨Nat.le_refl _⟩, by repeat (first | exact Zt.refl _ | apply Zt.step)⟩
 case round =>
  (clear H'); (try clear p2); (obtain ⟨x8_1, rfl, HA, HK1, ⟨m1, rfl⟩⟩ := hrel)
  cases gk with
  | zero => exact absurd HA.out (by simp [Zk1.l0])
  | succ k1 =>
   (have H := HA.out); (clear HA); (simp only [Zk1.l0] at H)
   by_cases c3 : x8_1 < (l0.length : Int)
   rotate_left
   ·rw [if_neg c3] at H
    (have c3b0 : decide (x8_1 < (l0.length : Int)) = false := decide_eq_false c3); (clear c3); (obtain rfl := Option.some.inj H)
    go_wp2
    go_ret
    exact ⟨by first | rfl | (simp; done) | (simp [*]; done), by repeat (first | exact Zt.refl _ | apply Zt.step)⟩
   (rw [if_pos c3] at H); (have c3b0 : decide (x8_1 < (l0.length : Int)) = true := decide_eq_true c3); (clear c3)
   by_cases c4 : 0 ≤ x8_1
   rotate_left
   ·rw [if_neg c4] at H
    exact absurd H (by simp)
   (rw [if_pos c4] at H); (have c4b0 : decide (0 ≤ x8_1) = true := decide_eq_true c4); (clear c4)
   by_cases c5 : x8_1 < (l0.length : Int)
   rotate_left
   ·rw [if_neg c5] at H
    exact absurd H (by simp)
   (rw [if_pos c5] at H); (have c5b0 : decide (x8_1 < (l0.length : Int)) = true := decide_eq_true c5); (clear c5)
   by_cases c6 : a1 = (rd l0 x8_1)
   ·rw [if_pos c6] at H
    (have c6b0 : (a1 == (rd l0 x8_1)) = true := beq_iff_eq.mpr c6); (have c6b1 : (a1 != (rd l0 x8_1)) = false := bne_eq_false_iff_eq.mpr c6); (clear c6); (obtain rfl := Option.some.inj H); (have p123 : 0 ≤ (x8_1 : Int) := of_decide_eq_true (by assumption)); (have q123 : x8_1 < (l0.length : Int) := of_decide_eq_true (by assumption)); (obtain ⟨ad123, e123, hx123_0⟩ := Kd.at_int HR0.out x8_1 p123 q123); (cases e123); (replace p123 := eq_true p123); (replace q123 := eq_true q123)
    go_wp2
    go_ret
    exact ⟨by first | rfl | (simp; done) | (simp [*]; done), by repeat (first | exact Zt.refl _ | apply Zt.step)⟩
   (rw [if_neg c6] at H); (have c6b0 : (a1 == (rd l0 x8_1)) = false := beq_eq_false_iff_ne.mpr c6); (have c6b1 : (a1 != (rd l0 x8_1)) = true := bne_iff_ne.mpr c6); (have H' := Za.mk H); (clear H); (have p123 : 0 ≤ (x8_1 : Int) := of_decide_eq_true (by assumption)); (have q123 : x8_1 < (l0.length : Int) := of_decide_eq_true (by assumption)); (obtain ⟨ad123, e123, hx123_0⟩ := Kd.at_int HR0.out x8_1 p123 q123); (cases e123); (replace p123 := eq_true p123); (replace q123 := eq_true q123)
   go_wp2
   go_roundg k1
   case measure => have := HK1.out; omega
   case rel => exact ⟨(wrap64 (x8_1 + 1)), (by first | rfl | (simp; done) | (simp [*]; done)), H', ⟨by have := HK1.out; omega⟩, by repeat (first | exact Zt.refl _ | apply Zt.step)⟩
end Go.Proofs.Ytofdaiknpficfaa.PKindsSames
