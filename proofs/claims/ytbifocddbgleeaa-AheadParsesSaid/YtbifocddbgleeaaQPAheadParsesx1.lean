-- By a program.
import Derived.Test.YtbifocddbgleeaaQPAheadParsesx0
namespace Go.Proofs.Ytbifocddbgleeaa.PAheadParses
set_option maxHeartbeats 8000000
set_option maxRecDepth 100000
open Go.RowKit Go.Proofs.YtbifocddbgleeaaW.PrintWords Go.Proofs.YtbifocddbgleeaaW.PrintLast Go.Proofs.YtbifocddbgleeaaW.PrintMore
attribute [local go_sem] max2_int min2_int max_two min_two max_three min_three max_four min_four
set_option linter.unusedVariables false
set_option linter.unusedSimpArgs false
def grammar_Check_1.f (a0_0:Int) (l0_1:List Int):Option (Bool):=some (decide ((l0_1.length:Int) > 4))
theorem grammar_Check_1.calls (ag : Int) (ah : Option Addr) (ai : Nat) (aa : List Int) (r : Bool) (w : World) (ab : Kd.C (Kd.int .i64) w ah aa.length aa) (ac : aa.length ≤ ai) (h : grammar_Check_1.f ag aa = some r) :
    Calls Try.prog 45 #[.agg #[.int .i64 ag,.slice ah aa.length ai]] w fun e w'=>e= .returned (.bool r)∧Below w.heap.size w w':=by
 (have ar:=Try.underlying41);(have an:=Za.mk ab);(have ao:=Za.mk ac);(clear ab ac);(have HB:=Za.mk (Below.refl w.heap.size w));(have H:(some (decide ((aa.length:Int) > 4)))=some r:=h);(clear h);(obtain rfl:=Option.some.inj H)
 go_enter Try.func45,Try.ntmps45
 go_wp2_with (first|((with_reducible refine Zs (N:=1) rfl ?_);refine Zx ?hg (N:=1) ?hd (cs:=#[.int .i64 ag,.slice ah aa.length ai]) (t:=41) ?hr ?_;(case hd=>rfl);(case hg=>rfl);(case hr=>first|(go_simp;done)|(go_simp;rfl));intro ae hg w2 hbox hb;have af:=Za.mk (hbox);have ap:=Za.mk ((by rw [hg];exact(Zg (zH HB)):w.heap.size≤ae));have aq:=Za.mk ((by rw [hg];exact(Zg (zH HB)):w.heap.size≤ae));replace HB:=Za.mk (Zh (zH HB) hb);clear hb hbox hg;obtain⟨aj,ak⟩:=zq2 af.out;obtain⟨al,am⟩:=zf2 af.out))
 go_ret
 exact⟨by first|rfl|(simp [Zl,Zk] <;> rfl)|(simp [*,Zl,Zk] <;> rfl),zH HB⟩
theorem slices_IndexFunc_Sapi_Rule_api_Rule.anyO (p : S41 → Option Bool) (g : Nat) (lb : Array Value) (eg : ∀ args w, (callFunc g args).run Try.prog w = .ok (.enter g args) w) (A : Option Addr) (c : Nat) (l : List (S41)) (w : World) (q_ : Int) (hq_ : idxO p l 0 = some q_) (hr : Kd.C k41 w A l.length l)
    (hp: ∀(W:World) (x:S41) (cs:List Value) (b:Bool),x∈l→Below w.heap.size w W→(k41).K W x cs→p x=some b→Calls Try.prog g (#[.agg cs.toArray]++lb) W fun e w'=>e= .returned (.bool b)∧Below w.heap.size w w'):
    Calls Try.prog 49 #[.slice A l.length c,.func (.func g) #[] lb] w fun e w'=>e= .returned (.int .i64 q_)∧Below w.heap.size w w':=by
  have HQ:=Za.mk hq_
  clear hq_
  have HR:=Za.mk hr
  have HP:=Za.mk hp
  have hbig:=hr.2.1
  clear hr hp
  have hu:=Try.underlying41
  go_enter Try.func49,Try.ntmps49
  go_wp2
  go_loopg [5,8] l.length (fun gg _ s8 wr=>∃kk:Nat,kk≤l.length∧l.length - kk≤gg∧s8= .int .i64 kk∧Za (Below w.heap.size w wr)∧Za (idxO p (l.drop kk) kk=some q_))
  case atStart=>exact⟨0,Nat.zero_le _,by omega,rfl,⟨Below.refl _ w⟩,⟨HQ.out⟩⟩
  case round=>
    obtain⟨kk,hkk,hg,rfl,BW,A0⟩:=hrel
    by_cases hlt:kk < l.length
    · have hltz:(kk:Int) < (l.length:Int):=by omega
      have HD:=A0.out
      rw [List.drop_eq_getElem_cons hlt] at HD
      unfold idxO at HD
      cases hq:p l[kk] with
      |none=>rw [hq] at HD;cases HD
      |some b=>
      rw [hq] at HD
      simp only [Option.bind_some] at HD
      have HE:=Za.mk HD
      clear HD A0
      obtain⟨ad,rfl,hcs⟩:=HR.out.2.2 (by omega)
      obtain⟨cs,hcl,hK,hcell⟩:=hcs kk _ (List.getElem?_eq_getElem hlt)
      have hcl2:cs.length=2:=hcl
      rcases cs with _|⟨v0,_|⟨v1,_|⟨_,_⟩⟩⟩ <;> simp only [List.length_cons,List.length_nil] at hcl2 <;> try omega
      have l2_0:wr.cell? (ad.add (kk * 2))=some v0:=by exact pw_cell_below BW.out (hcell 0 v0 rfl)
      have l2_1:wr.cell? ⟨(ad.add (kk * 2)).block,(ad.add (kk * 2)).off + 1,none⟩=some v1:=by rw [← add_field _ _ 1 (by omega)];exact pw_cell_below BW.out (hcell 1 v1 rfl)
      have hcall:=HP.out wr l[kk] _ b (List.getElem_mem _) BW.out ((k41).K_below BW.out hK) hq
      clear hcs hcl hK hcell hq
      generalize hy:l[kk]=y at hcall
      clear hy
      cases b with
      |true=>
        go_wp2_with (go_at_fn g;refine hcall.mono ?_;rintro e w' ⟨rfl,hb'⟩)
        go_ret
        refine⟨?_,hb'⟩
        have:=Option.some.inj (show some (kk:Int)=some q_ from HE.out)
        rw [this]
        rfl
      |false=>
        go_wp2_with (go_at_fn g;refine hcall.mono ?_;rintro e w' ⟨rfl,hb'⟩)
        go_roundg (l.length - (kk + 1))
        case measure=>omega
        case rel=>exact⟨kk + 1,by omega,by omega,by go_num,⟨hb'⟩,⟨HE.out⟩⟩
    · have hltz:¬ (kk:Int) < (l.length:Int):=by omega
      have:kk=l.length:=by omega
      subst this
      have HD:=A0.out
      rw [List.drop_length] at HD
      have:=Option.some.inj (show some (-1:Int)=some q_ from HD)
      subst this
      clear HD A0 HQ
      go_wp2
      go_ret
      exact⟨rfl,BW.out⟩
theorem slices_ContainsFunc_Sapi_Rule_api_Rule.anyO (p : S41 → Option Bool) (g : Nat) (lb : Array Value) (eg : ∀ args w, (callFunc g args).run Try.prog w = .ok (.enter g args) w) (A : Option Addr) (c : Nat) (l : List (S41)) (w : World) (q_ : Bool) (hq_ : anyO p l = some q_) (hr : Kd.C k41 w A l.length l)
    (hp: ∀(W:World) (x:S41) (cs:List Value) (b:Bool),x∈l→Below w.heap.size w W→(k41).K W x cs→p x=some b→Calls Try.prog g (#[.agg cs.toArray]++lb) W fun e w'=>e= .returned (.bool b)∧Below w.heap.size w w'):
    Calls Try.prog 46 #[.slice A l.length c,.func (.func g) #[] lb] w fun e w'=>e= .returned (.bool q_)∧Below w.heap.size w w':=by
  obtain⟨q,hq,rfl⟩:=idx_anyO p l 0 q_ (Int.le_refl _) hq_
  have hix:=slices_IndexFunc_Sapi_Rule_api_Rule.anyO p g lb eg A c l w q hq hr hp
  clear hr hp hq hq_
  have e6: ∀args w,(callFunc 49 args).run Try.prog w= .ok (.enter 49 args) w:=enters_of Try.func49 (by kernel_rfl) rfl
  go_enter Try.func46,Try.ntmps46
  go_wp2_with (go_at_fn 49;refine hix.mono ?_;rintro e w' ⟨rfl,hb'⟩)
  go_ret
  exact⟨rfl,hb'⟩
theorem slices_IndexFunc_Sint_int.any (p : Int → Bool) (g : Nat) (lb : Array Value) (eg : ∀ args w, (callFunc g args).run Try.prog w = .ok (.enter g args) w) (A : Option Addr) (c : Nat) (l : List Int) (w : World) (q_ : Int) (hq_ : Lib.idxBy (fun _ y => p y) l default = q_) (hr : Kd.C (Kd.int .i64) w A l.length l)
    (hp: ∀(W:World) (x:Int) (v:Value),x∈l→Below w.heap.size w W→((Kd.int .i64)).K W x [v]→Calls Try.prog g (#[v]++lb) W fun e w'=>e= .returned (.bool (p x))∧Below w.heap.size w w'):
    Calls Try.prog 43 #[.slice A l.length c,.func (.func g) #[] lb] w fun e w'=>e= .returned (.int .i64 q_)∧Below w.heap.size w w':=by
  have HQ:=Za.mk hq_
  clear hq_
  have HR:=Za.mk hr
  have HP:=Za.mk hp
  have hbig:=hr.2.1
  clear hr hp
  go_enter Try.func43,Try.ntmps43
  go_wp2
  go_loopg [5,8] l.length (fun gg _ s8 wr=>∃kk:Nat,kk≤l.length∧l.length - kk≤gg∧s8= .int .i64 kk∧Za (Below w.heap.size w wr)∧Za (∀j,j < kk→p l[j]! =false))
  case atStart=>exact⟨0,Nat.zero_le _,by omega,rfl,⟨Below.refl _ w⟩,⟨fun j hj=>absurd hj (Nat.not_lt_zero _)⟩⟩
  case round=>
    obtain⟨kk,hkk,hg,rfl,BW,A0⟩:=hrel
    by_cases hlt:kk < l.length
    · have hltz:(kk:Int) < (l.length:Int):=by omega
      obtain⟨ad,rfl,hcs⟩:=HR.out.2.2 (by omega)
      obtain⟨cs,hcl,hK,hcell⟩:=hcs kk _ (List.getElem?_eq_getElem hlt)
      obtain⟨v,rfl⟩ : ∃v,cs= [v]:=List.length_eq_one_iff.1 hcl
      have l2:wr.cell? (ad.add kk)=some v:=by
        have:=hcell 0 v rfl
        simp only [Nat.add_zero,show((Kd.int .i64)).sz=1 from rfl,Nat.mul_one] at this
        exact pw_cell_below BW.out this
      have hcall:=HP.out wr l[kk] v (List.getElem_mem _) BW.out (((Kd.int .i64)).K_below BW.out hK)
      have hpk:Za (l[kk]! =l[kk]):=⟨by simp [hlt]⟩
      clear hcs hcl hK hcell
      generalize hy:l[kk]=y at hcall hpk
      clear hy
      cases hq:p y with
      |true=>
        rw [hq] at hcall
        go_wp2_with (go_at_fn g;refine hcall.mono ?_;rintro e w' ⟨rfl,hb'⟩)
        go_ret
        refine⟨?_,hb'⟩
        have:=Lib.idxBy_hit (fun _ y=>p y) l l.length kk default hlt (Nat.le_refl _) (by show p l[kk]! =true;rw [hpk.out];exact hq) A0.out
        rw [List.take_length,HQ.out] at this
        rw [this]
        rfl
      |false=>
        rw [hq] at hcall
        go_wp2_with (go_at_fn g;refine hcall.mono ?_;rintro e w' ⟨rfl,hb'⟩)
        go_roundg (l.length - (kk + 1))
        case measure=>omega
        case rel=>
          refine⟨kk + 1,by omega,by omega,by go_num,⟨hb'⟩,⟨fun j hj=>?_⟩⟩
          by_cases e:j=kk
          · subst e
            rw [hpk.out];exact hq
          · exact A0.out j (by omega)
    · have hltz:¬ (kk:Int) < (l.length:Int):=by omega
      have:kk=l.length:=by omega
      subst this
      go_wp2
      go_ret
      refine⟨?_,BW.out⟩
      have:=Lib.idxBy_miss (fun _ y=>p y) l l.length default A0.out
      rw [List.take_length,HQ.out] at this
      rw [this]
      rfl
theorem slices_IndexFunc_Sint_int.anyO (p : Int → Option Bool) (g : Nat) (lb : Array Value) (eg : ∀ args w, (callFunc g args).run Try.prog w = .ok (.enter g args) w) (A : Option Addr) (c : Nat) (l : List Int) (w : World) (q_ : Int) (hq_ : idxO p l 0 = some q_) (hr : Kd.C (Kd.int .i64) w A l.length l)
    (hp: ∀(W:World) (x:Int) (cs:List Value) (b:Bool),x∈l→Below w.heap.size w W→((Kd.int .i64)).K W x cs→p x=some b→Calls Try.prog g (#[cs.getD 0 undef]++lb) W fun e w'=>e= .returned (.bool b)∧Below w.heap.size w w'):
    Calls Try.prog 43 #[.slice A l.length c,.func (.func g) #[] lb] w fun e w'=>e= .returned (.int .i64 q_)∧Below w.heap.size w w':=by
  have HQ:=Za.mk hq_
  clear hq_
  have HR:=Za.mk hr
  have HP:=Za.mk hp
  have hbig:=hr.2.1
  clear hr hp
  go_enter Try.func43,Try.ntmps43
  go_wp2
  go_loopg [5,8] l.length (fun gg _ s8 wr=>∃kk:Nat,kk≤l.length∧l.length - kk≤gg∧s8= .int .i64 kk∧Za (Below w.heap.size w wr)∧Za (idxO p (l.drop kk) kk=some q_))
  case atStart=>exact⟨0,Nat.zero_le _,by omega,rfl,⟨Below.refl _ w⟩,⟨HQ.out⟩⟩
  case round=>
    obtain⟨kk,hkk,hg,rfl,BW,A0⟩:=hrel
    by_cases hlt:kk < l.length
    · have hltz:(kk:Int) < (l.length:Int):=by omega
      have HD:=A0.out
      rw [List.drop_eq_getElem_cons hlt] at HD
      unfold idxO at HD
      cases hq:p l[kk] with
      |none=>rw [hq] at HD;cases HD
      |some b=>
      rw [hq] at HD
      simp only [Option.bind_some] at HD
      have HE:=Za.mk HD
      clear HD A0
      obtain⟨ad,rfl,hcs⟩:=HR.out.2.2 (by omega)
      obtain⟨cs,hcl,hK,hcell⟩:=hcs kk _ (List.getElem?_eq_getElem hlt)
      obtain⟨v,rfl⟩ : ∃v,cs= [v]:=List.length_eq_one_iff.1 hcl
      have l2:wr.cell? (ad.add kk)=some v:=by
        have:=hcell 0 v rfl
        simp only [Nat.add_zero,show((Kd.int .i64)).sz=1 from rfl,Nat.mul_one] at this
        exact pw_cell_below BW.out this
      have hcall:=HP.out wr l[kk] _ b (List.getElem_mem _) BW.out (((Kd.int .i64)).K_below BW.out hK) hq
      clear hcs hcl hK hcell hq
      generalize hy:l[kk]=y at hcall
      clear hy
      cases b with
      |true=>
        go_wp2_with (go_at_fn g;refine hcall.mono ?_;rintro e w' ⟨rfl,hb'⟩)
        go_ret
        refine⟨?_,hb'⟩
        have:=Option.some.inj (show some (kk:Int)=some q_ from HE.out)
        rw [this]
        rfl
      |false=>
        go_wp2_with (go_at_fn g;refine hcall.mono ?_;rintro e w' ⟨rfl,hb'⟩)
        go_roundg (l.length - (kk + 1))
        case measure=>omega
        case rel=>exact⟨kk + 1,by omega,by omega,by go_num,⟨hb'⟩,⟨HE.out⟩⟩
    · have hltz:¬ (kk:Int) < (l.length:Int):=by omega
      have:kk=l.length:=by omega
      subst this
      have HD:=A0.out
      rw [List.drop_length] at HD
      have:=Option.some.inj (show some (-1:Int)=some q_ from HD)
      subst this
      clear HD A0 HQ
      go_wp2
      go_ret
      exact⟨rfl,BW.out⟩
theorem slices_ContainsFunc_Sint_int.any (p : Int → Bool) (g : Nat) (lb : Array Value) (eg : ∀ args w, (callFunc g args).run Try.prog w = .ok (.enter g args) w) (A : Option Addr) (c : Nat) (l : List Int) (w : World) (hr : Kd.C (Kd.int .i64) w A l.length l)
    (hp: ∀(W:World) (x:Int) (v:Value),x∈l→Below w.heap.size w W→((Kd.int .i64)).K W x [v]→Calls Try.prog g (#[v]++lb) W fun e w'=>e= .returned (.bool (p x))∧Below w.heap.size w w'):
    Calls Try.prog 33 #[.slice A l.length c,.func (.func g) #[] lb] w fun e w'=>e= .returned (.bool (l.any p))∧Below w.heap.size w w':=by
  rw [show l.any p=decide (0≤Lib.idxBy (fun _ y=>p y) l default) from(Lib.idxBy_nonneg_iff (fun _ y=>p y) l default).symm]
  obtain⟨q_,hq_⟩ : ∃q_,Lib.idxBy (fun _ y=>p y) l default=q_:=⟨_,rfl⟩
  have hix:=slices_IndexFunc_Sint_int.any p g lb eg A c l w q_ hq_ hr hp
  rw [hq_]
  clear hr hp
  have e6: ∀args w,(callFunc 43 args).run Try.prog w= .ok (.enter 43 args) w:=enters_of Try.func43 (by kernel_rfl) rfl
  go_enter Try.func33,Try.ntmps33
  go_wp2_with (go_at_fn 43;refine hix.mono ?_;rintro e w' ⟨rfl,hb'⟩)
  go_ret
  exact⟨rfl,hb'⟩
theorem slices_ContainsFunc_Sint_int.anyO (p : Int → Option Bool) (g : Nat) (lb : Array Value) (eg : ∀ args w, (callFunc g args).run Try.prog w = .ok (.enter g args) w) (A : Option Addr) (c : Nat) (l : List Int) (w : World) (q_ : Bool) (hq_ : anyO p l = some q_) (hr : Kd.C (Kd.int .i64) w A l.length l)
    (hp: ∀(W:World) (x:Int) (cs:List Value) (b:Bool),x∈l→Below w.heap.size w W→((Kd.int .i64)).K W x cs→p x=some b→Calls Try.prog g (#[cs.getD 0 undef]++lb) W fun e w'=>e= .returned (.bool b)∧Below w.heap.size w w'):
    Calls Try.prog 33 #[.slice A l.length c,.func (.func g) #[] lb] w fun e w'=>e= .returned (.bool q_)∧Below w.heap.size w w':=by
  obtain⟨q,hq,rfl⟩:=idx_anyO p l 0 q_ (Int.le_refl _) hq_
  have hix:=slices_IndexFunc_Sint_int.anyO p g lb eg A c l w q hq hr hp
  clear hr hp hq hq_
  have e6: ∀args w,(callFunc 43 args).run Try.prog w= .ok (.enter 43 args) w:=enters_of Try.func43 (by kernel_rfl) rfl
  go_enter Try.func33,Try.ntmps33
  go_wp2_with (go_at_fn 43;refine hix.mono ?_;rintro e w' ⟨rfl,hb'⟩)
  go_ret
  exact⟨rfl,hb'⟩
def grammar_signs_1.f (a0:Int) (a1_0:Int) (a1_1:Int) (a1_2:Int) (l1_3:List (S41)):Option (Bool):=if a0 < 0 then(some true) else(some (decide (a0≥(wrap64 (a1_0 + a1_1)))))
theorem grammar_signs_1.calls (a0 : Int) (ae : Int) (af : Int) (ag : Int) (ah : Option Addr) (ai : Nat) (aa : List (S41)) (g1 : Nat) (r : Bool) (w : World) (ab : Kd.C k41 w ah aa.length aa) (ac : aa.length ≤ ai) (hbk1 : w.heap[g1]? = some (.cells #[.int .i64 ae, .int .i64 af, .int .i64 ag, .slice ah aa.length ai] 24 (0, 0))) (h : grammar_signs_1.f a0 ae af ag aa = some r) :
    Calls Try.prog 50 #[.int .i64 a0,.pointer (some ⟨g1,0,none⟩)] w fun e w'=>e= .returned (.bool r)∧Zf1 w w':=by
 (have au:=Za.mk ab);(have av:=Za.mk ac);(clear ab ac);(have aw:=Za.mk hbk1);(clear hbk1);(have H:(if a0 < 0 then(some true) else(some (decide (a0≥(wrap64 (ae + af))))))=some r:=h);(clear h)
 by_cases c3:a0 < 0
 ·rw [if_pos c3] at H
  (have aj:decide (a0 < 0)=true:=decide_eq_true c3);(clear c3);(obtain rfl:=Option.some.inj H)
  go_enter Try.func50,Try.ntmps50
  go_wp2
  go_ret
  exact⟨by first|rfl|(simp;done)|(simp [*];done),by repeat(first|exact Zf1.refl _|apply Zf1.step)⟩
 (rw [if_neg c3] at H);(have aj:decide (a0 < 0)=false:=decide_eq_false c3);(clear c3);(obtain rfl:=Option.some.inj H);(obtain⟨ak,al,am,an⟩:=zq4 aw.out);(obtain⟨ao,ap,aq,ar⟩:=zf4 aw.out)
 go_enter Try.func50,Try.ntmps50
 go_wp2
 go_ret
 exact⟨by first|rfl|(simp;done)|(simp [*];done),by repeat(first|exact Zf1.refl _|apply Zf1.step)⟩
def grammar_signs_1_any.f (l0:List Int) (a1_0:Int) (a1_1:Int) (a1_2:Int) (l1_3:List (S41)):Option Bool:=anyO (fun x:Int=>grammar_signs_1.f x a1_0 a1_1 a1_2 l1_3) l0
theorem grammar_signs_1_any.calls (A0 : Option Addr) (c0 : Nat) (l0 : List Int) (ab : Int) (ac : Int) (ae : Int) (af : Option Addr) (ag : Nat) (aa : List (S41)) (g1 : Nat) (r : Bool) (w : World) (aj : Kd.C (Kd.int .i64) w A0 l0.length l0) (ak : l0.length ≤ c0) (ah : Kd.C k41 w af aa.length aa) (ai : aa.length ≤ ag) (hbk1 : w.heap[g1]? = some (.cells #[.int .i64 ab, .int .i64 ac, .int .i64 ae, .slice af aa.length ag] 24 (0, 0))) (h : grammar_signs_1_any.f l0 ab ac ae aa = some r) :
    Calls Try.prog 33 #[.slice A0 l0.length c0,.func (.func 50) #[] #[.pointer (some ⟨g1,0,none⟩)]] w fun e w'=>e= .returned (.bool r)∧Below w.heap.size w w':=by
 refine slices_ContainsFunc_Sint_int.anyO (fun x:Int=>grammar_signs_1.f x ab ac ae aa) 50 #[.pointer (some ⟨g1,0,none⟩)] (enters_of Try.func50 (by kernel_rfl) rfl) A0 c0 l0 w r h aj ?_
 intro W x cs b hx hB hK hp
 obtain rfl:=hK
 refine(grammar_signs_1.calls x ab ac ae af ag aa g1 b W (Kd.C_below ah hB) ai (Zj hbk1 hB) hp).mono ?_
 rintro e w' ⟨rfl,h2⟩
 exact⟨rfl,Zh hB h2.below⟩
def grammar_signs.f (a0_0:Int) (a0_1:Int) (a0_2:Int) (l0_3:List (S41)) (l1:List Int):Option (Bool):=(grammar_signs_1_any.f l1 a0_0 a0_1 a0_2 l0_3).bind fun t103=>(some (!t103))
theorem grammar_signs.calls (ac : Int) (ae : Int) (af : Int) (ah : Option Addr) (ai : Nat) (aa : List (S41)) (A1 : Option Addr) (c1 : Nat) (l1 : List Int) (r : Bool) (w : World) (ak : Kd.C k41 w ah aa.length aa) (al : aa.length ≤ ai) (ao : Kd.C (Kd.int .i64) w A1 l1.length l1) (ap : l1.length ≤ c1) (h : grammar_signs.f ac ae af aa l1 = some r) :
    Calls Try.prog 47 #[.agg #[.int .i64 ac,.int .i64 ae,.int .i64 af,.slice ah aa.length ai],.slice A1 l1.length c1] w fun e w'=>e= .returned (.bool r)∧Below w.heap.size w w':=by
 (have av:=Try.underlying24);(have am:=Za.mk ak);(have an:=Za.mk al);(clear ak al);(have aw:=Za.mk ao);(have ax:=Za.mk ap);(clear ao ap);(have HB:=Za.mk (Below.refl w.heap.size w));(have H:((grammar_signs_1_any.f l1 ac ae af aa).bind fun aj=>(some (!aj)))=some r:=h);(clear h);(replace H:=Option.bind_eq_some_iff.mp H);(obtain⟨aj,aq,H⟩:=H);(replace H:(some (!aj))=some r:=H);(have A3:=Za.mk aq);(clear aq);(obtain rfl:=Option.some.inj H)
 go_enter Try.func47,Try.ntmps47
 go_wp2_with (first|((with_reducible refine Zs (N:=2) rfl ?_);refine Zx ?hg (N:=2) ?hd (cs:=#[.int .i64 ac,.int .i64 ae,.int .i64 af,.slice ah aa.length ai]) (t:=24) ?hr ?_;(case hd=>rfl);(case hg=>rfl);(case hr=>first|(go_simp;done)|(go_simp;rfl));intro ab hg w4 hbox hb;have ag:=Za.mk (hbox);have ar:=Za.mk ((by rw [hg];exact(Zg (zH HB)):w.heap.size≤ab));have au:=Za.mk ((by rw [hg];exact(Zg (zH HB)):w.heap.size≤ab));replace HB:=Za.mk (Zh (zH HB) hb);clear hb hbox hg)|((with_reducible refine Zl1 (f:=33) rfl ?_);refine goesL_ (some 7) rfl rfl Try.func33 (by kernel_rfl) rfl #[.slice A1 l1.length c1,.func (.func 50) #[] #[.pointer (some ⟨ab,0,none⟩)]] rfl (by (try simp only [List.map_toArray,List.map_cons,List.map_nil]);first|done|rfl|(simp only [List.length_drop,List.length_take];rfl)) ?_;(with_reducible refine(grammar_signs_1_any.calls _ _ l1 ac ae af (ah) (ai) aa ab aj _ ?side1 ?side2 ?side3 ?side4 ?side5 A3.out).mono ?_);(case side1=>exact zC aw HB);(case side2=>exact ax.out);(case side3=>exact zC am HB);(case side4=>exact an.out);(case side5=>exact(zK ag));rintro e w5 ⟨rfl,hb⟩;refine⟨_,rfl,?_⟩;replace ag:=Za.mk (Zj (g:=ab) (zK ag) hb);replace HB:=Za.mk (Zh (zH HB) hb);(try clear hb);(try clear hb2);(try clear hk);(try clear hi)))
 go_ret
 exact⟨by first|rfl|(simp [Zl,Zk] <;> rfl)|(simp [*,Zl,Zk] <;> rfl),zH HB⟩
def grammar_Check_1_any.f (l0:List (S41)):Option Bool:=anyO (fun x:S41=>grammar_Check_1.f x.f0 x.f1) l0
theorem grammar_Check_1_any.calls (A0 : Option Addr) (c0 : Nat) (l0 : List (S41))  (r : Bool) (w : World) (aa : Kd.C k41 w A0 l0.length l0) (ab : l0.length ≤ c0) (h : grammar_Check_1_any.f l0  = some r) :
    Calls Try.prog 46 #[.slice A0 l0.length c0,.func (.func 45) #[] #[]] w fun e w'=>e= .returned (.bool r)∧Below w.heap.size w w':=by
 refine slices_ContainsFunc_Sapi_Rule_api_Rule.anyO (fun x:S41=>grammar_Check_1.f x.f0 x.f1) 45 #[] (enters_of Try.func45 (by kernel_rfl) rfl) A0 c0 l0 w r h aa ?_
 intro W x cs b hx hB hK hp
 obtain⟨A1,c1,rfl,l1,g1_⟩:=k41_open hK
 refine(grammar_Check_1.calls x.f0 A1 c1 x.f1 b W g1_ l1 hp).mono ?_
 rintro e w' ⟨rfl,h2⟩
 exact⟨rfl,Zh hB h2⟩
end Go.Proofs.Ytbifocddbgleeaa.PAheadParses
