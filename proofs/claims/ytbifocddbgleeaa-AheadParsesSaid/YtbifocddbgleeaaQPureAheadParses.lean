/- The law AheadParses as a statement over numbers and lists alone: it holds under the bounds that the statement names. -/
import Derived.Laws.BitsAllLaws
import Derived.Test.YtbifocddbgleeaaQStatAheadParses
set_option linter.unusedVariables false
set_option linter.unusedSimpArgs false
set_option linter.unusedSectionVars false
namespace Go.Proofs.Ytbifocddbgleeaa.Pure
open Go.RowKit Go.Proofs.Ytbifocddbgleeaa.PAheadParses Go.Proofs.YtbifocddbgleeaaW.PrintWords Go.Proofs.YtbifocddbgleeaaW.PrintLast Go.Proofs.YtbifocddbgleeaaW.PrintMore
theorem w64 {x:Int} (h0: -9223372036854775808≤x) (h1:x≤9223372036854775807):wrap64 x=x:=by unfold wrap64;omega
theorem Ev.pos {α:Type} {c:Prop} [Decidable c] {g f:Nat→Option α} {r:α} (h:c) (e:Ev g r):Ev (fun k=>if c then g k else f k) r:=Ev.congr (fun k=>by rw [if_pos h]) e
theorem Ev.neg {α:Type} {c:Prop} [Decidable c] {g f:Nat→Option α} {r:α} (h:¬ c) (e:Ev f r):Ev (fun k=>if c then g k else f k) r:=Ev.congr (fun k=>by rw [if_neg h]) e
theorem Ev.val {α:Type} {r q:α} (h:r=q):Ev (fun _=>some r) q:=by subst h;exact Ev.now r
theorem rd_getElem {l:List Int} {i:Int} (h1:i.toNat < l.length):rd l i=l[i.toNat]:=by simp [rd,List.getD_eq_getElem?_getD,List.getElem?_eq_getElem h1]
theorem drop_rd {l:List Int} {i:Int} (h0:0≤i) (h1:i < l.length):l.drop i.toNat=rd l i :: l.drop (i + 1).toNat:=by
  have h:i.toNat < l.length:=by omega
  rw [rd_getElem h,List.drop_eq_getElem_cons h];congr 2;omega
theorem take_rd {l:List Int} {i:Int} (h0:0≤i) (h1:i < l.length):l.take (i + 1).toNat=l.take i.toNat++[rd l i]:=by
  have h:i.toNat < l.length:=by omega
  have e:(i + 1).toNat=i.toNat + 1:=by omega
  rw [rd_getElem h,e,List.take_succ_eq_append_getElem h]
theorem rd_take (l:List Int) (n:Nat) (i:Int) (h0:0≤i) (h1:i < n):rd (l.take n) i=rd l i:=by
  simp only [rd,List.getD_eq_getElem?_getD];rw [List.getElem?_take_of_lt (by omega)]
theorem rd_mem {l:List Int} {i:Int} (h0:0≤i) (h1:i < l.length):rd l i∈l:=by
  rw [rd_getElem (by omega)];exact List.getElem_mem _
theorem rd_set_eq (l:List Int) (i:Int) (v:Int) (h0:0≤i) (h1:i < l.length):rd (l.set i.toNat v) i=v:=by
  simp [rd,List.getD_eq_getElem?_getD,List.getElem?_set,show i.toNat < l.length by omega]
theorem rd_set_ne (l:List Int) (i j:Int) (v:Int) (h0:0≤i) (hj:0≤j) (h:j≠i):rd (l.set i.toNat v) j=rd l j:=by
  simp only [rd,List.getD_eq_getElem?_getD]
  rw [List.getElem?_set_ne (by omega)]
theorem u32_id {x:Int} (h0:0≤x) (h1:x≤4294967295):IntKind.u32.wrap x=x:=by rw [IntKind.wrap_u32];omega
theorem u64_id {x:Int} (h0:0≤x) (h1:x≤18446744073709551615):IntKind.u64.wrap x=x:=by simp [IntKind.wrap,IntKind.bits,IntKind.signed];omega
theorem u32_or (a b:Nat) (ha:a < 2 ^ 32) (hb:b < 2 ^ 32):Go.bits .or .u32 a b=((a ||| b:Nat):Int):=
  (bits_nat .u32 32 (by decide) (fun n h0 h1=>u32_id h0 (by omega)) a b ha hb).2
theorem u32_and (a b:Nat) (ha:a < 2 ^ 32) (hb:b < 2 ^ 32):Go.bits .and .u32 a b=((a &&& b:Nat):Int):=
  (bits_nat .u32 32 (by decide) (fun n h0 h1=>u32_id h0 (by omega)) a b ha hb).1
theorem shl1 (n:Nat) (h:n < 32):shl .u32 1 (n:Int)=((2 ^ n:Nat):Int):=by
  unfold shl
  have e:min ((n:Int)).toNat IntKind.u32.bits=n:=by simp [IntKind.bits];omega
  have h2:2 ^ n≤2 ^ 31:=Nat.pow_le_pow_right (by omega) (by omega)
  rw [e, Int.one_mul, u32_id (by exact_mod_cast Nat.zero_le _) (by have : ((2 ^ n : Nat) : Int) ≤ 2 ^ 31 := by exact_mod_cast h2
                                                                   have e2:((2:Int) ^ n)=((2 ^ n:Nat):Int):=by simp
                                                                   omega)]
  simp
theorem shrn (a n:Nat) (h:n < 32):shr .u32 (a:Int) (n:Int)=((a / 2 ^ n:Nat):Int):=by
  unfold shr
  have e:min ((n:Int)).toNat IntKind.u32.bits=n:=by simp [IntKind.bits];omega
  rw [e];simp
theorem bit_shr (a i:Nat) (ha:a < 2 ^ 32) (hi:i < 32):(Go.bits .and .u32 (shr .u32 (a:Int) (i:Int)) 1=1)↔a.testBit i=true:=by
  rw [shrn a i hi]
  have h1:a / 2 ^ i < 2 ^ 32:=Nat.lt_of_le_of_lt (Nat.div_le_self _ _) ha
  have h2:=u32_and (a / 2 ^ i) 1 h1 (by decide)
  have h3:((1:Nat):Int)=1:=rfl
  rw [h3] at h2
  rw [h2,Nat.and_one_is_mod,Nat.testBit_eq_decide_div_mod_eq]
  simp only [decide_eq_true_eq];omega
theorem bit_and (a i:Nat) (ha:a < 2 ^ 32) (hi:i < 32):(Go.bits .and .u32 (a:Int) (shl .u32 1 (i:Int)) != 0)=a.testBit i:=by
  have h0:2 ^ i < 2 ^ 32:=Nat.pow_lt_pow_right (by omega) hi
  rw [shl1 i hi,u32_and a (2 ^ i) ha h0]
  cases h:a.testBit i with
  |true=>
    have:a &&& 2 ^ i≠0:=fun e=>by
      have q:=congrArg (fun x=>Nat.testBit x i) e
      simp [Nat.testBit_and,Nat.testBit_two_pow_self,h] at q
    simp;omega
  |false=>
    have:a &&& 2 ^ i=0:=by
      apply Nat.eq_of_testBit_eq
      intro j
      by_cases e:i=j
      · subst e;simp [Nat.testBit_and,h]
      · simp [Nat.testBit_and,Nat.testBit_two_pow,e]
    rw [this];rfl
theorem bit_or (a i:Nat) (ha:a < 2 ^ 32) (hi:i < 32):Go.bits .or .u32 (a:Int) (shl .u32 1 (i:Int))=((a ||| 2 ^ i:Nat):Int):=by
  have h0:2 ^ i < 2 ^ 32:=Nat.pow_lt_pow_right (by omega) hi
  rw [shl1 i hi,u32_or a (2 ^ i) ha h0]
def cnt:Nat→Nat→Nat
  |0,_=>0
  |n + 1,s=>cnt n s + (s.testBit n).toNat
theorem cnt_le: ∀n s,cnt n s≤n
  |0,_=>Nat.le_refl _
  |n + 1,s=>by
    have:=cnt_le n s
    unfold cnt
    cases s.testBit n <;> simp <;> omega
theorem cnt_mono (s t:Nat) (h: ∀i,s.testBit i=true→t.testBit i=true): ∀n,cnt n s≤cnt n t
  |0=>Nat.le_refl _
  |n + 1=>by
    have:=cnt_mono s t h n
    have h1:=h n
    unfold cnt
    cases q:s.testBit n
    · simp;omega
    · rw [h1 q];simp;omega
theorem cnt_lt (s t:Nat) (h: ∀i,s.testBit i=true→t.testBit i=true) (i:Nat) (hs:s.testBit i=false) (ht:t.testBit i=true): ∀n,i < n→cnt n s < cnt n t
  |0,hi=>by omega
  |n + 1,hi=>by
    have h1:=h n
    have h2:=cnt_mono s t h n
    unfold cnt
    by_cases e:i=n
    · subst e;rw [hs,ht];simp;omega
    · have:=cnt_lt s t h i hs ht n (by omega)
      cases q:s.testBit n
      · simp;omega
      · rw [h1 q];simp;omega
theorem bits_ne {s t n:Nat} (hs:s < 2 ^ n) (ht:t < 2 ^ n) (h: ∀i,s.testBit i=true→t.testBit i=true) (hne:t≠s): ∃i,i < n∧s.testBit i=false∧t.testBit i=true:=by
  rcases Classical.em (∃i,i < n∧s.testBit i=false∧t.testBit i=true) with q|q
  · exact q
  · exfalso;apply hne
    apply Nat.eq_of_testBit_eq
    intro i
    by_cases hi:i < n
    · cases e:s.testBit i with
      |true=>exact h i e
      |false=>
        cases e2:t.testBit i with
        |false=>rfl
        |true=>exact absurd ⟨i,hi,e,e2⟩ q
    · have h2:2 ^ n≤2 ^ i:=Nat.pow_le_pow_right (by omega) (by omega)
      rw [Nat.testBit_lt_two_pow (Nat.lt_of_lt_of_le hs h2),Nat.testBit_lt_two_pow (Nat.lt_of_lt_of_le ht h2)]
def rep (P:Nat→Nat):Nat→Nat→Nat
  |0,s=>s
  |n + 1,s=>rep P n (P s)
theorem rep_succ (P:Nat→Nat): ∀n s,rep P (n + 1) s=P (rep P n s)
  |0,_=>rfl
  |n + 1,s=>by
    show rep P (n + 1) (P s)=P (rep P n (P s))
    exact rep_succ P n (P s)
theorem rep_lt (P:Nat→Nat) (b:Nat) (h: ∀s,s < b→P s < b): ∀n s,s < b→rep P n s < b
  |0,_,hs=>hs
  |n + 1,s,hs=>rep_lt P b h n (P s) (h s hs)
theorem anyO_some {α:Type} (p:α→Bool): ∀l:List α,anyO (fun x=>some (p x)) l=some (l.any p)
  | []=>rfl
  |x :: l=>by
    unfold anyO
    rw [Option.bind_some,anyO_some p l,List.any_cons]
    cases p x <;> simp
theorem anyO_of {α:Type} {f:α→Option Bool} {p:α→Bool} {l:List α} (h: ∀x∈l,f x=some (p x)):anyO f l=some (l.any p):=by
  induction l with
  |nil=>rfl
  |cons x l ih=>
    unfold anyO
    rw [h x (by simp),Option.bind_some,ih (fun y hy=>h y (by simp [hy])),List.any_cons]
    cases p x <;> simp
theorem Ev.loop {σ ρ : Type} {L : Nat → Int → σ → Option ρ} {n : Int} {r : ρ} (I : Int → σ → Prop)
    (hend: ∀s,I n s→Ev (fun k=>L k n s) r)
    (hstep: ∀i s,0≤i→i < n→I i s→Ev (fun k=>L k i s) r∨∃s',I (i + 1) s'∧(Ev (fun k=>L k (i + 1) s') r→Ev (fun k=>L k i s) r)):
    ∀(i:Int) (s:σ),0≤i→i≤n→I i s→Ev (fun k=>L k i s) r:=by
  have key: ∀(d:Nat) (i:Int) (s:σ),0≤i→i + d=n→I i s→Ev (fun k=>L k i s) r:=by
    intro d
    induction d with
    | zero => intro i s h0 h1 hI; obtain rfl : i = n := by omega
              exact hend s hI
    |succ d ih=>
      intro i s h0 h1 hI
      rcases hstep i s h0 (by omega) hI with h|⟨s',h',h⟩
      · exact h
      · exact h (ih (i + 1) s' (by omega) (by omega) h')
  intro i s h0 h1 hI
  exact key (n - i).toNat i s h0 (by omega) hI
theorem Ev.firstBad {α ρ : Type} {L : Nat → Int → Option ρ} {l : List α} {rdf : Int → α} {bad : α → Bool} {c fin : ρ}
    (hrd: ∀i:Int,0≤i→i < l.length→l.drop i.toNat=rdf i :: l.drop (i + 1).toNat)
    (hend:l.any bad=false→Ev (fun k=>L k l.length) fin)
    (hbad: ∀i:Int,0≤i→i < l.length→bad (rdf i)=true→Ev (fun k=>L k i) c)
    (hgood: ∀(i:Int) (r:ρ),0≤i→i < l.length→bad (rdf i)=false→Ev (fun k=>L k (i + 1)) r→Ev (fun k=>L k i) r):
    Ev (fun k=>L k 0) (if l.any bad=true then c else fin):=by
  refine Ev.loop (σ:=Unit) (L:=fun k i _=>L k i) (n:=l.length) (fun i _=>l.any bad=(l.drop i.toNat).any bad) ?_ ?_ 0 () (Int.le_refl _) (by omega) rfl
  · intro _ h
    rw [Int.toNat_natCast,List.drop_length] at h
    have h:l.any bad=false:=h
    rw [h];exact hend h
  · intro i _ h0 h1 h
    rw [hrd i h0 h1,List.any_cons] at h
    cases hb:bad (rdf i) with
    |true=>left;rw [h,hb];exact hbad i h0 h1 hb
    |false=>right;refine⟨(),by rw [h,hb];rfl,hgood i _ h0 h1 hb⟩
theorem rd_cons {l:List Int} {i:Int} (h0:0≤i) (h1:i < l.length):l.drop i.toNat=rd l i :: l.drop (i + 1).toNat:=drop_rd h0 h1
theorem Ev.loopc {σ ρ : Type} {L : Nat → Int → σ → Option ρ} {n : Int} {r : ρ} (I : Int → σ → Prop)
    (hend: ∀s,I n s→Ev (fun k=>L k n s) r)
    (hstep: ∀i s,0≤i→i < n→I i s→(∀s',I (i + 1) s'→Ev (fun k=>L k (i + 1) s') r)→Ev (fun k=>L k i s) r):
    ∀(i:Int) (s:σ),0≤i→i≤n→I i s→Ev (fun k=>L k i s) r:=by
  have key: ∀(d:Nat) (i:Int) (s:σ),0≤i→i + d=n→I i s→Ev (fun k=>L k i s) r:=by
    intro d
    induction d with
    | zero => intro i s h0 h1 hI; obtain rfl : i = n := by omega
              exact hend s hI
    |succ d ih=>
      intro i s h0 h1 hI
      exact hstep i s h0 (by omega) hI (fun s' h'=>ih (i + 1) s' (by omega) (by omega) h')
  intro i s h0 h1 hI
  exact key (n - i).toNat i s h0 (by omega) hI
def EvP {α:Type} (g:Nat→Option α) (J:α→Prop):Prop:=∃r,J r∧Ev g r
theorem EvP.of {α:Type} {g:Nat→Option α} {J:α→Prop} {r:α} (h:J r) (e:Ev g r):EvP g J:=⟨r,h,e⟩
theorem EvP.now {α:Type} {J:α→Prop} {r:α} (h:J r):EvP (fun _=>some r) J:=⟨r,h,Ev.now r⟩
theorem EvP.pos {α:Type} {c:Prop} [Decidable c] {g f:Nat→Option α} {J:α→Prop} (h:c) (e:EvP g J):EvP (fun k=>if c then g k else f k) J:=let⟨r,h1,h2⟩:=e;⟨r,h1,Ev.pos h h2⟩
theorem EvP.neg {α:Type} {c:Prop} [Decidable c] {g f:Nat→Option α} {J:α→Prop} (h:¬ c) (e:EvP f J):EvP (fun k=>if c then g k else f k) J:=let⟨r,h1,h2⟩:=e;⟨r,h1,Ev.neg h h2⟩
theorem EvP.step {α:Type} {g f:Nat→Option α} {J:α→Prop} (h: ∀k,g (k + 1)=f k) (e:EvP f J):EvP g J:=let⟨r,h1,h2⟩:=e;⟨r,h1,Ev.step h h2⟩
theorem EvP.congr {α:Type} {g f:Nat→Option α} {J:α→Prop} (h: ∀k,g k=f k) (e:EvP f J):EvP g J:=let⟨r,h1,h2⟩:=e;⟨r,h1,Ev.congr h h2⟩
theorem EvP.bind {α β:Type} {g:Nat→Option α} {f:Nat→α→Option β} {a:α} {J:β→Prop} (h:Ev g a) (e:EvP (fun n=>f n a) J):EvP (fun n=>(g n).bind (f n)) J:=let⟨r,h1,h2⟩:=e;⟨r,h1,Ev.bind h h2⟩
theorem EvP.bindP {α β:Type} {g:Nat→Option α} {f:Nat→α→Option β} {I:α→Prop} {J:β→Prop} (h:EvP g I) (e: ∀a,I a→EvP (fun n=>f n a) J):EvP (fun n=>(g n).bind (f n)) J:=let⟨a,h1,h2⟩:=h;EvP.bind h2 (e a h1)
theorem EvP.ev {α β:Type} {g:Nat→Option α} {f:Nat→α→Option β} {I:α→Prop} {r:β} (h:EvP g I) (e: ∀a,I a→Ev (fun n=>f n a) r):Ev (fun n=>(g n).bind (f n)) r:=let⟨a,h1,h2⟩:=h;Ev.bind h2 (e a h1)
theorem EvP.mono {α:Type} {g:Nat→Option α} {I J:α→Prop} (h:EvP g I) (hi: ∀a,I a→J a):EvP g J:=let⟨a,h1,h2⟩:=h;⟨a,hi a h1,h2⟩
theorem EvP.loop {σ ρ : Type} {L : Nat → Int → σ → Option ρ} {n : Int} {J : ρ → Prop} (I : Int → σ → Prop)
    (hend: ∀s,I n s→EvP (fun k=>L k n s) J)
    (hstep: ∀i s,0≤i→i < n→I i s→(∀s',I (i + 1) s'→EvP (fun k=>L k (i + 1) s') J)→EvP (fun k=>L k i s) J):
    ∀(i:Int) (s:σ),0≤i→i≤n→I i s→EvP (fun k=>L k i s) J:=by
  have key: ∀(d:Nat) (i:Int) (s:σ),0≤i→i + d=n→I i s→EvP (fun k=>L k i s) J:=by
    intro d
    induction d with
    | zero => intro i s h0 h1 hI; obtain rfl : i = n := by omega
              exact hend s hI
    |succ d ih=>
      intro i s h0 h1 hI
      exact hstep i s h0 (by omega) hI (fun s' h'=>ih (i + 1) s' (by omega) (by omega) h')
  intro i s h0 h1 hI
  exact key (n - i).toNat i s h0 (by omega) hI
theorem isB (p:Prop): ∃R:Bool,R=true↔p:=by
  by_cases h:p
  · exact⟨true,by simp [h]⟩
  · exact⟨false,by simp [h]⟩
theorem Ints_l0 (a b:List Int) (hl:a.length=b.length) (hb:(a.length:Int)≤4611686018427387904) (d:Nat): ∀i:Int,0≤i→i + d=a.length→Ev (fun k=>Zx1.l0 k a b i) (decide (a.drop i.toNat=b.drop i.toNat)):=by
  induction d with
  |zero=>
    intro i h0 hd
    refine Ev.step (fun k=>Zx1.l0.eq_2 _ _ _ k) ?_
    simp (disch:=omega) only [if_pos,if_neg]
    exact Ev.val (by rw [List.drop_eq_nil_of_le (by omega),List.drop_eq_nil_of_le (by omega)];simp)
  |succ d ih=>
    intro i h0 hd
    refine Ev.step (fun k=>Zx1.l0.eq_2 _ _ _ k) ?_
    simp (disch:=omega) only [if_pos,w64]
    rw [drop_rd h0 (by omega),drop_rd (l:=b) h0 (by omega)]
    by_cases h:rd a i=rd b i
    · simp only [if_pos h]
      exact Ev.congr (fun _=>rfl) (by simpa [h] using ih (i + 1) (by omega) (by omega))
    · simp only [if_neg h]
      exact Ev.val (by simp [h])
theorem Ints_ev (a b:List Int) (hb:(a.length:Int)≤4611686018427387904):Ev (fun k=>Zx1.f k a b) (decide (a=b)):=by
  unfold Zx1.f
  by_cases hl:a.length=b.length
  · simp (disch:=omega) only [if_pos]
    simpa using Ints_l0 a b hl hb a.length 0 (by omega) (by omega)
  · simp (disch:=omega) only [if_neg]
    exact Ev.val (by simp;intro h;exact hl (by rw [h]))
def maskB (p:Nat→Bool):Nat→Nat
  |0=>0
  |n + 1=>maskB p n + (if p n=true then 2 ^ n else 0)
theorem maskB_succ (p:Nat→Bool) (n:Nat):maskB p (n + 1)=maskB p n + (if p n=true then 2 ^ n else 0):=rfl
theorem maskB_lt (p:Nat→Bool): ∀n,maskB p n < 2 ^ n
  |0=>by simp [maskB]
  |n + 1=>by
    have:=maskB_lt p n
    have e:2 ^ (n + 1)=2 ^ n + 2 ^ n:=by rw [Nat.pow_succ];omega
    unfold maskB
    split <;> omega
theorem maskB_bit (p:Nat→Bool) (i:Nat): ∀n,(maskB p n).testBit i=(decide (i < n) && p i)
  |0=>by simp [maskB]
  |n + 1=>by
    have h:=maskB_bit p i n
    have hl:=maskB_lt p n
    unfold maskB
    cases hp:p n with
    |false=>
      simp only [Bool.false_eq_true,if_false,Nat.add_zero,h]
      by_cases e:i=n
      · subst e;simp [hp]
      · have:decide (i < n)=decide (i < n + 1):=by congr 1;apply propext;omega
        rw [this]
    |true=>
      simp only [if_true]
      have e2:=Nat.two_pow_add_eq_or_of_lt hl 1
      rw [Nat.mul_one] at e2
      rw [Nat.add_comm,e2,Nat.testBit_or,Nat.testBit_two_pow,h]
      by_cases e:i=n
      · subst e;simp [hp]
      · have:decide (i < n)=decide (i < n + 1):=by congr 1;apply propext;omega
        rw [this];simp [show ¬ n=i from fun q=>e q.symm]
theorem bit_shr0 (a i:Nat) (ha:a < 2 ^ 32) (hi:i < 32):(Go.bits .and .u32 (shr .u32 (a:Int) (i:Int)) 1 == 0)= !a.testBit i:=by
  rw [shrn a i hi]
  have h1:a / 2 ^ i < 2 ^ 32:=Nat.lt_of_le_of_lt (Nat.div_le_self _ _) ha
  have h2:=u32_and (a / 2 ^ i) 1 h1 (by decide)
  have h3:((1:Nat):Int)=1:=rfl
  rw [h3] at h2
  rw [h2,Nat.and_one_is_mod,Nat.testBit_eq_decide_div_mod_eq]
  rcases Nat.mod_two_eq_zero_or_one (a / 2 ^ i) with h|h <;> rw [h] <;> rfl
def cntP (p:Nat→Bool):Nat→Nat
  |0=>0
  |n + 1=>cntP p n + (p n).toNat
theorem cntP_le (p:Nat→Bool): ∀n,cntP p n≤n
  |0=>Nat.le_refl _
  |n + 1=>by have:=cntP_le p n;unfold cntP;cases p n <;> simp <;> omega
theorem cntP_mono {p q:Nat→Bool} : ∀n,(∀i,i < n→p i=true→q i=true)→cntP p n≤cntP q n
  |0,_=>Nat.le_refl _
  |n + 1,h=>by
    have:=cntP_mono n (fun i hi=>h i (by omega))
    have h1:=h n (by omega)
    unfold cntP
    cases e:p n
    · simp;omega
    · rw [h1 e];simp;omega
theorem cntP_eq {p q:Nat→Bool} : ∀n,(∀i,i < n→p i=true→q i=true)→cntP q n≤cntP p n→∀i,i < n→q i=p i
  |0,_,_,i,hi=>by omega
  |n + 1,h,hc,i,hi=>by
    have hm:=cntP_mono n (fun i hi=>h i (by omega))
    have h1:=h n (by omega)
    unfold cntP at hc
    have hn:q n=p n:=by
      cases e:p n
      · cases e2:q n
        · rfl
        · rw [e,e2] at hc;simp at hc;omega
      · exact h1 e
    rw [hn] at hc
    by_cases e:i=n
    · subst e;exact hn
    · exact cntP_eq n (fun i hi=>h i (by omega)) (by omega) i (by omega)
theorem chain_stop (n : Nat) (p : Nat → Nat → Bool) (mono : ∀ d i, i < n → p d i = true → p (d + 1) i = true)
    (stab: ∀d,(∀i,i < n→p (d + 1) i=p d i)→∀i,i < n→p (d + 2) i=p (d + 1) i): ∀i,i < n→p (n + 1) i=p n i:=by
  have key: ∀d,d≤cntP (p d) n∨∀i,i < n→p (d + 1) i=p d i:=by
    intro d
    induction d with
    |zero=>exact .inl (Nat.zero_le _)
    |succ d ih=>
      rcases ih with ih|ih
      · by_cases h:cntP (p (d + 1)) n≤cntP (p d) n
        · exact .inr (stab d (cntP_eq n (mono d) h))
        · exact .inl (by omega)
      · exact .inr (stab d ih)
  rcases key (n + 1) with h|h
  · have:=cntP_le (p (n + 1)) n;omega
  · rcases key n with h2|h2
    · have h3:=cntP_le (p (n + 1)) n
      exact cntP_eq n (mono n) (by omega)
    · exact h2
theorem rd_rule {l:List S41} {i:Int} (h0:0≤i) (h1:i < l.length):l.drop i.toNat=Zb l i :: l.drop (i + 1).toNat:=by
  have h:i.toNat < l.length:=by omega
  have e:Zb l i=l[i.toNat]:=by simp [Zb,List.getD_eq_getElem?_getD,List.getElem?_eq_getElem h]
  rw [e,List.drop_eq_getElem_cons h];congr 2;omega
theorem rule_mem {l:List S41} {i:Int} (h0:0≤i) (h1:i < l.length):Zb l i∈l:=by
  have h:i.toNat < l.length:=by omega
  have e:Zb l i=l[i.toNat]:=by simp [Zb,List.getD_eq_getElem?_getD,List.getElem?_eq_getElem h]
  rw [e];exact List.getElem_mem _
def sgnBad (M x:Int):Bool:=decide (x < 0) || decide (x≥M)
def ruleBad (K N:Int) (r:S41):Bool:=decide (r.f0 < 0) || (decide (r.f0≥N) || r.f1.any (sgnBad (K + N)))
def gcode (K N st:Int) (rs:List S41):Int:=
  if K < 1∨K > 3∨N < 1∨N > 5∨(rs.length:Int) > 10∨(rs.any fun r=>decide ((r.f1.length:Int) > 4))=true then 1
  else if st < 0∨st≥N then 2 else if rs.any (ruleBad K N)=true then 2 else 0
theorem gcode_bad {K N st:Int} {rs:List S41} (h:K < 1∨K > 3∨N < 1∨N > 5∨(rs.length:Int) > 10∨(rs.any fun r=>decide ((r.f1.length:Int) > 4))=true):gcode K N st rs=1:=by unfold gcode;rw [if_pos h]
section
variable (K N st:Int) (rs:List S41) (hK0:1≤K) (hK1:K≤3) (hN0:1≤N) (hN1:N≤5)
include hK0 hK1 hN0 hN1
theorem signs_eq (l:List Int):grammar_signs.f K N st rs l=some (!(l.any (sgnBad (K + N)))):=by
  unfold grammar_signs.f grammar_signs_1_any.f
  have e:(fun x:Int=>grammar_signs_1.f x K N st rs)=fun x=>some (sgnBad (K + N) x):=by
    funext x
    unfold grammar_signs_1.f sgnBad
    rw [w64 (by omega) (by omega)]
    by_cases h:x < 0
    · rw [if_pos h];simp [h]
    · rw [if_neg h];simp [h]
  rw [e,anyO_some];rfl
theorem refSigns_ev (l:List Int) (hl:l.length≤140737488351232):Ev (fun k=>Zy1.f k K N st rs l) (!(l.any (sgnBad (K + N)))):=by
  unfold Zy1.f
  have:=Ev.firstBad (L:=fun k i=>Zy1.l0 k l (l.length:Int) i K N st rs) (l:=l) (rdf:=rd l) (bad:=sgnBad (K + N)) (c:=false) (fin:=true) (fun i h0 h1=>rd_cons h0 h1) ?_ ?_ ?_
  · cases h:l.any (sgnBad (K + N)) <;> rw [h] at this <;> exact this
  · intro _
    refine Ev.step (fun k=>Zy1.l0.eq_2 _ _ _ _ _ _ _ k) ?_
    simp (disch:=omega) only [if_neg];exact Ev.now _
  · intro i h0 h1 hb
    refine Ev.step (fun k=>Zy1.l0.eq_2 _ _ _ _ _ _ _ k) ?_
    simp (disch:=omega) only [if_pos,w64]
    unfold sgnBad at hb
    by_cases h:rd l i < 0
    · simp only [if_pos h];exact Ev.now _
    · have h2:rd l i≥K + N:=by simpa [h] using hb
      simp only [if_neg h,if_pos h2];exact Ev.now _
  · intro i r h0 h1 hb hr
    refine Ev.step (fun k=>Zy1.l0.eq_2 _ _ _ _ _ _ _ k) ?_
    unfold sgnBad at hb
    simp only [Bool.or_eq_false_iff,decide_eq_false_iff_not] at hb
    simp (disch:=omega) only [if_pos,if_neg,w64]
    exact hr
theorem gcheck_l0 (hl:rs.length≤10):Ev (fun k=>Zb1.l0 k rs (rs.length:Int) 0 K N st rs) (if rs.any (ruleBad K N)=true then 2 else 0):=by
  refine Ev.firstBad (L:=fun k i=>Zb1.l0 k rs (rs.length:Int) i K N st rs) (rdf:=Zb rs) (fun i h0 h1=>rd_rule h0 h1) ?_ ?_ ?_
  · intro _
    refine Ev.step (fun k=>Zb1.l0.eq_2 _ _ _ _ _ _ _ k) ?_
    simp (disch:=omega) only [if_neg];exact Ev.now _
  · intro i h0 h1 hb
    refine Ev.step (fun k=>Zb1.l0.eq_2 _ _ _ _ _ _ _ k) ?_
    simp (disch:=omega) only [if_pos,signs_eq K N st rs hK0 hK1 hN0 hN1,Option.bind_some]
    unfold ruleBad at hb
    by_cases c1:(Zb rs i).f0 < 0
    · simp only [if_pos c1];exact Ev.now _
    by_cases c2:(Zb rs i).f0≥N
    · simp only [if_neg c1,if_pos c2];exact Ev.now _
    have c3:(Zb rs i).f1.any (sgnBad (K + N))=true:=by simpa [c1,c2] using hb
    simp only [if_neg c1,if_neg c2,c3,Bool.not_true,Bool.false_eq_true,if_false];exact Ev.now _
  · intro i r h0 h1 hb hr
    refine Ev.step (fun k=>Zb1.l0.eq_2 _ _ _ _ _ _ _ k) ?_
    simp (disch:=omega) only [if_pos,signs_eq K N st rs hK0 hK1 hN0 hN1,Option.bind_some,w64]
    unfold ruleBad at hb
    simp only [Bool.or_eq_false_iff,decide_eq_false_iff_not] at hb
    simp only [if_neg hb.1,if_neg hb.2.1,hb.2.2,Bool.not_false,if_true]
    exact hr
theorem rcheck_l1 (hl:rs.length≤10) (hr:(rs.any fun r=>decide ((r.f1.length:Int) > 4))=false):Ev (fun k=>Zc1.l1 k rs (rs.length:Int) 0 K N st rs) (if rs.any (ruleBad K N)=true then 2 else 0):=by
  have hs: ∀i:Int,0≤i→i < rs.length→(Zb rs i).f1.length≤4:=by
    intro i h0 h1
    have:=(List.any_eq_false.1 hr) _ (rule_mem h0 h1)
    simp only [decide_eq_true_eq] at this;omega
  refine Ev.firstBad (L:=fun k i=>Zc1.l1 k rs (rs.length:Int) i K N st rs) (rdf:=Zb rs) (fun i h0 h1=>rd_rule h0 h1) ?_ ?_ ?_
  · intro _
    refine Ev.step (fun k=>Zc1.l1.eq_2 _ _ _ _ _ _ _ k) ?_
    simp (disch:=omega) only [if_neg];exact Ev.now _
  · intro i h0 h1 hb
    refine Ev.step (fun k=>Zc1.l1.eq_2 _ _ _ _ _ _ _ k) ?_
    simp (disch:=omega) only [if_pos]
    unfold ruleBad at hb
    by_cases c1:(Zb rs i).f0 < 0
    · simp only [if_pos c1];exact Ev.now _
    by_cases c2:(Zb rs i).f0≥N
    · simp only [if_neg c1,if_pos c2];exact Ev.now _
    have c3:(Zb rs i).f1.any (sgnBad (K + N))=true:=by simpa [c1,c2] using hb
    simp only [if_neg c1,if_neg c2]
    refine Ev.bind (refSigns_ev K N st rs hK0 hK1 hN0 hN1 _ (by have:=hs i h0 h1;omega)) ?_
    simp only [c3,Bool.not_true,Bool.false_eq_true,if_false];exact Ev.now _
  · intro i r h0 h1 hb hr
    refine Ev.step (fun k=>Zc1.l1.eq_2 _ _ _ _ _ _ _ k) ?_
    simp (disch:=omega) only [if_pos,w64]
    unfold ruleBad at hb
    simp only [Bool.or_eq_false_iff,decide_eq_false_iff_not] at hb
    simp only [if_neg hb.1,if_neg hb.2.1]
    refine Ev.bind (refSigns_ev K N st rs hK0 hK1 hN0 hN1 _ (by have:=hs i h0 h1;omega)) ?_
    simp only [hb.2.2,Bool.not_false,if_true]
    exact hr
end
theorem gcheck_ev (K N st:Int) (rs:List S41):Ev (fun k=>Zb1.f k K N st rs) (gcode K N st rs):=by
  unfold Zb1.f
  have bad:(K < 1∨K > 3∨N < 1∨N > 5∨(rs.length:Int) > 10∨(rs.any fun r=>decide ((r.f1.length:Int) > 4))=true)→Ev (fun k=>Zb1.j0 k true K N st rs) (gcode K N st rs):=by
    intro h
    rw [gcode_bad h]
    refine Ev.step (fun k=>Zb1.j0.eq_2 _ _ _ _ _ k) ?_
    simp only [if_true];exact Ev.now _
  by_cases c1:K < 1
  · simp only [if_pos c1];exact bad (by omega)
  by_cases c2:K > 3
  · simp only [if_neg c1,if_pos c2];exact bad (by omega)
  by_cases c3:N < 1
  · simp only [if_neg c1,if_neg c2,if_pos c3];exact bad (by omega)
  by_cases c4:N > 5
  · simp only [if_neg c1,if_neg c2,if_neg c3,if_pos c4];exact bad (by omega)
  by_cases c5:(rs.length:Int) > 10
  · simp only [if_neg c1,if_neg c2,if_neg c3,if_neg c4,if_pos c5];exact bad (by omega)
  simp only [if_neg c1,if_neg c2,if_neg c3,if_neg c4,if_neg c5]
  have e:grammar_Check_1_any.f rs=some (rs.any fun r=>decide ((r.f1.length:Int) > 4)):=anyO_some _ rs
  simp only [e,Option.bind_some]
  cases c6:(rs.any fun r=>decide ((r.f1.length:Int) > 4)) with
  |true=>exact bad (.inr (.inr (.inr (.inr (.inr c6)))))
  |false=>
    refine Ev.step (fun k=>Zb1.j0.eq_2 _ _ _ _ _ k) ?_
    have hg:gcode K N st rs=if st < 0∨st≥N then 2 else if rs.any (ruleBad K N)=true then 2 else 0:=by
      unfold gcode;rw [if_neg (by rw [c6];simp;omega)]
    have j1t:(st < 0∨st≥N)→Ev (fun k=>Zb1.j1 k true K N st rs) (gcode K N st rs):=by
      intro h
      rw [hg,if_pos h]
      refine Ev.step (fun k=>Zb1.j1.eq_2 _ _ _ _ _ k) ?_
      simp only [if_true];exact Ev.now _
    simp only [Bool.false_eq_true,if_false]
    by_cases d1:st < 0
    · simp only [if_pos d1];exact j1t (.inl d1)
    by_cases d2:st≥N
    · simp only [if_neg d1,decide_eq_true d2];exact j1t (.inr d2)
    · simp only [if_neg d1,decide_eq_false d2]
      rw [hg,if_neg (by omega)]
      refine Ev.step (fun k=>Zb1.j1.eq_2 _ _ _ _ _ k) ?_
      simp only [Bool.false_eq_true,if_false]
      exact gcheck_l0 K N st rs (by omega) (by omega) (by omega) (by omega) (by omega)
theorem rcheck_ev (K N st:Int) (rs:List S41):Ev (fun k=>Zc1.f k K N st rs) (gcode K N st rs):=by
  unfold Zc1.f
  have bad:(K < 1∨K > 3∨N < 1∨N > 5∨(rs.length:Int) > 10∨(rs.any fun r=>decide ((r.f1.length:Int) > 4))=true)→Ev (fun k=>Zc1.j0 k true K N st rs) (gcode K N st rs):=by
    intro h
    rw [gcode_bad h]
    refine Ev.step (fun k=>Zc1.j0.eq_2 _ _ _ _ _ k) ?_
    simp only [if_true];exact Ev.now _
  by_cases c1:K < 1
  · simp only [if_pos c1];exact bad (by omega)
  by_cases c2:K > 3
  · simp only [if_neg c1,if_pos c2];exact bad (by omega)
  by_cases c3:N < 1
  · simp only [if_neg c1,if_neg c2,if_pos c3];exact bad (by omega)
  by_cases c4:N > 5
  · simp only [if_neg c1,if_neg c2,if_neg c3,if_pos c4];exact bad (by omega)
  simp only [if_neg c1,if_neg c2,if_neg c3,if_neg c4]
  by_cases c5:(rs.length:Int) > 10
  · simp only [c5,decide_true];exact bad (by omega)
  simp only [c5,decide_false]
  refine Ev.step (fun k=>Zc1.j0.eq_2 _ _ _ _ _ k) ?_
  simp only [Bool.false_eq_true,if_false]
  have hg:gcode K N st rs=if(rs.any fun r=>decide ((r.f1.length:Int) > 4))=true then 1 else if st < 0∨st≥N then 2 else if rs.any (ruleBad K N)=true then 2 else 0:=by
    unfold gcode
    cases c6:(rs.any fun r=>decide ((r.f1.length:Int) > 4)) with
    |true=>rw [if_pos (by simp),if_pos rfl]
    |false=>rw [if_neg (by simp;omega)];simp only [Bool.false_eq_true,if_false]
  rw [hg]
  refine Ev.firstBad (L:=fun k i=>Zc1.l0 k rs (rs.length:Int) i K N st rs) (rdf:=Zb rs) (fun i h0 h1=>rd_rule h0 h1) ?_ ?_ ?_
  · intro c6
    refine Ev.step (fun k=>Zc1.l0.eq_2 _ _ _ _ _ _ _ k) ?_
    simp (disch:=omega) only [if_neg]
    have j2t:(st < 0∨st≥N)→Ev (fun k=>Zc1.j2 k true K N st rs) (if st < 0∨st≥N then 2 else if rs.any (ruleBad K N)=true then 2 else 0):=by
      intro h
      rw [if_pos h]
      refine Ev.step (fun k=>Zc1.j2.eq_2 _ _ _ _ _ k) ?_
      simp only [if_true];exact Ev.now _
    by_cases d1:st < 0
    · simp only [if_pos d1];exact j2t (.inl d1)
    by_cases d2:st≥N
    · simp only [if_neg d1,decide_eq_true d2];exact j2t (.inr d2)
    · simp only [if_neg d1,decide_eq_false d2]
      rw [if_neg (by omega)]
      refine Ev.step (fun k=>Zc1.j2.eq_2 _ _ _ _ _ k) ?_
      simp only [Bool.false_eq_true,if_false]
      exact rcheck_l1 K N st rs (by omega) (by omega) (by omega) (by omega) (by omega) c6
  · intro i h0 h1 hb
    refine Ev.step (fun k=>Zc1.l0.eq_2 _ _ _ _ _ _ _ k) ?_
    simp only [decide_eq_true_eq] at hb
    simp (disch:=omega) only [if_pos];exact Ev.now _
  · intro i r h0 h1 hb hr
    refine Ev.step (fun k=>Zc1.l0.eq_2 _ _ _ _ _ _ _ k) ?_
    simp only [decide_eq_false_iff_not] at hb
    simp (disch:=omega) only [if_pos,if_neg,w64];exact hr
structure GOK (K N st:Int) (rs:List S41):Prop where
  K0:1≤K
  K1:K≤3
  N0:1≤N
  N1:N≤5
  len:rs.length≤10
  s0:0≤st
  s1:st < N
  rl: ∀r∈rs,r.f1.length≤4
  r0: ∀r∈rs,0≤r.f0
  r1: ∀r∈rs,r.f0 < N
  x0: ∀r∈rs,∀x∈r.f1,0≤x
  x1: ∀r∈rs,∀x∈r.f1,x < K + N
theorem gcode_ok {K N st:Int} {rs:List S41} (h:gcode K N st rs=0):GOK K N st rs:=by
  unfold gcode at h
  split at h
  · omega
  rename_i h1
  split at h
  · omega
  rename_i h2
  split at h
  · omega
  rename_i h3
  simp only [not_or] at h1 h2
  have h4:(rs.any fun r=>decide ((r.f1.length:Int) > 4))=false:=by simpa using h1.2.2.2.2.2
  have h5:rs.any (ruleBad K N)=false:=by simpa using h3
  rw [List.any_eq_false] at h4 h5
  have h6: ∀r∈rs,0≤r.f0∧r.f0 < N∧∀x∈r.f1,0≤x∧x < K + N:=by
    intro r hr
    have h7:ruleBad K N r=false:=by simpa using h5 r hr
    unfold ruleBad at h7
    simp only [Bool.or_eq_false_iff,decide_eq_false_iff_not,List.any_eq_false] at h7
    refine⟨by omega,by omega,fun x hx=>?_⟩
    have h8:=h7.2.2 x hx
    unfold sgnBad at h8
    simp only [Bool.or_eq_true,decide_eq_true_eq,not_or] at h8
    omega
  refine⟨by omega,by omega,by omega,by omega,by omega,by omega,by omega,?_,fun r hr=>(h6 r hr).1,fun r hr=>(h6 r hr).2.1,fun r hr x hx=>((h6 r hr).2.2 x hx).1,fun r hr x hx=>((h6 r hr).2.2 x hx).2⟩
  intro r hr
  have:=h4 r hr
  simp only [decide_eq_true_eq] at this;omega
def okS (K:Int) (sy:Bool) (S:Nat) (x:Int):Bool:=if x < K then sy else S.testBit (x - K).toNat
def passG (K:Int) (sy:Bool) (rs:List S41) (S:Nat):Nat:=rs.foldl (fun S r=>if r.f1.all (okS K sy S)=true then S ||| 2 ^ r.f0.toNat else S) S
def leastG (K N:Int) (sy:Bool) (rs:List S41):Nat:=rep (passG K sy rs) N.toNat 0
def mkG (K:Int) (sy:Bool) (rs:List S41):Nat→Int→Bool
  |0,x=>if x < K then sy else false
  |d + 1,x=>if x < K then sy else rs.any fun r=>r.f0 == x - K && r.f1.all (mkG K sy rs d)
theorem passG_lt (K:Int) (sy:Bool) (n:Nat): ∀(rs:List S41) (S:Nat),(∀r∈rs,r.f0.toNat < n)→S < 2 ^ n→passG K sy rs S < 2 ^ n
  | [],S,_,h=>h
  |r :: rs,S,hr,h=>by
    unfold passG
    rw [List.foldl_cons]
    refine passG_lt K sy n rs _ (fun q hq=>hr q (by simp [hq])) ?_
    split
    · exact Nat.or_lt_two_pow h (Nat.pow_lt_pow_right (by omega) (hr r (by simp)))
    · exact h
theorem passG_sub (K:Int) (sy:Bool): ∀(rs:List S41) (S i:Nat),S.testBit i=true→(passG K sy rs S).testBit i=true
  | [],_,_,h=>h
  |r :: rs,S,i,h=>by
    unfold passG
    rw [List.foldl_cons]
    refine passG_sub K sy rs _ i ?_
    split
    · rw [Nat.testBit_or,h,Bool.true_or]
    · exact h
theorem okS_mono {K:Int} {sy:Bool} {S T:Nat} (h: ∀i,S.testBit i=true→T.testBit i=true) (x:Int) (hx:okS K sy S x=true):okS K sy T x=true:=by
  unfold okS at hx ⊢
  split
  · rename_i c;rwa [if_pos c] at hx
  · rename_i c;rw [if_neg c] at hx;exact h _ hx
theorem all_mono {p q:Int→Bool} {l:List Int} (h: ∀x∈l,p x=true→q x=true) (hp:l.all p=true):l.all q=true:=by
  rw [List.all_eq_true] at hp ⊢;exact fun x hx=>h x hx (hp x hx)
theorem passG_mem (K:Int) (sy:Bool): ∀(rs:List S41) (S:Nat) (r:S41),r∈rs→r.f1.all (okS K sy S)=true→(passG K sy rs S).testBit r.f0.toNat=true
  | [],_,_,h,_=>by simp at h
  |q :: rs,S,r,h,hok=>by
    unfold passG
    rw [List.foldl_cons]
    have hsub: ∀i,S.testBit i=true→(if q.f1.all (okS K sy S)=true then S ||| 2 ^ q.f0.toNat else S).testBit i=true:=by
      intro i hi
      split
      · rw [Nat.testBit_or,hi,Bool.true_or]
      · exact hi
    rcases List.mem_cons.1 h with rfl|h
    · refine passG_sub K sy rs _ _ ?_
      rw [if_pos hok,Nat.testBit_or,Nat.testBit_two_pow_self,Bool.or_true]
    · exact passG_mem K sy rs _ r h (all_mono (fun x _=>okS_mono hsub x) hok)
theorem passG_in (K : Int) (sy : Bool) (D : Nat → Bool) : ∀ (rs : List S41) (S : Nat), (∀ i, S.testBit i = true → D i = true) →
    (∀r∈rs,∀T:Nat,(∀i,T.testBit i=true→D i=true)→r.f1.all (okS K sy T)=true→D r.f0.toNat=true)→∀i,(passG K sy rs S).testBit i=true→D i=true
  | [],_,h,_,i,hi=>h i hi
  |r :: rs,S,h,hc,i,hi=>by
    unfold passG at hi
    rw [List.foldl_cons] at hi
    refine passG_in K sy D rs _ ?_ (fun q hq=>hc q (by simp [hq])) i hi
    intro j hj
    split at hj
    · rename_i c
      rw [Nat.testBit_or,Bool.or_eq_true] at hj
      rcases hj with hj|hj
      · exact h j hj
      · rw [Nat.testBit_two_pow,decide_eq_true_eq] at hj
        subst hj
        exact hc r (by simp) S h c
    · exact h j hj
theorem mkG_step (K:Int) (sy:Bool) (rs:List S41): ∀(d:Nat) (x:Int),mkG K sy rs d x=true→mkG K sy rs (d + 1) x=true
  |0,x,h=>by
    unfold mkG at h ⊢
    split
    · rename_i c;rwa [if_pos c] at h
    · rename_i c;rw [if_neg c] at h;cases h
  |d + 1,x,h=>by
    unfold mkG at h ⊢
    split
    · rename_i c;rwa [if_pos c] at h
    · rename_i c;rw [if_neg c,List.any_eq_true] at h
      obtain⟨r,hr,h⟩:=h
      rw [List.any_eq_true]
      rw [Bool.and_eq_true] at h
      exact⟨r,hr,by rw [Bool.and_eq_true];exact⟨h.1,all_mono (fun y _=>mkG_step K sy rs d y) h.2⟩⟩
theorem mkG_stop {K N st:Int} {rs:List S41} (G:GOK K N st rs) (sy:Bool): ∀x:Int,x < K + N→mkG K sy rs (N.toNat + 1) x=mkG K sy rs N.toNat x:=by
  have stab: ∀d,(∀i,i < N.toNat→mkG K sy rs (d + 1) (K + (i:Int))=mkG K sy rs d (K + (i:Int)))→∀x:Int,x < K + N→mkG K sy rs (d + 1) x=mkG K sy rs d x:=by
    intro d h x hx
    by_cases c:x < K
    · cases d <;> simp only [mkG,if_pos c]
    · have:=h (x - K).toNat (by omega)
      rwa [show K + ((x - K).toNat:Int)=x by omega] at this
  have key:=chain_stop N.toNat (fun d i=>mkG K sy rs d (K + (i:Int))) (fun d i _ h=>mkG_step K sy rs d _ h) (by
    intro d h i hi
    have h2:=stab d h
    show mkG K sy rs (d + 2) (K + (i:Int))=mkG K sy rs (d + 1) (K + (i:Int))
    have c:¬ (K + (i:Int) < K):=by omega
    simp only [mkG,if_neg c]
    rw [Bool.eq_iff_iff,List.any_eq_true,List.any_eq_true]
    have e: ∀r∈rs,r.f1.all (mkG K sy rs (d + 1))=r.f1.all (mkG K sy rs d):=by
      intro r hr
      rw [Bool.eq_iff_iff]
      exact⟨all_mono (fun x hx q=>by rw [← h2 x (G.x1 r hr x hx)];exact q),all_mono (fun x hx q=>by rw [h2 x (G.x1 r hr x hx)];exact q)⟩
    constructor
    · rintro⟨r,hr,q⟩
      refine⟨r,hr,?_⟩
      have e1:=e r hr
      simp only [mkG] at e1
      rwa [e1] at q
    · rintro⟨r,hr,q⟩
      refine⟨r,hr,?_⟩
      have e1:=e r hr
      simp only [mkG] at e1
      rwa [e1])
  exact stab N.toNat key
theorem leastG_eq {K N st:Int} {rs:List S41} (G:GOK K N st rs) (sy:Bool):leastG K N sy rs=maskB (fun i=>mkG K sy rs N.toNat (K + (i:Int))) N.toNat:=by
  have hK:=G.K0;have hN:=G.N0
  apply Nat.eq_of_testBit_eq
  intro i
  rw [maskB_bit]
  have hlt:leastG K N sy rs < 2 ^ N.toNat:=rep_lt _ _ (fun s hs=>passG_lt K sy N.toNat rs s (fun r hr=>by have:=G.r0 r hr;have:=G.r1 r hr;omega) hs) _ _ (Nat.two_pow_pos _)
  by_cases hi:i < N.toNat
  · rw [decide_eq_true hi,Bool.true_and,Bool.eq_iff_iff]
    constructor
    ·
      have key: ∀n,∀j,(rep (passG K sy rs) n 0).testBit j=true→mkG K sy rs N.toNat (K + (j:Int))=true:=by
        intro n
        induction n with
        |zero=>intro j hj;simp [rep] at hj
        |succ n ih=>
          rw [rep_succ]
          refine passG_in K sy (fun j=>mkG K sy rs N.toNat (K + (j:Int))) rs _ ih ?_
          intro r hr T hT hok
          show mkG K sy rs N.toNat (K + (r.f0.toNat:Int))=true
          have h0:=G.r0 r hr
          have h1:=G.r1 r hr
          rw [← mkG_stop G sy _ (by omega)]
          have c:¬ (K + (r.f0.toNat:Int) < K):=by omega
          simp only [mkG,if_neg c]
          rw [List.any_eq_true]
          refine⟨r,hr,?_⟩
          rw [Bool.and_eq_true]
          refine⟨by rw [beq_iff_eq];omega,all_mono (fun x hx q=>?_) hok⟩
          unfold okS at q
          by_cases c2:x < K
          · rw [if_pos c2] at q
            cases e:N.toNat <;> simp only [mkG,if_pos c2,q]
          · rw [if_neg c2] at q
            have:=hT _ q
            rwa [show K + ((x - K).toNat:Int)=x by omega] at this
      exact key _ i
    · have key : ∀ d, ∀ j : Nat, mkG K sy rs d (K + (j : Int)) = true → (rep (passG K sy rs) d 0).testBit j = true := by
        intro d
        induction d with
        |zero=>intro j hj;unfold mkG at hj;rw [if_neg (by omega)] at hj;cases hj
        |succ d ih=>
          intro j hj
          unfold mkG at hj
          rw [if_neg (by omega),List.any_eq_true] at hj
          obtain⟨r,hr,h⟩:=hj
          rw [Bool.and_eq_true,beq_iff_eq] at h
          rw [rep_succ]
          have:=passG_mem K sy rs (rep (passG K sy rs) d 0) r hr (all_mono (fun x hx q=>?_) h.2)
          · rwa [show r.f0.toNat=j by omega] at this
          · unfold okS
            by_cases c:x < K
            · rw [if_pos c]
              cases d <;> simpa only [mkG,if_pos c] using q
            · rw [if_neg c]
              exact ih (x - K).toNat (by rwa [show K + ((x - K).toNat:Int)=x by omega])
      exact key _ i
  · rw [decide_eq_false hi,Bool.false_and]
    exact Nat.testBit_lt_two_pow (Nat.lt_of_lt_of_le hlt (Nat.pow_le_pow_right (by omega) (by omega)))
section
variable (K N st:Int) (rs:List S41) (G:GOK K N st rs) (sy:Bool)
include G
theorem lt32G {S:Nat} (h:S < 2 ^ N.toNat):S < 2 ^ 32:=Nat.lt_of_lt_of_le h (Nat.pow_le_pow_right (by omega) (by have:=G.N1;omega))
theorem leastBad (S:Nat) (hS:S < 2 ^ N.toNat) (l:List Int) (hl: ∀x∈l,0≤x∧x < K + N):grammar_Least_1_any.f l K N st rs sy (S:Int)=some (!(l.all (okS K sy S))):=by
  have hK:=G.K0;have hK1:=G.K1;have hN:=G.N0;have hN1:=G.N1
  unfold grammar_Least_1_any.f
  rw [anyO_of (p:=fun x=>!(okS K sy S x)),List.all_eq_not_any_not]
  · simp
  intro x hx
  have h0:=hl x hx
  unfold grammar_Least_1.f okS
  by_cases c:x < K
  · simp only [if_pos c,if_neg (show ¬ x≥K by omega)]
    cases sy <;> rfl
  · obtain⟨i,hi⟩:=Int.eq_ofNat_of_zero_le (show 0≤x - K by omega)
    have h32:=lt32G K N st rs G hS
    simp only [if_neg c,if_pos (show x≥K by omega),w64 (show -9223372036854775808≤x - K by omega) (by omega),if_pos (show 0≤x - K by omega)]
    rw [hi,bit_shr0 S i h32 (by omega),Int.toNat_natCast]
theorem least_l0 (d:Nat): ∀(j:Int) (S:Nat),0≤j→j + d=N→S < 2 ^ N.toNat→Ev (fun k=>Zt1.l0 k N j K N st rs sy (S:Int)) ((rep (passG K sy rs) d S:Nat):Int):=by
  have hlen:=G.len;have hN1:=G.N1
  induction d with
  |zero=>
    intro j S h0 h1 hS
    refine Ev.step (fun k=>Zt1.l0.eq_2 _ _ _ _ _ _ _ _ k) ?_
    simp (disch:=omega) only [if_neg];exact Ev.now _
  |succ d ih=>
    intro j S h0 h1 hS
    refine Ev.step (fun k=>Zt1.l0.eq_2 _ _ _ _ _ _ _ _ k) ?_
    simp (disch:=omega) only [if_pos]
    refine Ev.loop (L:=fun k i (T:Nat)=>Zt1.l1 k N j rs (rs.length:Int) i K N st rs sy (T:Int)) (n:=rs.length) (fun i T=>T < 2 ^ N.toNat∧passG K sy (rs.drop i.toNat) T=passG K sy rs S) ?_ ?_ 0 S (Int.le_refl _) (by omega) ⟨hS,rfl⟩
    · intro T hT
      refine Ev.step (fun k=>Zt1.l1.eq_2 _ _ _ _ _ _ _ _ _ _ _ k) ?_
      simp (disch:=omega) only [if_neg,w64]
      have e:T=passG K sy rs S:=by have:=hT.2;rw [Int.toNat_natCast,List.drop_length] at this;exact this
      have:=ih (j + 1) T (by omega) (by omega) hT.1
      rw [e] at this ⊢;exact this
    · intro i T h2 h3 hT
      right
      have hm:=rule_mem h2 h3
      obtain⟨hT1,hT2⟩:=hT
      rw [rd_rule h2 h3] at hT2
      unfold passG at hT2
      rw [List.foldl_cons] at hT2
      obtain⟨q,hq⟩:=Int.eq_ofNat_of_zero_le (G.r0 _ hm)
      have hq1:=G.r1 _ hm
      refine⟨if(Zb rs i).f1.all (okS K sy T)=true then T ||| 2 ^ (Zb rs i).f0.toNat else T,⟨?_,hT2⟩,?_⟩
      · split
        · exact Nat.or_lt_two_pow hT1 (Nat.pow_lt_pow_right (by omega) (by omega))
        · exact hT1
      · intro h
        refine Ev.step (fun k=>Zt1.l1.eq_2 _ _ _ _ _ _ _ _ _ _ _ k) ?_
        simp (disch:=omega) only [if_pos,w64,leastBad K N st rs G sy T hT1 _ (fun x hx=>⟨G.x0 _ hm x hx,G.x1 _ hm x hx⟩),Option.bind_some]
        cases c:(Zb rs i).f1.all (okS K sy T) with
        |false=>simp only [c,Bool.false_eq_true,if_false] at h;simp only [Bool.not_false,if_true];exact h
        |true=>
          simp only [c,if_true,hq,Int.toNat_natCast] at h
          simp only [Bool.not_true,Bool.false_eq_true,if_false,hq,bit_or T q (lt32G K N st rs G hT1) (by omega)];exact h
theorem least_ev:Ev (fun k=>Zt1.f k K N st rs sy) ((leastG K N sy rs:Nat):Int):=by
  unfold Zt1.f
  exact least_l0 K N st rs G sy N.toNat 0 0 (by omega) (by have:=G.N0;omega) (Nat.two_pow_pos _)
theorem least_lt:leastG K N sy rs < 2 ^ N.toNat:=rep_lt _ _ (fun s hs=>passG_lt K sy N.toNat rs s (fun r hr=>by have:=G.r0 r hr;have:=G.r1 r hr;omega) hs) _ _ (Nat.two_pow_pos _)
end
section
variable (K N st:Int) (rs:List S41) (G:GOK K N st rs) (vo:Bool)
include G
theorem refMakes_ev (d:Nat) (hd:d≤5): ∀x:Int,0≤x→x < K + N→Ev (fun k=>Zk1.f k K N st rs x (d:Int) vo) (mkG K (!vo) rs d x):=by
  have hK:=G.K0;have hK1:=G.K1;have hN:=G.N0;have hN1:=G.N1;have hlen:=G.len
  induction d with
  |zero=>
    intro x h0 h1
    refine Ev.step (fun k=>Zk1.f.eq_2 _ _ _ _ _ _ _ k) ?_
    unfold mkG
    by_cases c:x < K
    · simp only [if_pos c];exact Ev.now _
    · simp only [if_neg c,if_pos (show((0:Nat):Int)=0 from rfl)];exact Ev.now _
  |succ d ih=>
    intro x h0 h1
    refine Ev.step (fun k=>Zk1.f.eq_2 _ _ _ _ _ _ _ k) ?_
    unfold mkG
    by_cases c:x < K
    · simp only [if_pos c];exact Ev.now _
    simp only [if_neg c,if_neg (show ¬ ((d + 1:Nat):Int)=0 by omega)]
    have hr:(rs.any fun r=>r.f0 == x - K && r.f1.all (mkG K (!vo) rs d))=(if(rs.any fun r=>r.f0 == x - K && r.f1.all (mkG K (!vo) rs d))=true then true else false):=by
      cases (rs.any fun r=>r.f0 == x - K && r.f1.all (mkG K (!vo) rs d)) <;> simp
    rw [hr]
    have inner : ∀ (i : Int) (R : Bool), 0 ≤ i → i < rs.length → (Zb rs i).f0 = x - K → ((Zb rs i).f1.all (mkG K (!vo) rs d) = true → R = true) →
        ((Zb rs i).f1.all (mkG K (!vo) rs d)=false→Ev (fun k=>Zk1.l0 k x ((d + 1:Nat):Int) vo rs (rs.length:Int) (i + 1) K N st rs) R)→
        Ev (fun k=>Zk1.l1 k x ((d + 1:Nat):Int) vo true rs (rs.length:Int) i (Zb rs i).f1 (((Zb rs i).f1.length:Nat):Int) 0 K N st rs) R:=by
      intro i R h2 h3 _ hyes hno
      have hm:=rule_mem h2 h3
      have hl4:=G.rl _ hm
      refine Ev.loop (L:=fun k j (ok:Bool)=>Zk1.l1 k x ((d + 1:Nat):Int) vo ok rs (rs.length:Int) i (Zb rs i).f1 (((Zb rs i).f1.length:Nat):Int) j K N st rs) (n:=(Zb rs i).f1.length) (fun j ok=>(Zb rs i).f1.all (mkG K (!vo) rs d)=(ok && ((Zb rs i).f1.drop j.toNat).all (mkG K (!vo) rs d))) ?_ ?_ 0 true (Int.le_refl _) (by omega) (by simp)
      · intro ok he
        rw [Int.toNat_natCast,List.drop_length,List.all_nil,Bool.and_true] at he
        refine Ev.step (fun k=>Zk1.l1.eq_2 _ _ _ _ _ _ _ _ _ _ _ _ _ _ k) ?_
        simp (disch:=omega) only [if_neg (show ¬ (((Zb rs i).f1.length:Nat):Int) < ((Zb rs i).f1.length:Nat) by omega),w64]
        cases ok with
        |true=>simp only [if_true];exact Ev.val (hyes he).symm
        |false=>simp only [Bool.false_eq_true,if_false];exact hno he
      · intro j ok h4 h5 he
        right
        have hx:=rd_mem h4 h5
        rw [rd_cons h4 h5,List.all_cons] at he
        cases ok with
        |false=>
          refine⟨false,by rw [he];rfl,?_⟩
          intro h
          refine Ev.step (fun k=>Zk1.l1.eq_2 _ _ _ _ _ _ _ _ _ _ _ _ _ _ k) ?_
          simp (disch:=omega) only [if_pos,w64,Bool.false_eq_true,if_false]
          exact h
        |true=>
          refine⟨mkG K (!vo) rs d (rd (Zb rs i).f1 j),by rw [he,Bool.true_and],?_⟩
          intro h
          refine Ev.step (fun k=>Zk1.l1.eq_2 _ _ _ _ _ _ _ _ _ _ _ _ _ _ k) ?_
          simp (disch:=omega) only [if_pos,w64,if_true]
          refine Ev.bind ?_ h
          have:=ih (by omega) (rd (Zb rs i).f1 j) (G.x0 _ hm _ hx) (G.x1 _ hm _ hx)
          rwa [show((d + 1:Nat):Int) - 1=(d:Int) by omega]
    refine Ev.firstBad (L:=fun k i=>Zk1.l0 k x ((d + 1:Nat):Int) vo rs (rs.length:Int) i K N st rs) (rdf:=Zb rs) (fun i h0 h1=>rd_rule h0 h1) ?_ ?_ ?_
    · intro _
      refine Ev.step (fun k=>Zk1.l0.eq_2 _ _ _ _ _ _ _ _ _ _ k) ?_
      simp (disch:=omega) only [if_neg (show ¬ ((rs.length:Nat):Int) < rs.length by omega)];exact Ev.now _
    · intro i h2 h3 hb
      rw [Bool.and_eq_true,beq_iff_eq] at hb
      refine Ev.step (fun k=>Zk1.l0.eq_2 _ _ _ _ _ _ _ _ _ _ k) ?_
      simp (disch:=omega) only [if_pos,w64,hb.1]
      exact inner i true h2 h3 hb.1 (fun _=>rfl) (fun h=>by rw [hb.2] at h;cases h)
    · intro i r h2 h3 hb hr
      refine Ev.step (fun k=>Zk1.l0.eq_2 _ _ _ _ _ _ _ _ _ _ k) ?_
      simp (disch:=omega) only [if_pos,w64]
      by_cases e:(Zb rs i).f0=x - K
      · simp only [if_pos e]
        have hb2:(Zb rs i).f1.all (mkG K (!vo) rs d)=false:=by simpa [e] using hb
        exact inner i r h2 h3 e (fun h=>by rw [hb2] at h;cases h) (fun _=>hr)
      · simp only [if_neg e];exact hr
theorem refNames_ev:Ev (fun k=>Zw1.f k K N st rs vo) ((leastG K N (!vo) rs:Nat):Int):=by
  have hK:=G.K0;have hK1:=G.K1;have hN:=G.N0;have hN1:=G.N1
  rw [leastG_eq G]
  unfold Zw1.f
  refine Ev.loop (L:=fun k i (a:Nat)=>Zw1.l0 k vo (a:Int) i K N st rs) (n:=N) (fun i a=>a=maskB (fun i=>mkG K (!vo) rs N.toNat (K + (i:Int))) i.toNat) ?_ ?_ 0 0 (Int.le_refl _) (by omega) rfl
  · intro a ha
    refine Ev.step (fun k=>Zw1.l0.eq_2 _ _ _ _ _ _ _ k) ?_
    simp (disch:=omega) only [if_neg (show ¬ N < N by omega)]
    rw [ha];exact Ev.now _
  · intro i a h0 h1 ha
    right
    obtain⟨j,rfl⟩:=Int.eq_ofNat_of_zero_le h0
    rw [Int.toNat_natCast] at ha
    have hlt:=maskB_lt (fun i=>mkG K (!vo) rs N.toNat (K + (i:Int))) j
    have h25:2 ^ j≤2 ^ 5:=Nat.pow_le_pow_right (by omega) (by omega)
    refine⟨maskB (fun i=>mkG K (!vo) rs N.toNat (K + (i:Int))) (j + 1),by rw [show((j:Int) + 1).toNat=j + 1 by omega],?_⟩
    intro h
    refine Ev.step (fun k=>Zw1.l0.eq_2 _ _ _ _ _ _ _ k) ?_
    simp (disch:=omega) only [if_pos,w64]
    have hm:=refMakes_ev K N st rs G vo N.toNat (by omega) (K + (j:Int)) (by omega) (by omega)
    rw [show((N.toNat:Nat):Int)=N by omega] at hm
    refine Ev.bind hm ?_
    rw [maskB_succ] at h
    cases c:mkG K (!vo) rs N.toNat (K + (j:Int)) with
    |true=>
      simp only [c,if_true] at h
      simp (disch:=omega) only [if_true,u64_id,if_pos,shl1 j (by omega)]
      rw [show((a:Int) + ((2 ^ j:Nat):Int)) % 4294967296=((maskB (fun i=>mkG K (!vo) rs N.toNat (K + (i:Int))) j + 2 ^ j:Nat):Int) by rw [← ha];omega]
      exact h
    |false=>
      simp only [c,Bool.false_eq_true,if_false,Nat.add_zero] at h
      simp only [Bool.false_eq_true,if_false]
      rw [ha];exact h
end
def edgesG (rs:List S41):List (Int × Int):=rs.flatMap fun r=>r.f1.map fun x=>(r.f0,x)
theorem edgesG_cons (r:S41) (rs:List S41):edgesG (r :: rs)=r.f1.map (fun x=>(r.f0,x))++edgesG rs:=by unfold edgesG;rw [List.flatMap_cons]
theorem edgesG_mem {rs:List S41} {e:Int × Int} (h:e∈edgesG rs): ∃r∈rs,r.f0=e.1∧e.2∈r.f1:=by
  unfold edgesG at h
  rw [List.mem_flatMap] at h
  obtain⟨r,hr,h⟩:=h
  rw [List.mem_map] at h
  obtain⟨x,hx,rfl⟩:=h
  exact⟨r,hr,rfl,hx⟩
def addC (K:Int) (S:Nat) (e:Int × Int):Nat:=if S.testBit e.1.toNat=true∧e.2≥K then S ||| 2 ^ (e.2 - K).toNat else S
def passE (K:Int) (E:List (Int × Int)) (S:Nat):Nat:=E.foldl (addC K) S
theorem addC_sub (K:Int) (S:Nat) (e:Int × Int) (i:Nat) (h:S.testBit i=true):(addC K S e).testBit i=true:=by
  unfold addC
  split
  · rw [Nat.testBit_or,h,Bool.true_or]
  · exact h
theorem passE_sub (K:Int): ∀(E:List (Int × Int)) (S i:Nat),S.testBit i=true→(passE K E S).testBit i=true
  | [],_,_,h=>h
  |e :: E,S,i,h=>by
    unfold passE;rw [List.foldl_cons]
    exact passE_sub K E _ i (addC_sub K S e i h)
theorem passE_mem (K:Int): ∀(E:List (Int × Int)) (S:Nat) (e:Int × Int),e∈E→S.testBit e.1.toNat=true→e.2≥K→(passE K E S).testBit (e.2 - K).toNat=true
  | [],_,_,h,_,_=>by simp at h
  |f :: E,S,e,h,h1,h2=>by
    unfold passE;rw [List.foldl_cons]
    rcases List.mem_cons.1 h with rfl|h
    · refine passE_sub K E _ _ ?_
      unfold addC
      rw [if_pos ⟨h1,h2⟩,Nat.testBit_or,Nat.testBit_two_pow_self,Bool.or_true]
    · exact passE_mem K E _ e h (addC_sub K S f _ h1) h2
theorem passE_in (K:Int) (D:Nat→Bool): ∀(E:List (Int × Int)) (S:Nat),(∀e∈E,D e.1.toNat=true→e.2≥K→D (e.2 - K).toNat=true)→(∀i,S.testBit i=true→D i=true)→∀i,(passE K E S).testBit i=true→D i=true
  | [],_,_,h,i,hi=>h i hi
  |e :: E,S,hc,h,i,hi=>by
    unfold passE at hi;rw [List.foldl_cons] at hi
    refine passE_in K D E _ (fun f hf=>hc f (by simp [hf])) ?_ i hi
    intro j hj
    unfold addC at hj
    split at hj
    · rename_i c
      rw [Nat.testBit_or,Bool.or_eq_true] at hj
      rcases hj with hj|hj
      · exact h j hj
      · rw [Nat.testBit_two_pow,decide_eq_true_eq] at hj
        subst hj
        exact hc e (by simp) (h _ c.1) c.2
    · exact h j hj
theorem addC_lt (K:Int) (n:Nat) (S:Nat) (e:Int × Int) (he:(e.2 - K).toNat < n) (h:S < 2 ^ n):addC K S e < 2 ^ n:=by
  unfold addC
  split
  · exact Nat.or_lt_two_pow h (Nat.pow_lt_pow_right (by omega) he)
  · exact h
theorem passE_lt (K:Int) (n:Nat): ∀(E:List (Int × Int)) (S:Nat),(∀e∈E,(e.2 - K).toNat < n)→S < 2 ^ n→passE K E S < 2 ^ n
  | [],_,_,h=>h
  |e :: E,S,he,h=>by
    unfold passE;rw [List.foldl_cons]
    exact passE_lt K n E _ (fun f hf=>he f (by simp [hf])) (addC_lt K n S e (he e (by simp)) h)
def comesG (K N st:Int) (rs:List S41):Nat:=rep (passE K (edgesG rs)) N.toNat (2 ^ st.toNat)
theorem cntP_add (p q:Nat→Bool) (j:Nat) (hj:p j=false) (hq: ∀i,q i=(decide (i=j) || p i)): ∀n,cntP q n=cntP p n + (if j < n then 1 else 0)
  |0=>by simp [cntP]
  |n + 1=>by
    have ih:=cntP_add p q j hj hq n
    simp only [cntP,hq n,ih]
    by_cases e:n=j
    · subst e;simp [hj]
    · by_cases c:j < n
      · simp [e,c,show j < n + 1 by omega];omega
      · simp [e,c,show ¬ j < n + 1 by omega]
theorem maskB_add (p q:Nat→Bool) (j:Nat) (hj:p j=false) (hq: ∀i,q i=(decide (i=j) || p i)): ∀n,maskB q n=maskB p n + (if j < n then 2 ^ j else 0)
  |0=>by simp [maskB]
  |n + 1=>by
    have ih:=maskB_add p q j hj hq n
    simp only [maskB,hq n,ih]
    by_cases e:n=j
    · subst e;simp [hj]
    · by_cases c:j < n
      · simp [e,c,show j < n + 1 by omega];omega
      · simp [e,c,show ¬ j < n + 1 by omega]
structure QOK (N:Int) (q:List Int):Prop where
  nd:q.Nodup
  rg: ∀y∈q,0≤y∧y < N
def inQ (q:List Int) (i:Nat):Bool:=decide ((i:Int)∈q)
def msum (q:List Int):Nat:=(q.map fun x=>2 ^ x.toNat).sum
theorem inQ_cons {y:Int} {q:List Int} (h0:0≤y) (i:Nat):inQ (y :: q) i=(decide (i=y.toNat) || inQ q i):=by
  unfold inQ
  rw [Bool.eq_iff_iff]
  simp only [List.mem_cons,decide_eq_true_eq,Bool.or_eq_true]
  constructor
  · rintro(h|h)
    · left;omega
    · right;exact h
  · rintro(h|h)
    · left;omega
    · right;exact h
theorem QOK.tail {N y:Int} {q:List Int} (h:QOK N (y :: q)):QOK N q:=⟨(List.nodup_cons.1 h.nd).2,fun z hz=>h.rg z (by simp [hz])⟩
theorem inQ_no {y:Int} {q:List Int} (h0:0≤y) (h:y ∉ q):inQ q y.toNat=false:=by
  unfold inQ;rw [Int.toNat_of_nonneg h0];exact decide_eq_false h
theorem QOK.cnt {N:Int} : ∀{q:List Int},QOK N q→cntP (inQ q) N.toNat=q.length
  | [],_=>by
    have: ∀n,cntP (inQ []) n=0:=by intro n;induction n with|zero=>rfl|succ n ih=>simp [cntP,ih,inQ]
    rw [this];rfl
  |y :: q,h=>by
    have hy:=h.rg y (by simp)
    have:=cntP_add (inQ q) (inQ (y :: q)) y.toNat (inQ_no hy.1 (List.nodup_cons.1 h.nd).1) (inQ_cons hy.1) N.toNat
    rw [this,QOK.cnt h.tail,if_pos (by omega),List.length_cons]
theorem QOK.len {N:Int} {q:List Int} (h:QOK N q):q.length≤N.toNat:=by rw [← h.cnt];exact cntP_le _ _
theorem QOK.sum {N:Int} : ∀{q:List Int},QOK N q→maskB (inQ q) N.toNat=msum q
  | [],_=>by
    have: ∀n,maskB (inQ []) n=0:=by intro n;induction n with|zero=>rfl|succ n ih=>simp [maskB,ih,inQ]
    rw [this];rfl
  |y :: q,h=>by
    have hy:=h.rg y (by simp)
    have:=maskB_add (inQ q) (inQ (y :: q)) y.toNat (inQ_no hy.1 (List.nodup_cons.1 h.nd).1) (inQ_cons hy.1) N.toNat
    rw [this,QOK.sum h.tail,if_pos (by omega)]
    unfold msum
    rw [List.map_cons,List.sum_cons,Nat.add_comm]
theorem QOK.put {N y:Int} {q:List Int} (h:QOK N q) (h0:0≤y) (h1:y < N) (hn:y ∉ q):QOK N (q++[y]):=by
  refine⟨?_,?_⟩
  · rw [List.nodup_append]
    refine⟨h.nd,by simp,?_⟩
    intro a ha b hb
    rw [List.mem_singleton] at hb
    subst hb
    intro e;subst e;exact hn ha
  · intro z hz
    rcases List.mem_append.1 hz with hz|hz
    · exact h.rg z hz
    · rw [List.mem_singleton] at hz;subst hz;exact⟨h0,h1⟩
def addQ (K h:Int) (q:List Int) (e:Int × Int):List Int:=if e.1=rd q h∧e.2≥K∧¬ e.2 - K∈q then q++[e.2 - K] else q
theorem rd_app (q t:List Int) (h:Int) (h0:0≤h) (h1:h < q.length):rd (q++t) h=rd q h:=by
  rw [rd_getElem (l:=q) (by omega),rd_getElem (l:=q++t) (by rw [List.length_append];omega),List.getElem_append_left]
theorem addQ_pre (K h:Int) (q:List Int) (e:Int × Int): ∃t,addQ K h q e=q++t:=by
  unfold addQ
  split
  · exact⟨_,rfl⟩
  · exact⟨[],by simp⟩
theorem addQ_ok {K N h:Int} {q:List Int} {e:Int × Int} (H:QOK N q) (he:e.2 < K + N):QOK N (addQ K h q e):=by
  unfold addQ
  split
  · rename_i c;exact H.put (by omega) (by omega) c.2.2
  · exact H
theorem foldQ_pre (K h:Int): ∀(E:List (Int × Int)) (q:List Int),∃t,E.foldl (addQ K h) q=q++t
  | [],q=>⟨[],by simp⟩
  |e :: E,q=>by
    rw [List.foldl_cons]
    obtain⟨t,ht⟩:=addQ_pre K h q e
    obtain⟨u,hu⟩:=foldQ_pre K h E (addQ K h q e)
    exact⟨t++u,by rw [hu,ht,List.append_assoc]⟩
theorem foldQ_ok {K N h:Int} : ∀(E:List (Int × Int)) (q:List Int),QOK N q→(∀e∈E,e.2 < K + N)→QOK N (E.foldl (addQ K h) q)
  | [],_,H,_=>H
  |e :: E,q,H,he=>by rw [List.foldl_cons];exact foldQ_ok E _ (addQ_ok H (he e (by simp))) (fun f hf=>he f (by simp [hf]))
theorem foldQ_mem {K h:Int} (h0:0≤h): ∀(E:List (Int × Int)) (q:List Int),h < q.length→∀e∈E,e.1=rd q h→e.2≥K→e.2 - K∈E.foldl (addQ K h) q
  | [],_,_,_,he,_,_=>by simp at he
  |f :: E,q,h1,e,he,h2,h3=>by
    rw [List.foldl_cons]
    obtain⟨t,ht⟩:=addQ_pre K h q f
    rcases List.mem_cons.1 he with rfl|he
    · obtain⟨u,hu⟩:=foldQ_pre K h E (addQ K h q e)
      rw [hu,List.mem_append];left
      unfold addQ
      split
      · simp
      · rename_i c
        by_cases m:e.2 - K∈q
        · exact m
        · exact absurd ⟨h2,h3,m⟩ c
    · refine foldQ_mem h0 E _ ?_ e he ?_ h3
      · rw [ht,List.length_append];omega
      · rw [ht,rd_app q t h h0 h1];exact h2
theorem foldQ_in {K h:Int} (h0:0≤h) (D:Int→Prop): ∀(E:List (Int × Int)) (q:List Int),h < q.length→(∀e∈E,D e.1→e.2≥K→D (e.2 - K))→(∀y∈q,D y)→∀y∈E.foldl (addQ K h) q,D y
  | [],_,_,_,g=>g
  |e :: E,q,h1,hc,g=>by
    rw [List.foldl_cons]
    obtain⟨t,ht⟩:=addQ_pre K h q e
    refine foldQ_in h0 D E _ (by rw [ht,List.length_append];omega) (fun f hf=>hc f (by simp [hf])) ?_
    intro y hy
    unfold addQ at hy
    split at hy
    · rename_i c
      rcases List.mem_append.1 hy with hy|hy
      · exact g y hy
      · rw [List.mem_singleton] at hy;subst hy
        exact hc e (by simp) (by rw [c.1];exact g _ (rd_mem h0 h1)) c.2.1
    · exact g y hy
theorem has_ev (q:List Int) (y:Int) (hq:q.length≤1000):Ev (fun k=>Za1.f k q y) (decide (y∈q)):=by
  unfold Za1.f
  have:=Ev.firstBad (L:=fun k i=>Za1.l0 k y q (q.length:Int) i) (l:=q) (rdf:=rd q) (bad:=fun z=>decide (y=z)) (c:=true) (fin:=false) (fun i h0 h1=>rd_cons h0 h1) ?_ ?_ ?_
  · have e : decide (y ∈ q) = q.any fun z => decide (y = z) := by
      rw [Bool.eq_iff_iff,decide_eq_true_eq,List.any_eq_true]
      constructor
      · intro h;exact⟨y,h,decide_eq_true rfl⟩
      · rintro⟨z,hz,h⟩;rw [of_decide_eq_true h];exact hz
    rw [e]
    cases h:q.any fun z=>decide (y=z) <;> rw [h] at this <;> exact this
  · intro _
    refine Ev.step (fun k=>Za1.l0.eq_2 _ _ _ _ k) ?_
    simp (disch:=omega) only [if_neg];exact Ev.now _
  · intro i h0 h1 hb
    refine Ev.step (fun k=>Za1.l0.eq_2 _ _ _ _ k) ?_
    simp (disch:=omega) only [if_pos,if_pos (of_decide_eq_true hb)];exact Ev.now _
  · intro i r h0 h1 hb hr
    refine Ev.step (fun k=>Za1.l0.eq_2 _ _ _ _ k) ?_
    simp (disch:=omega) only [if_pos,if_neg (of_decide_eq_false hb),w64];exact hr
section
variable (K N st:Int) (rs:List S41) (G:GOK K N st rs)
include G
theorem edge_ok {e:Int × Int} (h:e∈edgesG rs):0≤e.1∧e.1 < N∧0≤e.2∧e.2 < K + N:=by
  obtain⟨r,hr,h1,h2⟩:=edgesG_mem h
  rw [← h1]
  exact⟨G.r0 r hr,G.r1 r hr,G.x0 r hr _ h2,G.x1 r hr _ h2⟩
theorem comes_lt:comesG K N st rs < 2 ^ N.toNat:=by
  have hN:=G.N0;have h0:=G.s0;have h1:=G.s1
  exact rep_lt _ _ (fun s hs=>passE_lt K N.toNat _ s (fun e he=>by have:=edge_ok K N st rs G he;omega) hs) _ _ (Nat.pow_lt_pow_right (by omega) (by omega))
theorem comes_start:(comesG K N st rs).testBit st.toNat=true:=by
  unfold comesG
  induction N.toNat with
  |zero=>simp [rep]
  |succ n ih=>rw [rep_succ];exact passE_sub K _ _ _ ih
theorem comes_closed {e:Int × Int} (he:e∈edgesG rs) (h1:(comesG K N st rs).testBit e.1.toNat=true) (h2:e.2≥K):(comesG K N st rs).testBit (e.2 - K).toNat=true:=by
  have hp:=passE_mem K (edgesG rs) (comesG K N st rs) e he h1 h2
  have ho:=edge_ok K N st rs G he
  have hlt: ∀d,rep (passE K (edgesG rs)) d (2 ^ st.toNat) < 2 ^ N.toNat:=fun d=>rep_lt _ _ (fun s hs=>passE_lt K N.toNat _ s (fun e he=>by have:=edge_ok K N st rs G he;omega) hs) _ _ (Nat.pow_lt_pow_right (by omega) (by have:=G.s1;have:=G.s0;omega))
  have key:=chain_stop N.toNat (fun d i=>(rep (passE K (edgesG rs)) d (2 ^ st.toNat)).testBit i) (fun d i _ h=>by rw [rep_succ];exact passE_sub K _ _ i h) (by
    intro d h
    have e:rep (passE K (edgesG rs)) (d + 1) (2 ^ st.toNat)=rep (passE K (edgesG rs)) d (2 ^ st.toNat):=by
      apply Nat.eq_of_testBit_eq
      intro i
      by_cases hi:i < N.toNat
      · exact h i hi
      · have hi2:2 ^ N.toNat≤2 ^ i:=Nat.pow_le_pow_right (by omega) (by omega)
        rw [Nat.testBit_lt_two_pow (Nat.lt_of_lt_of_le (hlt _) hi2),Nat.testBit_lt_two_pow (Nat.lt_of_lt_of_le (hlt _) hi2)]
    intro i _
    have e2:=e
    rw [rep_succ] at e2
    rw [rep_succ _ (d + 1),e,e2])
  have:=key (e.2 - K).toNat (by omega)
  rw [rep_succ] at this
  unfold comesG at hp ⊢
  rw [← this];exact hp
theorem comes_least (D:Nat→Bool) (hc: ∀e∈edgesG rs,D e.1.toNat=true→e.2≥K→D (e.2 - K).toNat=true) (hs:D st.toNat=true) (i:Nat) (h:(comesG K N st rs).testBit i=true):D i=true:=by
  unfold comesG at h
  have key: ∀n i,(rep (passE K (edgesG rs)) n (2 ^ st.toNat)).testBit i=true→D i=true:=by
    intro n
    induction n with
    |zero=>intro i h;simp only [rep,Nat.testBit_two_pow,decide_eq_true_eq] at h;subst h;exact hs
    |succ n ih=>rw [rep_succ];exact passE_in K D _ _ hc ih
  exact key _ i h
theorem lt32C {S:Nat} (h:S < 2 ^ N.toNat):S < 2 ^ 32:=Nat.lt_of_lt_of_le h (Nat.pow_le_pow_right (by omega) (by have:=G.N1;omega))
theorem comes_l0 (d:Nat): ∀(j:Int) (S:Nat),0≤j→j + d=N→S < 2 ^ N.toNat→Ev (fun k=>Zh1.l0 k (S:Int) N j K N st rs) (((rep (passE K (edgesG rs)) d S:Nat):Int),0):=by
  have hlen:=G.len;have hN1:=G.N1;have hK0:=G.K0;have hK1:=G.K1
  induction d with
  |zero=>
    intro j S h0 h1 hS
    refine Ev.step (fun k=>Zh1.l0.eq_2 _ _ _ _ _ _ _ k) ?_
    simp (disch:=omega) only [if_neg];exact Ev.now _
  |succ d ih=>
    intro j S h0 h1 hS
    refine Ev.step (fun k=>Zh1.l0.eq_2 _ _ _ _ _ _ _ k) ?_
    simp (disch:=omega) only [if_pos]
    refine Ev.loop (L:=fun k i (T:Nat)=>Zh1.l1 k (T:Int) N j rs (rs.length:Int) i K N st rs) (n:=rs.length) (fun i T=>T < 2 ^ N.toNat∧passE K (edgesG (rs.drop i.toNat)) T=passE K (edgesG rs) S) ?_ ?_ 0 S (Int.le_refl _) (by omega) ⟨hS,rfl⟩
    · intro T hT
      refine Ev.step (fun k=>Zh1.l1.eq_2 _ _ _ _ _ _ _ _ _ _ k) ?_
      simp (disch:=omega) only [if_neg,w64]
      have e:T=passE K (edgesG rs) S:=by have:=hT.2;rw [Int.toNat_natCast,List.drop_length] at this;exact this
      have:=ih (j + 1) T (by omega) (by omega) hT.1
      rw [e] at this ⊢;exact this
    · intro i T h2 h3 hT
      right
      have hm:=rule_mem h2 h3
      obtain⟨hT1,hT2⟩:=hT
      rw [rd_rule h2 h3,edgesG_cons] at hT2
      unfold passE at hT2
      rw [List.foldl_append] at hT2
      have hrl:=G.rl _ hm
      have hx0:=G.x0 _ hm
      have hx1:=G.x1 _ hm
      obtain⟨q,hq⟩:=Int.eq_ofNat_of_zero_le (G.r0 _ hm)
      have hq1:=G.r1 _ hm
      obtain⟨r,hr⟩ : ∃r,Zb rs i=r:=⟨_,rfl⟩
      rw [hr] at hm hT2 hrl hx0 hx1 hq hq1
      have hE: ∀e∈r.f1.map (fun x=>(r.f0,x)),(e.2 - K).toNat < N.toNat:=by
        intro e he
        rw [List.mem_map] at he
        obtain⟨x,hx,rfl⟩:=he
        have:=hx0 x hx;have:=hx1 x hx
        show(x - K).toNat < N.toNat
        omega
      refine⟨(r.f1.map fun x=>(r.f0,x)).foldl (addC K) T,⟨passE_lt K N.toNat _ T hE hT1,hT2⟩,?_⟩
      intro h
      refine Ev.step (fun k=>Zh1.l1.eq_2 _ _ _ _ _ _ _ _ _ _ k) ?_
      simp (disch:=omega) only [if_pos,hr]
      refine Ev.loop (L:=fun k t (U:Nat)=>Zh1.l2 k (U:Int) N j rs (rs.length:Int) i r.f1 (r.f1.length:Int) t K N st rs r.f0 r.f1) (n:=r.f1.length) (fun t U=>U < 2 ^ N.toNat∧((r.f1.drop t.toNat).map fun x=>(r.f0,x)).foldl (addC K) U=(r.f1.map fun x=>(r.f0,x)).foldl (addC K) T) ?_ ?_ 0 T (Int.le_refl _) (by omega) ⟨hT1,rfl⟩
      · intro U hU
        have e:=hU.2
        rw [Int.toNat_natCast,List.drop_length,List.map_nil,List.foldl_nil] at e
        refine Ev.step (fun k=>Zh1.l2.eq_2 _ _ _ _ _ _ _ _ _ _ _ _ _ _ _ k) ?_
        simp (disch:=omega) only [if_neg (show ¬ ((r.f1.length:Nat):Int) < (r.f1.length:Nat) by omega),w64]
        rw [e];exact h
      · intro t U h4 h5 hU
        right
        obtain⟨hU1,hU2⟩:=hU
        rw [rd_cons h4 h5,List.map_cons,List.foldl_cons] at hU2
        have hx:=rd_mem h4 h5
        have hy0:=hx0 _ hx
        have hy1:=hx1 _ hx
        refine⟨addC K U (r.f0,rd r.f1 t),⟨addC_lt K N.toNat U _ (by show(rd r.f1 t - K).toNat < N.toNat;omega) hU1,hU2⟩,?_⟩
        intro h6
        have hU32:=lt32C K N st rs G hU1
        refine Ev.step (fun k=>Zh1.l2.eq_2 _ _ _ _ _ _ _ _ _ _ _ _ _ _ _ k) ?_
        simp (disch:=omega) only [if_pos,w64]
        unfold addC at h6
        rw [hq] at h6 ⊢
        simp only [Int.toNat_natCast] at h6
        have hb:=bit_shr U q hU32 (by omega)
        by_cases c1:U.testBit q=true
        · by_cases c2:rd r.f1 t≥K
          · obtain⟨y,hy⟩:=Int.eq_ofNat_of_zero_le (show 0≤rd r.f1 t - K by omega)
            simp only [c1,c2,and_self,if_true,hy,Int.toNat_natCast] at h6
            simp only [if_pos (hb.2 c1),if_pos c2]
            simp (disch:=omega) only [w64,hy,if_pos (show(0:Int)≤(y:Int) by omega),bit_or U y hU32 (by omega)]
            exact h6
          · simp only [c2,and_false,if_false] at h6
            simp only [if_pos (hb.2 c1),if_neg c2];exact h6
        · simp only [c1,false_and,if_false] at h6
          simp only [if_neg (fun q2=>c1 (hb.1 q2))];exact h6
theorem comes_ev:Ev (fun k=>Zh1.l0 k (shl .u32 1 st) N 0 K N st rs) (((comesG K N st rs:Nat):Int),0):=by
  obtain⟨s,hs⟩:=Int.eq_ofNat_of_zero_le G.s0
  have h1:=G.s1;have hN:=G.N1;have hN0:=G.N0
  have:=comes_l0 K N st rs G N.toNat 0 (2 ^ s) (by omega) (by omega) (Nat.pow_lt_pow_right (by omega) (by omega))
  unfold comesG
  have e:shl .u32 1 st=((2 ^ s:Nat):Int):=by rw [hs];exact shl1 s (by omega)
  rw [e,show st.toNat=s by omega];exact this
theorem rcomes_l1 (h : Int) (h0 : 0 ≤ h) (q0 : List Int) (hq0 : QOK N q0) (hl : h < q0.length) (R : Int)
    (hk:Ev (fun k=>Zz.l0 k ((edgesG rs).foldl (addQ K h) q0) (h + 1) K N st rs) R):Ev (fun k=>Zz.l1 k q0 h rs (rs.length:Int) 0 K N st rs) R:=by
  have hlen:=G.len;have hN1:=G.N1;have hN0:=G.N0;have hK0:=G.K0;have hK1:=G.K1
  refine Ev.loop (L:=fun k i (q:List Int)=>Zz.l1 k q h rs (rs.length:Int) i K N st rs) (n:=rs.length) (fun i q=>QOK N q∧h < q.length∧(edgesG (rs.drop i.toNat)).foldl (addQ K h) q=(edgesG rs).foldl (addQ K h) q0) ?_ ?_ 0 q0 (Int.le_refl _) (by omega) ⟨hq0,hl,rfl⟩
  · rintro q ⟨g1,g2,g3⟩
    rw [Int.toNat_natCast,List.drop_length] at g3
    have g3:q=(edgesG rs).foldl (addQ K h) q0:=g3
    have hql:=g1.len
    refine Ev.step (fun k=>Zz.l1.eq_2 _ _ _ _ _ _ _ _ _ k) ?_
    simp (disch:=omega) only [if_neg (show ¬ ((rs.length:Nat):Int) < (rs.length:Nat) by omega),w64]
    rw [g3];exact hk
  · rintro i q h2 h3 ⟨g1,g2,g3⟩
    right
    have hm:=rule_mem h2 h3
    rw [rd_rule h2 h3,edgesG_cons,List.foldl_append] at g3
    have hrl:=G.rl _ hm
    have hx0:=G.x0 _ hm
    have hx1:=G.x1 _ hm
    obtain⟨r,hr⟩ : ∃r,Zb rs i=r:=⟨_,rfl⟩
    rw [hr] at hm g3 hrl hx0 hx1
    have hE: ∀e∈r.f1.map (fun x=>(r.f0,x)),e.2 < K + N:=by
      intro e he
      rw [List.mem_map] at he
      obtain⟨x,hx,rfl⟩:=he
      exact hx1 x hx
    have hpre:=foldQ_pre K h (r.f1.map fun x=>(r.f0,x)) q
    refine⟨(r.f1.map fun x=>(r.f0,x)).foldl (addQ K h) q,⟨foldQ_ok _ q g1 hE,?_,g3⟩,?_⟩
    · obtain⟨t,ht⟩:=hpre;rw [ht,List.length_append];omega
    intro h4
    refine Ev.step (fun k=>Zz.l1.eq_2 _ _ _ _ _ _ _ _ _ k) ?_
    simp (disch:=omega) only [if_pos,hr]
    refine Ev.loop (L:=fun k t (u:List Int)=>Zz.l2 k u h rs (rs.length:Int) i r.f1 (r.f1.length:Int) t K N st rs r.f0 r.f1) (n:=r.f1.length) (fun t u=>QOK N u∧h < u.length∧((r.f1.drop t.toNat).map fun x=>(r.f0,x)).foldl (addQ K h) u=(r.f1.map fun x=>(r.f0,x)).foldl (addQ K h) q) ?_ ?_ 0 q (Int.le_refl _) (by omega) ⟨g1,g2,rfl⟩
    · rintro u ⟨f1,f2,f3⟩
      rw [Int.toNat_natCast,List.drop_length,List.map_nil,List.foldl_nil] at f3
      refine Ev.step (fun k=>Zz.l2.eq_2 _ _ _ _ _ _ _ _ _ _ _ _ _ _ k) ?_
      simp (disch:=omega) only [if_neg (show ¬ ((r.f1.length:Nat):Int) < (r.f1.length:Nat) by omega),w64]
      rw [f3];exact h4
    · rintro t u h5 h6 ⟨f1,f2,f3⟩
      right
      rw [rd_cons h5 h6,List.map_cons,List.foldl_cons] at f3
      have hx:=rd_mem h5 h6
      have hy0:=hx0 _ hx
      have hy1:=hx1 _ hx
      have hul:=f1.len
      refine⟨addQ K h u (r.f0,rd r.f1 t),⟨addQ_ok f1 hy1,?_,f3⟩,?_⟩
      · obtain⟨v,hv⟩:=addQ_pre K h u (r.f0,rd r.f1 t);rw [hv,List.length_append];omega
      intro h7
      refine Ev.step (fun k=>Zz.l2.eq_2 _ _ _ _ _ _ _ _ _ _ _ _ _ _ k) ?_
      simp (disch:=omega) only [if_pos,w64]
      unfold addQ at h7
      simp only at h7
      by_cases c1:r.f0=rd u h
      · by_cases c2:rd r.f1 t≥K
        · simp only [if_pos c1,if_pos c2]
          refine Ev.bind (has_ev u _ (by omega)) ?_
          by_cases c3:rd r.f1 t - K∈u
          · rw [if_neg (by simp [c3])] at h7
            simp only [decide_eq_true c3,if_true];exact h7
          · rw [if_pos ⟨c1,c2,c3⟩] at h7
            simp only [decide_eq_false c3,Bool.false_eq_true,if_false];exact h7
        · rw [if_neg (by simp [c2])] at h7
          simp only [if_pos c1,if_neg c2];exact h7
      · rw [if_neg (by simp [c1])] at h7
        simp only [if_neg c1];exact h7
theorem rcomes_l3 (q:List Int) (hq:QOK N q):Ev (fun k=>Zz.l3 k q 0 (q.length:Int) 0) ((msum q:Nat):Int):=by
  have hlen:=hq.len;have hN1:=G.N1
  have hlt:msum q < 2 ^ 32:=by rw [← hq.sum];exact lt32C K N st rs G (maskB_lt _ _)
  refine Ev.loop (L:=fun k i (a:Nat)=>Zz.l3 k q (a:Int) (q.length:Int) i) (n:=q.length) (fun i a=>a + msum (q.drop i.toNat)=msum q) ?_ ?_ 0 0 (Int.le_refl _) (by omega) (by simp)
  · intro a ha
    rw [Int.toNat_natCast,List.drop_length] at ha
    have ha:a=msum q:=ha
    refine Ev.step (fun k=>Zz.l3.eq_2 _ _ _ _ k) ?_
    simp (disch:=omega) only [if_neg (show ¬ ((q.length:Nat):Int) < (q.length:Nat) by omega)]
    rw [ha];exact Ev.now _
  · intro i a h0 h1 ha
    right
    have hr:=hq.rg _ (rd_mem h0 h1)
    rw [rd_cons h0 h1] at ha
    have ha:a + (2 ^ (rd q i).toNat + msum (q.drop (i + 1).toNat))=msum q:=ha
    obtain⟨y,hy⟩:=Int.eq_ofNat_of_zero_le hr.1
    refine⟨a + 2 ^ y,by rw [hy,Int.toNat_natCast] at ha;omega,?_⟩
    intro h2
    rw [hy,Int.toNat_natCast] at ha
    refine Ev.step (fun k=>Zz.l3.eq_2 _ _ _ _ k) ?_
    simp (disch:=omega) only [if_pos,w64]
    rw [hy,u64_id (by omega) (by omega),shl1 y (by omega)]
    simp only [if_pos (show(0:Int)≤(y:Int) by omega)]
    obtain⟨z,hz⟩ : ∃z:Nat,2 ^ y=z:=⟨_,rfl⟩
    rw [hz] at ha h2 ⊢
    rw [show((a:Int) + ((z:Nat):Int)) % 4294967296=((a + z:Nat):Int) by omega]
    exact h2
theorem rcomes_l0 (d : Nat) : ∀ (q : List Int) (h : Int), 0 ≤ h → h ≤ q.length → h + d = N → QOK N q → st ∈ q → (∀ i, 0 ≤ i → i < h → ∀ e ∈ edgesG rs, e.1 = rd q i → e.2 ≥ K → e.2 - K ∈ q) → (∀ y ∈ q, (comesG K N st rs).testBit y.toNat = true) →
    Ev (fun k=>Zz.l0 k q h K N st rs) ((comesG K N st rs:Nat):Int):=by
  have fin: ∀(q:List Int) (h:Int),h=q.length→QOK N q→st∈q→(∀i,0≤i→i < h→∀e∈edgesG rs,e.1=rd q i→e.2≥K→e.2 - K∈q)→(∀y∈q,(comesG K N st rs).testBit y.toNat=true)→
    Ev (fun k=>Zz.l0 k q h K N st rs) ((comesG K N st rs:Nat):Int):=by
    intro q h hl hq hs hc hin
    have e:comesG K N st rs=msum q:=by
      rw [← hq.sum]
      apply Nat.eq_of_testBit_eq
      intro i
      rw [maskB_bit]
      by_cases hi:i < N.toNat
      · rw [decide_eq_true hi,Bool.true_and,Bool.eq_iff_iff]
        constructor
        · refine comes_least K N st rs G (inQ q) ?_ ?_ i
          · intro e he h1 h2
            have ho:=edge_ok K N st rs G he
            unfold inQ at h1 ⊢
            rw [Int.toNat_of_nonneg ho.1,decide_eq_true_eq] at h1
            rw [Int.toNat_of_nonneg (by omega),decide_eq_true_eq]
            obtain⟨j,hj,e2⟩:=List.mem_iff_getElem.1 h1
            refine hc j (by omega) (by omega) e he ?_ h2
            rw [rd_getElem (by omega)];simpa using e2.symm
          · unfold inQ;rw [Int.toNat_of_nonneg G.s0];exact decide_eq_true hs
        · intro h1
          unfold inQ at h1
          have:=hin _ (of_decide_eq_true h1)
          rwa [Int.toNat_natCast] at this
      · rw [decide_eq_false hi,Bool.false_and]
        exact Nat.testBit_lt_two_pow (Nat.lt_of_lt_of_le (comes_lt K N st rs G) (Nat.pow_le_pow_right (by omega) (by omega)))
    refine Ev.step (fun k=>Zz.l0.eq_2 _ _ _ _ _ _ k) ?_
    simp (disch:=omega) only [if_neg]
    rw [e];exact rcomes_l3 K N st rs G q hq
  induction d with
  |zero=>
    intro q h h0 h1 hd hq hs hc hin
    have:=hq.len
    exact fin q h (by omega) hq hs hc hin
  |succ d ih=>
    intro q h h0 h1 hd hq hs hc hin
    by_cases hl:h < q.length
    · refine Ev.step (fun k=>Zz.l0.eq_2 _ _ _ _ _ _ k) ?_
      simp (disch:=omega) only [if_pos]
      refine rcomes_l1 K N st rs G h h0 q hq hl _ ?_
      obtain⟨t,ht⟩:=foldQ_pre K h (edgesG rs) q
      have hmem:=foldQ_mem (K:=K) h0 (edgesG rs) q hl
      have hin2:=foldQ_in (K:=K) h0 (fun y=>(comesG K N st rs).testBit y.toNat=true) (edgesG rs) q hl (fun e he a b=>comes_closed K N st rs G he a b) hin
      have hok:=foldQ_ok (K:=K) (h:=h) (edgesG rs) q hq (fun e he=>(edge_ok K N st rs G he).2.2.2)
      refine ih _ (h + 1) (by omega) ?_ (by omega) hok ?_ ?_ hin2
      · rw [ht,List.length_append];omega
      · rw [ht,List.mem_append];exact .inl hs
      · intro i i0 i1 e he h2 h3
        by_cases c:i=h
        · subst c
          refine hmem e he ?_ h3
          rw [h2,ht,rd_app q t i h0 hl]
        · rw [ht,rd_app q t i i0 (by omega)] at h2
          rw [ht,List.mem_append]
          exact .inl (hc i i0 (by omega) e he h2 h3)
    · exact fin q h (by omega) hq hs hc hin
theorem rcomes_ev:Ev (fun k=>Zz.f k K N st rs) ((comesG K N st rs:Nat):Int):=by
  unfold Zz.f
  have h0:=G.s0;have h1:=G.s1;have hN:=G.N0
  refine rcomes_l0 K N st rs G N.toNat [st] 0 (by omega) (by simp) (by omega) ⟨by simp,?_⟩ (by simp) (fun i a b=>by omega) ?_
  · intro y hy;rw [List.mem_singleton] at hy;subst hy;exact⟨h0,h1⟩
  · intro y hy;rw [List.mem_singleton] at hy;subst hy;exact comes_start K N y rs G
end
theorem Bit_eq (a i:Nat) (ha:a < 2 ^ 32) (hi:i < 32):Ze2.f (a:Int) (i:Int)=some (a.testBit i):=by
  unfold Ze2.f
  simp (disch:=omega) only [if_pos,u64_id,bit_and a i ha hi]
theorem andNot_ne (a b:Nat) (ha:a < 2 ^ 32) (hb:b < 2 ^ 32):(Go.bits .andNot .u32 (a:Int) (b:Int) != 0)=decide (b ||| a≠b):=by
  rw [Go.u32_andNot_nat a b (by omega) (by omega)]
  have e:4294967295 - b=2 ^ 32 - (b + 1):=by omega
  rw [e,Bool.eq_iff_iff,bne_iff_ne,decide_eq_true_eq]
  constructor
  · intro h q
    apply h
    have:a &&& (2 ^ 32 - (b + 1))=0:=by
      apply Nat.eq_of_testBit_eq
      intro i
      rw [Nat.testBit_and,Nat.testBit_two_pow_sub_succ hb,Nat.zero_testBit]
      have:=congrArg (fun z=>z.testBit i) q
      simp only [Nat.testBit_or] at this
      cases h1:a.testBit i <;> cases h2:b.testBit i <;> simp_all
    rw [this];rfl
  · intro h q
    apply h
    have q:a &&& (2 ^ 32 - (b + 1))=0:=by omega
    apply Nat.eq_of_testBit_eq
    intro i
    have h3:=congrArg (fun z=>z.testBit i) q
    simp only [Nat.testBit_and,Nat.testBit_two_pow_sub_succ hb,Nat.zero_testBit] at h3
    rw [Nat.testBit_or]
    cases h1:a.testBit i with
    |false=>simp
    |true=>
      have hi:i < 32:=by
        rcases Nat.lt_or_ge i 32 with c|c
        · exact c
        · rw [Nat.testBit_lt_two_pow (Nat.lt_of_lt_of_le ha (Nat.pow_le_pow_right (by omega) c))] at h1;cases h1
      rw [h1,decide_eq_true hi] at h3
      cases h2:b.testBit i with
      |true=>rfl
      |false=>rw [h2] at h3;simp at h3
theorem bits_in {a b n:Nat} (ha:a < 2 ^ n) (h:b ||| a≠b): ∃i,i < n∧b.testBit i=false∧(b ||| a).testBit i=true:=by
  rcases Classical.em (∃i,i < n∧b.testBit i=false∧(b ||| a).testBit i=true) with q|q
  · exact q
  · exfalso;apply h
    apply Nat.eq_of_testBit_eq
    intro i
    rw [Nat.testBit_or]
    cases h1:a.testBit i with
    |false=>simp
    |true=>
      have hi:i < n:=by
        rcases Nat.lt_or_ge i n with c|c
        · exact c
        · rw [Nat.testBit_lt_two_pow (Nat.lt_of_lt_of_le ha (Nat.pow_le_pow_right (by omega) c))] at h1;cases h1
      cases h2:b.testBit i with
      |true=>rfl
      |false=>exact absurd ⟨i,hi,h2,by rw [Nat.testBit_or,h1,Bool.or_true]⟩ q
def reachE (K N:Int) (E:List (Int × Int)) (S:Nat):Nat:=rep (passE K E) N.toNat S
section
variable (K N:Int) (E:List (Int × Int)) (S:Nat) (hE: ∀e∈E,0≤e.1∧e.1 < N∧0≤e.2∧e.2 < K + N) (hS:S < 2 ^ N.toNat) (hN:1≤N)
include hE hS hN
theorem reach_lts (d:Nat):rep (passE K E) d S < 2 ^ N.toNat:=rep_lt _ _ (fun s hs=>passE_lt K N.toNat _ s (fun e he=>by have:=hE e he;omega) hs) _ _ hS
theorem reach_lt:reachE K N E S < 2 ^ N.toNat:=reach_lts K N E S hE hS hN _
theorem reach_start (i:Nat) (h:S.testBit i=true):(reachE K N E S).testBit i=true:=by
  unfold reachE
  induction N.toNat with
  |zero=>exact h
  |succ n ih=>rw [rep_succ];exact passE_sub K _ _ _ ih
theorem reach_closed {e:Int × Int} (he:e∈E) (h1:(reachE K N E S).testBit e.1.toNat=true) (h2:e.2≥K):(reachE K N E S).testBit (e.2 - K).toNat=true:=by
  have hp:=passE_mem K E (reachE K N E S) e he h1 h2
  have ho:=hE e he
  have hlt:=reach_lts K N E S hE hS hN
  have key:=chain_stop N.toNat (fun d i=>(rep (passE K E) d S).testBit i) (fun d i _ h=>by rw [rep_succ];exact passE_sub K _ _ i h) (by
    intro d h
    have e:rep (passE K E) (d + 1) S=rep (passE K E) d S:=by
      apply Nat.eq_of_testBit_eq
      intro i
      by_cases hi:i < N.toNat
      · exact h i hi
      · have hi2:2 ^ N.toNat≤2 ^ i:=Nat.pow_le_pow_right (by omega) (by omega)
        rw [Nat.testBit_lt_two_pow (Nat.lt_of_lt_of_le (hlt _) hi2),Nat.testBit_lt_two_pow (Nat.lt_of_lt_of_le (hlt _) hi2)]
    intro i _
    have e2:=e
    rw [rep_succ] at e2
    rw [rep_succ _ (d + 1),e,e2])
  have:=key (e.2 - K).toNat (by omega)
  rw [rep_succ] at this
  unfold reachE at hp ⊢
  rw [← this];exact hp
theorem reach_least (D:Nat→Bool) (hc: ∀e∈E,D e.1.toNat=true→e.2≥K→D (e.2 - K).toNat=true) (hs: ∀i,S.testBit i=true→D i=true) (i:Nat) (h:(reachE K N E S).testBit i=true):D i=true:=by
  unfold reachE at h
  have key: ∀n i,(rep (passE K E) n S).testBit i=true→D i=true:=by
    intro n
    induction n with
    |zero=>intro i h;exact hs i h
    |succ n ih=>rw [rep_succ];exact passE_in K D _ _ hc ih
  exact key _ i h
end
theorem take_rd1 {q:List Int} {h:Int} (h0:0≤h) (h1:h < q.length):q.take (h + 1).toNat=q.take h.toNat++[rd q h]:=take_rd h0 h1
theorem bfs {σ ρ : Type} {K N : Int} {E : List (Int × Int)} {S : Nat} (hE : ∀ e ∈ E, 0 ≤ e.1 ∧ e.1 < N ∧ 0 ≤ e.2 ∧ e.2 < K + N) (hN : 1 ≤ N) {L : Nat → List Int → Int → σ → Option ρ} {R : ρ} (upd : σ → Int → σ) (s0 : σ)
    (fin: ∀(q:List Int),QOK N q→maskB (inQ q) N.toNat=reachE K N E S→Ev (fun k=>L k q q.length (q.foldl upd s0)) R)
    (step: ∀(q:List Int) (h:Int) (s:σ),0≤h→h < q.length→QOK N q→(∀y∈q,(reachE K N E S).testBit y.toNat=true)→s=(q.take h.toNat).foldl upd s0→Ev (fun k=>L k (E.foldl (addQ K h) q) (h + 1) (upd s (rd q h))) R→Ev (fun k=>L k q h s) R)
    (q0:List Int) (hq0:QOK N q0) (hS:S=maskB (inQ q0) N.toNat):Ev (fun k=>L k q0 0 s0) R:=by
  have hS2:S < 2 ^ N.toNat:=by rw [hS];exact maskB_lt _ _
  have key : ∀ (d : Nat) (q : List Int) (h : Int), 0 ≤ h → h ≤ q.length → h + d = N → QOK N q → (∀ y ∈ q0, y ∈ q) → (∀ i, 0 ≤ i → i < h → ∀ e ∈ E, e.1 = rd q i → e.2 ≥ K → e.2 - K ∈ q) → (∀ y ∈ q, (reachE K N E S).testBit y.toNat = true) →
      Ev (fun k=>L k q h ((q.take h.toNat).foldl upd s0)) R:=by
    have stop: ∀(q:List Int) (h:Int),h=q.length→QOK N q→(∀y∈q0,y∈q)→(∀i,0≤i→i < h→∀e∈E,e.1=rd q i→e.2≥K→e.2 - K∈q)→(∀y∈q,(reachE K N E S).testBit y.toNat=true)→
      Ev (fun k=>L k q h ((q.take h.toNat).foldl upd s0)) R:=by
      intro q h hl hq hs hc hin
      subst hl
      rw [Int.toNat_natCast,List.take_length]
      refine fin q hq ?_
      apply Nat.eq_of_testBit_eq
      intro i
      rw [maskB_bit]
      by_cases hi:i < N.toNat
      · rw [decide_eq_true hi,Bool.true_and,Bool.eq_iff_iff]
        constructor
        · intro h1
          unfold inQ at h1
          have:=hin _ (of_decide_eq_true h1)
          rwa [Int.toNat_natCast] at this
        · refine reach_least K N E S hE hS2 hN (inQ q) ?_ ?_ i
          · intro e he h1 h2
            have ho:=hE e he
            unfold inQ at h1 ⊢
            rw [Int.toNat_of_nonneg ho.1,decide_eq_true_eq] at h1
            rw [Int.toNat_of_nonneg (by omega),decide_eq_true_eq]
            obtain⟨j,hj,e2⟩:=List.mem_iff_getElem.1 h1
            refine hc j (by omega) (by omega) e he ?_ h2
            rw [rd_getElem (by omega)];simpa using e2.symm
          · intro j hj
            rw [hS,maskB_bit,Bool.and_eq_true] at hj
            have:=of_decide_eq_true hj.2
            exact decide_eq_true (hs _ this)
      · rw [decide_eq_false hi,Bool.false_and]
        exact(Nat.testBit_lt_two_pow (Nat.lt_of_lt_of_le (reach_lt K N E S hE hS2 hN) (Nat.pow_le_pow_right (by omega) (by omega)))).symm
    intro d
    induction d with
    |zero=>
      intro q h h0 h1 hd hq hs hc hin
      have:=hq.len
      exact stop q h (by omega) hq hs hc hin
    |succ d ih=>
      intro q h h0 h1 hd hq hs hc hin
      by_cases hl:h < q.length
      · refine step q h _ h0 hl hq hin rfl ?_
        obtain⟨t,ht⟩:=foldQ_pre K h E q
        have hmem:=foldQ_mem (K:=K) h0 E q hl
        have hin2:=foldQ_in (K:=K) h0 (fun y=>(reachE K N E S).testBit y.toNat=true) E q hl (fun e he a b=>reach_closed K N E S hE hS2 hN he a b) hin
        have hok:=foldQ_ok (K:=K) (h:=h) E q hq (fun e he=>(hE e he).2.2.2)
        have e1:upd ((q.take h.toNat).foldl upd s0) (rd q h)=((E.foldl (addQ K h) q).take (h + 1).toNat).foldl upd s0:=by
          rw [ht,List.take_append_of_le_length (by omega),take_rd1 h0 hl,List.foldl_append];rfl
        rw [e1]
        refine ih _ (h + 1) (by omega) ?_ (by omega) hok ?_ ?_ hin2
        · rw [ht,List.length_append];omega
        · intro y hy;rw [ht,List.mem_append];exact .inl (hs y hy)
        · intro i i0 i1 e he h2 h3
          by_cases c:i=h
          · subst c
            refine hmem e he ?_ h3
            rw [h2,ht,rd_app q t i h0 hl]
          · rw [ht,rd_app q t i i0 (by omega)] at h2
            rw [ht,List.mem_append]
            exact .inl (hc i i0 (by omega) e he h2 h3)
      · exact stop q h (by omega) hq hs hc hin
  have hlen:=hq0.len
  have:=key N.toNat q0 0 (by omega) (by omega) (by omega) hq0 (fun y hy=>hy) (fun i a b=>by omega) (fun y hy=>by
    have h:=hq0.rg y hy
    refine reach_start K N E S hE hS2 hN _ ?_
    rw [hS,maskB_bit,decide_eq_true (by omega),Bool.true_and]
    unfold inQ
    rw [Int.toNat_of_nonneg h.1];exact decide_eq_true hy)
  simpa using this
def tot (n:Nat) (F:List Nat):Nat:=(F.map (cnt n)).sum
theorem tot_le (n:Nat): ∀F,tot n F≤F.length * n
  | []=>by simp [tot]
  |s :: F=>by
    have:=tot_le n F
    have h:=cnt_le n s
    unfold tot at this ⊢
    rw [List.map_cons,List.sum_cons,List.length_cons,Nat.succ_mul];omega
theorem tot_set (n v:Nat): ∀(F:List Nat) (i:Nat),i < F.length→tot n (F.set i v) + cnt n (F.getD i 0)=tot n F + cnt n v
  | [],i,h=>by simp at h
  |s :: F,0,_=>by simp [tot];omega
  |s :: F,i + 1,h=>by
    have:=tot_set n v F i (by simpa using h)
    unfold tot at this ⊢
    simp only [List.set_cons_succ,List.map_cons,List.sum_cons,List.getD_cons_succ];omega
theorem rdF (F:List Nat) (i:Int):rd (F.map fun n:Nat=>(n:Int)) i=((F.getD i.toNat 0:Nat):Int):=by
  unfold rd
  rw [List.getD_eq_getElem?_getD,List.getD_eq_getElem?_getD,List.getElem?_map]
  cases F[i.toNat]? <;> rfl
theorem setF (F:List Nat) (i v:Nat):(F.map fun n:Nat=>(n:Int)).set i (v:Int)=(F.set i v).map fun n:Nat=>(n:Int):=by rw [List.map_set]
theorem getD_set (F:List Nat) (i j v:Nat) (h:i < F.length):(F.set i v).getD j 0=if i=j then v else F.getD j 0:=by
  rw [List.getD_eq_getElem?_getD,List.getD_eq_getElem?_getD,List.getElem?_set]
  by_cases c:i=j
  · subst c;simp [h]
  · simp [c]
def hs (K:Int) (V:Nat):List Int→List Int
  | []=>[]
  |x :: l=>x :: (if x < K then [] else if V.testBit (x - K).toNat=true then hs K V l else [])
def allV (K:Int) (V:Nat) (l:List Int):Bool:=l.all fun x=>decide (x≥K) && V.testBit (x - K).toNat
def valF (K:Int) (F:List Nat) (x:Int):Nat:=if x < K then 2 ^ x.toNat else F.getD (x - K).toNat 0
def bgo (K:Int) (F:List Nat) (xs:List Int) (a:Nat):Nat:=xs.foldl (fun a x=>a ||| valF K F x) a
def bgin (K:Int) (V:Nat) (F:List Nat) (l:List Int):Nat:=bgo K F (hs K V l) 0
theorem hs_sub (K:Int) (V:Nat): ∀(l:List Int) (x:Int),x∈hs K V l→x∈l
  | [],x,h=>h
  |y :: l,x,h=>by
    unfold hs at h
    rcases List.mem_cons.1 h with rfl|h
    · simp
    · split at h
      · simp at h
      · split at h
        · exact List.mem_cons_of_mem _ (hs_sub K V l x h)
        · simp at h
theorem bgo_bit (K:Int) (F:List Nat) (b:Nat): ∀(xs:List Int) (a:Nat),(bgo K F xs a).testBit b=(a.testBit b || xs.any fun x=>(valF K F x).testBit b)
  | [],a=>by simp [bgo]
  |x :: xs,a=>by
    have:=bgo_bit K F b xs (a ||| valF K F x)
    unfold bgo at this ⊢
    rw [List.foldl_cons,this,Nat.testBit_or,List.any_cons,Bool.or_assoc]
theorem bgin_bit (K:Int) (V:Nat) (F:List Nat) (l:List Int) (b:Nat):(bgin K V F l).testBit b=true↔∃x∈hs K V l,(valF K F x).testBit b=true:=by
  unfold bgin
  rw [bgo_bit,Nat.zero_testBit,Bool.false_or,List.any_eq_true]
theorem getD_lt {F:List Nat} {m:Nat} (h: ∀s∈F,s < m) (hm:0 < m) (i:Nat):F.getD i 0 < m:=by
  rw [List.getD_eq_getElem?_getD]
  cases e:F[i]? with
  |none=>exact hm
  |some s=>exact h s (List.mem_of_getElem? e)
theorem valF_lt {K:Int} {F:List Nat} (h: ∀s∈F,s < 2 ^ K.toNat) {x:Int} (h0:0≤x):valF K F x < 2 ^ K.toNat:=by
  unfold valF
  split
  · exact Nat.pow_lt_pow_right (by omega) (by omega)
  · exact getD_lt h (Nat.two_pow_pos _) _
theorem bgo_lt {K:Int} {F:List Nat} (h: ∀s∈F,s < 2 ^ K.toNat): ∀(xs:List Int) (a:Nat),(∀x∈xs,0≤x)→a < 2 ^ K.toNat→bgo K F xs a < 2 ^ K.toNat
  | [],a,_,ha=>ha
  |x :: xs,a,hx,ha=>by
    unfold bgo;rw [List.foldl_cons]
    exact bgo_lt h xs _ (fun y hy=>hx y (by simp [hy])) (Nat.or_lt_two_pow ha (valF_lt h (hx x (by simp))))
theorem bgin_lt {K:Int} {V:Nat} {F:List Nat} (h: ∀s∈F,s < 2 ^ K.toNat) {l:List Int} (hl: ∀x∈l,0≤x):bgin K V F l < 2 ^ K.toNat:=
  bgo_lt h _ _ (fun x hx=>hl x (hs_sub K V l x hx)) (Nat.two_pow_pos _)
def stepF (K:Int) (V:Nat) (s:List Nat × Bool) (r:S41):List Nat × Bool:=
  (s.1.set r.f0.toNat (s.1.getD r.f0.toNat 0 ||| bgin K V s.1 r.f1),s.2 || decide (s.1.getD r.f0.toNat 0 ||| bgin K V s.1 r.f1≠s.1.getD r.f0.toNat 0))
theorem set_self (F:List Nat) (i:Nat):F.set i (F.getD i 0)=F:=by
  apply List.ext_getElem?
  intro j
  rw [List.getElem?_set]
  split
  · rename_i c
    subst c
    split
    · rename_i c2
      rw [List.getD_eq_getElem?_getD,List.getElem?_eq_getElem c2];rfl
    · rename_i c2
      rw [List.getElem?_eq_none (by omega)]
  · rfl
def addH (o:List Int) (x:Int):List Int:=if x∈o then o else o++[x]
def hq (K:Int) (V:Nat) (l:List Int):List Int:=(hs K V l).foldl addH []
theorem addH_mem (o:List Int) (x y:Int):y∈addH o x↔y∈o∨y=x:=by
  unfold addH
  split
  · rename_i c
    constructor
    · exact .inl
    · rintro(h|rfl)
      · exact h
      · exact c
  · simp
theorem foldH_mem: ∀(xs o:List Int) (y:Int),y∈xs.foldl addH o↔y∈o∨y∈xs
  | [],o,y=>by simp
  |x :: xs,o,y=>by
    rw [List.foldl_cons,foldH_mem xs,addH_mem,List.mem_cons,or_assoc]
theorem hq_mem (K:Int) (V:Nat) (l:List Int) (y:Int):y∈hq K V l↔y∈hs K V l:=by
  unfold hq;rw [foldH_mem];simp
theorem addH_ok {M x:Int} {o:List Int} (h:QOK M o) (h0:0≤x) (h1:x < M):QOK M (addH o x):=by
  unfold addH
  split
  · exact h
  · rename_i c;exact h.put h0 h1 c
theorem foldH_ok {M:Int} : ∀(xs o:List Int),QOK M o→(∀x∈xs,0≤x∧x < M)→QOK M (xs.foldl addH o)
  | [],_,h,_=>h
  |x :: xs,o,h,hx=>by rw [List.foldl_cons];exact foldH_ok xs _ (addH_ok h (hx x (by simp)).1 (hx x (by simp)).2) (fun y hy=>hx y (by simp [hy]))
theorem hq_ok {M K:Int} {V:Nat} {l:List Int} (hl: ∀x∈l,0≤x∧x < M):QOK M (hq K V l):=foldH_ok _ _ ⟨by simp,by simp⟩ (fun x hx=>hl x (hs_sub K V l x hx))
def edgesF (K:Int) (V:Nat) (rs:List S41):List (Int × Int):=rs.flatMap fun r=>(hq K V r.f1).map fun x=>(K + r.f0,x)
theorem edgesF_cons (K:Int) (V:Nat) (r:S41) (rs:List S41):edgesF K V (r :: rs)=(hq K V r.f1).map (fun x=>(K + r.f0,x))++edgesF K V rs:=by unfold edgesF;rw [List.flatMap_cons]
theorem edgesF_mem {K:Int} {V:Nat} {rs:List S41} {e:Int × Int} :e∈edgesF K V rs↔∃r∈rs,K + r.f0=e.1∧e.2∈hs K V r.f1:=by
  unfold edgesF
  rw [List.mem_flatMap]
  constructor
  · rintro⟨r,hr,h⟩
    rw [List.mem_map] at h
    obtain⟨x,hx,rfl⟩:=h
    exact⟨r,hr,rfl,(hq_mem K V _ _).1 hx⟩
  · rintro⟨r,hr,h1,h2⟩
    refine⟨r,hr,?_⟩
    rw [List.mem_map]
    exact⟨e.2,(hq_mem K V _ _).2 h2,by rw [h1]⟩
def firstR (K N:Int) (V:Nat) (rs:List S41) (l:List Int):Nat:=maskB (fun b=>(reachE 0 (K + N) (edgesF K V rs) (maskB (inQ (hq K V l)) (K + N).toNat)).testBit b) K.toNat
def rch (K:Int) (V:Nat) (rs:List S41) (x:Int) (b:Nat):Prop:=∀D:Nat→Bool,(∀e∈edgesF K V rs,D e.1.toNat=true→D e.2.toNat=true)→D x.toNat=true→D b=true
structure FOK (K N:Int) (V:Nat) (rs:List S41) (F:List Nat):Prop where
  len:F.length=N.toNat
  lt: ∀s∈F,s < 2 ^ K.toNat
  snd: ∀i,i < N.toNat→∀b,(F.getD i 0).testBit b=true→(b:Int) < K∧rch K V rs (K + (i:Int)) b
section
variable (K N st:Int) (rs:List S41) (G:GOK K N st rs) (V:Nat) (hV:V < 2 ^ 32)
include G
theorem edgeF_ok: ∀e∈edgesF K V rs,0≤e.1∧e.1 < K + N∧0≤e.2∧e.2 < 0 + (K + N):=by
  intro e h
  obtain⟨r,hr,h1,h2⟩:=edgesF_mem.1 h
  have h3:=hs_sub K V _ _ h2
  have:=G.r0 r hr;have:=G.r1 r hr;have:=G.x0 r hr _ h3;have:=G.x1 r hr _ h3;have:=G.K0
  omega
theorem bgin_snd {F:List Nat} (h:FOK K N V rs F) {l:List Int} (hl: ∀x∈l,0≤x∧x < K + N) {b:Nat} (hb:(bgin K V F l).testBit b=true):(b:Int) < K∧∃x∈hs K V l,rch K V rs x b:=by
  obtain⟨x,hx,h1⟩:=(bgin_bit K V F l b).1 hb
  have hr:=hl x (hs_sub K V l x hx)
  unfold valF at h1
  split at h1
  · rename_i c
    rw [Nat.testBit_two_pow,decide_eq_true_eq] at h1
    exact⟨by omega,x,hx,fun D _ hD=>by rw [← h1];exact hD⟩
  · rename_i c
    have:=h.snd (x - K).toNat (by omega) b h1
    rw [show K + ((x - K).toNat:Int)=x by omega] at this
    exact⟨this.1,x,hx,this.2⟩
theorem fok_set {F:List Nat} (h:FOK K N V rs F) {r:S41} (hr:r∈rs):FOK K N V rs (F.set r.f0.toNat (F.getD r.f0.toNat 0 ||| bgin K V F r.f1)):=by
  have h0:=G.r0 r hr;have h1:=G.r1 r hr;have hx0:=G.x0 r hr;have hx1:=G.x1 r hr
  have hlen:=h.len
  refine⟨by rw [List.length_set];exact hlen,?_,?_⟩
  · intro s hs
    rcases List.mem_or_eq_of_mem_set hs with q|q
    · exact h.lt s q
    · rw [q];exact Nat.or_lt_two_pow (getD_lt h.lt (Nat.two_pow_pos _) _) (bgin_lt h.lt hx0)
  · intro i hi b hb
    rw [getD_set F _ _ _ (by omega)] at hb
    split at hb
    · rename_i c
      rw [Nat.testBit_or,Bool.or_eq_true] at hb
      rcases hb with hb|hb
      · rw [c] at hb;exact h.snd i hi b hb
      · obtain⟨h2,x,hx,h3⟩:=bgin_snd K N st rs G V h (fun x hx=>⟨hx0 x hx,hx1 x hx⟩) hb
        refine⟨h2,fun D hD hs=>h3 D hD ?_⟩
        refine hD (K + r.f0,x) (edgesF_mem.2 ⟨r,hr,rfl,hx⟩) ?_
        rw [← c] at hs
        rwa [show K + ((r.f0.toNat:Nat):Int)=K + r.f0 by omega] at hs
    · exact h.snd i hi b hb
theorem bgin_eq {F:List Nat} (h:FOK K N V rs F) (hfix: ∀r∈rs,F.getD r.f0.toNat 0 ||| bgin K V F r.f1=F.getD r.f0.toNat 0) {l:List Int} (hl: ∀x∈l,0≤x∧x < K + N):bgin K V F l=firstR K N V rs l:=by
  have hK:=G.K0;have hN:=G.N0
  have hE:=edgeF_ok K N st rs G V
  have hS:maskB (inQ (hq K V l)) (K + N).toNat < 2 ^ (K + N).toNat:=maskB_lt _ _
  have hin: ∀x∈hs K V l,(maskB (inQ (hq K V l)) (K + N).toNat).testBit x.toNat=true:=by
    intro x hx
    have hr:=hl x (hs_sub K V l x hx)
    rw [maskB_bit,decide_eq_true (by omega),Bool.true_and]
    unfold inQ
    rw [Int.toNat_of_nonneg hr.1];exact decide_eq_true ((hq_mem K V l x).2 hx)
  apply Nat.eq_of_testBit_eq
  intro b
  unfold firstR
  rw [maskB_bit,Bool.eq_iff_iff,Bool.and_eq_true,decide_eq_true_eq]
  constructor
  · intro hb
    obtain⟨h1,x,hx,h2⟩:=bgin_snd K N st rs G V h hl hb
    refine⟨by omega,h2 (fun i=>(reachE 0 (K + N) (edgesF K V rs) (maskB (inQ (hq K V l)) (K + N).toNat)).testBit i) ?_ ?_⟩
    · intro e he h3
      have:=reach_closed 0 (K + N) _ _ hE hS (by omega) he h3 (by have:=hE e he;omega)
      rwa [Int.sub_zero] at this
    · exact reach_start 0 (K + N) _ _ hE hS (by omega) _ (hin x hx)
  · rintro⟨h1,h2⟩
    have key:=reach_least 0 (K + N) _ _ hE hS (by omega) (fun u=>if(u:Int) < K then(bgin K V F l).testBit u else decide (F.getD ((u:Int) - K).toNat 0 ||| bgin K V F l=bgin K V F l)) ?_ ?_ b h2
    · have key:=key
      simp only [if_pos (show(b:Int) < K by omega)] at key
      exact key
    · have sub : ∀ {a c : Nat}, a ||| c = c ↔ ∀ b, a.testBit b = true → c.testBit b = true := by
        intro a c
        constructor
        · intro q b hb
          rw [← q,Nat.testBit_or,hb,Bool.true_or]
        · intro q
          apply Nat.eq_of_testBit_eq
          intro b
          rw [Nat.testBit_or]
          cases e:a.testBit b with
          |false=>simp
          |true=>rw [q b e];rfl
      intro e he h3 _
      have ho:=hE e he
      obtain⟨r,hr,e1,e2⟩:=edgesF_mem.1 he
      have hf:=hfix r hr
      have h0:=G.r0 r hr
      rw [Int.sub_zero]
      simp only [Int.toNat_of_nonneg ho.1,Int.toNat_of_nonneg ho.2.2.1] at h3 ⊢
      rw [if_neg (by omega),decide_eq_true_eq,← e1,show(K + r.f0 - K).toNat=r.f0.toNat by omega,sub] at h3
      have hf2: ∀b,(bgin K V F r.f1).testBit b=true→(F.getD r.f0.toNat 0).testBit b=true:=by
        intro b hb;rw [← hf,Nat.testBit_or,hb,Bool.or_true]
      have hin2: ∀b,(valF K F e.2).testBit b=true→(bgin K V F l).testBit b=true:=fun b hb=>h3 b (hf2 b ((bgin_bit K V F r.f1 b).2 ⟨e.2,e2,hb⟩))
      by_cases c:e.2 < K
      · rw [if_pos c]
        refine hin2 _ ?_
        unfold valF
        rw [if_pos c,Nat.testBit_two_pow_self]
      · rw [if_neg c,decide_eq_true_eq,sub]
        intro b hb
        refine hin2 b ?_
        unfold valF
        rw [if_neg c];exact hb
    · intro i hi
      rw [maskB_bit,Bool.and_eq_true] at hi
      have hx:=(hq_mem K V l _).1 (of_decide_eq_true hi.2)
      have hb: ∀b,(valF K F (i:Int)).testBit b=true→(bgin K V F l).testBit b=true:=fun b hb=>(bgin_bit K V F l b).2 ⟨_,hx,hb⟩
      by_cases c:(i:Int) < K
      · simp only [if_pos c]
        refine hb _ ?_
        unfold valF
        rw [if_pos c,Int.toNat_natCast,Nat.testBit_two_pow_self]
      · simp only [if_neg c]
        rw [decide_eq_true_eq]
        apply Nat.eq_of_testBit_eq
        intro b
        rw [Nat.testBit_or]
        cases e:(F.getD ((i:Int) - K).toNat 0).testBit b with
        |false=>simp
        |true=>
          rw [hb b (by unfold valF;rw [if_neg c];exact e)];rfl
theorem foldF_ok (F0 : Nat) : ∀ (L : List S41) (s : List Nat × Bool), (∀ r ∈ L, r ∈ rs) → FOK K N V rs s.1 →
    FOK K N V rs (L.foldl (stepF K V) s).1∧tot K.toNat s.1≤tot K.toNat (L.foldl (stepF K V) s).1∧((L.foldl (stepF K V) s).2=true→s.2=true∨tot K.toNat s.1 < tot K.toNat (L.foldl (stepF K V) s).1)∧
    ((L.foldl (stepF K V) s).2=false→s.2=false∧(L.foldl (stepF K V) s).1=s.1∧∀r∈L,s.1.getD r.f0.toNat 0 ||| bgin K V s.1 r.f1=s.1.getD r.f0.toNat 0)
  | [],s,_,h=>⟨h,Nat.le_refl _,fun q=> .inl q,fun q=>⟨q,rfl,by simp⟩⟩
  |r :: L,s,hL,h=>by
    have hr:=hL r (by simp)
    have h0:=G.r0 r hr;have h1:=G.r1 r hr
    have hs:=fok_set K N st rs G V h hr
    have ih:=foldF_ok F0 L (stepF K V s r) (fun q hq=>hL q (by simp [hq])) hs
    rw [List.foldl_cons]
    have ht:=tot_set K.toNat (s.1.getD r.f0.toNat 0 ||| bgin K V s.1 r.f1) s.1 r.f0.toNat (by rw [h.len];omega)
    have hm:=cnt_mono (s.1.getD r.f0.toNat 0) (s.1.getD r.f0.toNat 0 ||| bgin K V s.1 r.f1) (fun i hi=>by rw [Nat.testBit_or,hi,Bool.true_or]) K.toNat
    have hle:tot K.toNat s.1≤tot K.toNat (stepF K V s r).1:=by unfold stepF;simp only;omega
    refine⟨ih.1,by omega,?_,?_⟩
    · intro q
      rcases ih.2.2.1 q with q|q
      · unfold stepF at q
        simp only [Bool.or_eq_true,decide_eq_true_eq] at q
        rcases q with q|q
        · exact .inl q
        · right
          obtain⟨i,hi,a,b⟩:=bits_in (bgin_lt h.lt (G.x0 r hr)) q
          have:=cnt_lt _ _ (fun i hi=>by rw [Nat.testBit_or,hi,Bool.true_or]) i a b K.toNat hi
          have e:tot K.toNat (stepF K V s r).1=tot K.toNat (s.1.set r.f0.toNat (s.1.getD r.f0.toNat 0 ||| bgin K V s.1 r.f1)):=rfl
          omega
      · right;omega
    · intro q
      obtain⟨a,b,c⟩:=ih.2.2.2 q
      have a2:s.2=false∧¬ (s.1.getD r.f0.toNat 0 ||| bgin K V s.1 r.f1≠s.1.getD r.f0.toNat 0):=by
        unfold stepF at a
        simpa only [Bool.or_eq_false_iff,decide_eq_false_iff_not] using a
      have a3:=Decidable.not_not.1 a2.2
      have e:(stepF K V s r).1=s.1:=by
        show s.1.set _ _=_
        rw [a3,set_self]
      rw [e] at b c
      refine⟨a2.1,b,?_⟩
      intro x hx
      rcases List.mem_cons.1 hx with rfl|hx
      · exact a3
      · exact c x hx
include hV
theorem begin_ev (F : List Nat) (hF : F.length = N.toNat) (hlt : ∀ s ∈ F, s < 2 ^ K.toNat) (l : List Int) (hl : ∀ x ∈ l, 0 ≤ x ∧ x < K + N) (hlen : l.length ≤ 1000) :
    Ev (fun k=>Zm1.f k K N st rs (F.map fun n:Nat=>(n:Int)) (V:Int) l) (((bgin K V F l:Nat):Int),allV K V l):=by
  have hK0:=G.K0;have hK1:=G.K1;have hN0:=G.N0;have hN1:=G.N1
  have h32:2 ^ K.toNat≤2 ^ 32:=Nat.pow_le_pow_right (by omega) (by omega)
  unfold Zm1.f
  refine Ev.loop (L:=fun k i (a:Nat)=>Zm1.l0 k (F.map fun n:Nat=>(n:Int)) (V:Int) (a:Int) l (l.length:Int) i K N st rs) (n:=l.length) (fun i a=>a < 2 ^ K.toNat∧bgo K F (hs K V (l.drop i.toNat)) a=bgin K V F l∧allV K V (l.drop i.toNat)=allV K V l) ?_ ?_ 0 0 (Int.le_refl _) (by omega) ⟨Nat.two_pow_pos _,rfl,rfl⟩
  · rintro a ⟨g0,g1,g2⟩
    rw [Int.toNat_natCast,List.drop_length] at g1 g2
    have g1:a=bgin K V F l:=g1
    have g2:true=allV K V l:=g2
    refine Ev.step (fun k=>Zm1.l0.eq_2 _ _ _ _ _ _ _ _ _ _ k) ?_
    simp (disch:=omega) only [if_neg (show ¬ ((l.length:Nat):Int) < (l.length:Nat) by omega)]
    rw [← g1,← g2];exact Ev.now _
  · rintro i a h0 h1 ⟨g0,g1,g2⟩
    have hx:=hl _ (rd_mem h0 h1)
    rw [rd_cons h0 h1] at g1 g2
    have ha32:a < 2 ^ 32:=by omega
    have hv:=valF_lt hlt hx.1
    by_cases c:rd l i < K
    · left
      obtain⟨x,hxe⟩:=Int.eq_ofNat_of_zero_le hx.1
      refine Ev.step (fun k=>Zm1.l0.eq_2 _ _ _ _ _ _ _ _ _ _ k) ?_
      simp (disch:=omega) only [if_pos,if_pos c]
      have e1:a ||| 2 ^ x=bgin K V F l:=by
        rw [← g1]
        unfold hs
        rw [if_pos c]
        simp [bgo,valF,c,hxe]
        rw [if_pos (show(x:Int) < K by omega)]
      have e2:false=allV K V l:=by
        rw [← g2];unfold allV;rw [List.all_cons]
        rw [decide_eq_false (show ¬ rd l i≥K by omega)];rfl
      rw [hxe,bit_or a x ha32 (by omega),e1,← e2];exact Ev.now _
    · obtain⟨y,hy⟩:=Int.eq_ofNat_of_zero_le (show 0≤rd l i - K by omega)
      have hyN:y < N.toNat:=by omega
      have hval:valF K F (rd l i)=F.getD y 0:=by unfold valF;rw [if_neg c,hy,Int.toNat_natCast]
      rw [hval] at hv
      have hb:=bit_shr V y hV (by omega)
      have hb0:(Go.bits .and .u32 (shr .u32 (V:Int) (y:Int)) 1=0)↔¬ V.testBit y=true:=by
        have:=bit_shr0 V y hV (by omega)
        rw [Bool.eq_iff_iff,beq_iff_eq] at this
        rw [this];simp
      by_cases c2:V.testBit y=true
      · right
        refine⟨a ||| F.getD y 0,⟨Nat.or_lt_two_pow g0 hv,?_,?_⟩,?_⟩
        · rw [← g1]
          conv=>rhs;unfold hs
          rw [if_neg c,hy,Int.toNat_natCast,if_pos c2]
          unfold bgo;rw [List.foldl_cons,hval]
        · rw [← g2];conv=>rhs;unfold allV
          rw [List.all_cons,decide_eq_true (show rd l i≥K by omega),hy,Int.toNat_natCast,c2];rfl
        · intro h
          refine Ev.step (fun k=>Zm1.l0.eq_2 _ _ _ _ _ _ _ _ _ _ k) ?_
          simp (disch:=omega) only [if_pos,if_neg c,w64,List.length_map,hy]
          refine Ev.neg (fun q=>hb0.1 q c2) ?_
          rw [rdF,Int.toNat_natCast,u32_or a _ ha32 (by omega)]
          exact h
      · left
        refine Ev.step (fun k=>Zm1.l0.eq_2 _ _ _ _ _ _ _ _ _ _ k) ?_
        simp (disch:=omega) only [if_pos,if_neg c,w64,List.length_map,hy]
        refine Ev.pos (hb0.2 c2) ?_
        rw [rdF,Int.toNat_natCast,u32_or a _ ha32 (by omega)]
        have e1:a ||| F.getD y 0=bgin K V F l:=by
          rw [← g1]
          unfold hs
          rw [if_neg c,hy,Int.toNat_natCast,if_neg c2]
          unfold bgo;rw [List.foldl_cons,hval];rfl
        have e2:false=allV K V l:=by
          rw [← g2];unfold allV
          rw [List.all_cons,hy,Int.toNat_natCast];simp [c2]
        rw [e1,← e2];exact Ev.now _
theorem firsts_l1 (F : List Nat) (hF : FOK K N V rs F) (R : List Int) (h : Ev (fun k => Zn1.l0 k (V : Int) ((rs.foldl (stepF K V) (F, false)).1.map fun n : Nat => (n : Int)) (rs.foldl (stepF K V) (F, false)).2 K N st rs) R) :
    Ev (fun k=>Zn1.l1 k (V:Int) (F.map fun n:Nat=>(n:Int)) false rs (rs.length:Int) 0 K N st rs) R:=by
  have hK0:=G.K0;have hK1:=G.K1;have hN0:=G.N0;have hN1:=G.N1;have hlen:=G.len
  have h32:2 ^ K.toNat≤2 ^ 31:=Nat.pow_le_pow_right (by omega) (by omega)
  refine Ev.loop (L:=fun k i (s:List Nat × Bool)=>Zn1.l1 k (V:Int) (s.1.map fun n:Nat=>(n:Int)) s.2 rs (rs.length:Int) i K N st rs) (n:=rs.length) (fun i s=>FOK K N V rs s.1∧(rs.drop i.toNat).foldl (stepF K V) s=rs.foldl (stepF K V) (F,false)) ?_ ?_ 0 (F,false) (Int.le_refl _) (by omega) ⟨hF,rfl⟩
  · rintro s ⟨_,g⟩
    rw [Int.toNat_natCast,List.drop_length] at g
    have g:s=rs.foldl (stepF K V) (F,false):=g
    refine Ev.step (fun k=>Zn1.l1.eq_2 _ _ _ _ _ _ _ _ _ _ k) ?_
    simp (disch:=omega) only [if_neg (show ¬ ((rs.length:Nat):Int) < (rs.length:Nat) by omega)]
    rw [g];exact h
  · rintro i s h0 h1 ⟨g0,g⟩
    right
    have hm:=rule_mem h0 h1
    rw [rd_rule h0 h1,List.foldl_cons] at g
    have hrl:=G.rl _ hm
    obtain⟨r,hr⟩ : ∃r,Zb rs i=r:=⟨_,rfl⟩
    rw [hr] at hm hrl g
    have hr0:=G.r0 r hm;have hr1:=G.r1 r hm;have hx0:=G.x0 r hm;have hx1:=G.x1 r hm
    refine⟨stepF K V s r,⟨fok_set K N st rs G V g0 hm,g⟩,?_⟩
    intro h2
    obtain⟨T,c⟩:=s
    have hb:bgin K V T r.f1 < 2 ^ K.toNat:=bgin_lt (V:=V) g0.lt hx0
    have hv:T.getD r.f0.toNat 0 < 2 ^ K.toNat:=getD_lt g0.lt (Nat.two_pow_pos _) r.f0.toNat
    have hTl:T.length=N.toNat:=g0.len
    refine Ev.step (fun k=>Zn1.l1.eq_2 _ _ _ _ _ _ _ _ _ _ k) ?_
    simp (disch:=omega) only [if_pos,hr]
    refine Ev.bind (begin_ev K N st rs G V hV T hTl g0.lt r.f1 (fun x hx=>⟨hx0 x hx,hx1 x hx⟩) (by omega)) ?_
    simp (disch:=omega) only [if_pos,w64,List.length_map,rdF]
    rw [u32_or _ _ (by omega) (by omega),setF,andNot_ne _ _ (by omega) (by omega)]
    unfold stepF at h2
    cases c with
    |true=>simp only [if_true];simpa only [Bool.true_or] using h2
    |false=>simp only [Bool.false_eq_true,if_false];simpa only [Bool.false_or] using h2
theorem firsts_l0 (d : Nat) : ∀ (F : List Nat), FOK K N V rs F → N.toNat * K.toNat < tot K.toNat F + d → ∃ F' : List Nat, FOK K N V rs F' ∧ (∀ r ∈ rs, F'.getD r.f0.toNat 0 ||| bgin K V F' r.f1 = F'.getD r.f0.toNat 0) ∧
    Ev (fun k=>Zn1.l0 k (V:Int) (F.map fun n:Nat=>(n:Int)) true K N st rs) (F'.map fun n:Nat=>(n:Int)):=by
  induction d with
  |zero=>
    intro F hF h
    have:=tot_le K.toNat F
    rw [hF.len] at this;omega
  |succ d ih=>
    intro F hF h
    have P:=foldF_ok K N st rs G V 0 rs (F,false) (fun r hr=>hr) hF
    have go: ∀R,Ev (fun k=>Zn1.l0 k (V:Int) ((rs.foldl (stepF K V) (F,false)).1.map fun n:Nat=>(n:Int)) (rs.foldl (stepF K V) (F,false)).2 K N st rs) R→Ev (fun k=>Zn1.l0 k (V:Int) (F.map fun n:Nat=>(n:Int)) true K N st rs) R:=by
      intro R hR
      refine Ev.step (fun k=>Zn1.l0.eq_2 _ _ _ _ _ _ _ k) ?_
      simp only [if_true]
      exact firsts_l1 K N st rs G V hV F hF R hR
    cases e:(rs.foldl (stepF K V) (F,false)).2 with
    |true=>
      rcases P.2.2.1 e with q|q
      · cases q
      · obtain⟨F',h1,h2,h3⟩:=ih _ P.1 (by have q:tot K.toNat F < _:=q;omega)
        exact⟨F',h1,h2,go _ (by rw [e];exact h3)⟩
    |false=>
      obtain⟨_,h1,h2⟩:=P.2.2.2 e
      refine⟨F,hF,h2,go _ ?_⟩
      rw [e,h1]
      refine Ev.step (fun k=>Zn1.l0.eq_2 _ _ _ _ _ _ _ k) ?_
      simp only [Bool.false_eq_true,if_false];exact Ev.now _
theorem firsts_ev: ∃F:List Nat,F.length=N.toNat∧(∀s∈F,s < 2 ^ K.toNat)∧(∀l:List Int,(∀x∈l,0≤x∧x < K + N)→bgin K V F l=firstR K N V rs l)∧Ev (fun k=>Zn1.f k K N st rs (V:Int)) (F.map fun n:Nat=>(n:Int)):=by
  have hN0:=G.N0;have hN1:=G.N1
  have F0:FOK K N V rs (List.replicate N.toNat 0):=by
    refine⟨by simp,?_,?_⟩
    · intro s hs;rw [List.eq_of_mem_replicate hs];exact Nat.two_pow_pos _
    · intro i hi b hb
      rw [List.getD_eq_getElem?_getD,List.getElem?_replicate,if_pos hi] at hb
      simp at hb
  obtain⟨F,h1,h2,h3⟩:=firsts_l0 K N st rs G V hV (N.toNat * K.toNat + 1) _ F0 (by omega)
  refine⟨F,h1.len,h1.lt,fun l hl=>bgin_eq K N st rs G V h1 h2 hl,?_⟩
  unfold Zn1.f
  simp (disch:=omega) only [if_pos]
  simpa using h3
end
section
variable (K N st:Int) (rs:List S41) (G:GOK K N st rs)
include G
def voidG (K N:Int) (rs:List S41):Nat:=leastG K N false rs
theorem void_lt:voidG K N rs < 2 ^ 32:=lt32G K N st rs G (least_lt K N st rs G false)
theorem heads_ev (l:List Int) (hl: ∀x∈l,0≤x∧x < K + N) (hlen:l.length≤1000):Ev (fun k=>Zp1.f k K N st rs l) (hq K (voidG K N rs) l):=by
  have hK0:=G.K0;have hK1:=G.K1;have hN0:=G.N0;have hN1:=G.N1
  have hV:=void_lt K N st rs G
  have hn:=refNames_ev K N st rs G true
  unfold Zp1.f
  refine Ev.bind hn ?_
  have ev:leastG K N (!true) rs=voidG K N rs:=rfl
  rw [ev]
  generalize voidG K N rs=V at hV
  refine Ev.loop (L:=fun k i (o:List Int)=>Zp1.l0 k (V:Int) o l (l.length:Int) i K N st rs) (n:=l.length) (fun i o=>QOK (K + N) o∧(hs K V (l.drop i.toNat)).foldl addH o=hq K V l) ?_ ?_ 0 [] (Int.le_refl _) (by omega) ⟨⟨by simp,by simp⟩,rfl⟩
  · rintro o ⟨_,g⟩
    rw [Int.toNat_natCast,List.drop_length] at g
    have g:o=hq K V l:=g
    refine Ev.step (fun k=>Zp1.l0.eq_2 _ _ _ _ _ _ _ _ _ k) ?_
    simp (disch:=omega) only [if_neg (show ¬ ((l.length:Nat):Int) < (l.length:Nat) by omega)]
    rw [g];exact Ev.now _
  · rintro i o h0 h1 ⟨g0,g⟩
    have hx:=hl _ (rd_mem h0 h1)
    have hol:=g0.len
    rw [rd_cons h0 h1] at g
    unfold hs at g
    rw [List.foldl_cons] at g
    have g1:QOK (K + N) (addH o (rd l i)):=addH_ok g0 hx.1 hx.2
    have hol1:=g1.len
    have next : ∀ R, Ev (fun k => if rd l i < K then some (addH o (rd l i)) else (Ze2.f (V : Int) (rd l i - K)).bind fun t => if t = true then Zp1.l0 k (V : Int) (addH o (rd l i)) l (l.length : Int) (i + 1) K N st rs else some (addH o (rd l i))) R →
        Ev (fun k=>Zp1.l0 k (V:Int) o l (l.length:Int) i K N st rs) R:=by
      intro R h
      refine Ev.step (fun k=>Zp1.l0.eq_2 _ _ _ _ _ _ _ _ _ k) ?_
      simp (disch:=omega) only [if_pos,w64]
      refine Ev.bind (has_ev o _ (by omega)) ?_
      unfold addH at h
      by_cases c:rd l i∈o
      · simp only [if_pos c] at h
        simp only [decide_eq_true c,if_true];exact h
      · simp only [if_neg c] at h
        simp only [decide_eq_false c,Bool.false_eq_true,if_false,Option.bind_some];exact h
    by_cases c:rd l i < K
    · left
      refine next _ ?_
      rw [if_pos c] at g
      have g:addH o (rd l i)=hq K V l:=g
      simp only [if_pos c];rw [g];exact Ev.now _
    · obtain⟨y,hy⟩:=Int.eq_ofNat_of_zero_le (show 0≤rd l i - K by omega)
      rw [if_neg c,hy,Int.toNat_natCast] at g
      by_cases c2:V.testBit y=true
      · right
        rw [if_pos c2] at g
        refine⟨addH o (rd l i),⟨g1,g⟩,?_⟩
        intro h
        refine next _ ?_
        simp only [if_neg c,hy,Bit_eq V y hV (by omega),Option.bind_some,if_pos c2];exact h
      · left
        refine next _ ?_
        rw [if_neg c2] at g
        have g:addH o (rd l i)=hq K V l:=g
        simp only [if_neg c,hy,Bit_eq V y hV (by omega),Option.bind_some,if_neg c2];rw [g];exact Ev.now _
theorem rfirsts_l1 (h : Int) (h0 : 0 ≤ h) (q0 : List Int) (hq0 : QOK (K + N) q0) (hl : h < q0.length) (R : Int)
    (hk:Ev (fun k=>Zy.l0 k ((edgesF K (voidG K N rs) rs).foldl (addQ 0 h) q0) (h + 1) K N st rs) R):Ev (fun k=>Zy.l1 k q0 h rs (rs.length:Int) 0 K N st rs) R:=by
  have hlen:=G.len;have hN1:=G.N1;have hN0:=G.N0;have hK0:=G.K0;have hK1:=G.K1
  obtain⟨V,hV⟩ : ∃V,voidG K N rs=V:=⟨_,rfl⟩
  rw [hV] at hk
  refine Ev.loop (L:=fun k i (q:List Int)=>Zy.l1 k q h rs (rs.length:Int) i K N st rs) (n:=rs.length) (fun i q=>QOK (K + N) q∧h < q.length∧(edgesF K V (rs.drop i.toNat)).foldl (addQ 0 h) q=(edgesF K V rs).foldl (addQ 0 h) q0) ?_ ?_ 0 q0 (Int.le_refl _) (by omega) ⟨hq0,hl,rfl⟩
  · rintro q ⟨g1,g2,g3⟩
    rw [Int.toNat_natCast,List.drop_length] at g3
    have g3:q=(edgesF K V rs).foldl (addQ 0 h) q0:=g3
    have hql:=g1.len
    refine Ev.step (fun k=>Zy.l1.eq_2 _ _ _ _ _ _ _ _ _ k) ?_
    simp (disch:=omega) only [if_neg (show ¬ ((rs.length:Nat):Int) < (rs.length:Nat) by omega),w64]
    rw [g3];exact hk
  · rintro i q h2 h3 ⟨g1,g2,g3⟩
    right
    have hm:=rule_mem h2 h3
    rw [rd_rule h2 h3,edgesF_cons,List.foldl_append] at g3
    obtain⟨r,hr⟩ : ∃r,Zb rs i=r:=⟨_,rfl⟩
    rw [hr] at hm g3
    have hrl:=G.rl _ hm;have hr0:=G.r0 _ hm;have hr1:=G.r1 _ hm
    have hx: ∀x∈r.f1,0≤x∧x < K + N:=fun x hx=>⟨G.x0 r hm x hx,G.x1 r hm x hx⟩
    have hH:=hq_ok (K:=K) (V:=V) hx
    have hHl:=hH.len
    have hev:=heads_ev K N st rs G r.f1 hx (by omega)
    rw [hV] at hev
    have hE: ∀e∈(hq K V r.f1).map (fun x=>(K + r.f0,x)),e.2 < 0 + (K + N):=by
      intro e he
      rw [List.mem_map] at he
      obtain⟨x,hx,rfl⟩:=he
      have:=(hH.rg x hx).2
      show x < 0 + (K + N)
      omega
    have hql:=g1.len
    refine⟨((hq K V r.f1).map fun x=>(K + r.f0,x)).foldl (addQ 0 h) q,⟨foldQ_ok _ q g1 hE,?_,g3⟩,?_⟩
    · obtain⟨t,ht⟩:=foldQ_pre 0 h ((hq K V r.f1).map fun x=>(K + r.f0,x)) q
      rw [ht,List.length_append];omega
    intro h4
    refine Ev.step (fun k=>Zy.l1.eq_2 _ _ _ _ _ _ _ _ _ k) ?_
    simp (disch:=omega) only [if_pos,hr,w64]
    by_cases c:rd q h=K + r.f0
    · simp only [if_pos c]
      refine Ev.bind hev ?_
      generalize hq K V r.f1=H at hH hHl hE h4
      refine Ev.loop (L:=fun k t (u:List Int)=>Zy.l2 k u h rs (rs.length:Int) i H (H.length:Int) t K N st rs) (n:=H.length) (fun t u=>QOK (K + N) u∧h < u.length∧rd u h=K + r.f0∧((H.drop t.toNat).map fun x=>(K + r.f0,x)).foldl (addQ 0 h) u=(H.map fun x=>(K + r.f0,x)).foldl (addQ 0 h) q) ?_ ?_ 0 q (Int.le_refl _) (by omega) ⟨g1,g2,c,rfl⟩
      · rintro u ⟨f1,f2,f4,f3⟩
        rw [Int.toNat_natCast,List.drop_length,List.map_nil,List.foldl_nil] at f3
        refine Ev.step (fun k=>Zy.l2.eq_2 _ _ _ _ _ _ _ _ _ _ _ _ k) ?_
        simp (disch:=omega) only [if_neg (show ¬ ((H.length:Nat):Int) < (H.length:Nat) by omega),w64]
        rw [f3];exact h4
      · rintro t u h5 h6 ⟨f1,f2,f4,f3⟩
        right
        rw [rd_cons h5 h6,List.map_cons,List.foldl_cons] at f3
        have hy:=hH.rg _ (rd_mem h5 h6)
        have hul:=f1.len
        have hpre:=addQ_pre 0 h u (K + r.f0,rd H t)
        refine⟨addQ 0 h u (K + r.f0,rd H t),⟨addQ_ok f1 (by show rd H t < 0 + (K + N);omega),?_,?_,f3⟩,?_⟩
        · obtain⟨v,hv⟩:=hpre;rw [hv,List.length_append];omega
        · obtain⟨v,hv⟩:=hpre;rw [hv,rd_app u v h h0 f2];exact f4
        intro h7
        refine Ev.step (fun k=>Zy.l2.eq_2 _ _ _ _ _ _ _ _ _ _ _ _ k) ?_
        simp (disch:=omega) only [if_pos,w64]
        unfold addQ at h7
        simp only [f4,Int.sub_zero,true_and,show(rd H t≥0)=True from eq_true hy.1] at h7
        refine Ev.bind (has_ev u _ (by omega)) ?_
        by_cases c3:rd H t∈u
        · rw [if_neg (by simp [c3])] at h7
          simp only [decide_eq_true c3,if_true];exact h7
        · rw [if_pos c3] at h7
          simp only [decide_eq_false c3,Bool.false_eq_true,if_false];exact h7
    · simp only [if_neg c]
      have same: ∀(H:List Int),(H.map fun x=>(K + r.f0,x)).foldl (addQ 0 h) q=q:=by
        intro H
        induction H with
        |nil=>rfl
        |cons x H ih=>
          rw [List.map_cons,List.foldl_cons]
          have:addQ 0 h q (K + r.f0,x)=q:=by
            unfold addQ
            rw [if_neg]
            rintro⟨z,_⟩
            exact c z.symm
          rw [this];exact ih
      rw [same] at h4;exact h4
theorem rfirsts_l3 (q:List Int) (hq0:QOK (K + N) q):Ev (fun k=>Zy.l3 k q 0 (q.length:Int) 0 K N st rs) ((maskB (inQ q) K.toNat:Nat):Int):=by
  have hN1:=G.N1;have hK0:=G.K0;have hK1:=G.K1
  have hlen:=hq0.len
  have h8:2 ^ K.toNat≤2 ^ 3:=Nat.pow_le_pow_right (by omega) (by omega)
  refine Ev.loop (L:=fun k i (a:Nat)=>Zy.l3 k q (a:Int) (q.length:Int) i K N st rs) (n:=q.length) (fun i a=>a < 2 ^ K.toNat∧∀b,a.testBit b=true↔b < K.toNat∧(b:Int)∈q.take i.toNat) ?_ ?_ 0 0 (Int.le_refl _) (by omega) ⟨Nat.two_pow_pos _,by simp⟩
  · rintro a ⟨_,g⟩
    rw [Int.toNat_natCast,List.take_length] at g
    have e:a=maskB (inQ q) K.toNat:=by
      apply Nat.eq_of_testBit_eq
      intro b
      rw [maskB_bit,Bool.eq_iff_iff,g b,Bool.and_eq_true,decide_eq_true_eq]
      unfold inQ
      rw [decide_eq_true_eq]
    refine Ev.step (fun k=>Zy.l3.eq_2 _ _ _ _ _ _ _ _ k) ?_
    simp (disch:=omega) only [if_neg (show ¬ ((q.length:Nat):Int) < (q.length:Nat) by omega)]
    rw [e];exact Ev.now _
  · rintro i a h0 h1 ⟨g0,g⟩
    right
    have hr:=hq0.rg _ (rd_mem h0 h1)
    obtain⟨y,hy⟩:=Int.eq_ofNat_of_zero_le hr.1
    by_cases c:rd q i < K
    · refine⟨a ||| 2 ^ y,⟨Nat.or_lt_two_pow g0 (Nat.pow_lt_pow_right (by omega) (by omega)),?_⟩,?_⟩
      · intro b
        rw [take_rd h0 h1,Nat.testBit_or,Bool.or_eq_true,g b,Nat.testBit_two_pow,decide_eq_true_eq,List.mem_append,List.mem_singleton,hy]
        constructor
        · rintro(⟨p,r⟩|p)
          · exact⟨p,.inl r⟩
          · exact⟨by omega,.inr (by omega)⟩
        · rintro⟨p,r|r⟩
          · exact .inl ⟨p,r⟩
          · exact .inr (by omega)
      · intro h2
        refine Ev.step (fun k=>Zy.l3.eq_2 _ _ _ _ _ _ _ _ k) ?_
        simp (disch:=omega) only [if_pos,if_pos c,w64,u64_id]
        rw [hy,bit_or a y (by omega) (by omega)];exact h2
    · refine⟨a,⟨g0,?_⟩,?_⟩
      · intro b
        rw [take_rd h0 h1,g b,List.mem_append,List.mem_singleton]
        constructor
        · rintro⟨p,r⟩;exact⟨p,.inl r⟩
        · rintro⟨p,r|r⟩
          · exact⟨p,r⟩
          · omega
      · intro h2
        refine Ev.step (fun k=>Zy.l3.eq_2 _ _ _ _ _ _ _ _ k) ?_
        simp (disch:=omega) only [if_pos,if_neg c,w64];exact h2
theorem rfirsts_ev (l:List Int) (hl: ∀x∈l,0≤x∧x < K + N) (hlen:l.length≤1000):Ev (fun k=>Zy.f k K N st rs l) ((firstR K N (voidG K N rs) rs l:Nat):Int):=by
  have hN1:=G.N1;have hN0:=G.N0;have hK0:=G.K0;have hK1:=G.K1
  unfold Zy.f
  refine Ev.bind (heads_ev K N st rs G l hl hlen) ?_
  refine bfs (σ:=Unit) (K:=0) (N:=K + N) (E:=edgesF K (voidG K N rs) rs) (S:=maskB (inQ (hq K (voidG K N rs) l)) (K + N).toNat) (edgeF_ok K N st rs G _) (by omega) (L:=fun k q h _=>Zy.l0 k q h K N st rs) (fun _ _=>()) () ?_ ?_ _ (hq_ok hl) rfl
  · intro q hq1 he
    have hql:=hq1.len
    refine Ev.step (fun k=>Zy.l0.eq_2 _ _ _ _ _ _ k) ?_
    simp (disch:=omega) only [if_neg]
    have e:firstR K N (voidG K N rs) rs l=maskB (inQ q) K.toNat:=by
      unfold firstR
      rw [← he]
      apply Nat.eq_of_testBit_eq
      intro b
      rw [maskB_bit,maskB_bit,maskB_bit]
      by_cases c:b < K.toNat
      · rw [decide_eq_true c,decide_eq_true (show b < (K + N).toNat by omega)];rfl
      · rw [decide_eq_false c];rfl
    rw [e];exact rfirsts_l3 K N st rs G q hq1
  · intro q h _ h0 h1 hq1 _ _ hk
    have hql:=hq1.len
    refine Ev.step (fun k=>Zy.l0.eq_2 _ _ _ _ _ _ k) ?_
    simp (disch:=omega) only [if_pos]
    exact rfirsts_l1 K N st rs G h h0 q hq1 h1 _ hk
end
def tripG (a:Int):List Int→List (Int × Int × List Int)
  | []=>[]
  |x :: l=>(a,x,l) :: tripG a l
def tripsG (rs:List S41):List (Int × Int × List Int):=rs.flatMap fun r=>tripG r.f0 r.f1
theorem tripsG_cons (r:S41) (rs:List S41):tripsG (r :: rs)=tripG r.f0 r.f1++tripsG rs:=by unfold tripsG;rw [List.flatMap_cons]
theorem tripG_mem {a:Int} {t:Int × Int × List Int} : ∀{l:List Int},t∈tripG a l→t.1=a∧t.2.1∈l∧(∀y∈t.2.2,y∈l)∧t.2.2.length≤l.length
  | [],h=>by simp [tripG] at h
  |x :: l,h=>by
    unfold tripG at h
    rcases List.mem_cons.1 h with rfl|h
    · exact⟨rfl,by simp,fun y hy=>List.mem_cons_of_mem _ hy,by simp⟩
    · obtain⟨h1,h2,h3,h4⟩:=tripG_mem h
      exact⟨h1,List.mem_cons_of_mem _ h2,fun y hy=>List.mem_cons_of_mem _ (h3 y hy),by rw [List.length_cons];omega⟩
theorem tripsG_mem {rs:List S41} {t:Int × Int × List Int} (h:t∈tripsG rs): ∃r∈rs,t.1=r.f0∧t.2.1∈r.f1∧(∀y∈t.2.2,y∈r.f1)∧t.2.2.length≤r.f1.length:=by
  unfold tripsG at h
  rw [List.mem_flatMap] at h
  obtain⟨r,hr,h⟩:=h
  exact⟨r,hr,tripG_mem h⟩
theorem edgesG_in {rs:List S41} {r:S41} {x:Int} (hr:r∈rs) (hx:x∈r.f1):(r.f0,x)∈edgesG rs:=by
  unfold edgesG
  rw [List.mem_flatMap]
  exact⟨r,hr,List.mem_map.2 ⟨x,hx,rfl⟩⟩
def valT (K:Int) (V:Nat) (Fr:List Int→Nat) (T:List Nat) (t:Int × Int × List Int):Nat:=Fr t.2.2 ||| (if allV K V t.2.2=true then T.getD t.1.toNat 0 else 0)
def stepT (K:Int) (V C:Nat) (Fr:List Int→Nat) (s:List Nat × Bool) (t:Int × Int × List Int):List Nat × Bool:=
  if C.testBit t.1.toNat=true∧t.2.1≥K then
    (s.1.set (t.2.1 - K).toNat (s.1.getD (t.2.1 - K).toNat 0 ||| valT K V Fr s.1 t),s.2 || decide (s.1.getD (t.2.1 - K).toNat 0 ||| valT K V Fr s.1 t≠s.1.getD (t.2.1 - K).toNat 0))
  else s
def condT (K:Int) (V C:Nat) (t:Int × Int × List Int):Bool:=C.testBit t.1.toNat && (decide (t.2.1≥K) && allV K V t.2.2)
def edgesT (K:Int) (V C:Nat) (L:List (Int × Int × List Int)):List (Int × Int):=(L.filter (condT K V C)).map fun t=>(t.2.1 - K,t.1)
def baseB (K st:Int) (C:Nat) (Fr:List Int→Nat) (rs:List S41) (u b:Nat):Prop:=((u:Int)=st∧b=K.toNat)∨∃t∈tripsG rs,C.testBit t.1.toNat=true∧t.2.1=K + (u:Int)∧(Fr t.2.2).testBit b=true
def rch2 (E:List (Int × Int)) (i u:Nat):Prop:=∀D:Nat→Bool,(∀e∈E,D e.1.toNat=true→D e.2.toNat=true)→D i=true→D u=true
structure FOK2 (K N st:Int) (V C:Nat) (Fr:List Int→Nat) (rs:List S41) (T:List Nat):Prop where
  len:T.length=N.toNat
  lt: ∀s∈T,s < 2 ^ (K.toNat + 1)
  top:(T.getD st.toNat 0).testBit K.toNat=true
  snd: ∀i,i < N.toNat→∀b,(T.getD i 0).testBit b=true→C.testBit i=true∧∃u,rch2 (edgesT K V C (tripsG rs)) i u∧baseB K st C Fr rs u b
section
variable (K N st:Int) (rs:List S41) (G:GOK K N st rs) (V C:Nat) (Fr:List Int→Nat) (hFr: ∀l,Fr l < 2 ^ K.toNat) (hC: ∀e∈edgesG rs,C.testBit e.1.toNat=true→e.2≥K→C.testBit (e.2 - K).toNat=true)
include G hFr
theorem trip_ok {t:Int × Int × List Int} (h:t∈tripsG rs):0≤t.1∧t.1 < N∧0≤t.2.1∧t.2.1 < K + N∧(∀y∈t.2.2,0≤y∧y < K + N)∧t.2.2.length≤4:=by
  obtain⟨r,hr,h1,h2,h3,h4⟩:=tripsG_mem h
  have:=G.r0 r hr;have:=G.r1 r hr;have:=G.x0 r hr _ h2;have:=G.x1 r hr _ h2;have:=G.rl r hr
  exact⟨by omega,by omega,by omega,by omega,fun y hy=>⟨G.x0 r hr y (h3 y hy),G.x1 r hr y (h3 y hy)⟩,by omega⟩
theorem valT_lt {T:List Nat} (h: ∀s∈T,s < 2 ^ (K.toNat + 1)) (t:Int × Int × List Int):valT K V Fr T t < 2 ^ (K.toNat + 1):=by
  unfold valT
  refine Nat.or_lt_two_pow ?_ ?_
  · exact Nat.lt_of_lt_of_le (hFr _) (Nat.pow_le_pow_right (by omega) (by omega))
  · split
    · exact getD_lt h (Nat.two_pow_pos _) _
    · exact Nat.two_pow_pos _
include hC
theorem fok2_step {s:List Nat × Bool} (h:FOK2 K N st V C Fr rs s.1) {t:Int × Int × List Int} (ht:t∈tripsG rs):FOK2 K N st V C Fr rs (stepT K V C Fr s t).1:=by
  unfold stepT
  split
  · rename_i c
    have ho:=trip_ok K N st rs G Fr hFr ht
    have hlen:=h.len
    have s0:=G.s0;have s1:=G.s1
    refine⟨by rw [List.length_set];exact hlen,?_,?_,?_⟩
    · intro x hx
      rcases List.mem_or_eq_of_mem_set hx with q|q
      · exact h.lt x q
      · rw [q];exact Nat.or_lt_two_pow (getD_lt h.lt (Nat.two_pow_pos _) _) (valT_lt K N st rs G V Fr hFr h.lt t)
    · rw [getD_set _ _ _ _ (by omega)]
      split
      · rename_i e
        rw [Nat.testBit_or,e,h.top,Bool.true_or]
      · exact h.top
    · intro i hi b hb
      rw [getD_set _ _ _ _ (by omega)] at hb
      split at hb
      · rename_i e
        rw [Nat.testBit_or,Bool.or_eq_true] at hb
        rcases hb with hb|hb
        · rw [e] at hb;exact h.snd i hi b hb
        · obtain⟨r,hr,h1,h2,_,_⟩:=tripsG_mem ht
          have hCi:C.testBit i=true:=by
            rw [← e]
            have:=hC (r.f0,t.2.1) (edgesG_in hr h2) (by rw [← h1];exact c.1) c.2
            exact this
          refine⟨hCi,?_⟩
          unfold valT at hb
          rw [Nat.testBit_or,Bool.or_eq_true] at hb
          rcases hb with hb|hb
          · exact⟨i,fun D _ q=>q,.inr ⟨t,ht,c.1,by omega,hb⟩⟩
          · split at hb
            · rename_i a
              obtain⟨_,u,hu,hu2⟩:=h.snd t.1.toNat (by omega) b hb
              refine⟨u,fun D hD q=>hu D hD ?_,hu2⟩
              refine hD (t.2.1 - K,t.1) ?_ (by rw [← e] at q;exact q)
              unfold edgesT
              rw [List.mem_map]
              refine⟨t,List.mem_filter.2 ⟨ht,?_⟩,rfl⟩
              unfold condT
              rw [c.1,a,decide_eq_true c.2];rfl
            · simp at hb
      · exact h.snd i hi b hb
  · exact h
theorem foldT_ok : ∀ (L : List (Int × Int × List Int)) (s : List Nat × Bool), (∀ t ∈ L, t ∈ tripsG rs) → FOK2 K N st V C Fr rs s.1 →
    FOK2 K N st V C Fr rs (L.foldl (stepT K V C Fr) s).1∧tot (K.toNat + 1) s.1≤tot (K.toNat + 1) (L.foldl (stepT K V C Fr) s).1∧((L.foldl (stepT K V C Fr) s).2=true→s.2=true∨tot (K.toNat + 1) s.1 < tot (K.toNat + 1) (L.foldl (stepT K V C Fr) s).1)∧
    ((L.foldl (stepT K V C Fr) s).2=false→s.2=false∧(L.foldl (stepT K V C Fr) s).1=s.1∧∀t∈L,C.testBit t.1.toNat=true→t.2.1≥K→s.1.getD (t.2.1 - K).toNat 0 ||| valT K V Fr s.1 t=s.1.getD (t.2.1 - K).toNat 0)
  | [],s,_,h=>⟨h,Nat.le_refl _,fun q=> .inl q,fun q=>⟨q,rfl,by simp⟩⟩
  |t :: L,s,hL,h=>by
    have ht:=hL t (by simp)
    have ho:=trip_ok K N st rs G Fr hFr ht
    have hs:=fok2_step K N st rs G V C Fr hFr hC h ht
    have ih:=foldT_ok L (stepT K V C Fr s t) (fun q hq=>hL q (by simp [hq])) hs
    rw [List.foldl_cons]
    by_cases c:C.testBit t.1.toNat=true∧t.2.1≥K
    · have e0:stepT K V C Fr s t=(s.1.set (t.2.1 - K).toNat (s.1.getD (t.2.1 - K).toNat 0 ||| valT K V Fr s.1 t),s.2 || decide (s.1.getD (t.2.1 - K).toNat 0 ||| valT K V Fr s.1 t≠s.1.getD (t.2.1 - K).toNat 0)):=by unfold stepT;rw [if_pos c]
      have hT:=tot_set (K.toNat + 1) (s.1.getD (t.2.1 - K).toNat 0 ||| valT K V Fr s.1 t) s.1 (t.2.1 - K).toNat (by rw [h.len];omega)
      have hm:=cnt_mono (s.1.getD (t.2.1 - K).toNat 0) (s.1.getD (t.2.1 - K).toNat 0 ||| valT K V Fr s.1 t) (fun i hi=>by rw [Nat.testBit_or,hi,Bool.true_or]) (K.toNat + 1)
      have e1:tot (K.toNat + 1) (stepT K V C Fr s t).1=tot (K.toNat + 1) (s.1.set (t.2.1 - K).toNat (s.1.getD (t.2.1 - K).toNat 0 ||| valT K V Fr s.1 t)):=by rw [e0]
      refine⟨ih.1,by omega,?_,?_⟩
      · intro q
        rcases ih.2.2.1 q with q|q
        · rw [e0] at q
          simp only [Bool.or_eq_true,decide_eq_true_eq] at q
          rcases q with q|q
          · exact .inl q
          · right
            obtain⟨i,hi,a,b⟩:=bits_in (valT_lt K N st rs G V Fr hFr h.lt t) q
            have:=cnt_lt _ _ (fun i hi=>by rw [Nat.testBit_or,hi,Bool.true_or]) i a b (K.toNat + 1) hi
            omega
        · right;omega
      · intro q
        obtain⟨a,b,d⟩:=ih.2.2.2 q
        have a2:s.2=false∧¬ (s.1.getD (t.2.1 - K).toNat 0 ||| valT K V Fr s.1 t≠s.1.getD (t.2.1 - K).toNat 0):=by
          rw [e0] at a
          simpa only [Bool.or_eq_false_iff,decide_eq_false_iff_not] using a
        have a3:=Decidable.not_not.1 a2.2
        have e:(stepT K V C Fr s t).1=s.1:=by
          rw [e0]
          show s.1.set _ _=_
          rw [a3,set_self]
        rw [e] at b d
        refine⟨a2.1,b,?_⟩
        intro x hx
        rcases List.mem_cons.1 hx with rfl|hx
        · exact fun _ _=>a3
        · exact d x hx
    · have e0:stepT K V C Fr s t=s:=by unfold stepT;rw [if_neg c]
      rw [e0] at ih ⊢
      refine⟨ih.1,ih.2.1,ih.2.2.1,?_⟩
      intro q
      obtain⟨a,b,d⟩:=ih.2.2.2 q
      refine⟨a,b,?_⟩
      intro x hx
      rcases List.mem_cons.1 hx with rfl|hx
      · exact fun u v=>absurd ⟨u,v⟩ c
      · exact d x hx
omit hC in
theorem edgeT_ok: ∀e∈edgesT K V C (tripsG rs),0≤e.1∧e.1 < N∧0≤e.2∧e.2 < 0 + N:=by
  intro e he
  unfold edgesT at he
  rw [List.mem_map] at he
  obtain⟨t,ht,rfl⟩:=he
  rw [List.mem_filter] at ht
  have ho:=trip_ok K N st rs G Fr hFr ht.1
  have h2:=ht.2
  unfold condT at h2
  simp only [Bool.and_eq_true,decide_eq_true_eq] at h2
  show 0≤t.2.1 - K∧t.2.1 - K < N∧0≤t.1∧t.1 < 0 + N
  omega
theorem follow_eq {T : List Nat} (h : FOK2 K N st V C Fr rs T) (hfix : ∀ t ∈ tripsG rs, C.testBit t.1.toNat = true → t.2.1 ≥ K → T.getD (t.2.1 - K).toNat 0 ||| valT K V Fr T t = T.getD (t.2.1 - K).toNat 0) (a : Nat) (ha : a < N.toNat) :
    (C.testBit a=false→T.getD a 0=0)∧∀b,(T.getD a 0).testBit b=true↔(C.testBit a=true∧∃u:Nat,(reachE 0 N (edgesT K V C (tripsG rs)) (2 ^ a)).testBit u=true∧baseB K st C Fr rs u b):=by
  have hE:=edgeT_ok K N st rs G V C Fr hFr
  have hS:2 ^ a < 2 ^ N.toNat:=Nat.pow_lt_pow_right (by omega) ha
  have hN:=G.N0
  refine⟨?_,?_⟩
  · intro hc
    apply Nat.eq_of_testBit_eq
    intro b
    rw [Nat.zero_testBit]
    cases e:(T.getD a 0).testBit b with
    |false=>rfl
    |true=>have:=(h.snd a ha b e).1;rw [hc] at this;cases this
  · intro b
    constructor
    · intro hb
      obtain⟨h1,u,h2,h3⟩:=h.snd a ha b hb
      refine⟨h1,u,h2 (fun i=>(reachE 0 N (edgesT K V C (tripsG rs)) (2 ^ a)).testBit i) ?_ ?_,h3⟩
      · intro e he q
        have:=reach_closed 0 N _ _ hE hS hN he q (by have:=hE e he;omega)
        rwa [Int.sub_zero] at this
      · exact reach_start 0 N _ _ hE hS hN _ (Nat.testBit_two_pow_self)
    · rintro⟨h1,u,h2,h3⟩
      have sub: ∀{a c:Nat},a ||| c=c↔∀b,a.testBit b=true→c.testBit b=true:=by
        intro a c
        constructor
        · intro q b hb
          rw [← q,Nat.testBit_or,hb,Bool.true_or]
        · intro q
          apply Nat.eq_of_testBit_eq
          intro b
          rw [Nat.testBit_or]
          cases e:a.testBit b with
          |false=>simp
          |true=>rw [q b e];rfl
      have hfix2: ∀t∈tripsG rs,C.testBit t.1.toNat=true→t.2.1≥K→∀b,(valT K V Fr T t).testBit b=true→(T.getD (t.2.1 - K).toNat 0).testBit b=true:=by
        intro t ht c1 c2 b hb
        rw [← hfix t ht c1 c2,Nat.testBit_or,hb,Bool.or_true]
      have key:=reach_least 0 N _ _ hE hS hN (fun u=>decide (T.getD u 0 ||| T.getD a 0=T.getD a 0)) ?_ ?_ u h2
      · rw [decide_eq_true_eq,sub] at key
        refine key b ?_
        rcases h3 with ⟨h4,h5⟩|⟨t,ht,c1,c2,h4⟩
        · rw [h5,show u=st.toNat by omega];exact h.top
        · have:=hfix2 t ht c1 (by omega) b (by unfold valT;rw [Nat.testBit_or,h4,Bool.true_or])
          rwa [c2,show(K + (u:Int) - K).toNat=u by omega] at this
      · intro e he h4 _
        have ho:=hE e he
        unfold edgesT at he
        rw [List.mem_map] at he
        obtain⟨t,ht,rfl⟩:=he
        rw [List.mem_filter] at ht
        have h5:=ht.2
        unfold condT at h5
        simp only [Bool.and_eq_true,decide_eq_true_eq] at h5
        rw [decide_eq_true_eq,sub] at h4
        rw [decide_eq_true_eq,sub,Int.sub_zero]
        intro b hb
        refine h4 b (hfix2 t ht.1 h5.1 h5.2.1 b ?_)
        unfold valT
        rw [if_pos h5.2.2,Nat.testBit_or,hb,Bool.or_true]
      · intro i hi
        rw [Nat.testBit_two_pow,decide_eq_true_eq] at hi
        subst hi
        rw [decide_eq_true_eq,Nat.or_self]
end
theorem tripG_cons (a x:Int) (l:List Int):tripG a (x :: l)=(a,x,l) :: tripG a l:=rfl
theorem stepT_no {K:Int} {V C:Nat} {Fr:List Int→Nat} {a:Int} (h:¬ C.testBit a.toNat=true): ∀(l:List Int) (s:List Nat × Bool),(tripG a l).foldl (stepT K V C Fr) s=s
  | [],s=>rfl
  |x :: l,s=>by
    unfold tripG;rw [List.foldl_cons]
    have:stepT K V C Fr s (a,x,l)=s:=by unfold stepT;rw [if_neg (fun q=>h q.1)]
    rw [this];exact stepT_no h l s
section
variable (K N st:Int) (rs:List S41) (G:GOK K N st rs) (V C:Nat) (hV:V < 2 ^ 32) (hC32:C < 2 ^ 32) (Fr:List Int→Nat) (hFr: ∀l,Fr l < 2 ^ K.toNat) (hC: ∀e∈edgesG rs,C.testBit e.1.toNat=true→e.2≥K→C.testBit (e.2 - K).toNat=true)
variable (F:List Nat) (hF:F.length=N.toNat) (hFl: ∀s∈F,s < 2 ^ K.toNat) (hF3: ∀l:List Int,(∀x∈l,0≤x∧x < K + N)→bgin K V F l=Fr l)
include G hV hC32 hFr hC hF hFl hF3
theorem follows_l1 (T : List Nat) (hT : FOK2 K N st V C Fr rs T) (R : List Int) (h : Ev (fun k => Zp.l0 k (F.map fun n : Nat => (n : Int)) (V : Int) (C : Int) (((tripsG rs).foldl (stepT K V C Fr) (T, false)).1.map fun n : Nat => (n : Int)) ((tripsG rs).foldl (stepT K V C Fr) (T, false)).2 K N st rs) R) :
    Ev (fun k=>Zp.l1 k (F.map fun n:Nat=>(n:Int)) (V:Int) (C:Int) (T.map fun n:Nat=>(n:Int)) false rs (rs.length:Int) 0 K N st rs) R:=by
  have hK0:=G.K0;have hK1:=G.K1;have hN0:=G.N0;have hN1:=G.N1;have hlen:=G.len
  have h32:2 ^ (K.toNat + 1)≤2 ^ 31:=Nat.pow_le_pow_right (by omega) (by omega)
  refine Ev.loop (L:=fun k i (s:List Nat × Bool)=>Zp.l1 k (F.map fun n:Nat=>(n:Int)) (V:Int) (C:Int) (s.1.map fun n:Nat=>(n:Int)) s.2 rs (rs.length:Int) i K N st rs) (n:=rs.length) (fun i s=>FOK2 K N st V C Fr rs s.1∧(tripsG (rs.drop i.toNat)).foldl (stepT K V C Fr) s=(tripsG rs).foldl (stepT K V C Fr) (T,false)) ?_ ?_ 0 (T,false) (Int.le_refl _) (by omega) ⟨hT,rfl⟩
  · rintro s ⟨_,g⟩
    rw [Int.toNat_natCast,List.drop_length] at g
    have g:s=(tripsG rs).foldl (stepT K V C Fr) (T,false):=g
    refine Ev.step (fun k=>Zp.l1.eq_2 _ _ _ _ _ _ _ _ _ _ _ _ k) ?_
    simp (disch:=omega) only [if_neg (show ¬ ((rs.length:Nat):Int) < (rs.length:Nat) by omega)]
    rw [g];exact h
  · rintro i s h0 h1 ⟨g0,g⟩
    right
    have hm:=rule_mem h0 h1
    have hsubt: ∀t∈tripG (Zb rs i).f0 (Zb rs i).f1,t∈tripsG rs:=by
      intro t ht
      unfold tripsG
      rw [List.mem_flatMap]
      exact⟨_,hm,ht⟩
    rw [rd_rule h0 h1,tripsG_cons,List.foldl_append] at g
    have hrl:=G.rl _ hm
    obtain⟨r,hr⟩ : ∃r,Zb rs i=r:=⟨_,rfl⟩
    rw [hr] at hm hrl g hsubt
    have hr0:=G.r0 r hm;have hr1:=G.r1 r hm;have hx0:=G.x0 r hm;have hx1:=G.x1 r hm
    have P:=foldT_ok K N st rs G V C Fr hFr hC (tripG r.f0 r.f1) s hsubt g0
    refine⟨(tripG r.f0 r.f1).foldl (stepT K V C Fr) s,⟨P.1,g⟩,?_⟩
    intro h2
    obtain⟨y,hy⟩:=Int.eq_ofNat_of_zero_le hr0
    have hb:=bit_shr C y hC32 (by omega)
    have hb0:(Go.bits .and .u32 (shr .u32 (C:Int) (y:Int)) 1=0)↔¬ C.testBit y=true:=by
      have:=bit_shr0 C y hC32 (by omega)
      rw [Bool.eq_iff_iff,beq_iff_eq] at this
      rw [this];simp
    refine Ev.step (fun k=>Zp.l1.eq_2 _ _ _ _ _ _ _ _ _ _ _ _ k) ?_
    simp (disch:=omega) only [if_pos,hr,w64]
    by_cases c:C.testBit y=true
    · have hcy:C.testBit r.f0.toNat=true:=by rw [hy,Int.toNat_natCast];exact c
      rw [hy]
      refine Ev.neg (fun q=>hb0.1 q c) ?_
      rw [← hy]
      refine Ev.loop (L:=fun k j (s:List Nat × Bool)=>Zp.l2 k (F.map fun n:Nat=>(n:Int)) (V:Int) (C:Int) (s.1.map fun n:Nat=>(n:Int)) s.2 rs (rs.length:Int) i r.f1 (r.f1.length:Int) j K N st rs r.f0 r.f1) (n:=r.f1.length) (fun j u=>FOK2 K N st V C Fr rs u.1∧(tripG r.f0 (r.f1.drop j.toNat)).foldl (stepT K V C Fr) u=(tripG r.f0 r.f1).foldl (stepT K V C Fr) s∧∀t∈tripG r.f0 (r.f1.drop j.toNat),t∈tripsG rs) ?_ ?_ 0 s (Int.le_refl _) (by omega) ⟨g0,rfl,hsubt⟩
      · rintro u ⟨f0,f1,_⟩
        rw [Int.toNat_natCast,List.drop_length] at f1
        have f1:u=(tripG r.f0 r.f1).foldl (stepT K V C Fr) s:=f1
        refine Ev.step (fun k=>Zp.l2.eq_2 _ _ _ _ _ _ _ _ _ _ _ _ _ _ _ _ _ k) ?_
        refine Ev.neg (by omega) ?_
        rw [f1,w64 (by omega) (by omega)];exact h2
      · rintro j u h3 h4 ⟨f0,f1,f2⟩
        right
        have hx:=rd_mem h3 h4
        have hy0:=hx0 _ hx
        have hy1:=hx1 _ hx
        rw [rd_cons h3 h4,tripG_cons] at f1 f2
        rw [List.foldl_cons] at f1
        have ht:=f2 _ (List.mem_cons_self ..)
        refine⟨stepT K V C Fr u (r.f0,rd r.f1 j,r.f1.drop (j + 1).toNat),⟨fok2_step K N st rs G V C Fr hFr hC f0 ht,f1,fun t q=>f2 t (List.mem_cons_of_mem _ q)⟩,?_⟩
        intro h5
        obtain⟨T1,c1⟩:=u
        have hTl:T1.length=N.toNat:=f0.len
        have hTlt: ∀s∈T1,s < 2 ^ (K.toNat + 1):=f0.lt
        refine Ev.step (fun k=>Zp.l2.eq_2 _ _ _ _ _ _ _ _ _ _ _ _ _ _ _ _ _ k) ?_
        rw [w64 (show -9223372036854775808≤j + 1 by omega) (by omega)]
        refine Ev.pos h4 (Ev.pos h3 (Ev.pos h4 ?_))
        by_cases c2:rd r.f1 j < K
        · have e : stepT K V C Fr (T1, c1) (r.f0, rd r.f1 j, r.f1.drop (j + 1).toNat) = (T1, c1) := by
            unfold stepT;rw [if_neg (fun q=>by have:=q.2;simp only at this;omega)]
          rw [e] at h5
          exact Ev.pos c2 h5
        · have e : stepT K V C Fr (T1, c1) (r.f0, rd r.f1 j, r.f1.drop (j + 1).toNat) = (T1.set (rd r.f1 j - K).toNat (T1.getD (rd r.f1 j - K).toNat 0 ||| valT K V Fr T1 (r.f0, rd r.f1 j, r.f1.drop (j + 1).toNat)), c1 || decide (T1.getD (rd r.f1 j - K).toNat 0 ||| valT K V Fr T1 (r.f0, rd r.f1 j, r.f1.drop (j + 1).toNat) ≠ T1.getD (rd r.f1 j - K).toNat 0)) := by
            unfold stepT;rw [if_pos ⟨hcy,by show rd r.f1 j≥K;omega⟩]
          rw [e] at h5
          have hrest: ∀x∈r.f1.drop (j + 1).toNat,0≤x∧x < K + N:=fun x hx=>⟨hx0 x (List.mem_of_mem_drop hx),hx1 x (List.mem_of_mem_drop hx)⟩
          have hrl2:(r.f1.drop (j + 1).toNat).length≤1000:=by rw [List.length_drop];omega
          have hev:=begin_ev K N st rs G V hV F hF hFl (r.f1.drop (j + 1).toNat) hrest hrl2
          rw [hF3 _ hrest] at hev
          have hval:=valT_lt K N st rs G V Fr hFr hTlt (r.f0,rd r.f1 j,r.f1.drop (j + 1).toNat)
          have hg1:=getD_lt hTlt (Nat.two_pow_pos _) (rd r.f1 j - K).toNat
          have hg2:=getD_lt hTlt (Nat.two_pow_pos _) r.f0.toNat
          have hfr:=hFr (r.f1.drop (j + 1).toNat)
          have hfr2:Fr (r.f1.drop (j + 1).toNat) < 2 ^ (K.toNat + 1):=Nat.lt_of_lt_of_le hfr (Nat.pow_le_pow_right (by omega) (by omega))
          have hlm:((T1.map fun n:Nat=>(n:Int)).length:Nat)=N.toNat:=by rw [List.length_map];exact hTl
          refine Ev.neg c2 (Ev.pos (by omega) (Ev.pos (by omega) ?_))
          refine Ev.bind hev ?_
          rw [w64 (show -9223372036854775808≤rd r.f1 j - K by omega) (by omega)]
          simp only [rdF]
          by_cases c3:allV K V (r.f1.drop (j + 1).toNat)=true
          · have ev : valT K V Fr T1 (r.f0, rd r.f1 j, r.f1.drop (j + 1).toNat) = Fr (r.f1.drop (j + 1).toNat) ||| T1.getD r.f0.toNat 0 := by
              unfold valT;simp only [c3,if_true]
            rw [ev] at h5 hval
            refine Ev.pos c3 (Ev.pos (by omega) (Ev.pos (by omega) ?_))
            rw [u32_or (Fr (r.f1.drop (j + 1).toNat)) (T1.getD r.f0.toNat 0) (by omega) (by omega)]
            rw [u32_or _ _ (by omega) (by omega),setF,andNot_ne _ _ (by omega) (by omega)]
            cases c1 with
            |true=>refine Ev.pos rfl (Ev.pos (by omega) (Ev.pos (by omega) ?_));simpa only [Bool.true_or] using h5
            |false=>refine Ev.neg (by simp) (Ev.pos (by omega) (Ev.pos (by omega) ?_));simpa only [Bool.false_or] using h5
          · have ev : valT K V Fr T1 (r.f0, rd r.f1 j, r.f1.drop (j + 1).toNat) = Fr (r.f1.drop (j + 1).toNat) := by
              unfold valT;simp only [if_neg c3,Nat.or_zero]
            rw [ev] at h5 hval
            refine Ev.neg c3 ?_
            rw [u32_or _ _ (by omega) (by omega),setF,andNot_ne _ _ (by omega) (by omega)]
            cases c1 with
            |true=>refine Ev.pos rfl (Ev.pos (by omega) (Ev.pos (by omega) ?_));simpa only [Bool.true_or] using h5
            |false=>refine Ev.neg (by simp) (Ev.pos (by omega) (Ev.pos (by omega) ?_));simpa only [Bool.false_or] using h5
    · rw [stepT_no (by rw [hy,Int.toNat_natCast];exact c)] at h2
      rw [hy]
      refine Ev.pos (hb0.2 c) ?_
      exact h2
theorem follows_l0 (d : Nat) : ∀ (T : List Nat), FOK2 K N st V C Fr rs T → N.toNat * (K.toNat + 1) < tot (K.toNat + 1) T + d → ∃ T' : List Nat, FOK2 K N st V C Fr rs T' ∧ (∀ t ∈ tripsG rs, C.testBit t.1.toNat = true → t.2.1 ≥ K → T'.getD (t.2.1 - K).toNat 0 ||| valT K V Fr T' t = T'.getD (t.2.1 - K).toNat 0) ∧
    Ev (fun k=>Zp.l0 k (F.map fun n:Nat=>(n:Int)) (V:Int) (C:Int) (T.map fun n:Nat=>(n:Int)) true K N st rs) (T'.map fun n:Nat=>(n:Int)):=by
  induction d with
  |zero=>
    intro T hT h
    have:=tot_le (K.toNat + 1) T
    rw [hT.len] at this;omega
  |succ d ih=>
    intro T hT h
    have P:=foldT_ok K N st rs G V C Fr hFr hC (tripsG rs) (T,false) (fun r hr=>hr) hT
    have go: ∀R,Ev (fun k=>Zp.l0 k (F.map fun n:Nat=>(n:Int)) (V:Int) (C:Int) (((tripsG rs).foldl (stepT K V C Fr) (T,false)).1.map fun n:Nat=>(n:Int)) ((tripsG rs).foldl (stepT K V C Fr) (T,false)).2 K N st rs) R→Ev (fun k=>Zp.l0 k (F.map fun n:Nat=>(n:Int)) (V:Int) (C:Int) (T.map fun n:Nat=>(n:Int)) true K N st rs) R:=by
      intro R hR
      refine Ev.step (fun k=>Zp.l0.eq_2 _ _ _ _ _ _ _ _ _ k) ?_
      simp only [if_true]
      exact follows_l1 K N st rs G V C hV hC32 Fr hFr hC F hF hFl hF3 T hT R hR
    cases e:((tripsG rs).foldl (stepT K V C Fr) (T,false)).2 with
    |true=>
      rcases P.2.2.1 e with q|q
      · cases q
      · obtain⟨T',h1,h2,h3⟩:=ih _ P.1 (by have q:tot (K.toNat + 1) T < _:=q;omega)
        exact⟨T',h1,h2,go _ (by rw [e];exact h3)⟩
    |false=>
      obtain⟨_,h1,h2⟩:=P.2.2.2 e
      refine⟨T,hT,h2,go _ ?_⟩
      rw [e,h1]
      refine Ev.step (fun k=>Zp.l0.eq_2 _ _ _ _ _ _ _ _ _ k) ?_
      simp only [Bool.false_eq_true,if_false];exact Ev.now _
theorem follows_loop (hst : C.testBit st.toNat = true) : ∃ T : List Nat, T.length = N.toNat ∧ (∀ s ∈ T, s < 2 ^ (K.toNat + 1)) ∧ (∀ a, a < N.toNat → (C.testBit a = false → T.getD a 0 = 0) ∧ ∀ b, (T.getD a 0).testBit b = true ↔ (C.testBit a = true ∧ ∃ u : Nat, (reachE 0 N (edgesT K V C (tripsG rs)) (2 ^ a)).testBit u = true ∧ baseB K st C Fr rs u b)) ∧
    Ev (fun k=>Zp.l0 k (F.map fun n:Nat=>(n:Int)) (V:Int) (C:Int) ((List.replicate N.toNat (0:Int)).set st.toNat (shl .u32 1 K)) true K N st rs) (T.map fun n:Nat=>(n:Int)):=by
  have hK0:=G.K0;have hK1:=G.K1;have hN0:=G.N0;have hN1:=G.N1;have s0:=G.s0;have s1:=G.s1
  have T0:FOK2 K N st V C Fr rs ((List.replicate N.toNat 0).set st.toNat (2 ^ K.toNat)):=by
    refine⟨by simp,?_,?_,?_⟩
    · intro s hs
      rcases List.mem_or_eq_of_mem_set hs with q|q
      · rw [List.eq_of_mem_replicate q];exact Nat.two_pow_pos _
      · rw [q];exact Nat.pow_lt_pow_right (by omega) (by omega)
    · rw [getD_set _ _ _ _ (by simp;omega),if_pos rfl,Nat.testBit_two_pow_self]
    · intro i hi b hb
      rw [getD_set _ _ _ _ (by simp;omega)] at hb
      split at hb
      · rename_i e
        rw [Nat.testBit_two_pow,decide_eq_true_eq] at hb
        subst e
        exact⟨hst,st.toNat,fun D _ q=>q,.inl ⟨by omega,hb.symm⟩⟩
      · rw [List.getD_eq_getElem?_getD,List.getElem?_replicate,if_pos hi] at hb
        simp at hb
  obtain⟨T,h1,h2,h3⟩:=follows_l0 K N st rs G V C hV hC32 Fr hFr hC F hF hFl hF3 (N.toNat * (K.toNat + 1) + 1) _ T0 (by omega)
  refine⟨T,h1.len,h1.lt,fun a ha=>follow_eq K N st rs G V C Fr hFr hC h1 h2 a ha,?_⟩
  obtain⟨κ,hκ⟩:=Int.eq_ofNat_of_zero_le (show 0≤K by omega)
  have e:(List.replicate N.toNat (0:Int)).set st.toNat (shl .u32 1 K)=((List.replicate N.toNat 0).set st.toNat (2 ^ K.toNat)).map fun n:Nat=>(n:Int):=by
    rw [List.map_set,List.map_replicate]
    congr 1
    rw [hκ,Int.toNat_natCast];exact shl1 κ (by omega)
  rw [e];exact h3
end
def addQT (K u:Int) (V C:Nat) (q:List Int) (t:Int × Int × List Int):List Int:=if C.testBit t.1.toNat=true∧t.2.1=K + u∧allV K V t.2.2=true∧¬ t.1∈q then q++[t.1] else q
def updT (K u:Int) (C:Nat) (Fr:List Int→Nat) (o:Nat) (t:Int × Int × List Int):Nat:=if C.testBit t.1.toNat=true∧t.2.1=K + u then o ||| Fr t.2.2 else o
def stepQ (K u:Int) (V C:Nat) (Fr:List Int→Nat) (s:List Int × Nat) (t:Int × Int × List Int):List Int × Nat:=(addQT K u V C s.1 t,updT K u C Fr s.2 t)
theorem stepQ_fold (K u:Int) (V C:Nat) (Fr:List Int→Nat): ∀(L:List (Int × Int × List Int)) (s:List Int × Nat),L.foldl (stepQ K u V C Fr) s=(L.foldl (addQT K u V C) s.1,L.foldl (updT K u C Fr) s.2)
  | [],s=>rfl
  |t :: L,s=>by rw [List.foldl_cons,List.foldl_cons,List.foldl_cons,stepQ_fold K u V C Fr L];rfl
theorem stepQ_no {K u:Int} {V C:Nat} {Fr:List Int→Nat} {a:Int} (h:¬ C.testBit a.toNat=true): ∀(l:List Int) (s:List Int × Nat),(tripG a l).foldl (stepQ K u V C Fr) s=s
  | [],s=>rfl
  |x :: l,s=>by
    rw [tripG_cons,List.foldl_cons]
    have:stepQ K u V C Fr s (a,x,l)=s:=by
      unfold stepQ addQT updT;rw [if_neg (fun q=>h q.1),if_neg (fun q=>h q.1)]
    rw [this];exact stepQ_no h l s
theorem addQT_pre (K u:Int) (V C:Nat) (q:List Int) (t:Int × Int × List Int): ∃v,addQT K u V C q t=q++v:=by
  unfold addQT
  split
  · exact⟨_,rfl⟩
  · exact⟨[],by simp⟩
theorem foldQT_eq (K u h:Int) (V C:Nat) (h0:0≤h) (hu:0≤u): ∀(L:List (Int × Int × List Int)) (q:List Int),(∀t∈L,0≤t.1)→h < q.length→rd q h=u→L.foldl (addQT K u V C) q=(edgesT K V C L).foldl (addQ 0 h) q
  | [],q,_,_,_=>rfl
  |t :: L,q,hL,h1,h2=>by
    rw [List.foldl_cons]
    have ht:=hL t (by simp)
    obtain⟨v,hv⟩:=addQT_pre K u V C q t
    have ih:=foldQT_eq K u h V C h0 hu L (addQT K u V C q t) (fun x hx=>hL x (by simp [hx])) (by rw [hv,List.length_append];omega) (by rw [hv,rd_app q v h h0 h1];exact h2)
    rw [ih]
    unfold edgesT
    by_cases c:condT K V C t=true
    · rw [List.filter_cons_of_pos c,List.map_cons,List.foldl_cons]
      congr 1
      unfold condT at c
      simp only [Bool.and_eq_true,decide_eq_true_eq] at c
      unfold addQT addQ
      simp only [c.1,c.2.2,true_and,h2,Int.sub_zero]
      by_cases d:t.2.1=K + u
      · by_cases e:t.1∈q
        · rw [if_neg (fun z=>z.2 e),if_neg (fun z=>z.2.2 e)]
        · rw [if_pos ⟨d,e⟩,if_pos ⟨by omega,ht,e⟩]
      · rw [if_neg (fun z=>d z.1),if_neg (fun z=>d (by have:=z.1;omega))]
    · rw [List.filter_cons_of_neg c]
      congr 1
      unfold addQT
      rw [if_neg]
      rintro⟨a,b,d,_⟩
      apply c
      unfold condT
      rw [a,d,decide_eq_true (show t.2.1≥K by omega)];rfl
theorem updT_bit (K u:Int) (C:Nat) (Fr:List Int→Nat) (b:Nat): ∀(L:List (Int × Int × List Int)) (o:Nat),(L.foldl (updT K u C Fr) o).testBit b=true↔o.testBit b=true∨∃t∈L,C.testBit t.1.toNat=true∧t.2.1=K + u∧(Fr t.2.2).testBit b=true
  | [],o=>by simp
  |t :: L,o=>by
    rw [List.foldl_cons,updT_bit K u C Fr b L]
    unfold updT
    by_cases c:C.testBit t.1.toNat=true∧t.2.1=K + u
    · rw [if_pos c,Nat.testBit_or,Bool.or_eq_true]
      constructor
      · rintro((h|h)|⟨x,hx,h⟩)
        · exact .inl h
        · exact .inr ⟨t,by simp,c.1,c.2,h⟩
        · exact .inr ⟨x,List.mem_cons_of_mem _ hx,h⟩
      · rintro(h|⟨x,hx,h⟩)
        · exact .inl (.inl h)
        · rcases List.mem_cons.1 hx with rfl|hx
          · exact .inl (.inr h.2.2)
          · exact .inr ⟨x,hx,h⟩
    · rw [if_neg c]
      constructor
      · rintro(h|⟨x,hx,h⟩)
        · exact .inl h
        · exact .inr ⟨x,List.mem_cons_of_mem _ hx,h⟩
      · rintro(h|⟨x,hx,h⟩)
        · exact .inl h
        · rcases List.mem_cons.1 hx with rfl|hx
          · exact absurd ⟨h.1,h.2.1⟩ c
          · exact .inr ⟨x,hx,h⟩
def updU (K st:Int) (C:Nat) (Fr:List Int→Nat) (rs:List S41) (o:Nat) (u:Int):Nat:=(tripsG rs).foldl (updT K u C Fr) (if u=st then o ||| 2 ^ K.toNat else o)
theorem updU_bit {K st:Int} {C:Nat} {Fr:List Int→Nat} {rs:List S41} {o:Nat} {u:Int} (hu:0≤u) (b:Nat):(updU K st C Fr rs o u).testBit b=true↔o.testBit b=true∨baseB K st C Fr rs u.toNat b:=by
  unfold updU baseB
  rw [updT_bit,Int.toNat_of_nonneg hu]
  by_cases c:u=st
  · rw [if_pos c,Nat.testBit_or,Nat.testBit_two_pow,Bool.or_eq_true,decide_eq_true_eq]
    constructor
    · rintro((h|h)|h)
      · exact .inl h
      · exact .inr (.inl ⟨c,h.symm⟩)
      · exact .inr (.inr h)
    · rintro(h|⟨_,h⟩|h)
      · exact .inl (.inl h)
      · exact .inl (.inr h.symm)
      · exact .inr h
  · rw [if_neg c]
    constructor
    · rintro(h|h)
      · exact .inl h
      · exact .inr (.inr h)
    · rintro(h|⟨h,_⟩|h)
      · exact .inl h
      · exact absurd h c
      · exact .inr h
theorem foldU_bit {K st:Int} {C:Nat} {Fr:List Int→Nat} {rs:List S41} (b:Nat): ∀(q:List Int) (o:Nat),(∀y∈q,0≤y)→((q.foldl (updU K st C Fr rs) o).testBit b=true↔o.testBit b=true∨∃y∈q,baseB K st C Fr rs y.toNat b)
  | [],o,_=>by simp
  |y :: q,o,h=>by
    rw [List.foldl_cons,foldU_bit b q _ (fun z hz=>h z (by simp [hz])),updU_bit (h y (by simp))]
    constructor
    · rintro((p|p)|⟨z,hz,p⟩)
      · exact .inl p
      · exact .inr ⟨y,by simp,p⟩
      · exact .inr ⟨z,List.mem_cons_of_mem _ hz,p⟩
    · rintro(p|⟨z,hz,p⟩)
      · exact .inl (.inl p)
      · rcases List.mem_cons.1 hz with rfl|hz
        · exact .inl (.inr p)
        · exact .inr ⟨z,hz,p⟩
theorem updT_lt {K u:Int} {C n:Nat} {Fr:List Int→Nat} (hFr: ∀l,Fr l < 2 ^ n) {o:Nat} (h:o < 2 ^ n) (t:Int × Int × List Int):updT K u C Fr o t < 2 ^ n:=by
  unfold updT
  split
  · exact Nat.or_lt_two_pow h (hFr _)
  · exact h
theorem foldT_lt {K u:Int} {C n:Nat} {Fr:List Int→Nat} (hFr: ∀l,Fr l < 2 ^ n): ∀(L:List (Int × Int × List Int)) (o:Nat),o < 2 ^ n→L.foldl (updT K u C Fr) o < 2 ^ n
  | [],_,h=>h
  |t :: L,o,h=>by rw [List.foldl_cons];exact foldT_lt hFr L _ (updT_lt hFr h t)
theorem updU_lt {K st u:Int} {C:Nat} {Fr:List Int→Nat} {rs:List S41} (hFr: ∀l,Fr l < 2 ^ (K.toNat + 1)) {o:Nat} (h:o < 2 ^ (K.toNat + 1)):updU K st C Fr rs o u < 2 ^ (K.toNat + 1):=by
  unfold updU
  refine foldT_lt hFr _ _ ?_
  split
  · exact Nat.or_lt_two_pow h (Nat.pow_lt_pow_right (by omega) (by omega))
  · exact h
theorem foldU_lt {K st:Int} {C:Nat} {Fr:List Int→Nat} {rs:List S41} (hFr: ∀l,Fr l < 2 ^ (K.toNat + 1)): ∀(q:List Int) (o:Nat),o < 2 ^ (K.toNat + 1)→q.foldl (updU K st C Fr rs) o < 2 ^ (K.toNat + 1)
  | [],_,h=>h
  |y :: q,o,h=>by rw [List.foldl_cons];exact foldU_lt hFr q _ (updU_lt hFr h)
theorem firstR_lt (K N:Int) (V:Nat) (rs:List S41) (l:List Int):firstR K N V rs l < 2 ^ K.toNat:=maskB_lt _ _
section
variable (K N st:Int) (rs:List S41) (G:GOK K N st rs)
include G
theorem gone_ev (l:List Int) (hl: ∀x∈l,0≤x∧x < K + N) (hlen:l.length≤1000):Ev (fun k=>Zq1.f k K N st rs l) (allV K (voidG K N rs) l):=by
  have hK0:=G.K0;have hK1:=G.K1;have hN0:=G.N0;have hN1:=G.N1
  have hV:=void_lt K N st rs G
  have hn:=refNames_ev K N st rs G true
  unfold Zq1.f
  refine Ev.bind hn ?_
  have ev:leastG K N (!true) rs=voidG K N rs:=rfl
  rw [ev]
  generalize voidG K N rs=V at hV
  refine Ev.loop (σ:=Unit) (L:=fun k i _=>Zq1.l0 k (V:Int) l (l.length:Int) i K N st rs) (n:=l.length) (fun i _=>allV K V (l.drop i.toNat)=allV K V l) ?_ ?_ 0 () (Int.le_refl _) (by omega) rfl
  · intro _ g
    rw [Int.toNat_natCast,List.drop_length] at g
    have g:true=allV K V l:=g
    refine Ev.step (fun k=>Zq1.l0.eq_2 _ _ _ _ _ _ _ _ k) ?_
    simp (disch:=omega) only [if_neg (show ¬ ((l.length:Nat):Int) < (l.length:Nat) by omega)]
    rw [← g];exact Ev.now _
  · intro i _ h0 h1 g
    have hx:=hl _ (rd_mem h0 h1)
    rw [rd_cons h0 h1] at g
    unfold allV at g
    rw [List.all_cons] at g
    by_cases c:rd l i < K
    · left
      refine Ev.step (fun k=>Zq1.l0.eq_2 _ _ _ _ _ _ _ _ k) ?_
      simp (disch:=omega) only [if_pos,if_pos c]
      rw [decide_eq_false (show ¬ rd l i≥K by omega)] at g
      unfold allV;rw [← g];exact Ev.now _
    · obtain⟨y,hy⟩:=Int.eq_ofNat_of_zero_le (show 0≤rd l i - K by omega)
      rw [decide_eq_true (show rd l i≥K by omega),hy,Int.toNat_natCast] at g
      by_cases c2:V.testBit y=true
      · right
        rw [c2] at g
        refine⟨(),g,?_⟩
        intro h
        refine Ev.step (fun k=>Zq1.l0.eq_2 _ _ _ _ _ _ _ _ k) ?_
        simp (disch:=omega) only [if_pos,if_neg c,w64,hy,Bit_eq V y hV (by omega),Option.bind_some,if_pos c2];exact h
      · left
        refine Ev.step (fun k=>Zq1.l0.eq_2 _ _ _ _ _ _ _ _ k) ?_
        simp (disch:=omega) only [if_pos,if_neg c,w64,hy,Bit_eq V y hV (by omega),Option.bind_some,if_neg c2]
        rw [show V.testBit y=false by simpa using c2] at g
        unfold allV;rw [← g];exact Ev.now _
theorem rfollow_l1 (C : Nat) (hC : C < 2 ^ 32) (h u : Int) (h0 : 0 ≤ h) (hu : 0 ≤ u) (hu2 : u < N) (q0 : List Int) (o0 : Nat) (ho0 : o0 < 2 ^ (K.toNat + 1)) (hq0 : QOK N q0) (hl : h < q0.length) (hr0 : rd q0 h = u) (R : Int)
    (hk:Ev (fun k=>Zo.l0 k (C:Int) ((tripsG rs).foldl (stepQ K u (voidG K N rs) C (firstR K N (voidG K N rs) rs)) (q0,o0)).1 (((tripsG rs).foldl (stepQ K u (voidG K N rs) C (firstR K N (voidG K N rs) rs)) (q0,o0)).2:Int) (h + 1) K N st rs) R):
    Ev (fun k=>Zo.l1 k (C:Int) q0 (o0:Int) h rs (rs.length:Int) 0 K N st rs) R:=by
  have hlen:=G.len;have hN1:=G.N1;have hN0:=G.N0;have hK0:=G.K0;have hK1:=G.K1
  have hFr:=firstR_lt K N (voidG K N rs) rs
  have hFr1: ∀l,firstR K N (voidG K N rs) rs l < 2 ^ (K.toNat + 1):=fun l=>Nat.lt_of_lt_of_le (hFr l) (Nat.pow_le_pow_right (by omega) (by omega))
  have h32:2 ^ (K.toNat + 1)≤2 ^ 31:=Nat.pow_le_pow_right (by omega) (by omega)
  have evF:=fun l hl hlen=>rfirsts_ev K N st rs G l hl hlen
  have evG:=fun l hl hlen=>gone_ev K N st rs G l hl hlen
  generalize firstR K N (voidG K N rs) rs=Fr at hk hFr hFr1 evF
  generalize voidG K N rs=V at hk evG
  have addok: ∀(q:List Int) (t:Int × Int × List Int),QOK N q→0≤t.1→t.1 < N→QOK N (addQT K u V C q t):=by
    intro q t H a b
    unfold addQT
    split
    · rename_i c;exact H.put a b c.2.2.2
    · exact H
  refine Ev.loop (L:=fun k i (s:List Int × Nat)=>Zo.l1 k (C:Int) s.1 (s.2:Int) h rs (rs.length:Int) i K N st rs) (n:=rs.length) (fun i s=>QOK N s.1∧h < s.1.length∧rd s.1 h=u∧s.2 < 2 ^ (K.toNat + 1)∧(tripsG (rs.drop i.toNat)).foldl (stepQ K u V C Fr) s=(tripsG rs).foldl (stepQ K u V C Fr) (q0,o0)) ?_ ?_ 0 (q0,o0) (Int.le_refl _) (by omega) ⟨hq0,hl,hr0,ho0,rfl⟩
  · rintro s ⟨g1,g2,_,_,g3⟩
    rw [Int.toNat_natCast,List.drop_length] at g3
    have g3:s=(tripsG rs).foldl (stepQ K u V C Fr) (q0,o0):=g3
    have hql:=g1.len
    refine Ev.step (fun k=>Zo.l1.eq_2 _ _ _ _ _ _ _ _ _ _ _ k) ?_
    refine Ev.neg (by omega) ?_
    rw [g3,w64 (by omega) (by omega)];exact hk
  · rintro i s h2 h3 ⟨g1,g2,g4,g5,g3⟩
    right
    have hm:=rule_mem h2 h3
    rw [rd_rule h2 h3,tripsG_cons,List.foldl_append] at g3
    have hrl:=G.rl _ hm
    obtain⟨r,hr⟩ : ∃r,Zb rs i=r:=⟨_,rfl⟩
    rw [hr] at hm hrl g3
    have r0:=G.r0 r hm;have r1:=G.r1 r hm;have hx0:=G.x0 r hm;have hx1:=G.x1 r hm
    obtain⟨y,hy⟩:=Int.eq_ofNat_of_zero_le r0
    have fold_inv: ∀(L:List Int) (s:List Int × Nat),QOK N s.1→h < s.1.length→rd s.1 h=u→s.2 < 2 ^ (K.toNat + 1)→QOK N ((tripG r.f0 L).foldl (stepQ K u V C Fr) s).1∧h < ((tripG r.f0 L).foldl (stepQ K u V C Fr) s).1.length∧rd ((tripG r.f0 L).foldl (stepQ K u V C Fr) s).1 h=u∧((tripG r.f0 L).foldl (stepQ K u V C Fr) s).2 < 2 ^ (K.toNat + 1):=by
      intro L
      induction L with
      |nil=>intro s a b c d;exact⟨a,b,c,d⟩
      |cons x L ih=>
        intro s a b c d
        rw [tripG_cons,List.foldl_cons]
        obtain⟨v,hv⟩:=addQT_pre K u V C s.1 (r.f0,x,L)
        refine ih _ (addok _ _ a r0 r1) ?_ ?_ (updT_lt hFr1 d _)
        · show h < (addQT K u V C s.1 (r.f0,x,L)).length
          rw [hv,List.length_append];omega
        · show rd (addQT K u V C s.1 (r.f0,x,L)) h=u
          rw [hv,rd_app s.1 v h h0 b];exact c
    have FI:=fold_inv r.f1 s g1 g2 g4 g5
    refine⟨(tripG r.f0 r.f1).foldl (stepQ K u V C Fr) s,⟨FI.1,FI.2.1,FI.2.2.1,FI.2.2.2,g3⟩,?_⟩
    intro h4
    refine Ev.step (fun k=>Zo.l1.eq_2 _ _ _ _ _ _ _ _ _ _ _ k) ?_
    rw [w64 (show -9223372036854775808≤i + 1 by omega) (by omega),hr]
    refine Ev.pos h3 (Ev.pos h2 (Ev.pos h3 ?_))
    have eb:Ze2.f (C:Int) r.f0=some (C.testBit y):=by rw [hy];exact Bit_eq C y hC (by omega)
    rw [eb]
    simp only [Option.bind_some]
    by_cases c:C.testBit y=true
    · have hcy:C.testBit r.f0.toNat=true:=by rw [hy,Int.toNat_natCast];exact c
      refine Ev.pos c ?_
      refine Ev.loop (L:=fun k j (s:List Int × Nat)=>Zo.l2 k (C:Int) s.1 (s.2:Int) h rs (rs.length:Int) i r.f1 (r.f1.length:Int) j K N st rs r.f0 r.f1) (n:=r.f1.length) (fun j z=>QOK N z.1∧h < z.1.length∧rd z.1 h=u∧z.2 < 2 ^ (K.toNat + 1)∧(tripG r.f0 (r.f1.drop j.toNat)).foldl (stepQ K u V C Fr) z=(tripG r.f0 r.f1).foldl (stepQ K u V C Fr) s) ?_ ?_ 0 s (Int.le_refl _) (by omega) ⟨g1,g2,g4,g5,rfl⟩
      · rintro z ⟨_,_,_,_,f⟩
        rw [Int.toNat_natCast,List.drop_length] at f
        have f:z=(tripG r.f0 r.f1).foldl (stepQ K u V C Fr) s:=f
        refine Ev.step (fun k=>Zo.l2.eq_2 _ _ _ _ _ _ _ _ _ _ _ _ _ _ _ _ k) ?_
        refine Ev.neg (by omega) ?_
        rw [f,w64 (by omega) (by omega)];exact h4
      · rintro j ⟨q,o⟩ h5 h6 ⟨f1,f2,f3,f4,f⟩
        right
        rw [rd_cons h5 h6,tripG_cons,List.foldl_cons] at f
        have hx:=rd_mem h5 h6
        have hy0:=hx0 _ hx
        have hy1:=hx1 _ hx
        have hql:=f1.len
        have hrest: ∀x∈r.f1.drop (j + 1).toNat,0≤x∧x < K + N:=fun x hx=>⟨hx0 x (List.mem_of_mem_drop hx),hx1 x (List.mem_of_mem_drop hx)⟩
        have hrl2:(r.f1.drop (j + 1).toNat).length≤1000:=by rw [List.length_drop];omega
        obtain⟨v,hv⟩:=addQT_pre K u V C q (r.f0,rd r.f1 j,r.f1.drop (j + 1).toNat)
        refine⟨stepQ K u V C Fr (q,o) (r.f0,rd r.f1 j,r.f1.drop (j + 1).toNat),⟨addok _ _ f1 r0 r1,?_,?_,updT_lt hFr1 f4 _,f⟩,?_⟩
        · show h < (addQT K u V C q (r.f0,rd r.f1 j,r.f1.drop (j + 1).toNat)).length
          have f2:h < q.length:=f2
          rw [hv,List.length_append];omega
        · show rd (addQT K u V C q (r.f0,rd r.f1 j,r.f1.drop (j + 1).toNat)) h=u
          rw [hv,rd_app q v h h0 f2];exact f3
        intro h7
        have f2:h < q.length:=f2
        have f3:rd q h=u:=f3
        have f4:o < 2 ^ (K.toNat + 1):=f4
        have hql:q.length≤N.toNat:=hql
        refine Ev.step (fun k=>Zo.l2.eq_2 _ _ _ _ _ _ _ _ _ _ _ _ _ _ _ _ k) ?_
        rw [w64 (show -9223372036854775808≤j + 1 by omega) (by omega)]
        refine Ev.pos h6 (Ev.pos h5 (Ev.pos h6 (Ev.pos h0 (Ev.pos f2 ?_))))
        rw [f3,w64 (show -9223372036854775808≤K + u by omega) (by omega)]
        by_cases d:rd r.f1 j=K + u
        · refine Ev.pos d (Ev.pos (by omega) (Ev.pos (by omega) ?_))
          simp only [Option.bind_some]
          have hfr:=hFr (r.f1.drop (j + 1).toNat)
          refine Ev.bind (evF _ hrest hrl2) (Ev.bind (evG _ hrest hrl2) ?_)
          have e2:updT K u C Fr o (r.f0,rd r.f1 j,r.f1.drop (j + 1).toNat)=o ||| Fr (r.f1.drop (j + 1).toNat):=by unfold updT;rw [if_pos ⟨hcy,d⟩]
          unfold stepQ at h7
          simp only [e2] at h7
          rw [u32_or o _ (by omega) (by have:=hFr1 (r.f1.drop (j + 1).toNat);omega)]
          by_cases a:allV K V (r.f1.drop (j + 1).toNat)=true
          · refine Ev.pos a ?_
            refine Ev.bind (has_ev q _ (by omega)) ?_
            by_cases m:r.f0∈q
            · have e1:addQT K u V C q (r.f0,rd r.f1 j,r.f1.drop (j + 1).toNat)=q:=by unfold addQT;rw [if_neg (fun z=>z.2.2.2 m)]
              rw [e1] at h7
              simp only [decide_eq_true m,if_true];exact h7
            · have e1:addQT K u V C q (r.f0,rd r.f1 j,r.f1.drop (j + 1).toNat)=q++[r.f0]:=by unfold addQT;rw [if_pos ⟨hcy,d,a,m⟩]
              rw [e1] at h7
              simp only [decide_eq_false m,Bool.false_eq_true,if_false]
              exact Ev.pos (by omega) h7
          · have e1:addQT K u V C q (r.f0,rd r.f1 j,r.f1.drop (j + 1).toNat)=q:=by unfold addQT;rw [if_neg (fun z=>a z.2.2.1)]
            rw [e1] at h7
            exact Ev.neg a h7
        · have e : stepQ K u V C Fr (q, o) (r.f0, rd r.f1 j, r.f1.drop (j + 1).toNat) = (q, o) := by
            unfold stepQ addQT updT
            rw [if_neg (fun z=>d z.2.1),if_neg (fun z=>d z.2)]
          rw [e] at h7
          exact Ev.neg d h7
    · rw [stepQ_no (by rw [hy,Int.toNat_natCast];exact c)] at h4
      exact Ev.neg c h4
theorem rfollow_ev (a T : Nat) (ha : a < N.toNat) (hT : T < 2 ^ (K.toNat + 1)) (hT0 : (comesG K N st rs).testBit a = false → T = 0)
    (hTb: ∀b,T.testBit b=true↔((comesG K N st rs).testBit a=true∧∃u:Nat,(reachE 0 N (edgesT K (voidG K N rs) (comesG K N st rs) (tripsG rs)) (2 ^ a)).testBit u=true∧baseB K st (comesG K N st rs) (firstR K N (voidG K N rs) rs) rs u b)):
    Ev (fun k=>Zo.f k K N st rs (a:Int)) (T:Int):=by
  have hlen:=G.len;have hN1:=G.N1;have hN0:=G.N0;have hK0:=G.K0;have hK1:=G.K1;have s0:=G.s0;have s1:=G.s1
  have hC:=lt32C K N st rs G (comes_lt K N st rs G)
  have hFr:=firstR_lt K N (voidG K N rs) rs
  have hFr1: ∀l,firstR K N (voidG K N rs) rs l < 2 ^ (K.toNat + 1):=fun l=>Nat.lt_of_lt_of_le (hFr l) (Nat.pow_le_pow_right (by omega) (by omega))
  have h32:2 ^ (K.toNat + 1)≤2 ^ 31:=Nat.pow_le_pow_right (by omega) (by omega)
  unfold Zo.f
  refine Ev.bind (rcomes_ev K N st rs G) ?_
  simp only [Bit_eq (comesG K N st rs) a hC (by omega),Option.bind_some]
  by_cases c:(comesG K N st rs).testBit a=true
  · refine Ev.pos c ?_
    have hE:=edgeT_ok K N st rs G (voidG K N rs) (comesG K N st rs) (firstR K N (voidG K N rs) rs) hFr
    have e0:((0:Nat):Int)=0:=rfl
    have hb:=bfs (σ:=Nat) (K:=0) (N:=N) (E:=edgesT K (voidG K N rs) (comesG K N st rs) (tripsG rs)) (S:=2 ^ a) hE hN0 (L:=fun k q h o=>Zo.l0 k ((comesG K N st rs:Nat):Int) q (o:Int) h K N st rs) (R:=(T:Int)) (updU K st (comesG K N st rs) (firstR K N (voidG K N rs) rs) rs) 0 ?_ ?_ [(a:Int)] ⟨by simp,by simp;omega⟩ ?_
    · rw [e0] at hb;exact hb
    · intro q hq he
      have hql:=hq.len
      refine Ev.step (fun k=>Zo.l0.eq_2 _ _ _ _ _ _ _ _ k) ?_
      refine Ev.neg (by omega) ?_
      have e:q.foldl (updU K st (comesG K N st rs) (firstR K N (voidG K N rs) rs) rs) 0=T:=by
        apply Nat.eq_of_testBit_eq
        intro b
        rw [Bool.eq_iff_iff,foldU_bit b q 0 (fun y hy=>(hq.rg y hy).1),hTb b,← he]
        constructor
        · rintro(p|⟨y,hy,p⟩)
          · simp at p
          · have hr:=hq.rg y hy
            refine⟨c,y.toNat,?_,p⟩
            rw [maskB_bit,decide_eq_true (by omega),Bool.true_and]
            unfold inQ;rw [Int.toNat_of_nonneg hr.1];exact decide_eq_true hy
        · rintro⟨_,u,p,r⟩
          rw [maskB_bit,Bool.and_eq_true] at p
          refine .inr ⟨(u:Int),of_decide_eq_true p.2,?_⟩
          rw [Int.toNat_natCast];exact r
      rw [e];exact Ev.now _
    · intro q h o h0 h1 hq hin ho hk
      have hql:=hq.len
      have hu:=hq.rg _ (rd_mem h0 h1)
      have holt:o < 2 ^ (K.toNat + 1):=by rw [ho];exact foldU_lt hFr1 _ _ (Nat.two_pow_pos _)
      have hq2:=foldQT_eq K (rd q h) h (voidG K N rs) (comesG K N st rs) h0 hu.1 (tripsG rs) q (fun t ht=>(trip_ok K N st rs G _ hFr ht).1) h1 rfl
      rw [← hq2] at hk
      refine Ev.step (fun k=>Zo.l0.eq_2 _ _ _ _ _ _ _ _ k) ?_
      refine Ev.pos h1 (Ev.pos h0 ?_)
      have go: ∀o1:Nat,o1 < 2 ^ (K.toNat + 1)→o1=(if rd q h=st then o ||| 2 ^ K.toNat else o)→Ev (fun k=>Zo.j1 k ((comesG K N st rs:Nat):Int) q (o1:Int) h K N st rs) (T:Int):=by
        intro o1 h2 h3
        refine Ev.step (fun k=>Zo.j1.eq_2 _ _ _ _ _ _ _ _ k) ?_
        refine rfollow_l1 K N st rs G _ hC h (rd q h) h0 hu.1 hu.2 q o1 h2 hq h1 rfl _ ?_
        rw [stepQ_fold]
        unfold updU at hk
        rw [← h3] at hk
        exact hk
      by_cases d:rd q h=st
      · refine Ev.pos d (Ev.pos (by rw [u64_id (by omega) (by omega)];omega) ?_)
        obtain⟨κ,hκ⟩:=Int.eq_ofNat_of_zero_le (show 0≤K by omega)
        rw [u64_id (by omega) (by omega)]
        have e1:Go.bits .or .u32 (o:Int) (shl .u32 1 K)=((o ||| 2 ^ K.toNat:Nat):Int):=by
          have e2:=bit_or o κ (by omega) (by omega)
          rw [hκ,Int.toNat_natCast];exact e2
        rw [e1]
        exact go _ (Nat.or_lt_two_pow holt (Nat.pow_lt_pow_right (by omega) (by omega))) (by rw [if_pos d])
      · exact Ev.neg d (go _ holt (by rw [if_neg d]))
    · apply Nat.eq_of_testBit_eq
      intro i
      rw [maskB_bit,Bool.eq_iff_iff,Nat.testBit_two_pow,decide_eq_true_eq,Bool.and_eq_true,decide_eq_true_eq]
      unfold inQ
      rw [decide_eq_true_eq,List.mem_singleton]
      omega
  · refine Ev.neg c ?_
    rw [hT0 (by simpa using c)];exact Ev.now _
end
theorem range_cons {n:Nat} {i:Int} (h0:0≤i) (h1:i < ((List.range n).length:Nat)):(List.range n).drop i.toNat=i.toNat :: (List.range n).drop (i + 1).toNat:=by
  have h:i.toNat < (List.range n).length:=by omega
  rw [List.drop_eq_getElem_cons h,List.getElem_range];congr 2;omega
def lkR (K N:Int) (rs:List S41) (T:List Nat) (r:S41):Nat:=firstR K N (voidG K N rs) rs r.f1 ||| (if allV K (voidG K N rs) r.f1=true then T.getD r.f0.toNat 0 else 0)
def badL (rs:List S41) (lk:S41→Nat) (i j:Nat):Bool:=decide ((Zb rs (j:Int)).f0=(Zb rs (i:Int)).f0) && !(decide (lk (Zb rs (i:Int)) &&& lk (Zb rs (j:Int))=0))
def badR (rs:List S41) (lk:S41→Nat) (i:Nat):Bool:=(List.range i).any (badL rs lk i)
def clearR (rs:List S41) (lk:S41→Nat):Bool:=if(List.range rs.length).any (badR rs lk)=true then false else true
theorem and0 (a b:Nat) (ha:a < 2 ^ 32) (hb:b < 2 ^ 32):(Go.bits .and .u32 (a:Int) (b:Int)=0)↔a &&& b=0:=by
  rw [u32_and a b ha hb]
  constructor
  · intro h;omega
  · intro h;rw [h];rfl
section
variable (K N st:Int) (rs:List S41) (G:GOK K N st rs)
include G
theorem distinct_ev (lk:S41→Nat) (hlk: ∀r,lk r < 2 ^ 32):Ev (fun k=>Zo1.f k K N st rs ((rs.map lk).map fun n:Nat=>(n:Int))) (clearR rs lk):=by
  have hlen:=G.len
  have hrd: ∀i:Int,0≤i→i < rs.length→rd ((rs.map lk).map fun n:Nat=>(n:Int)) i=((lk (Zb rs i):Nat):Int):=by
    intro i h0 h1
    have hi:i.toNat < rs.length:=by omega
    rw [rdF]
    simp [List.getD_eq_getElem?_getD,Zb,List.getElem?_eq_getElem hi]
  have hll:(((rs.map lk).map fun n:Nat=>(n:Int)).length:Nat)=rs.length:=by simp
  unfold Zo1.f clearR
  generalize (rs.map lk).map (fun n:Nat=>(n:Int))=Lk at hrd hll
  have hN:(((List.range rs.length).length:Nat):Int)=(rs.length:Nat):=by rw [List.length_range]
  refine Ev.firstBad (L:=fun k i=>Zo1.l0 k Lk rs (rs.length:Int) i K N st rs) (rdf:=fun i=>i.toNat) (l:=List.range rs.length) (fun i h0 h1=>range_cons h0 h1) ?_ ?_ ?_
  · intro _
    rw [hN]
    refine Ev.step (fun k=>Zo1.l0.eq_2 _ _ _ _ _ _ _ _ k) ?_
    exact Ev.neg (by omega) (Ev.now _)
  · intro i h0 h1 hb
    rw [hN] at h1
    obtain⟨i,rfl⟩:=Int.eq_ofNat_of_zero_le h0
    rw [Int.toNat_natCast] at hb
    unfold badR at hb
    refine Ev.step (fun k=>Zo1.l0.eq_2 _ _ _ _ _ _ _ _ k) ?_
    refine Ev.pos (by omega) (Ev.pos (by omega) (Ev.pos (by omega) ?_))
    have hM:(((List.range i).length:Nat):Int)=(i:Nat):=by rw [List.length_range]
    have:=Ev.firstBad (L:=fun k j=>Zo1.l1 k Lk (i:Int) rs (rs.length:Int) (i:Int) (i:Int) j K N st rs (Zb rs (i:Int)).f0 (Zb rs (i:Int)).f1) (rdf:=fun j=>j.toNat) (l:=List.range i) (bad:=badL rs lk i) (c:=false) (fin:=false) (fun i h0 h1=>range_cons h0 h1) (fun q=>by rw [hb] at q;cases q) ?_ ?_
    · rw [hb] at this;exact this
    · intro j h2 h3 hq
      rw [hM] at h3
      unfold badL at hq
      rw [Int.toNat_of_nonneg h2] at hq
      simp only [Bool.and_eq_true,decide_eq_true_eq,Bool.not_eq_true',decide_eq_false_iff_not] at hq
      refine Ev.step (fun k=>Zo1.l1.eq_2 _ _ _ _ _ _ _ _ _ _ _ _ _ k) ?_
      refine Ev.pos h3 (Ev.pos h2 (Ev.pos (by omega) (Ev.pos hq.1 (Ev.pos h0 (Ev.pos (by omega) (Ev.pos (by omega) ?_))))))
      rw [hrd _ h0 (by omega),hrd _ h2 (by omega)]
      exact Ev.neg (fun z=>hq.2 ((and0 _ _ (hlk _) (hlk _)).1 z)) (Ev.now _)
    · intro j r h2 h3 hq hr
      rw [hM] at h3
      unfold badL at hq
      rw [Int.toNat_of_nonneg h2] at hq
      refine Ev.step (fun k=>Zo1.l1.eq_2 _ _ _ _ _ _ _ _ _ _ _ _ _ k) ?_
      rw [w64 (show -9223372036854775808≤j + 1 by omega) (by omega)]
      refine Ev.pos h3 (Ev.pos h2 (Ev.pos (by omega) ?_))
      by_cases c:(Zb rs j).f0=(Zb rs (i:Int)).f0
      · rw [decide_eq_true c] at hq
        simp only [Bool.true_and,Bool.not_eq_false',decide_eq_true_eq] at hq
        refine Ev.pos c (Ev.pos h0 (Ev.pos (by omega) (Ev.pos (by omega) ?_)))
        rw [hrd _ h0 (by omega),hrd _ h2 (by omega)]
        exact Ev.pos ((and0 _ _ (hlk _) (hlk _)).2 hq) hr
      · exact Ev.neg c hr
  · intro i R h0 h1 hb hR
    rw [hN] at h1
    obtain⟨i,rfl⟩:=Int.eq_ofNat_of_zero_le h0
    rw [Int.toNat_natCast] at hb
    unfold badR at hb
    refine Ev.step (fun k=>Zo1.l0.eq_2 _ _ _ _ _ _ _ _ k) ?_
    refine Ev.pos (by omega) (Ev.pos (by omega) (Ev.pos (by omega) ?_))
    have hM:(((List.range i).length:Nat):Int)=(i:Nat):=by rw [List.length_range]
    have:=Ev.firstBad (L:=fun k j=>Zo1.l1 k Lk (i:Int) rs (rs.length:Int) (i:Int) (i:Int) j K N st rs (Zb rs (i:Int)).f0 (Zb rs (i:Int)).f1) (rdf:=fun j=>j.toNat) (l:=List.range i) (bad:=badL rs lk i) (c:=R) (fin:=R) (fun i h0 h1=>range_cons h0 h1) ?_ ?_ ?_
    · rw [ite_self] at this;exact this
    · intro _
      rw [hM]
      refine Ev.step (fun k=>Zo1.l1.eq_2 _ _ _ _ _ _ _ _ _ _ _ _ _ k) ?_
      rw [w64 (show -9223372036854775808≤(i:Int) + 1 by omega) (by omega)]
      exact Ev.neg (by omega) hR
    · intro j h2 h3 hq
      rw [hM] at h3
      have:=List.any_eq_false.1 hb j.toNat (List.mem_range.2 (by omega))
      exact absurd hq this
    · intro j r h2 h3 hq hr
      rw [hM] at h3
      unfold badL at hq
      rw [Int.toNat_of_nonneg h2] at hq
      refine Ev.step (fun k=>Zo1.l1.eq_2 _ _ _ _ _ _ _ _ _ _ _ _ _ k) ?_
      rw [w64 (show -9223372036854775808≤j + 1 by omega) (by omega)]
      refine Ev.pos h3 (Ev.pos h2 (Ev.pos (by omega) ?_))
      by_cases c:(Zb rs j).f0=(Zb rs (i:Int)).f0
      · rw [decide_eq_true c] at hq
        simp only [Bool.true_and,Bool.not_eq_false',decide_eq_true_eq] at hq
        refine Ev.pos c (Ev.pos h0 (Ev.pos (by omega) (Ev.pos (by omega) ?_)))
        rw [hrd _ h0 (by omega),hrd _ h2 (by omega)]
        exact Ev.pos ((and0 _ _ (hlk _) (hlk _)).2 hq) hr
      · exact Ev.neg c hr
theorem clear_ev (lk:S41→Nat) (hlk: ∀r,lk r < 2 ^ 32) (hev: ∀r∈rs,Ev (fun k=>Zf2.f k K N st rs r.f0 r.f1) ((lk r:Nat):Int)):Ev (fun k=>Zg1.f k K N st rs) (clearR rs lk):=by
  have hlen:=G.len
  have hN:(((List.range rs.length).length:Nat):Int)=(rs.length:Nat):=by rw [List.length_range]
  unfold Zg1.f clearR
  refine Ev.firstBad (L:=fun k i=>Zg1.l0 k i K N st rs) (rdf:=fun i=>i.toNat) (l:=List.range rs.length) (fun i h0 h1=>range_cons h0 h1) ?_ ?_ ?_
  · intro _
    rw [hN]
    refine Ev.step (fun k=>Zg1.l0.eq_2 _ _ _ _ _ k) ?_
    exact Ev.neg (by omega) (Ev.now _)
  · intro i h0 h1 hb
    rw [hN] at h1
    obtain⟨i,rfl⟩:=Int.eq_ofNat_of_zero_le h0
    rw [Int.toNat_natCast] at hb
    unfold badR at hb
    refine Ev.step (fun k=>Zg1.l0.eq_2 _ _ _ _ _ k) ?_
    refine Ev.pos (by omega) ?_
    have hM:(((List.range i).length:Nat):Int)=(i:Nat):=by rw [List.length_range]
    have:=Ev.firstBad (L:=fun k j=>Zg1.l1 k (i:Int) j K N st rs) (rdf:=fun j=>j.toNat) (l:=List.range i) (bad:=badL rs lk i) (c:=false) (fin:=false) (fun i h0 h1=>range_cons h0 h1) (fun q=>by rw [hb] at q;cases q) ?_ ?_
    · rw [hb] at this;exact this
    · intro j h2 h3 hq
      rw [hM] at h3
      unfold badL at hq
      rw [Int.toNat_of_nonneg h2] at hq
      simp only [Bool.and_eq_true,decide_eq_true_eq,Bool.not_eq_true',decide_eq_false_iff_not] at hq
      refine Ev.step (fun k=>Zg1.l1.eq_2 _ _ _ _ _ _ k) ?_
      refine Ev.pos h3 (Ev.pos h0 (Ev.pos (by omega) (Ev.pos h2 (Ev.pos (by omega) (Ev.pos hq.1.symm ?_)))))
      refine Ev.bind (hev _ (rule_mem h0 (by omega))) (Ev.bind (hev _ (rule_mem h2 (by omega))) ?_)
      exact Ev.neg (fun z=>hq.2 ((and0 _ _ (hlk _) (hlk _)).1 z)) (Ev.now _)
    · intro j r h2 h3 hq hr
      rw [hM] at h3
      unfold badL at hq
      rw [Int.toNat_of_nonneg h2] at hq
      refine Ev.step (fun k=>Zg1.l1.eq_2 _ _ _ _ _ _ k) ?_
      rw [w64 (show -9223372036854775808≤j + 1 by omega) (by omega)]
      refine Ev.pos h3 (Ev.pos h0 (Ev.pos (by omega) (Ev.pos h2 (Ev.pos (by omega) ?_))))
      by_cases c:(Zb rs j).f0=(Zb rs (i:Int)).f0
      · rw [decide_eq_true c] at hq
        simp only [Bool.true_and,Bool.not_eq_false',decide_eq_true_eq] at hq
        refine Ev.pos c.symm ?_
        refine Ev.bind (hev _ (rule_mem h0 (by omega))) (Ev.bind (hev _ (rule_mem h2 (by omega))) ?_)
        exact Ev.pos ((and0 _ _ (hlk _) (hlk _)).2 hq) hr
      · exact Ev.neg (fun z=>c z.symm) hr
  · intro i R h0 h1 hb hR
    rw [hN] at h1
    obtain⟨i,rfl⟩:=Int.eq_ofNat_of_zero_le h0
    rw [Int.toNat_natCast] at hb
    unfold badR at hb
    refine Ev.step (fun k=>Zg1.l0.eq_2 _ _ _ _ _ k) ?_
    refine Ev.pos (by omega) ?_
    have hM:(((List.range i).length:Nat):Int)=(i:Nat):=by rw [List.length_range]
    have:=Ev.firstBad (L:=fun k j=>Zg1.l1 k (i:Int) j K N st rs) (rdf:=fun j=>j.toNat) (l:=List.range i) (bad:=badL rs lk i) (c:=R) (fin:=R) (fun i h0 h1=>range_cons h0 h1) ?_ ?_ ?_
    · rw [ite_self] at this;exact this
    · intro _
      rw [hM]
      refine Ev.step (fun k=>Zg1.l1.eq_2 _ _ _ _ _ _ k) ?_
      rw [w64 (show -9223372036854775808≤(i:Int) + 1 by omega) (by omega)]
      exact Ev.neg (by omega) hR
    · intro j h2 h3 hq
      rw [hM] at h3
      have:=List.any_eq_false.1 hb j.toNat (List.mem_range.2 (by omega))
      exact absurd hq this
    · intro j r h2 h3 hq hr
      rw [hM] at h3
      unfold badL at hq
      rw [Int.toNat_of_nonneg h2] at hq
      refine Ev.step (fun k=>Zg1.l1.eq_2 _ _ _ _ _ _ k) ?_
      rw [w64 (show -9223372036854775808≤j + 1 by omega) (by omega)]
      refine Ev.pos h3 (Ev.pos h0 (Ev.pos (by omega) (Ev.pos h2 (Ev.pos (by omega) ?_))))
      by_cases c:(Zb rs j).f0=(Zb rs (i:Int)).f0
      · rw [decide_eq_true c] at hq
        simp only [Bool.true_and,Bool.not_eq_false',decide_eq_true_eq] at hq
        refine Ev.pos c.symm ?_
        refine Ev.bind (hev _ (rule_mem h0 (by omega))) (Ev.bind (hev _ (rule_mem h2 (by omega))) ?_)
        exact Ev.pos ((and0 _ _ (hlk _) (hlk _)).2 hq) hr
      · exact Ev.neg (fun z=>c z.symm) hr
end
theorem take_rule {l:List S41} {i:Int} (h0:0≤i) (h1:i < l.length):l.take (i + 1).toNat=l.take i.toNat++[Zb l i]:=by
  have h:i.toNat < l.length:=by omega
  have e:Zb l i=l[i.toNat]:=by simp [Zb,List.getD_eq_getElem?_getD,List.getElem?_eq_getElem h]
  rw [e,show(i + 1).toNat=i.toNat + 1 by omega,List.take_succ_eq_append_getElem h]
def wordCode (K:Int) (w:List Int):Int:=if(w.length:Int) > 12 then 1 else if(w.any fun s=>decide (s < 0) || decide (s≥K))=true then 2 else 0
theorem Words_eq (K:Int) (w:List Int):machine_Words.f K w=some (wordCode K w):=by
  unfold machine_Words.f wordCode
  have e:machine_Words_1_any.f w K=some (w.any fun s=>decide (s < 0) || decide (s≥K)):=by
    unfold machine_Words_1_any.f
    refine anyO_of (fun x _=>?_)
    unfold machine_Words_1.f
    by_cases h:x < 0
    · rw [if_pos h];simp [h]
    · rw [if_neg h];simp [h]
  by_cases c:(w.length:Int) > 12
  · simp only [if_pos c]
  · simp only [if_neg c,e,Option.bind_some]
    cases w.any fun s=>decide (s < 0) || decide (s≥K) <;> simp
theorem WordCheck_l0 (K : Int) (w : List Int) (hl : w.length ≤ 12) (d : Nat) : ∀ i : Int, 0 ≤ i → i + d = w.length →
    Ev (fun k=>Zd2.l0 k K w (w.length:Int) i) (if((w.drop i.toNat).any fun s=>decide (s < 0) || decide (s≥K))=true then 2 else 0):=by
  induction d with
  |zero=>
    intro i h0 hd
    refine Ev.step (fun k=>Zd2.l0.eq_2 _ _ _ _ k) ?_
    simp (disch:=omega) only [if_neg (show ¬ i < (w.length:Int) by omega)]
    rw [List.drop_eq_nil_of_le (by omega)];exact Ev.now _
  |succ d ih=>
    intro i h0 hd
    refine Ev.step (fun k=>Zd2.l0.eq_2 _ _ _ _ k) ?_
    rw [drop_rd h0 (by omega)]
    simp (disch:=omega) only [if_pos (show i < (w.length:Int) by omega),if_pos h0,w64]
    by_cases a:rd w i < 0
    · simp only [if_pos a];exact Ev.val (by simp [a])
    · by_cases b:rd w i≥K
      · simp only [if_neg a,if_pos b];exact Ev.val (by simp [b])
      · simp only [if_neg a,if_neg b]
        have:=ih (i + 1) (by omega) (by omega)
        simpa [a,b] using this
theorem WordCheck_ev (K:Int) (w:List Int):Ev (fun k=>Zd2.f k K w) (wordCode K w):=by
  unfold Zd2.f wordCode
  by_cases c:(w.length:Int) > 12
  · simp only [if_pos c];exact Ev.now _
  · simp only [if_neg c]
    simpa using WordCheck_l0 K w (by omega) w.length 0 (by omega) (by omega)
theorem wordCode_0 {K:Int} {w:List Int} (h:wordCode K w=0):w.length≤12∧∀s∈w,0≤s∧s < K:=by
  unfold wordCode at h
  by_cases c:(w.length:Int) > 12
  · rw [if_pos c] at h;omega
  · rw [if_neg c] at h
    refine⟨by omega,?_⟩
    by_cases e:(w.any fun s=>decide (s < 0) || decide (s≥K))=true
    · rw [if_pos e] at h;omega
    · intro s hs
      simp only [List.any_eq_true,not_exists,not_and,Bool.or_eq_true,decide_eq_true_eq,not_or] at e
      have:=e s hs
      omega
inductive Mk (K:Int) (rules:List S41) (w:List Int):List Int→Int→Int→Prop
  |nil (i:Int):Mk K rules w [] i i
  |sym (x:Int) (l:List Int) (i j:Int):x < K→0≤i→i < w.length→rd w i=x→Mk K rules w l (i + 1) j→Mk K rules w (x :: l) i j
  |name (r:S41) (l:List Int) (i m j:Int):r∈rules→Mk K rules w r.f1 i m→Mk K rules w l m j→Mk K rules w ((K + r.f0) :: l) i j
def One (K:Int) (w:List Int) (T:Int→Int→Int→Prop) (x i m:Int):Prop:=(x≥K∧T (x - K) i m)∨(x < K∧m=i + 1∧i < w.length∧rd w i=x)
def Over (K:Int) (w:List Int) (T:Int→Int→Int→Prop):List Int→Int→Int→Prop
  | [],i,j=>i=j
  |x :: l,i,j=>∃m,i≤m∧m≤j∧One K w T x i m∧Over K w T l m j
section
variable {K:Int} {rules:List S41} {w:List Int} {T:Int→Int→Int→Prop}
theorem Over.le: ∀{l:List Int} {i j:Int},Over K w T l i j→i≤j
  | [],_,_,h=>by have h:_=_:=h;omega
  |_ :: _,_,_,⟨m,a,b,_,_⟩=>by omega
theorem Over.mono {T':Int→Int→Int→Prop} (h: ∀a i j:Int,0≤i→i≤j→j≤w.length→T a i j→T' a i j): ∀{l:List Int} {i j:Int},0≤i→j≤w.length→Over K w T l i j→Over K w T' l i j
  | [],_,_,_,_,q=>q
  |x :: l,i,j,i0,j1,⟨m,a,b,c,d⟩=>by
    refine⟨m,a,b,?_,Over.mono h (by omega) j1 d⟩
    rcases c with c|c
    · exact .inl ⟨c.1,h _ _ _ i0 a (by omega) c.2⟩
    · exact .inr c
theorem Mk.over (hc: ∀r∈rules,∀i j:Int,0≤i→i≤j→j≤w.length→Over K w T r.f1 i j→T r.f0 i j) (hn: ∀r∈rules,0≤r.f0) {l:List Int} {i j:Int} (h:Mk K rules w l i j):0≤i→j≤w.length→i≤w.length→Over K w T l i j:=by
  induction h with
  |nil i=>intro _ _ _;rfl
  |sym x l i j hx h0 h1 hr _ ih=>
    intro i0 j1 _
    have q:=ih (by omega) j1 (by omega)
    exact⟨i + 1,by omega,q.le,.inr ⟨hx,rfl,h1,hr⟩,q⟩
  |name r l i m j hr hm hl ih1 ih2=>
    intro i0 j1 i1
    have key: ∀{l:List Int} {i j:Int},Mk K rules w l i j→i≤j:=by
      intro l i j h
      induction h with
      |nil=>omega
      |sym=>omega
      |name=>omega
    have mj:=key hl
    have im:=key hm
    have q:=ih2 (by omega) j1 (by omega)
    refine⟨m,im,mj,.inl ⟨by have:=hn r hr;omega,?_⟩,q⟩
    rw [show K + r.f0 - K=r.f0 by omega]
    exact hc r hr i m i0 im (by omega) (ih1 i0 (by omega) i1)
theorem Mk.le {l:List Int} {i j:Int} (h:Mk K rules w l i j):i≤j:=by
  induction h with
  |nil=>omega
  |sym=>omega
  |name=>omega
theorem Over.mk (hs: ∀a i j:Int,T a i j→Mk K rules w [K + a] i j): ∀{l:List Int} {i j:Int},0≤i→Over K w T l i j→Mk K rules w l i j
  | [],i,j,_,q=>by have q:i=j:=q;subst q;exact Mk.nil i
  |x :: l,i,j,i0,⟨m,a,b,c,d⟩=>by
    have q:=Over.mk hs (by omega) d
    rcases c with ⟨c,t⟩|⟨c,rfl,e,g⟩
    · have:=hs _ _ _ t
      rw [show K + (x - K)=x by omega] at this
      have app: ∀{l1 l2:List Int} {i m j:Int},Mk K rules w l1 i m→Mk K rules w l2 m j→Mk K rules w (l1++l2) i j:=by
        intro l1 l2 i m j h h2
        induction h with
        |nil=>exact h2
        |sym x l i j hx h0 h1 hr _ ih=>exact Mk.sym x _ i _ hx h0 h1 hr (ih h2)
        |name r l i m' j hr hm _ _ ih=>exact Mk.name r _ i m' _ hr hm (ih h2)
      exact app this q
    · exact Mk.sym x l i j c i0 e g q
theorem Mk.rule {r:S41} (hr:r∈rules) {i j:Int} (h:Mk K rules w r.f1 i j):Mk K rules w [K + r.f0] i j:=Mk.name r [] i j j hr h (Mk.nil j)
end
abbrev Tab3:=List (List (List Bool))
def tellB (t:Tab3) (a i j:Int):Bool:=rdOf false (rd_L6 (rd_L7 t a) i) j
structure Rect (N n:Int) (t:Tab3):Prop where
  l1:(t.length:Int)=N
  l2: ∀a,0≤a→a < N→((rd_L7 t a).length:Int)=n + 1
  l3: ∀a i,0≤a→a < N→0≤i→i≤n→((rd_L6 (rd_L7 t a) i).length:Int)=n + 1
def Tt (N n:Int) (t:Tab3) (a i j:Int):Prop:=(0≤a∧a < N)∧(0≤i∧i≤j∧j≤n)∧tellB t a i j=true
section
variable (K N st:Int) (rs:List S41) (w:List Int) (hK0:1≤K) (hK1:K≤3) (hN0:1≤N) (hN1:N≤5) (hw:w.length≤12)
include hK0 hK1 hN0 hN1 hw
theorem over_ev (t : Tab3) (ht : Rect N (w.length : Int) t) : ∀ (l : List Int), (∀ x ∈ l, 0 ≤ x ∧ x < K + N) → ∀ i j : Int, 0 ≤ i → i ≤ j → j ≤ w.length →
    ∃R:Bool,(R=true↔Over K w (Tt N (w.length:Int) t) l i j)∧Ev (fun k=>Zr.f k K N st rs w t l i j) R:=by
  intro l
  induction l with
  |nil=>
    intro _ i j i0 ij j1
    refine⟨i == j,by simp [Over],?_⟩
    refine Ev.step (fun k=>Zr.f.eq_2 _ _ _ _ _ _ _ _ _ k) ?_
    exact Ev.pos rfl (Ev.now _)
  |cons x l ih=>
    intro hl i j i0 ij j1
    have hx:=hl x (by simp)
    have hl': ∀y∈l,0≤y∧y < K + N:=fun y hy=>hl y (by simp [hy])
    obtain⟨R,hR⟩:=isB (Over K w (Tt N (w.length:Int) t) (x :: l) i j)
    refine⟨R,hR,?_⟩
    refine Ev.step (fun k=>Zr.f.eq_2 _ _ _ _ _ _ _ _ _ k) ?_
    refine Ev.neg (by simp only [List.length_cons];omega) (Ev.pos (by simp only [List.length_cons];omega) ?_)
    refine Ev.loopc (σ:=Unit) (L:=fun k m _=>Zr.l0 k w t (x :: l) i j x m K N st rs) (n:=j + 1)
      (fun m _=>i≤m∧∀m',i≤m'→m' < m→¬ (One K w (Tt N (w.length:Int) t) x i m'∧Over K w (Tt N (w.length:Int) t) l m' j)) ?_ ?_ i () i0 (by omega) ⟨by omega,fun m' a b=>by omega⟩
    · rintro _ ⟨_,hI⟩
      refine Ev.step (fun k=>Zr.l0.eq_2 _ _ _ _ _ _ _ _ _ _ _ k) ?_
      refine Ev.neg (by omega) (Ev.val ?_)
      cases R with
      |false=>rfl
      |true=>obtain⟨m,a,b,c,d⟩:=hR.1 rfl;exact absurd ⟨c,d⟩ (hI m a (by omega))
    · rintro m _ m0 m1 ⟨im,hI⟩ next
      refine Ev.step (fun k=>Zr.l0.eq_2 _ _ _ _ _ _ _ _ _ _ _ k) ?_
      refine Ev.pos (by omega) ?_
      have go_no:¬ (One K w (Tt N (w.length:Int) t) x i m∧Over K w (Tt N (w.length:Int) t) l m j)→Ev (fun k=>Zr.l0 k w t (x :: l) i j x (wrap64 (m + 1)) K N st rs) R:=by
        intro h
        rw [w64 (by omega) (by omega)]
        refine next () ⟨by omega,fun m' a b=>?_⟩
        by_cases e:m'=m
        · subst e;exact h
        · exact hI m' a (by omega)
      have go_yes:One K w (Tt N (w.length:Int) t) x i m→Ev (fun k=>if 1≤((x :: l).length:Int) then((Zr.f k K N st rs w t ((x :: l).drop 1) m j).bind fun b=>if b=true then some true else Zr.l0 k w t (x :: l) i j x (wrap64 (m + 1)) K N st rs) else none) R:=by
        intro h1
        refine Ev.pos (by simp only [List.length_cons];omega) ?_
        obtain⟨b,hb,eb⟩:=ih hl' m j (by omega) (by omega) j1
        refine Ev.bind eb ?_
        cases b with
        |true=>
          refine Ev.pos rfl (Ev.val ?_)
          exact(hR.2 ⟨m,im,by omega,h1,hb.1 rfl⟩).symm
        |false=>
          refine Ev.neg (by decide) (go_no (fun q=>?_))
          have:=hb.2 q.2;cases this
      have low:x < K→Ev (fun k=>if x < K then(if m=wrap64 (i + 1) then(if i < (w.length:Int) then(if rd w i=x then(if 1≤((x :: l).length:Int) then((Zr.f k K N st rs w t ((x :: l).drop 1) m j).bind fun b=>if b=true then some true else Zr.l0 k w t (x :: l) i j x (wrap64 (m + 1)) K N st rs) else none) else Zr.l0 k w t (x :: l) i j x (wrap64 (m + 1)) K N st rs) else none) else Zr.l0 k w t (x :: l) i j x (wrap64 (m + 1)) K N st rs) else Zr.l0 k w t (x :: l) i j x (wrap64 (m + 1)) K N st rs) R:=by
        intro hx2
        refine Ev.pos hx2 ?_
        rw [w64 (show -9223372036854775808≤i + 1 by omega) (by omega)]
        by_cases c:m=i + 1
        · refine Ev.pos c (Ev.pos (by omega) ?_)
          by_cases e:rd w i=x
          · exact Ev.pos e (go_yes (.inr ⟨hx2,c,by omega,e⟩))
          · refine Ev.neg e (go_no ?_)
            rintro⟨h,_⟩
            rcases h with h|h
            · omega
            · exact e h.2.2.2
        · refine Ev.neg c (go_no ?_)
          rintro⟨h,_⟩
          rcases h with h|h
          · omega
          · exact c h.2.1
      by_cases hx2:x < K
      · refine Ev.neg (by omega) ?_
        have lo:=low hx2
        refine Ev.congr (fun k=>?_) lo
        simp only [if_pos i0]
      · have c1:wrap64 (x - K)=x - K:=w64 (by omega) (by omega)
        have e1:=ht.l1
        have e2:=ht.l2 (x - K) (by omega) (by omega)
        have e3:=ht.l3 (x - K) i (by omega) (by omega) i0 (by omega)
        refine Ev.pos (by omega) ?_
        simp only [c1]
        refine Ev.pos (by omega) (Ev.pos (by omega) (Ev.pos i0 (Ev.pos (by omega) (Ev.pos m0 (Ev.pos (by omega) ?_)))))
        by_cases e:rdOf false (rd_L6 (rd_L7 t (x - K)) i) m=true
        · exact Ev.pos e (go_yes (.inl ⟨by omega,⟨by omega,by omega⟩,⟨i0,im,by omega⟩,e⟩))
        · refine Ev.neg e (Ev.neg hx2 (go_no ?_))
          rintro⟨h,_⟩
          rcases h with h|h
          · exact e h.2.2.2
          · omega
end
theorem rd3_set (t:Tab3) (a a':Int) (r:List (List Bool)) (h0:0≤a) (h1:a < t.length) (h2:0≤a'):rd_L7 (t.set a.toNat r) a'=if a'=a then r else rd_L7 t a':=by
  simp only [rd_L7,List.getD_eq_getElem?_getD]
  by_cases c:a'=a
  · subst c;rw [if_pos rfl,List.getElem?_set_self (by omega)];rfl
  · rw [if_neg c,List.getElem?_set_ne (by omega)]
theorem rd2_set (t:List (List Bool)) (a a':Int) (r:List Bool) (h0:0≤a) (h1:a < t.length) (h2:0≤a'):rd_L6 (t.set a.toNat r) a'=if a'=a then r else rd_L6 t a':=by
  simp only [rd_L6,List.getD_eq_getElem?_getD]
  by_cases c:a'=a
  · subst c;rw [if_pos rfl,List.getElem?_set_self (by omega)];rfl
  · rw [if_neg c,List.getElem?_set_ne (by omega)]
theorem rd1_set (t:List Bool) (a a':Int) (r:Bool) (h0:0≤a) (h1:a < t.length) (h2:0≤a'):rdOf false (t.set a.toNat r) a'=if a'=a then r else rdOf false t a':=by
  simp only [rdOf,List.getD_eq_getElem?_getD]
  by_cases c:a'=a
  · subst c;rw [if_pos rfl,List.getElem?_set_self (by omega)];rfl
  · rw [if_neg c,List.getElem?_set_ne (by omega)]
theorem rd3_rep (n:Nat) (a:Int):rd_L7 (List.replicate n ([] :List (List Bool))) a= []:=by
  simp only [rd_L7,List.getD_eq_getElem?_getD]
  rw [List.getElem?_replicate];split <;> rfl
theorem rd2_rep (n:Nat) (a:Int):rd_L6 (List.replicate n ([] :List Bool)) a= []:=by
  simp only [rd_L6,List.getD_eq_getElem?_getD]
  rw [List.getElem?_replicate];split <;> rfl
theorem rd1_rep (n:Nat) (a:Int):rdOf false (List.replicate n false) a=false:=by
  simp only [rdOf,List.getD_eq_getElem?_getD]
  rw [List.getElem?_replicate];split <;> rfl
theorem rd1_nil (a:Int):rdOf false ([] :List Bool) a=false:=by simp [rdOf]
def NoneT (t:Tab3):Prop:=∀a i j:Int,0≤a→0≤i→tellB t a i j=false
def muF (M:Nat) (N:Nat) (f:Int→Int→Int→Bool):Nat:=cntP (fun e=>f ((e / (M * M):Nat):Int) ((e / M % M:Nat):Int) ((e % M:Nat):Int)) (N * (M * M))
theorem muF_le (M N:Nat) (f:Int→Int→Int→Bool):muF M N f≤N * (M * M):=cntP_le _ _
theorem muF_lt {M N : Nat} {f f' : Int → Int → Int → Bool} (h : ∀ a i j : Int, 0 ≤ a → 0 ≤ i → 0 ≤ j → f a i j = true → f' a i j = true) {a i j : Nat} (ha : a < N) (hi : i < M) (hj : j < M)
    (h0:f a i j=false) (h1:f' a i j=true):muF M N f < muF M N f':=by
  rcases Nat.lt_or_ge (muF M N f) (muF M N f') with q|q
  · exact q
  exfalso
  have hM:0 < M:=by omega
  have e3:(a * (M * M) + i * M + j) / (M * M)=a:=by
    have:i * M + j < M * M:=by
      have:i * M + M≤M * M:=by rw [← Nat.succ_mul];exact Nat.mul_le_mul_right _ hi
      omega
    rw [Nat.add_assoc,Nat.mul_comm a,Nat.mul_add_div (Nat.mul_pos hM hM),Nat.div_eq_of_lt this,Nat.add_zero]
  have e1:(a * (M * M) + i * M + j) % M=j:=by
    rw [show a * (M * M) + i * M + j=j + M * (a * M + i) by rw [Nat.mul_add,Nat.mul_comm M (a * M),Nat.mul_comm M i,Nat.mul_assoc];omega,Nat.add_mul_mod_self_left,Nat.mod_eq_of_lt hj]
  have e2:(a * (M * M) + i * M + j) / M % M=i:=by
    rw [show a * (M * M) + i * M + j=j + M * (a * M + i) by rw [Nat.mul_add,Nat.mul_comm M (a * M),Nat.mul_comm M i,Nat.mul_assoc];omega,Nat.add_mul_div_left _ _ hM,Nat.div_eq_of_lt hj,Nat.zero_add,Nat.mul_comm a,Nat.mul_add_mod,Nat.mod_eq_of_lt hi]
  have hlt:a * (M * M) + i * M + j < N * (M * M):=by
    have h1:a * (M * M) + M * M≤N * (M * M):=by rw [← Nat.succ_mul];exact Nat.mul_le_mul_right _ ha
    have h2:i * M + M≤M * M:=by rw [← Nat.succ_mul];exact Nat.mul_le_mul_right _ hi
    omega
  have:=cntP_eq _ (fun e _ q=>h _ _ _ (Int.natCast_nonneg _) (Int.natCast_nonneg _) (Int.natCast_nonneg _) q) q _ hlt
  simp only [e1,e2,e3] at this
  rw [h0,h1] at this;cases this
def muT (M:Nat) (N:Nat) (t:Tab3):Nat:=muF M N (tellB t)
theorem muT_le (M N:Nat) (t:Tab3):muT M N t≤N * (M * M):=muF_le _ _ _
theorem muT_lt {M N : Nat} {t t' : Tab3} (h : ∀ a i j : Int, 0 ≤ a → 0 ≤ i → 0 ≤ j → tellB t a i j = true → tellB t' a i j = true) {a i j : Nat} (ha : a < N) (hi : i < M) (hj : j < M)
    (h0:tellB t a i j=false) (h1:tellB t' a i j=true):muT M N t < muT M N t':=muF_lt h ha hi hj h0 h1
section
variable {N n:Int} {t:Tab3}
theorem tell_put (ht : Rect N n t) {a i j : Int} (ha0 : 0 ≤ a) (ha1 : a < N) (hi0 : 0 ≤ i) (hi1 : i ≤ n) (hj0 : 0 ≤ j) (hj1 : j ≤ n) {a' i' j' : Int} (ha' : 0 ≤ a') (hi' : 0 ≤ i') (hj' : 0 ≤ j') :
    tellB (t.set a.toNat ((rd_L7 t a).set i.toNat ((rd_L6 (rd_L7 t a) i).set j.toNat true))) a' i' j'=if a'=a∧i'=i∧j'=j then true else tellB t a' i' j':=by
  have e1:=ht.l1
  have e2:=ht.l2 a ha0 ha1
  have e3:=ht.l3 a i ha0 ha1 hi0 hi1
  unfold tellB
  rw [rd3_set _ _ _ _ ha0 (by omega) ha']
  by_cases c:a'=a
  · subst c
    rw [if_pos rfl,rd2_set _ _ _ _ hi0 (by omega) hi']
    by_cases d:i'=i
    · subst d
      rw [if_pos rfl,rd1_set _ _ _ _ hj0 (by omega) hj']
      by_cases f:j'=j
      · rw [if_pos f,if_pos ⟨rfl,rfl,f⟩]
      · rw [if_neg f,if_neg (fun q=>f q.2.2)]
    · rw [if_neg d,if_neg (fun q=>d q.2.1)]
  · rw [if_neg c,if_neg (fun q=>c q.1)]
theorem rect_put (ht : Rect N n t) {a i : Int} (ha0 : 0 ≤ a) (ha1 : a < N) (hi0 : 0 ≤ i) (hi1 : i ≤ n) (j : Nat) :
    Rect N n (t.set a.toNat ((rd_L7 t a).set i.toNat ((rd_L6 (rd_L7 t a) i).set j true))):=by
  have e1:=ht.l1
  have e2:=ht.l2 a ha0 ha1
  refine⟨by rw [List.length_set];exact e1,fun a' h0 h1=>?_,fun a' i' h0 h1 h2 h3=>?_⟩
  · rw [rd3_set _ _ _ _ ha0 (by omega) h0]
    split
    · rw [List.length_set];exact e2
    · exact ht.l2 a' h0 h1
  · rw [rd3_set _ _ _ _ ha0 (by omega) h0]
    split
    · rw [rd2_set _ _ _ _ hi0 (by omega) h2]
      split
      · rw [List.length_set];exact ht.l3 a i ha0 ha1 hi0 hi1
      · exact ht.l3 a i' ha0 ha1 h2 h3
    · exact ht.l3 a' i' h0 h1 h2 h3
end
section
variable (K N st:Int) (rs:List S41) (w:List Int) (G:GOK K N st rs) (hw:w.length≤12)
structure TabInv (t:Tab3):Prop where
  rect:Rect N (w.length:Int) t
  sound: ∀a i j:Int,Tt N (w.length:Int) t a i j→Mk K rs w [K + a] i j
def ClT (t:Tab3) (q i j:Int):Prop:=∀q' i' j':Int,0≤q'→(q' < q∨q'=q∧(i' < i∨i'=i∧j' < j))→q' < rs.length→0≤i'→i'≤j'→j'≤w.length→
  Over K w (Tt N (w.length:Int) t) (Zb rs q').f1 i' j'→Tt N (w.length:Int) t (Zb rs q').f0 i' j'
def TabDone (t:Tab3):Prop:=Rect N (w.length:Int) t∧∀a i j:Int,0≤a→a < N→0≤i→i≤j→j≤w.length→(tellB t a i j=true↔Mk K rs w [K + a] i j)
include G hw
theorem tab_done {t:Tab3} (h:TabInv K N rs w t) (hc:ClT K N rs w t rs.length 0 0):TabDone K N rs w t:=by
  refine⟨h.rect,fun a i j a0 a1 i0 ij j1=>⟨fun q=>h.sound a i j ⟨⟨a0,a1⟩,⟨i0,ij,j1⟩,q⟩,fun q=>?_⟩⟩
  have hcl: ∀r∈rs,∀i j:Int,0≤i→i≤j→j≤w.length→Over K w (Tt N (w.length:Int) t) r.f1 i j→Tt N (w.length:Int) t r.f0 i j:=by
    intro r hr i j i0 ij j1 ho
    obtain⟨m,hm,rfl⟩:=List.mem_iff_getElem.1 hr
    have e:Zb rs (m:Int)=rs[m]:=by simp [Zb,List.getD_eq_getElem?_getD,List.getElem?_eq_getElem hm]
    have:=hc (m:Int) i j (by omega) (.inl (by omega)) (by omega) i0 ij j1
    rw [e] at this
    exact this ho
  have:=Mk.over (T:=Tt N (w.length:Int) t) hcl (fun r hr=>G.r0 r hr) q i0 j1 (by omega)
  obtain⟨m,_,_,h1,h2⟩:=this
  have h2:m=j:=h2
  subst h2
  rcases h1 with h1|h1
  · rw [show K + a - K=a by omega] at h1;exact h1.2.2.2
  · omega
theorem tab_l5 (t0 : Tab3) (J : Tab3 → Prop) (q i : Int) (q0 : 0 ≤ q) (q1 : q < rs.length) (i0 : 0 ≤ i) (i1 : i ≤ w.length)
    (hend: ∀t more,TabInv K N rs w t→muT (w.length + 1) N.toNat t0≤muT (w.length + 1) N.toNat t→(more=true→muT (w.length + 1) N.toNat t0 < muT (w.length + 1) N.toNat t)→(more=false→ClT K N rs w t q (i + 1) 0)→EvP (fun k=>Zw.l4 K N st rs w ((w.length:Int) + 1) k t more q (i + 1)) J):
    ∀t more,TabInv K N rs w t→muT (w.length + 1) N.toNat t0≤muT (w.length + 1) N.toNat t→(more=true→muT (w.length + 1) N.toNat t0 < muT (w.length + 1) N.toNat t)→(more=false→ClT K N rs w t q i 0)→
      EvP (fun k=>Zw.l5 K N st rs w ((w.length:Int) + 1) k t more q i i) J:=by
  have hK0:=G.K0;have hK1:=G.K1;have hN0:=G.N0;have hN1:=G.N1
  have hm:=rule_mem q0 q1
  have r0:=G.r0 _ hm
  have r1:=G.r1 _ hm
  intro t more ht h1 h2 h3
  refine EvP.loop (σ:=Tab3 × Bool) (L:=fun k j s=>Zw.l5 K N st rs w ((w.length:Int) + 1) k s.1 s.2 q i j) (n:=(w.length:Int) + 1)
    (fun j s=>i≤j∧TabInv K N rs w s.1∧muT (w.length + 1) N.toNat t0≤muT (w.length + 1) N.toNat s.1∧(s.2=true→muT (w.length + 1) N.toNat t0 < muT (w.length + 1) N.toNat s.1)∧(s.2=false→ClT K N rs w s.1 q i j)) ?_ ?_ i (t,more) i0 (by omega) ⟨by omega,ht,h1,h2,?_⟩
  · rintro⟨t,more⟩ ⟨_,ht,h1,h2,h3⟩
    dsimp only at ht h1 h2 h3 ⊢
    refine EvP.step (fun k=>Zw.l5.eq_2 _ _ _ _ _ _ _ _ _ _ _ k) ?_
    refine EvP.neg (by omega) ?_
    simp only [w64 (show -9223372036854775808≤i + 1 by omega) (by omega)]
    refine hend t more ht h1 h2 (fun hm=>?_)
    have h3:=h3 hm
    intro q' i' j' a b c d e f
    refine h3 q' i' j' a ?_ c d e f
    rcases b with b|⟨b,b2⟩
    · exact .inl b
    · refine .inr ⟨b,?_⟩
      rcases b2 with b2|⟨_,b2⟩
      · by_cases x:i'=i
        · exact .inr ⟨x,by omega⟩
        · exact .inl (by omega)
      · omega
  · rintro j ⟨t,more⟩ j0 j1 ⟨ij,ht,h1,h2,h3⟩ next
    dsimp only at ht h1 h2 h3 ⊢
    have e1:=ht.rect.l1
    have e2:=ht.rect.l2 _ r0 r1
    have e3:=ht.rect.l3 _ i r0 r1 i0 i1
    refine EvP.step (fun k=>Zw.l5.eq_2 _ _ _ _ _ _ _ _ _ _ _ k) ?_
    simp only [w64 (show -9223372036854775808≤j + 1 by omega) (by omega)]
    refine EvP.pos j1 (EvP.pos r0 (EvP.pos (by omega) (EvP.pos i0 (EvP.pos (by omega) (EvP.pos j0 (EvP.pos (by omega) ?_))))))
    have keep:(Over K w (Tt N (w.length:Int) t) (Zb rs q).f1 i j→Tt N (w.length:Int) t (Zb rs q).f0 i j)→EvP (fun k=>Zw.l5 K N st rs w ((w.length:Int) + 1) k t more q i (j + 1)) J:=by
      intro hq
      refine next (t,more) ⟨by omega,ht,h1,h2,fun hm=>?_⟩
      intro q' i' j' a b c d e f g
      by_cases x:q'=q∧i'=i∧j'=j
      · obtain⟨rfl,rfl,rfl⟩:=x
        exact hq g
      · refine h3 hm q' i' j' a ?_ c d e f g
        rcases b with b|⟨b1,b|⟨b2,b3⟩⟩
        · exact .inl b
        · exact .inr ⟨b1,.inl b⟩
        · exact .inr ⟨b1,.inr ⟨b2,by omega⟩⟩
    by_cases c:rdOf false (rd_L6 (rd_L7 t (Zb rs q).f0) i) j=true
    · exact EvP.pos c (keep (fun _=>⟨⟨r0,r1⟩,⟨i0,ij,by omega⟩,c⟩))
    · refine EvP.neg c ?_
      obtain⟨R,hR,eR⟩:=over_ev K N st rs w hK0 hK1 hN0 hN1 hw t ht.rect (Zb rs q).f1 (fun x hx=>⟨G.x0 _ hm x hx,G.x1 _ hm x hx⟩) i j i0 ij (by omega)
      refine EvP.bind eR ?_
      cases R with
      |false=>exact EvP.neg (by decide) (keep (fun h=>by have:=hR.2 h;cases this))
      |true=>
        refine EvP.pos rfl ?_
        have put:=fun a' i' j' (ha':0≤a') (hi':0≤i') (hj':0≤j')=>tell_put ht.rect r0 r1 i0 i1 j0 (show j≤w.length by omega) (a':=a') (i':=i') (j':=j') ha' hi' hj'
        have lt:muT (w.length + 1) N.toNat t < muT (w.length + 1) N.toNat (t.set (Zb rs q).f0.toNat ((rd_L7 t (Zb rs q).f0).set i.toNat ((rd_L6 (rd_L7 t (Zb rs q).f0) i).set j.toNat true))):=by
          refine muT_lt (a:=(Zb rs q).f0.toNat) (i:=i.toNat) (j:=j.toNat) (fun a' i' j' x y z h=>?_) (by omega) (by omega) (by omega) ?_ ?_
          · rw [put a' i' j' x y z];split
            · rfl
            · exact h
          · rw [show(((Zb rs q).f0.toNat:Nat):Int)=(Zb rs q).f0 by omega,show((i.toNat:Nat):Int)=i by omega,show((j.toNat:Nat):Int)=j by omega]
            cases x:tellB t (Zb rs q).f0 i j with
            |false=>rfl
            |true=>exact absurd x c
          · rw [put _ _ _ (by omega) (by omega) (by omega),if_pos ⟨by omega,by omega,by omega⟩]
        refine next (_,true) ⟨by omega,⟨rect_put ht.rect r0 r1 i0 i1 _,fun a' i' j' h=>?_⟩,Nat.le_trans h1 (Nat.le_of_lt lt),fun _=>Nat.lt_of_le_of_lt h1 lt,fun h=>by cases h⟩
        obtain⟨⟨x0,x1⟩,⟨y0,y1,y2⟩,z⟩:=h
        rw [put a' i' j' x0 y0 (by omega)] at z
        by_cases x:a'=(Zb rs q).f0∧i'=i∧j'=j
        · obtain⟨rfl,rfl,rfl⟩:=x
          exact Mk.rule hm (Over.mk (fun a i j h=>ht.sound a i j h) i0 (hR.1 rfl))
        · rw [if_neg x] at z
          exact ht.sound a' i' j' ⟨⟨x0,x1⟩,⟨y0,y1,y2⟩,z⟩
  · intro hm
    intro q' i' j' a b c d e f
    refine h3 hm q' i' j' a ?_ c d e f
    rcases b with b|⟨b1,b|⟨b2,b3⟩⟩
    · exact .inl b
    · exact .inr ⟨b1,.inl b⟩
    · omega
theorem tab_l4 (t0 : Tab3) (J : Tab3 → Prop) (q : Int) (q0 : 0 ≤ q) (q1 : q < rs.length)
    (hend: ∀t more,TabInv K N rs w t→muT (w.length + 1) N.toNat t0≤muT (w.length + 1) N.toNat t→(more=true→muT (w.length + 1) N.toNat t0 < muT (w.length + 1) N.toNat t)→(more=false→ClT K N rs w t (q + 1) 0 0)→EvP (fun k=>Zw.l3 K N st rs w ((w.length:Int) + 1) k t more (q + 1)) J):
    ∀t more,TabInv K N rs w t→muT (w.length + 1) N.toNat t0≤muT (w.length + 1) N.toNat t→(more=true→muT (w.length + 1) N.toNat t0 < muT (w.length + 1) N.toNat t)→(more=false→ClT K N rs w t q 0 0)→
      EvP (fun k=>Zw.l4 K N st rs w ((w.length:Int) + 1) k t more q 0) J:=by
  have hlen:=G.len
  intro t more ht h1 h2 h3
  refine EvP.loop (σ:=Tab3 × Bool) (L:=fun k i s=>Zw.l4 K N st rs w ((w.length:Int) + 1) k s.1 s.2 q i) (n:=(w.length:Int) + 1)
    (fun i s=>TabInv K N rs w s.1∧muT (w.length + 1) N.toNat t0≤muT (w.length + 1) N.toNat s.1∧(s.2=true→muT (w.length + 1) N.toNat t0 < muT (w.length + 1) N.toNat s.1)∧(s.2=false→ClT K N rs w s.1 q i 0)) ?_ ?_ 0 (t,more) (Int.le_refl _) (by omega) ⟨ht,h1,h2,h3⟩
  · rintro⟨t,more⟩ ⟨ht,h1,h2,h3⟩
    dsimp only at ht h1 h2 h3 ⊢
    refine EvP.step (fun k=>Zw.l4.eq_2 _ _ _ _ _ _ _ _ _ _ k) ?_
    refine EvP.neg (by omega) ?_
    simp only [w64 (show -9223372036854775808≤q + 1 by omega) (by omega)]
    refine hend t more ht h1 h2 (fun hm=>?_)
    intro q' i' j' a b c d e f
    refine h3 hm q' i' j' a ?_ c d e f
    rcases b with b|⟨b1,b|⟨b2,b3⟩⟩
    · by_cases x:q'=q
      · exact .inr ⟨x,.inl (by omega)⟩
      · exact .inl (by omega)
    · omega
    · omega
  · rintro i ⟨t,more⟩ i0 i1 ⟨ht,h1,h2,h3⟩ next
    dsimp only at ht h1 h2 h3 ⊢
    refine EvP.step (fun k=>Zw.l4.eq_2 _ _ _ _ _ _ _ _ _ _ k) ?_
    refine EvP.pos i1 ?_
    exact tab_l5 K N st rs w G hw t0 J q i q0 q1 i0 (by omega) (fun t more a b c d=>next (t,more) ⟨a,b,c,d⟩) t more ht h1 h2 h3
theorem tab_l2: ∀(d:Nat) (t:Tab3),TabInv K N rs w t→N.toNat * ((w.length + 1) * (w.length + 1)) - muT (w.length + 1) N.toNat t≤d→EvP (fun k=>Zw.l2 K N st rs w ((w.length:Int) + 1) k t true) (TabDone K N rs w):=by
  have hlen:=G.len
  intro d
  induction d with
  |zero=>
    intro t ht hd
    refine EvP.step (fun k=>Zw.l2.eq_2 _ _ _ _ _ _ _ _ k) (EvP.pos rfl ?_)
    refine EvP.loop (σ:=Tab3 × Bool) (L:=fun k q s=>Zw.l3 K N st rs w ((w.length:Int) + 1) k s.1 s.2 q) (n:=(rs.length:Int))
      (fun q s=>TabInv K N rs w s.1∧muT (w.length + 1) N.toNat t≤muT (w.length + 1) N.toNat s.1∧(s.2=true→muT (w.length + 1) N.toNat t < muT (w.length + 1) N.toNat s.1)∧(s.2=false→ClT K N rs w s.1 q 0 0)) ?_ ?_ 0 (t,false) (Int.le_refl _) (by omega) ⟨ht,Nat.le_refl _,fun h=>(by cases h),fun _ q' i' j' a b=>by omega⟩
    · rintro⟨t',more⟩ ⟨ht',h1,h2,h3⟩
      dsimp only at ht' h1 h2 h3 ⊢
      refine EvP.step (fun k=>Zw.l3.eq_2 _ _ _ _ _ _ _ _ _ k) (EvP.neg (by omega) ?_)
      refine EvP.step (fun k=>Zw.l2.eq_2 _ _ _ _ _ _ _ _ k) ?_
      cases more with
      |true=>have:=h2 rfl;have:=muT_le (w.length + 1) N.toNat t';have h2':=h2 rfl;omega
      |false=>exact EvP.neg (fun h=>by cases h) (EvP.now (tab_done K N st rs w G hw ht' (h3 rfl)))
    · rintro q ⟨t',more⟩ q0 q1 ⟨ht',h1,h2,h3⟩ next
      dsimp only at ht' h1 h2 h3 ⊢
      refine EvP.step (fun k=>Zw.l3.eq_2 _ _ _ _ _ _ _ _ _ k) (EvP.pos q1 (EvP.pos q0 ?_))
      exact tab_l4 K N st rs w G hw t _ q q0 q1 (fun t more a b c d=>next (t,more) ⟨a,b,c,d⟩) t' more ht' h1 h2 h3
  |succ d ih=>
    intro t ht hd
    refine EvP.step (fun k=>Zw.l2.eq_2 _ _ _ _ _ _ _ _ k) (EvP.pos rfl ?_)
    refine EvP.loop (σ:=Tab3 × Bool) (L:=fun k q s=>Zw.l3 K N st rs w ((w.length:Int) + 1) k s.1 s.2 q) (n:=(rs.length:Int))
      (fun q s=>TabInv K N rs w s.1∧muT (w.length + 1) N.toNat t≤muT (w.length + 1) N.toNat s.1∧(s.2=true→muT (w.length + 1) N.toNat t < muT (w.length + 1) N.toNat s.1)∧(s.2=false→ClT K N rs w s.1 q 0 0)) ?_ ?_ 0 (t,false) (Int.le_refl _) (by omega) ⟨ht,Nat.le_refl _,fun h=>(by cases h),fun _ q' i' j' a b=>by omega⟩
    · rintro⟨t',more⟩ ⟨ht',h1,h2,h3⟩
      dsimp only at ht' h1 h2 h3 ⊢
      refine EvP.step (fun k=>Zw.l3.eq_2 _ _ _ _ _ _ _ _ _ k) (EvP.neg (by omega) ?_)
      cases more with
      |true=>exact ih t' ht' (by have h2':=h2 rfl;omega)
      |false=>exact EvP.step (fun k=>Zw.l2.eq_2 _ _ _ _ _ _ _ _ k) (EvP.neg (fun h=>by cases h) (EvP.now (tab_done K N st rs w G hw ht' (h3 rfl))))
    · rintro q ⟨t',more⟩ q0 q1 ⟨ht',h1,h2,h3⟩ next
      dsimp only at ht' h1 h2 h3 ⊢
      refine EvP.step (fun k=>Zw.l3.eq_2 _ _ _ _ _ _ _ _ _ k) (EvP.pos q1 (EvP.pos q0 ?_))
      exact tab_l4 K N st rs w G hw t _ q q0 q1 (fun t more a b c d=>next (t,more) ⟨a,b,c,d⟩) t' more ht' h1 h2 h3
theorem table_ev:EvP (fun k=>Zw.f k K N st rs w) (TabDone K N rs w):=by
  have hN0:=G.N0;have hN1:=G.N1
  unfold Zw.f
  simp only [w64 (show -9223372036854775808≤(w.length:Int) + 1 by omega) (by omega)]
  refine EvP.pos (by omega) (EvP.pos (by omega) ?_)
  refine EvP.loop (σ:=Tab3) (L:=fun k a t=>Zw.l0 K N st rs w ((w.length:Int) + 1) k t a) (n:=N)
    (fun a t=>(t.length:Int)=N∧(∀a',0≤a'→a' < a→((rd_L7 t a').length:Int)=w.length + 1)∧(∀a' i:Int,0≤a'→a' < a→0≤i→i≤w.length→((rd_L6 (rd_L7 t a') i).length:Int)=w.length + 1)∧NoneT t) ?_ ?_ 0 _ (Int.le_refl _) (by omega) ⟨by rw [List.length_replicate];omega,fun a' x y=>by omega,fun a' i x y=>by omega,fun a i j _ _=>by unfold tellB;rw [rd3_rep];exact rd1_nil _⟩
  · rintro t ⟨h1,h2,h3,h4⟩
    refine EvP.step (fun k=>Zw.l0.eq_2 _ _ _ _ _ _ _ _ k) (EvP.neg (by omega) ?_)
    refine tab_l2 K N st rs w G hw _ t ⟨⟨h1,h2,h3⟩,fun a i j h=>?_⟩ (Nat.le_refl _)
    have:=h.2.2
    rw [h4 a i j h.1.1 h.2.1.1] at this;cases this
  · rintro a t a0 a1 ⟨h1,h2,h3,h4⟩ next
    refine EvP.step (fun k=>Zw.l0.eq_2 _ _ _ _ _ _ _ _ k) (EvP.pos a1 (EvP.pos (by omega) (EvP.pos (by omega) (EvP.pos a0 (EvP.pos (by omega) ?_)))))
    refine EvP.loop (σ:=Tab3) (L:=fun k i t=>Zw.l1 K N st rs w ((w.length:Int) + 1) k t a i) (n:=(w.length:Int) + 1)
      (fun i t=>(t.length:Int)=N∧(∀a',0≤a'→a' < a→((rd_L7 t a').length:Int)=w.length + 1)∧(∀a' i:Int,0≤a'→a' < a→0≤i→i≤w.length→((rd_L6 (rd_L7 t a') i).length:Int)=w.length + 1)∧NoneT t∧((rd_L7 t a).length:Int)=w.length + 1∧∀i':Int,0≤i'→i' < i→((rd_L6 (rd_L7 t a) i').length:Int)=w.length + 1) ?_ ?_ 0 _ (Int.le_refl _) (by omega) ⟨by rw [List.length_set];exact h1,fun a' x y=>by rw [rd3_set _ _ _ _ a0 (by omega) x,if_neg (by omega)];exact h2 a' x y,fun a' i x y z u=>by rw [rd3_set _ _ _ _ a0 (by omega) x,if_neg (by omega)];exact h3 a' i x y z u,fun a' i j x y=>?_,by rw [rd3_set _ _ _ _ a0 (by omega) a0,if_pos rfl,List.length_replicate];omega,fun i' x y=>by omega⟩
    · rintro t ⟨h1,h2,h3,h4,h5,h6⟩
      refine EvP.step (fun k=>Zw.l1.eq_2 _ _ _ _ _ _ _ _ _ k) (EvP.neg (by omega) ?_)
      simp only [w64 (show -9223372036854775808≤a + 1 by omega) (by omega)]
      refine next t ⟨h1,fun a' x y=>?_,fun a' i x y z u=>?_,h4⟩
      · by_cases c:a'=a
        · rw [c];exact h5
        · exact h2 a' x (by omega)
      · by_cases c:a'=a
        · rw [c];exact h6 i z (by omega)
        · exact h3 a' i x (by omega) z u
    · rintro i t i0 i1 ⟨h1,h2,h3,h4,h5,h6⟩ next2
      refine EvP.step (fun k=>Zw.l1.eq_2 _ _ _ _ _ _ _ _ _ k) ?_
      simp only [w64 (show -9223372036854775808≤i + 1 by omega) (by omega)]
      refine EvP.pos i1 (EvP.pos a0 (EvP.pos (by omega) (EvP.pos (by omega) (EvP.pos (by omega) (EvP.pos i0 (EvP.pos (by omega) ?_))))))
      refine next2 _ ⟨by rw [List.length_set];exact h1,fun a' x y=>by rw [rd3_set _ _ _ _ a0 (by omega) x,if_neg (by omega)];exact h2 a' x y,fun a' i x y z u=>by rw [rd3_set _ _ _ _ a0 (by omega) x,if_neg (by omega)];exact h3 a' i x y z u,fun a' i' j x y=>?_,by rw [rd3_set _ _ _ _ a0 (by omega) a0,if_pos rfl,List.length_set];exact h5,fun i' x y=>?_⟩
      · unfold tellB
        rw [rd3_set _ _ _ _ a0 (by omega) x]
        split
        · rename_i c
          rw [rd2_set _ _ _ _ i0 (by omega) y]
          split
          · exact rd1_rep _ _
          · exact h4 a i' j a0 y
        · exact h4 a' i' j x y
      · rw [rd3_set _ _ _ _ a0 (by omega) a0,if_pos rfl,rd2_set _ _ _ _ i0 (by omega) x]
        split
        · rw [List.length_replicate];omega
        · exact h6 i' x (by omega)
    · unfold tellB
      rw [rd3_set _ _ _ _ a0 (by omega) x]
      split
      · rw [rd2_rep];exact rd1_nil _
      · exact h4 a' i j x y
end
abbrev TabI:=List (List Int)
theorem rdL_set (t:TabI) (a a':Int) (r:List Int) (h0:0≤a) (h1:a < t.length) (h2:0≤a'):Zt (t.set a.toNat r) a'=if a'=a then r else Zt t a':=by
  simp only [Zt,List.getD_eq_getElem?_getD]
  by_cases c:a'=a
  · subst c;rw [if_pos rfl,List.getElem?_set_self (by omega)];rfl
  · rw [if_neg c,List.getElem?_set_ne (by omega)]
theorem rdL_rep (n:Nat) (a:Int):Zt (List.replicate n ([] :List Int)) a= []:=by
  simp only [Zt,List.getD_eq_getElem?_getD]
  rw [List.getElem?_replicate];split <;> rfl
theorem rd_nil0 (a:Int):rd ([] :List Int) a=0:=by simp [rd]
theorem rd_rep0 (n:Nat) (a:Int):rd (List.replicate n (0:Int)) a=0:=by
  simp only [rd,List.getD_eq_getElem?_getD]
  rw [List.getElem?_replicate];split <;> rfl
theorem rdL_self (t:TabI) (a:Int) (h0:0≤a) (h1:a < t.length):t.set a.toNat (Zt t a)=t:=by
  have h:a.toNat < t.length:=by omega
  have e:Zt t a=t[a.toNat]:=by simp [Zt,List.getD_eq_getElem?_getD,List.getElem?_eq_getElem h]
  rw [e,List.set_getElem_self]
theorem rd_self (t:List Int) (a:Int) (h0:0≤a) (h1:a < t.length):t.set a.toNat (rd t a)=t:=by
  have h:a.toNat < t.length:=by omega
  rw [rd_getElem h,List.set_getElem_self]
def ent (t:TabI) (a i:Int):Nat:=(rd (Zt t a) i).toNat
def tellI (t:TabI) (a i j:Int):Bool:=(ent t a i).testBit j.toNat
structure RectI (N n:Int) (t:TabI):Prop where
  l1:(t.length:Int)=N
  l2: ∀a,0≤a→a < N→((Zt t a).length:Int)=n + 1
  l3: ∀a i,0≤a→a < N→0≤i→i≤n→rd (Zt t a) i=((ent t a i:Nat):Int)∧ent t a i < 2 ^ (n.toNat + 1)
def Ti (N n:Int) (t:TabI) (a i j:Int):Prop:=(0≤a∧a < N)∧(0≤i∧i≤j∧j≤n)∧tellI t a i j=true
section
variable (K N st:Int) (rs:List S41) (w:List Int) (G:GOK K N st rs) (hw:w.length≤12)
structure FillInv (t:TabI):Prop where
  rect:RectI N (w.length:Int) t
  sound: ∀a i:Int,∀j:Nat,0≤a→a < N→0≤i→i≤w.length→(ent t a i).testBit j=true→i≤j∧(j:Int)≤w.length∧Mk K rs w [K + a] i j
def ClI (t:TabI) (q i:Int):Prop:=∀q' i' j':Int,0≤q'→(q' < q∨q'=q∧i' < i)→q' < rs.length→0≤i'→i'≤j'→j'≤w.length→
  Over K w (Ti N (w.length:Int) t) (Zb rs q').f1 i' j'→Ti N (w.length:Int) t (Zb rs q').f0 i' j'
def FillDone (t:TabI):Prop:=RectI N (w.length:Int) t∧∀a i j:Int,0≤a→a < N→0≤i→i≤j→j≤w.length→(tellI t a i j=true↔Mk K rs w [K + a] i j)
include G hw
theorem pow32 {x:Nat} (h:x < 2 ^ (((w.length:Nat):Int).toNat + 1)):x < 2 ^ 32:=Nat.lt_of_lt_of_le h (Nat.pow_le_pow_right (by omega) (by omega))
theorem ends_l0 (t : TabI) (ht : FillInv K N rs w t) (l : List Int) (hl : ∀ x ∈ l, 0 ≤ x ∧ x < K + N) (hl4 : l.length ≤ 4) : ∀ (d : Nat) (q : Int) (F : Nat), 0 ≤ q → q + d = l.length → F < 2 ^ (((w.length : Nat) : Int).toNat + 1) →
    EvP (fun k=>Zj1.l0 k t w (F:Int) l (l.length:Int) q K N st rs) (fun r=>∃E:Nat,r=(E:Int)∧E < 2 ^ (((w.length:Nat):Int).toNat + 1)∧∀j:Nat,E.testBit j=true↔∃i:Nat,F.testBit i=true∧Over K w (Ti N (w.length:Int) t) (l.drop q.toNat) i j):=by
  have hK0:=G.K0;have hK1:=G.K1;have hN0:=G.N0;have hN1:=G.N1
  intro d
  induction d with
  |zero=>
    intro q F q0 qd hF
    refine EvP.step (fun k=>Zj1.l0.eq_2 _ _ _ _ _ _ _ _ _ _ k) (EvP.neg (by omega) (EvP.now ⟨F,rfl,hF,fun j=>?_⟩))
    rw [List.drop_eq_nil_of_le (by omega)]
    constructor
    · intro h;exact⟨j,h,rfl⟩
    · rintro⟨i,h,e⟩
      have e:(i:Int)=j:=e
      rwa [show j=i by omega]
  |succ d ih=>
    intro q F q0 qd hF
    have hx:=hl _ (rd_mem q0 (show q < l.length by omega))
    have hF32:=pow32 K N st rs w G hw hF
    refine EvP.step (fun k=>Zj1.l0.eq_2 _ _ _ _ _ _ _ _ _ _ k) (EvP.pos (by omega) (EvP.pos q0 (EvP.pos (by omega) ?_)))
    simp only [w64 (show -9223372036854775808≤(w.length:Int) + 1 by omega) (by omega)]
    rw [drop_rd q0 (by omega)]
    obtain⟨x,ex⟩ : ∃x,rd l q=x:=⟨_,rfl⟩
    rw [ex] at hx ⊢
    refine EvP.loop (σ:=Nat) (L:=fun k i tv=>Zj1.l1 k t w (F:Int) x (tv:Int) l (l.length:Int) q ((w.length:Int) + 1) i K N st rs) (n:=(w.length:Int) + 1)
      (fun i tv=>tv < 2 ^ (((w.length:Nat):Int).toNat + 1)∧∀j:Nat,tv.testBit j=true↔∃i':Nat,(i':Int) < i∧F.testBit i'=true∧One K w (Ti N (w.length:Int) t) x i' j) ?_ ?_ 0 0 (Int.le_refl _) (by omega) ⟨Nat.two_pow_pos _,fun j=>⟨fun h=>by simp at h,fun⟨i',h,_⟩=>by omega⟩⟩
    · rintro tv ⟨h1,h2⟩
      refine EvP.step (fun k=>Zj1.l1.eq_2 _ _ _ _ _ _ _ _ _ _ _ _ _ _ k) (EvP.neg (by omega) ?_)
      simp only [w64 (show -9223372036854775808≤q + 1 by omega) (by omega)]
      refine EvP.mono (ih (q + 1) tv (by omega) (by omega) h1) ?_
      rintro r ⟨E,e1,e2,e3⟩
      refine⟨E,e1,e2,fun j=>?_⟩
      rw [e3 j]
      constructor
      · rintro⟨m,hm,ho⟩
        obtain⟨i',_,hi2,hi3⟩:=(h2 m).1 hm
        have hle:(i':Int)≤m:=by
          rcases hi3 with hi3|hi3
          · exact hi3.2.2.1.2.1
          · omega
        exact⟨i',hi2,(m:Int),hle,ho.le,hi3,ho⟩
      · rintro⟨i,hi,m,hm1,hm2,hm3,hm4⟩
        obtain⟨m',rfl⟩:=Int.eq_ofNat_of_zero_le (show 0≤m by omega)
        refine⟨m',(h2 m').2 ⟨i,?_,hi,hm3⟩,hm4⟩
        have:¬ ((w.length:Int) + 1≤i):=by
          intro c
          have:=Nat.testBit_lt_two_pow (Nat.lt_of_lt_of_le hF (Nat.pow_le_pow_right (by omega) (show((w.length:Nat):Int).toNat + 1≤i by omega)))
          rw [hi] at this;cases this
        omega
    · rintro i tv i0 i1 ⟨h1,h2⟩ next
      obtain⟨m,rfl⟩:=Int.eq_ofNat_of_zero_le i0
      have to32:=pow32 K N st rs w G hw h1
      refine EvP.step (fun k=>Zj1.l1.eq_2 _ _ _ _ _ _ _ _ _ _ _ _ _ _ k) (EvP.pos i1 (EvP.pos i0 ?_))
      simp only [w64 (show -9223372036854775808≤(m:Int) + 1 by omega) (by omega)]
      have hb:=bit_shr0 F m hF32 (by omega)
      have same:(∀j:Nat,F.testBit m=true→One K w (Ti N (w.length:Int) t) x m j→tv.testBit j=true)→EvP (fun k=>Zj1.l1 k t w (F:Int) x (tv:Int) l (l.length:Int) q ((w.length:Int) + 1) ((m:Int) + 1) K N st rs) (fun r=>∃E:Nat,r=(E:Int)∧E < 2 ^ (((w.length:Nat):Int).toNat + 1)∧∀j:Nat,E.testBit j=true↔∃i:Nat,F.testBit i=true∧Over K w (Ti N (w.length:Int) t) (x :: l.drop (q + 1).toNat) i j):=by
        intro h
        refine next tv ⟨h1,fun j=>?_⟩
        rw [h2 j]
        constructor
        · rintro⟨i',a,b⟩;exact⟨i',by omega,b⟩
        · rintro⟨i',a,b,c⟩
          by_cases e:i'=m
          · subst e;exact(h2 j).1 (h j b c)
          · exact⟨i',by omega,b,c⟩
      have add: ∀A:Nat,A < 2 ^ (((w.length:Nat):Int).toNat + 1)→F.testBit m=true→(∀j:Nat,A.testBit j=true↔One K w (Ti N (w.length:Int) t) x m j)→EvP (fun k=>Zj1.l1 k t w (F:Int) x ((tv ||| A:Nat):Int) l (l.length:Int) q ((w.length:Int) + 1) ((m:Int) + 1) K N st rs) (fun r=>∃E:Nat,r=(E:Int)∧E < 2 ^ (((w.length:Nat):Int).toNat + 1)∧∀j:Nat,E.testBit j=true↔∃i:Nat,F.testBit i=true∧Over K w (Ti N (w.length:Int) t) (x :: l.drop (q + 1).toNat) i j):=by
        intro A hA hm hj
        refine next (tv ||| A) ⟨Nat.or_lt_two_pow h1 hA,fun j=>?_⟩
        rw [Nat.testBit_or,Bool.or_eq_true,h2 j,hj j]
        constructor
        · rintro(⟨i',a,b⟩|c)
          · exact⟨i',by omega,b⟩
          · exact⟨m,by omega,hm,c⟩
        · rintro⟨i',a,b,c⟩
          by_cases e:i'=m
          · subst e;exact .inr c
          · exact .inl ⟨i',by omega,b,c⟩
      cases hm:F.testBit m with
      |false=>
        rw [hm] at hb
        refine EvP.pos (by simpa using hb) (same (fun j h=>by rw [hm] at h;cases h))
      |true=>
        rw [hm] at hb
        refine EvP.neg (by simpa using hb) ?_
        by_cases c:x≥K
        · have a0:0≤x - K:=by omega
          have a1:x - K < N:=by omega
          have e1:=ht.rect.l1
          have e2:=ht.rect.l2 _ a0 a1
          have e3:=ht.rect.l3 _ (m:Int) a0 a1 i0 (by omega)
          refine EvP.pos c ?_
          simp only [w64 (show -9223372036854775808≤x - K by omega) (by omega)]
          refine EvP.pos a0 (EvP.pos (by omega) (EvP.pos (by omega) ?_))
          rw [e3.1,u32_or tv _ to32 (pow32 K N st rs w G hw e3.2)]
          refine add _ e3.2 hm (fun j=>?_)
          constructor
          · intro h
            have:=ht.sound _ _ j a0 a1 i0 (by omega) h
            exact .inl ⟨c,⟨a0,a1⟩,⟨i0,this.1,this.2.1⟩,by unfold tellI;rw [Int.toNat_natCast];exact h⟩
          · rintro(h|h)
            · have:=h.2.2.2;unfold tellI at this;rwa [Int.toNat_natCast] at this
            · omega
        · refine EvP.neg c ?_
          by_cases c2:(m:Int) < (w.length:Int)
          · refine EvP.pos c2 ?_
            by_cases c3:rd w (m:Int)=x
            · refine EvP.pos c3 (EvP.pos (by omega) ?_)
              have eb:=bit_or tv (m + 1) to32 (by omega)
              rw [show((m + 1:Nat):Int)=(m:Int) + 1 by omega] at eb
              rw [eb]
              refine add (2 ^ (m + 1)) (Nat.pow_lt_pow_right (by omega) (by omega)) hm (fun j=>?_)
              rw [Nat.testBit_two_pow,decide_eq_true_eq]
              constructor
              · intro h;exact .inr ⟨by omega,by omega,c2,c3⟩
              · rintro(h|h)
                · omega
                · omega
            · refine EvP.neg c3 (same (fun j _ h=>?_))
              rcases h with h|h
              · omega
              · exact absurd h.2.2.2 c3
          · refine EvP.neg c2 (same (fun j _ h=>?_))
            rcases h with h|h
            · omega
            · omega
theorem ends_ev (t : TabI) (ht : FillInv K N rs w t) (l : List Int) (hl : ∀ x ∈ l, 0 ≤ x ∧ x < K + N) (hl4 : l.length ≤ 4) (i : Int) (i0 : 0 ≤ i) (i1 : i ≤ w.length) :
    EvP (fun k=>Zj1.f k t K N st rs w l (shl .u32 1 i)) (fun r=>∃E:Nat,r=(E:Int)∧E < 2 ^ (((w.length:Nat):Int).toNat + 1)∧∀j:Nat,E.testBit j=true↔Over K w (Ti N (w.length:Int) t) l i j):=by
  obtain⟨m,rfl⟩:=Int.eq_ofNat_of_zero_le i0
  rw [shl1 m (by omega)]
  unfold Zj1.f
  refine EvP.mono (ends_l0 K N st rs w G hw t ht l hl hl4 l.length 0 (2 ^ m) (Int.le_refl _) (by omega) (Nat.pow_lt_pow_right (by omega) (by omega))) ?_
  rintro r ⟨E,e1,e2,e3⟩
  refine⟨E,e1,e2,fun j=>?_⟩
  rw [e3 j]
  constructor
  · rintro⟨i,hi,ho⟩
    rw [Nat.testBit_two_pow,decide_eq_true_eq] at hi
    subst hi;exact ho
  · intro h;exact⟨m,Nat.testBit_two_pow_self,h⟩
theorem fill_done {t:TabI} (h:FillInv K N rs w t) (hc:ClI K N rs w t rs.length 0):FillDone K N rs w t:=by
  refine⟨h.rect,fun a i j a0 a1 i0 ij j1=>⟨fun q=>?_,fun q=>?_⟩⟩
  · have:=(h.sound a i j.toNat a0 a1 i0 (by omega) q).2.2
    rwa [show((j.toNat:Nat):Int)=j by omega] at this
  have hcl: ∀r∈rs,∀i j:Int,0≤i→i≤j→j≤w.length→Over K w (Ti N (w.length:Int) t) r.f1 i j→Ti N (w.length:Int) t r.f0 i j:=by
    intro r hr i j i0 ij j1 ho
    obtain⟨m,hm,rfl⟩:=List.mem_iff_getElem.1 hr
    have e:Zb rs (m:Int)=rs[m]:=by simp [Zb,List.getD_eq_getElem?_getD,List.getElem?_eq_getElem hm]
    have:=hc (m:Int) i j (by omega) (.inl (by omega)) (by omega) i0 ij j1
    rw [e] at this
    exact this ho
  have:=Mk.over (T:=Ti N (w.length:Int) t) hcl (fun r hr=>G.r0 r hr) q i0 j1 (by omega)
  obtain⟨m,_,_,h1,h2⟩:=this
  have h2:m=j:=h2
  subst h2
  rcases h1 with h1|h1
  · rw [show K + a - K=a by omega] at h1;exact h1.2.2.2
  · omega
theorem ent_put {t : TabI} (ht : RectI N (w.length : Int) t) {a i : Int} (a0 : 0 ≤ a) (a1 : a < N) (i0 : 0 ≤ i) (i1 : i ≤ w.length) (E : Nat) {a' i' : Int} (a'0 : 0 ≤ a') (i'0 : 0 ≤ i') :
    rd (Zt (t.set a.toNat ((Zt t a).set i.toNat ((ent t a i ||| E:Nat):Int))) a') i'=if a'=a∧i'=i then((ent t a i ||| E:Nat):Int) else rd (Zt t a') i':=by
  have e1:=ht.l1
  have e2:=ht.l2 a a0 a1
  rw [rdL_set _ _ _ _ a0 (by omega) a'0]
  by_cases c:a'=a
  · subst c
    rw [if_pos rfl]
    by_cases d:i'=i
    · subst d;rw [rd_set_eq _ _ _ i0 (by omega),if_pos ⟨rfl,rfl⟩]
    · rw [rd_set_ne _ _ _ _ i0 i'0 d,if_neg (fun q=>d q.2)]
  · rw [if_neg c,if_neg (fun q=>c q.1)]
theorem inv_put {t : TabI} (ht : FillInv K N rs w t) {a i : Int} (a0 : 0 ≤ a) (a1 : a < N) (i0 : 0 ≤ i) (i1 : i ≤ w.length) (E : Nat) (hE : E < 2 ^ (((w.length : Nat) : Int).toNat + 1))
    (hs: ∀j:Nat,E.testBit j=true→i≤j∧(j:Int)≤w.length∧Mk K rs w [K + a] i j):
    FillInv K N rs w (t.set a.toNat ((Zt t a).set i.toNat ((ent t a i ||| E:Nat):Int))):=by
  have e1:=ht.rect.l1
  have e2:=ht.rect.l2 a a0 a1
  have e3:=ht.rect.l3 a i a0 a1 i0 i1
  have en: ∀a' i',0≤a'→0≤i'→ent (t.set a.toNat ((Zt t a).set i.toNat ((ent t a i ||| E:Nat):Int))) a' i'=if a'=a∧i'=i then(ent t a i ||| E) else ent t a' i':=by
    intro a' i' x y
    show(rd (Zt _ a') i').toNat=_
    rw [ent_put K N st rs w G hw ht.rect a0 a1 i0 i1 E x y]
    split
    · omega
    · rfl
  refine⟨⟨by rw [List.length_set];exact e1,fun a' x y=>?_,fun a' i' x y z u=>?_⟩,fun a' i' j x y z u h=>?_⟩
  · rw [rdL_set _ _ _ _ a0 (by omega) x]
    split
    · rw [List.length_set];exact e2
    · exact ht.rect.l2 a' x y
  · rw [en a' i' x z,ent_put K N st rs w G hw ht.rect a0 a1 i0 i1 E x z]
    split
    · exact⟨rfl,Nat.or_lt_two_pow e3.2 hE⟩
    · exact ht.rect.l3 a' i' x y z u
  · rw [en a' i' x z] at h
    split at h
    · rename_i c
      obtain⟨rfl,rfl⟩:=c
      rw [Nat.testBit_or,Bool.or_eq_true] at h
      rcases h with h|h
      · exact ht.sound a' i' j x y z u h
      · exact hs j h
    · exact ht.sound a' i' j x y z u h
theorem mu_put {t : TabI} (ht : FillInv K N rs w t) {a i : Int} (a0 : 0 ≤ a) (a1 : a < N) (i0 : 0 ≤ i) (i1 : i ≤ w.length) (E : Nat) (hE : E < 2 ^ (((w.length : Nat) : Int).toNat + 1)) (hne : ent t a i ||| E ≠ ent t a i) :
    muF (w.length + 1) N.toNat (tellI t) < muF (w.length + 1) N.toNat (tellI (t.set a.toNat ((Zt t a).set i.toNat ((ent t a i ||| E:Nat):Int)))):=by
  have e3:=ht.rect.l3 a i a0 a1 i0 i1
  have en: ∀a' i',0≤a'→0≤i'→ent (t.set a.toNat ((Zt t a).set i.toNat ((ent t a i ||| E:Nat):Int))) a' i'=if a'=a∧i'=i then(ent t a i ||| E) else ent t a' i':=by
    intro a' i' x y
    show(rd (Zt _ a') i').toNat=_
    rw [ent_put K N st rs w G hw ht.rect a0 a1 i0 i1 E x y]
    split
    · omega
    · rfl
  obtain⟨j,j1,j2,j3⟩:=bits_ne e3.2 (Nat.or_lt_two_pow e3.2 hE) (fun j h=>by rw [Nat.testBit_or,h,Bool.true_or]) hne
  refine muF_lt (a:=a.toNat) (i:=i.toNat) (j:=j) (fun a' i' j' x y z h=>?_) (by omega) (by omega) (by omega) ?_ ?_
  · unfold tellI at h ⊢
    rw [en a' i' x y]
    split
    · rename_i c
      obtain⟨rfl,rfl⟩:=c
      rw [Nat.testBit_or,h,Bool.true_or]
    · exact h
  · unfold tellI
    rw [show(((a.toNat:Nat):Int))=a by omega,show((i.toNat:Nat):Int)=i by omega,Int.toNat_natCast];exact j2
  · unfold tellI
    rw [show(((a.toNat:Nat):Int))=a by omega,show((i.toNat:Nat):Int)=i by omega,Int.toNat_natCast,en a i a0 i0,if_pos ⟨rfl,rfl⟩];exact j3
theorem fill_l3 (t0 : TabI) (J : TabI → Prop) (q : Int) (q0 : 0 ≤ q) (q1 : q < rs.length)
    (hend: ∀t more,FillInv K N rs w t→muF (w.length + 1) N.toNat (tellI t0)≤muF (w.length + 1) N.toNat (tellI t)→(more=true→muF (w.length + 1) N.toNat (tellI t0) < muF (w.length + 1) N.toNat (tellI t))→(more=false→ClI K N rs w t (q + 1) 0)→EvP (fun k=>Zq.l2 k w t more rs (rs.length:Int) (q + 1) K N st rs) J):
    ∀t more,FillInv K N rs w t→muF (w.length + 1) N.toNat (tellI t0)≤muF (w.length + 1) N.toNat (tellI t)→(more=true→muF (w.length + 1) N.toNat (tellI t0) < muF (w.length + 1) N.toNat (tellI t))→(more=false→ClI K N rs w t q 0)→
      EvP (fun k=>Zq.l3 k w t more rs (rs.length:Int) q ((w.length:Int) + 1) 0 K N st rs (Zb rs q).f0 (Zb rs q).f1) J:=by
  have hlen:=G.len
  have hm:=rule_mem q0 q1
  have r0:=G.r0 _ hm
  have r1:=G.r1 _ hm
  intro t more ht h1 h2 h3
  refine EvP.loop (σ:=TabI × Bool) (L:=fun k i s=>Zq.l3 k w s.1 s.2 rs (rs.length:Int) q ((w.length:Int) + 1) i K N st rs (Zb rs q).f0 (Zb rs q).f1) (n:=(w.length:Int) + 1)
    (fun i s=>FillInv K N rs w s.1∧muF (w.length + 1) N.toNat (tellI t0)≤muF (w.length + 1) N.toNat (tellI s.1)∧(s.2=true→muF (w.length + 1) N.toNat (tellI t0) < muF (w.length + 1) N.toNat (tellI s.1))∧(s.2=false→ClI K N rs w s.1 q i)) ?_ ?_ 0 (t,more) (Int.le_refl _) (by omega) ⟨ht,h1,h2,h3⟩
  · rintro⟨t,more⟩ ⟨ht,h1,h2,h3⟩
    dsimp only at ht h1 h2 h3 ⊢
    refine EvP.step (fun k=>Zq.l3.eq_2 _ _ _ _ _ _ _ _ _ _ _ _ _ _ k) (EvP.neg (by omega) ?_)
    simp only [w64 (show -9223372036854775808≤q + 1 by omega) (by omega)]
    refine hend t more ht h1 h2 (fun hm=>?_)
    intro q' i' j' a b c d e f
    refine h3 hm q' i' j' a ?_ c d e f
    rcases b with b|⟨b1,b⟩
    · by_cases x:q'=q
      · exact .inr ⟨x,by omega⟩
      · exact .inl (by omega)
    · omega
  · rintro i ⟨t,more⟩ i0 i1 ⟨ht,h1,h2,h3⟩ next
    dsimp only at ht h1 h2 h3 ⊢
    have e1:=ht.rect.l1
    have e2:=ht.rect.l2 _ r0 r1
    have e3:=ht.rect.l3 _ i r0 r1 i0 (by omega)
    refine EvP.step (fun k=>Zq.l3.eq_2 _ _ _ _ _ _ _ _ _ _ _ _ _ _ k) (EvP.pos i1 (EvP.pos i0 ?_))
    simp only [w64 (show -9223372036854775808≤i + 1 by omega) (by omega)]
    refine EvP.bindP (ends_ev K N st rs w G hw t ht (Zb rs q).f1 (fun x hx=>⟨G.x0 _ hm x hx,G.x1 _ hm x hx⟩) (G.rl _ hm) i i0 (by omega)) ?_
    rintro _ ⟨E,rfl,hE,hj⟩
    have e32:=pow32 K N st rs w G hw e3.2
    have E32:=pow32 K N st rs w G hw hE
    rw [e3.1,u32_or _ _ e32 E32,andNot_ne _ _ E32 e32]
    have over_mk: ∀j:Nat,E.testBit j=true→i≤j∧(j:Int)≤w.length∧Mk K rs w [K + (Zb rs q).f0] i j:=by
      intro j h
      have ho:=(hj j).1 h
      have:(j:Int)≤w.length:=by
        rcases Int.lt_or_le (w.length:Int) j with c|c
        · have:=Nat.testBit_lt_two_pow (Nat.lt_of_lt_of_le hE (Nat.pow_le_pow_right (by omega) (show((w.length:Nat):Int).toNat + 1≤j by omega)))
          rw [h] at this;cases this
        · exact c
      refine⟨ho.le,this,Mk.rule hm (Over.mk (fun a i j h=>?_) i0 ho)⟩
      have:=(ht.sound a i j.toNat h.1.1 h.1.2 h.2.1.1 (by have:=h.2.1;omega) h.2.2).2.2
      rwa [show((j.toNat:Nat):Int)=j by have:=h.2.1;omega] at this
    have inv:=inv_put K N st rs w G hw ht r0 r1 i0 (show i≤w.length by omega) E hE over_mk
    have up : ∀ more', (more' = true → more = true ∨ ent t (Zb rs q).f0 i ||| E ≠ ent t (Zb rs q).f0 i) → (more' = false → more = false ∧ ent t (Zb rs q).f0 i ||| E = ent t (Zb rs q).f0 i) →
        EvP (fun k=>Zq.l3 k w (t.set (Zb rs q).f0.toNat ((Zt t (Zb rs q).f0).set i.toNat ((ent t (Zb rs q).f0 i ||| E:Nat):Int))) more' rs (rs.length:Int) q ((w.length:Int) + 1) (i + 1) K N st rs (Zb rs q).f0 (Zb rs q).f1) J:=by
      intro more' hy hn
      by_cases c:ent t (Zb rs q).f0 i ||| E=ent t (Zb rs q).f0 i
      · have same : t.set (Zb rs q).f0.toNat ((Zt t (Zb rs q).f0).set i.toNat ((ent t (Zb rs q).f0 i ||| E : Nat) : Int)) = t := by
          rw [c,← e3.1,rd_self _ _ i0 (by omega),rdL_self _ _ r0 (by omega)]
        rw [same]
        refine next (t,more') ⟨ht,h1,fun h=>?_,fun h=>?_⟩
        · rcases hy h with x|x
          · exact h2 x
          · exact absurd c x
        · have h3:=h3 (hn h).1
          intro q' i' j' a b c' d e f g
          by_cases x:q'=q∧i'=i
          · obtain⟨rfl,rfl⟩:=x
            refine⟨⟨r0,r1⟩,⟨d,e,f⟩,?_⟩
            unfold tellI
            have hb:=(hj j'.toNat).2 (by rwa [show((j'.toNat:Nat):Int)=j' by omega])
            rw [← c,Nat.testBit_or,hb,Bool.or_true]
          · refine h3 q' i' j' a ?_ c' d e f g
            rcases b with b|⟨b1,b⟩
            · exact .inl b
            · exact .inr ⟨b1,by omega⟩
      · have lt:=mu_put K N st rs w G hw ht r0 r1 i0 (show i≤w.length by omega) E hE c
        refine next (_,more') ⟨inv,Nat.le_trans h1 (Nat.le_of_lt lt),fun _=>Nat.lt_of_le_of_lt h1 lt,fun h=>absurd (hn h).2 c⟩
    cases more with
    |true=>
      refine EvP.pos rfl (EvP.pos r0 (EvP.pos (by omega) (EvP.pos (by omega) ?_)))
      exact up true (fun _=> .inl rfl) (fun h=>by cases h)
    |false=>
      refine EvP.neg (fun h=>by cases h) (EvP.pos r0 (EvP.pos (by omega) (EvP.pos (by omega) ?_)))
      exact up _ (fun h=> .inr (by simpa using h)) (fun h=>⟨rfl,by simpa using h⟩)
theorem fill_l1: ∀(d:Nat) (t:TabI),FillInv K N rs w t→N.toNat * ((w.length + 1) * (w.length + 1)) - muF (w.length + 1) N.toNat (tellI t)≤d→EvP (fun k=>Zq.l1 k w t true K N st rs) (FillDone K N rs w):=by
  have hlen:=G.len
  have pass: ∀(t:TabI) (J:TabI→Prop),FillInv K N rs w t→(∀t' more,FillInv K N rs w t'→(more=true→muF (w.length + 1) N.toNat (tellI t) < muF (w.length + 1) N.toNat (tellI t'))→(more=false→ClI K N rs w t' rs.length 0)→EvP (fun k=>Zq.l1 k w t' more K N st rs) J)→EvP (fun k=>Zq.l1 k w t true K N st rs) J:=by
    intro t J ht hJ
    refine EvP.step (fun k=>Zq.l1.eq_2 _ _ _ _ _ _ _ k) (EvP.pos rfl ?_)
    refine EvP.loop (σ:=TabI × Bool) (L:=fun k q s=>Zq.l2 k w s.1 s.2 rs (rs.length:Int) q K N st rs) (n:=(rs.length:Int))
      (fun q s=>FillInv K N rs w s.1∧muF (w.length + 1) N.toNat (tellI t)≤muF (w.length + 1) N.toNat (tellI s.1)∧(s.2=true→muF (w.length + 1) N.toNat (tellI t) < muF (w.length + 1) N.toNat (tellI s.1))∧(s.2=false→ClI K N rs w s.1 q 0)) ?_ ?_ 0 (t,false) (Int.le_refl _) (by omega) ⟨ht,Nat.le_refl _,fun h=>(by cases h),fun _ q' i' j' a b=>by omega⟩
    · rintro⟨t',more⟩ ⟨ht',h1,h2,h3⟩
      dsimp only at ht' h1 h2 h3 ⊢
      refine EvP.step (fun k=>Zq.l2.eq_2 _ _ _ _ _ _ _ _ _ _ k) (EvP.neg (by omega) ?_)
      exact hJ t' more ht' h2 h3
    · rintro q ⟨t',more⟩ q0 q1 ⟨ht',h1,h2,h3⟩ next
      dsimp only at ht' h1 h2 h3 ⊢
      refine EvP.step (fun k=>Zq.l2.eq_2 _ _ _ _ _ _ _ _ _ _ k) (EvP.pos q1 (EvP.pos q0 (EvP.pos q1 ?_)))
      simp only [w64 (show -9223372036854775808≤(w.length:Int) + 1 by omega) (by omega)]
      exact fill_l3 K N st rs w G hw t _ q q0 q1 (fun t more a b c d=>next (t,more) ⟨a,b,c,d⟩) t' more ht' h1 h2 h3
  intro d
  induction d with
  |zero=>
    intro t ht hd
    refine pass t _ ht (fun t' more ht' h2 h3=>?_)
    cases more with
    |true=>have h2':=h2 rfl;have:=muF_le (w.length + 1) N.toNat (tellI t');omega
    |false=>exact EvP.step (fun k=>Zq.l1.eq_2 _ _ _ _ _ _ _ k) (EvP.neg (fun h=>by cases h) (EvP.now (fill_done K N st rs w G hw ht' (h3 rfl))))
  |succ d ih=>
    intro t ht hd
    refine pass t _ ht (fun t' more ht' h2 h3=>?_)
    cases more with
    |true=>exact ih t' ht' (by have h2':=h2 rfl;omega)
    |false=>exact EvP.step (fun k=>Zq.l1.eq_2 _ _ _ _ _ _ _ k) (EvP.neg (fun h=>by cases h) (EvP.now (fill_done K N st rs w G hw ht' (h3 rfl))))
theorem fill_ev:EvP (fun k=>Zq.f k K N st rs w) (FillDone K N rs w):=by
  have hN0:=G.N0;have hN1:=G.N1
  unfold Zq.f
  refine EvP.pos (by omega) (EvP.pos (by omega) (EvP.bind (Ev.now _) ?_))
  refine EvP.loop (σ:=TabI) (L:=fun k a t=>Zq.l0 k w t ((List.replicate N.toNat ([] :List Int)).length:Int) a K N st rs) (n:=((List.replicate N.toNat ([] :List Int)).length:Int))
    (fun a t=>(t.length:Int)=N∧(∀a',0≤a'→a' < a→((Zt t a').length:Int)=w.length + 1)∧∀a' i:Int,0≤a'→0≤i→rd (Zt t a') i=0) ?_ ?_ 0 _ (Int.le_refl _) (by omega) ⟨by rw [List.length_replicate];omega,fun a' x y=>by omega,fun a i _ _=>by rw [rdL_rep];exact rd_nil0 _⟩
  · rintro t ⟨h1,h2,h3⟩
    rw [List.length_replicate] at h2
    refine EvP.step (fun k=>Zq.l0.eq_2 _ _ _ _ _ _ _ _ k) (EvP.neg (by omega) ?_)
    have z: ∀a i:Int,0≤a→0≤i→ent t a i=0:=fun a i x y=>by unfold ent;rw [h3 a i x y];rfl
    refine fill_l1 K N st rs w G hw _ t ⟨⟨h1,fun a x y=>h2 a x (by omega),fun a i x y u v=>⟨by rw [h3 a i x u,z a i x u];rfl,by rw [z a i x u];exact Nat.two_pow_pos _⟩⟩,fun a i j x y u v h=>?_⟩ (Nat.le_refl _)
    rw [z a i x u] at h;simp at h
  · rintro a t a0 a1 ⟨h1,h2,h3⟩ next
    rw [List.length_replicate] at a1
    refine EvP.step (fun k=>Zq.l0.eq_2 _ _ _ _ _ _ _ _ k) ?_
    simp only [w64 (show -9223372036854775808≤(w.length:Int) + 1 by omega) (by omega),w64 (show -9223372036854775808≤a + 1 by omega) (by omega)]
    refine EvP.pos (by rw [List.length_replicate];omega) (EvP.pos (by omega) (EvP.pos (by omega) (EvP.pos a0 (EvP.pos (by omega) ?_))))
    refine next _ ⟨by rw [List.length_set];exact h1,fun a' x y=>?_,fun a' i x y=>?_⟩
    · rw [rdL_set _ _ _ _ a0 (by omega) x]
      split
      · rw [List.length_replicate];omega
      · exact h2 a' x (by omega)
    · rw [rdL_set _ _ _ _ a0 (by omega) x]
      split
      · exact rd_rep0 _ _
      · exact h3 a' i x y
end
theorem maskB_or (p:Nat→Bool) (j:Nat) (h:p j=true):maskB p j ||| 2 ^ j=maskB p (j + 1):=by
  apply Nat.eq_of_testBit_eq
  intro i
  rw [Nat.testBit_or,maskB_bit,maskB_bit,Nat.testBit_two_pow]
  by_cases e:i=j
  · subst e;simp [h]
  · have:decide (i < j)=decide (i < j + 1):=by congr 1;apply propext;omega
    rw [this];simp [show ¬ j=i from fun q=>e q.symm]
theorem twrong_ev (K N st:Int) (rs:List S41) (w:List Int):Ev (fun k=>table_wrong.f k K N st rs w) (if gcode K N st rs=0 then wordCode K w else gcode K N st rs):=by
  unfold table_wrong.f
  refine Ev.bind (gcheck_ev K N st rs) ?_
  by_cases h:gcode K N st rs=0
  · refine Ev.pos h ?_
    rw [if_pos h,Words_eq]
    exact Ev.now _
  · refine Ev.neg h ?_
    rw [if_neg h];exact Ev.now _
theorem wordOf_ev (K N st:Int) (rs:List S41) (w:List Int):Ev (fun k=>Zg2.f k K N st rs w) (if gcode K N st rs=0 then wordCode K w else gcode K N st rs):=by
  unfold Zg2.f
  refine Ev.bind (rcheck_ev K N st rs) ?_
  by_cases h:gcode K N st rs=0
  · rw [if_pos h]
    refine Ev.pos h (Ev.bind (WordCheck_ev K w) (Ev.now _))
  · rw [if_neg h];exact Ev.neg h (Ev.now _)
section
variable (K N st:Int) (rs:List S41) (w:List Int) (G:GOK K N st rs) (hw:w.length≤12)
include G hw
theorem names_l0 (t:TabI) (ht:RectI N (w.length:Int) t):Ev (fun k=>Zb2.l0 k w 0 t (t.length:Int) 0) (((maskB (fun i=>tellI t (i:Int) 0 (w.length:Int)) N.toNat:Nat):Int),(0:Int)):=by
  have hN0:=G.N0;have hN1:=G.N1
  have e1:=ht.l1
  rw [e1]
  refine Ev.loopc (σ:=Nat) (L:=fun k i (s:Nat)=>Zb2.l0 k w (s:Int) t N i) (n:=N) (fun i s=>s=maskB (fun i=>tellI t (i:Int) 0 (w.length:Int)) i.toNat) ?_ ?_ 0 0 (Int.le_refl _) (by omega) rfl
  · rintro s rfl
    exact Ev.step (fun k=>Zb2.l0.eq_2 _ _ _ _ _ k) (Ev.neg (by omega) (Ev.now _))
  · rintro i s i0 i1 hs next
    have e2:=ht.l2 i i0 i1
    have e3:=ht.l3 i 0 i0 i1 (Int.le_refl _) (by omega)
    obtain⟨m,rfl⟩:=Int.eq_ofNat_of_zero_le i0
    rw [Int.toNat_natCast] at hs
    refine Ev.step (fun k=>Zb2.l0.eq_2 _ _ _ _ _ k) (Ev.pos i1 (Ev.pos i0 (Ev.pos (by omega) (Ev.pos (by omega) ?_))))
    simp only [w64 (show -9223372036854775808≤(m:Int) + 1 by omega) (by omega)]
    have e32:ent t (m:Int) 0 < 2 ^ 32:=Nat.lt_of_lt_of_le e3.2 (Nat.pow_le_pow_right (by omega) (by omega))
    have s32:s < 2 ^ 32:=by
      have:=maskB_lt (fun i=>tellI t (i:Int) 0 (w.length:Int)) m
      rw [← hs] at this
      exact Nat.lt_of_lt_of_le this (Nat.pow_le_pow_right (by omega) (by omega))
    rw [e3.1]
    cases c:tellI t (m:Int) 0 (w.length:Int) with
    |true=>
      have hb:(ent t (m:Int) 0).testBit w.length=true:=by unfold tellI at c;rwa [Int.toNat_natCast] at c
      have e:=(bit_shr (ent t (m:Int) 0) w.length e32 (by omega)).2 hb
      rw [e,bit_or s m s32 (by omega)]
      refine next _ ?_
      rw [hs,show((m:Int) + 1).toNat=m + 1 by omega]
      exact maskB_or _ _ c
    |false=>
      have hb:(ent t (m:Int) 0).testBit w.length=false:=by unfold tellI at c;rwa [Int.toNat_natCast] at c
      have e:=bit_shr0 (ent t (m:Int) 0) w.length e32 (by omega)
      rw [hb] at e
      have e:Go.bits .and .u32 (shr .u32 ((ent t (m:Int) 0:Nat):Int) (w.length:Int)) 1=0:=by simpa using e
      have z:shl .u32 0 (m:Int)=((0:Nat):Int):=by unfold shl;rw [Int.zero_mul];rfl
      rw [e,z,u32_or s 0 s32 (by decide),Nat.or_zero]
      refine next _ ?_
      rw [hs,show((m:Int) + 1).toNat=m + 1 by omega,maskB_succ]
      simp [c]
theorem tnames_ev: ∃m:Nat,Ev (fun k=>Zb2.f k K N st rs w) (if wordCode K w=0 then((m:Int),0) else(0,wordCode K w))∧(wordCode K w=0→m < 2 ^ N.toNat∧∀i:Nat,i < N.toNat→(m.testBit i=true↔Mk K rs w [K + (i:Int)] 0 (w.length:Int))):=by
  have hg: ∀r,Ev (fun k=>table_wrong.f k K N st rs w) r→True:=fun _ _=>trivial
  obtain⟨t,ht,et⟩:=fill_ev K N st rs w G hw
  refine⟨maskB (fun i=>tellI t (i:Int) 0 (w.length:Int)) N.toNat,?_,fun _=>⟨maskB_lt _ _,fun i hi=>?_⟩⟩
  · have h:=twrong_ev K N st rs w
    unfold Zb2.f
    refine Ev.bind h ?_
    have g0:gcode K N st rs=0:=by
      unfold gcode
      have hany:(rs.any fun r=>decide ((r.f1.length:Int) > 4))=false:=by
        rw [List.any_eq_false];intro r hr;have:=G.rl r hr;simp;omega
      rw [if_neg (by have:=G.K0;have:=G.K1;have:=G.N0;have:=G.N1;have:=G.len;rw [hany];simp;omega),if_neg (by have:=G.s0;have:=G.s1;omega),if_neg]
      rw [Bool.not_eq_true,List.any_eq_false]
      intro r hr
      unfold ruleBad
      have a:=G.r0 r hr;have b:=G.r1 r hr
      simp only [Bool.or_eq_true,decide_eq_true_eq,List.any_eq_true,not_or,not_exists,not_and]
      refine⟨by omega,by omega,fun x hx=>?_⟩
      have c:=G.x0 r hr x hx;have d:=G.x1 r hr x hx
      unfold sgnBad
      simp only [Bool.or_eq_true,decide_eq_true_eq];omega
    rw [if_pos g0]
    by_cases c:wordCode K w=0
    · rw [if_pos c]
      refine Ev.pos c (Ev.bind et ?_)
      exact names_l0 K N st rs w G hw t ht.1
    · rw [if_neg c]
      exact Ev.neg c (Ev.now _)
  · rw [maskB_bit,decide_eq_true hi,Bool.true_and]
    exact ht.2 (i:Int) 0 (w.length:Int) (by omega) (by omega) (Int.le_refl _) (by omega) (Int.le_refl _)
end
inductive MkN (K:Int) (rules:List S41) (w:List Int):Nat→List Int→Int→Int→Prop
  |nil (i:Int):MkN K rules w 0 [] i i
  |sym (n:Nat) (x:Int) (l:List Int) (i j:Int):x < K→0≤i→i < w.length→rd w i=x→MkN K rules w n l (i + 1) j→MkN K rules w (n + 1) (x :: l) i j
  |name (n m:Nat) (r:S41) (l:List Int) (i p j:Int):r∈rules→MkN K rules w n r.f1 i p→MkN K rules w m l p j→MkN K rules w (n + m + 1) ((K + r.f0) :: l) i j
inductive MkH (K:Int) (rules:List S41) (w:List Int):Nat→List Int→Int→Int→Prop
  |nil (h:Nat) (i:Int):MkH K rules w h [] i i
  |sym (h:Nat) (x:Int) (l:List Int) (i j:Int):x < K→0≤i→i < w.length→rd w i=x→MkH K rules w h l (i + 1) j→MkH K rules w h (x :: l) i j
  |name (h:Nat) (r:S41) (l:List Int) (i p j:Int):r∈rules→MkH K rules w h r.f1 i p→MkH K rules w (h + 1) l p j→MkH K rules w (h + 1) ((K + r.f0) :: l) i j
section
variable {K:Int} {rules:List S41} {w:List Int}
theorem MkN.mk {n:Nat} {l:List Int} {i j:Int} (h:MkN K rules w n l i j):Mk K rules w l i j:=by
  induction h with
  |nil i=>exact Mk.nil i
  |sym n x l i j a b c d _ ih=>exact Mk.sym x l i j a b c d ih
  |name n m r l i p j hr _ _ ih1 ih2=>exact Mk.name r l i p j hr ih1 ih2
theorem MkN.app {n m:Nat} {l1 l2:List Int} {i p j:Int} (h:MkN K rules w n l1 i p) (k:MkN K rules w m l2 p j):MkN K rules w (n + m) (l1++l2) i j:=by
  induction h with
  |nil i=>rw [Nat.zero_add];exact k
  |sym n x l i j a b c d _ ih=>rw [show n + 1 + m=(n + m) + 1 by omega];exact MkN.sym _ x _ i _ a b c d (ih k)
  |name n q r l i p j hr h1 _ _ ih2=>rw [show n + q + 1 + m=n + (q + m) + 1 by omega];exact MkN.name _ _ r _ i p _ hr h1 (ih2 k)
theorem MkH.up {h:Nat} {l:List Int} {i j:Int} (q:MkH K rules w h l i j):MkH K rules w (h + 1) l i j:=by
  induction q with
  |nil h i=>exact MkH.nil _ i
  |sym h x l i j a b c d _ ih=>exact MkH.sym _ x l i j a b c d ih
  |name h r l i p j hr _ _ ih1 ih2=>exact MkH.name _ r l i p j hr ih1 ih2
theorem MkH.ups {h h2:Nat} (hle:h≤h2) {l:List Int} {i j:Int} (q:MkH K rules w h l i j):MkH K rules w h2 l i j:=by
  obtain⟨d,rfl⟩:=Nat.exists_eq_add_of_le hle
  induction d with
  |zero=>exact q
  |succ d ih=>exact(ih (by omega)).up
theorem MkH.mk {h:Nat} {l:List Int} {i j:Int} (q:MkH K rules w h l i j):Mk K rules w l i j:=by
  induction q with
  |nil h i=>exact Mk.nil i
  |sym h x l i j a b c d _ ih=>exact Mk.sym x l i j a b c d ih
  |name h r l i p j hr _ _ ih1 ih2=>exact Mk.name r l i p j hr ih1 ih2
theorem Mk.height {l:List Int} {i j:Int} (q:Mk K rules w l i j): ∃h,MkH K rules w h l i j:=by
  induction q with
  |nil i=>exact⟨0,MkH.nil 0 i⟩
  |sym x l i j a b c d _ ih=>obtain⟨h,q⟩:=ih;exact⟨h,MkH.sym h x l i j a b c d q⟩
  |name r l i p j hr _ _ ih1 ih2=>
    obtain⟨h1,q1⟩:=ih1
    obtain⟨h2,q2⟩:=ih2
    exact⟨h1 + h2 + 1,MkH.name (h1 + h2) r l i p j hr (q1.ups (by omega)) (q2.ups (by omega))⟩
theorem MkH.app {h:Nat} {l1 l2:List Int} {i p j:Int} (q:MkH K rules w h l1 i p) (k:MkH K rules w h l2 p j):MkH K rules w h (l1++l2) i j:=by
  induction q with
  |nil h i=>exact k
  |sym h x l i j a b c d _ ih=>exact MkH.sym h x _ i _ a b c d (ih k)
  |name h r l i p j hr h1 _ _ ih2=>exact MkH.name h r _ i p _ hr h1 (ih2 k)
theorem MkH.less {h:Nat} (st: ∀r∈rules,∀i j:Int,0≤i→i≤j→j≤w.length→MkH K rules w (h + 1) [K + r.f0] i j→MkH K rules w h [K + r.f0] i j) {l:List Int} {i j:Int} (q:MkH K rules w (h + 1) l i j):0≤i→j≤w.length→MkH K rules w h l i j:=by
  generalize e:h + 1=h1 at q
  induction q with
  |nil _ i=>intro _ _;exact MkH.nil h i
  |sym h x l i j a b c d _ ih=>intro i0 j1;exact MkH.sym _ x l i j a b c d (ih e (by omega) j1)
  |name h2 r l i p j hr q1 q2 _ ih2=>
    intro i0 j1
    obtain rfl:h=h2:=by omega
    have le1:=q1.mk.le
    have le2:=q2.mk.le
    exact MkH.app (st r hr i p i0 le1 (by omega) (MkH.name h r [] i p p hr q1 (MkH.nil _ p))) (ih2 rfl (by omega) j1)
theorem MkH.inv {h:Nat} {a i j:Int} (q:MkH K rules w (h + 1) [K + a] i j) (ha:0≤a): ∃r∈rules,r.f0=a∧MkH K rules w h r.f1 i j:=by
  generalize e:([K + a] :List Int)=l at q
  cases q with
  |nil=>cases e
  |sym _ x l i j c=>injection e with e1 e2;omega
  |name _ r l i p j hr q1 q2=>
    injection e with e1 e2
    subst e2
    cases q2
    exact⟨r,hr,by omega,q1⟩
end
section
variable (K N st:Int) (rs:List S41) (w:List Int) (G:GOK K N st rs) (hw:w.length≤12)
include G hw
theorem height_stop {l:List Int} {i j:Int} (i0:0≤i) (j1:j≤w.length) (q:Mk K rs w l i j):MkH K rs w (N.toNat * 169) l i j:=by
  have hN0:=G.N0;have hN1:=G.N1
  let P:Nat→Nat→Bool:=fun d z=>@decide (((z % 13:Nat):Int)≤w.length∧MkH K rs w d [K + ((z / 169:Nat):Int)] ((z / 13 % 13:Nat):Int) ((z % 13:Nat):Int)) (Classical.propDecidable _)
  have hP: ∀d z,P d z=true↔(((z % 13:Nat):Int)≤w.length∧MkH K rs w d [K + ((z / 169:Nat):Int)] ((z / 13 % 13:Nat):Int) ((z % 13:Nat):Int)):=fun d z=>@decide_eq_true_iff _ (Classical.propDecidable _)
  have enc: ∀(a i j:Int),0≤a→a < N→0≤i→i≤j→j≤w.length→∃z:Nat,z < N.toNat * 169∧((z / 169:Nat):Int)=a∧((z / 13 % 13:Nat):Int)=i∧((z % 13:Nat):Int)=j:=by
    intro a i j a0 a1 i0 ij j1
    refine⟨a.toNat * 169 + i.toNat * 13 + j.toNat,?_,?_,?_,?_⟩ <;> omega
  have same: ∀d,(∀z,z < N.toNat * 169→P (d + 1) z=P d z)→∀r∈rs,∀i j:Int,0≤i→i≤j→j≤w.length→MkH K rs w (d + 1) [K + r.f0] i j→MkH K rs w d [K + r.f0] i j:=by
    intro d h r hr i j i0 ij j1 q
    obtain⟨z,z0,e1,e2,e3⟩:=enc r.f0 i j (G.r0 r hr) (G.r1 r hr) i0 ij j1
    have h1:=h z z0
    have h2:=hP (d + 1) z
    have h3:=hP d z
    rw [e1,e2,e3] at h2 h3
    exact(h3.1 (by rw [← h1];exact h2.2 ⟨j1,q⟩)).2
  have stab: ∀d,(∀z,z < N.toNat * 169→P (d + 1) z=P d z)→∀z,z < N.toNat * 169→P (d + 2) z=P (d + 1) z:=by
    intro d h z hz
    rw [Bool.eq_iff_iff,hP,hP]
    constructor
    · rintro⟨c,q⟩
      obtain⟨r,hr,e,q1⟩:=q.inv (by omega)
      have:=MkH.less (same d h) q1 (by omega) c
      rw [← e]
      exact⟨c,MkH.name d r [] _ _ _ hr this (MkH.nil _ _)⟩
    · exact fun q=>⟨q.1,q.2.up⟩
  have key:=chain_stop (N.toNat * 169) P (fun d z _ h=>(hP (d + 1) z).2 ⟨((hP d z).1 h).1,((hP d z).1 h).2.up⟩) stab
  obtain⟨h,qh⟩:=q.height
  have all: ∀d,∀z,z < N.toNat * 169→P (N.toNat * 169 + d + 1) z=P (N.toNat * 169 + d) z:=by
    intro d
    induction d with
    |zero=>exact key
    |succ d ih=>exact stab _ ih
  have down: ∀d,MkH K rs w (N.toNat * 169 + d) l i j→MkH K rs w (N.toNat * 169) l i j:=by
    intro d
    induction d with
    |zero=>exact fun q=>q
    |succ d ih=>exact fun q=>ih (MkH.less (same _ (all d)) q i0 j1)
  exact down h (qh.ups (by omega))
end
theorem void_small {K N st:Int} {rs:List S41} (G:GOK K N st rs) (w:List Int) (i:Int): ∀(d:Nat) (c:Nat),c=(4 ^ (d + 1) - 1) / 3→∀x:Int,x≥K→mkG K false rs d x=true→∃n,n≤c∧MkN K rs w n [x] i i:=by
  intro d
  induction d with
  |zero=>intro c _ x hx h;unfold mkG at h;rw [if_neg (by omega)] at h;cases h
  |succ d ih=>
    intro c hc x hx h
    unfold mkG at h
    rw [if_neg (by omega),List.any_eq_true] at h
    obtain⟨r,hr,h⟩:=h
    rw [Bool.and_eq_true,beq_iff_eq,List.all_eq_true] at h
    obtain⟨c0,hc0⟩ : ∃c0,c0=(4 ^ (d + 1) - 1) / 3:=⟨_,rfl⟩
    have row: ∀l:List Int,(∀y∈l,mkG K false rs d y=true)→∃n,n≤c0 * l.length∧MkN K rs w n l i i:=by
      intro l
      induction l with
      |nil=>intro _;exact⟨0,by simp,MkN.nil i⟩
      |cons y l ihl=>
        intro hy
        have h1:=hy y (by simp)
        have yk:y≥K:=by
          rcases Int.lt_or_le y K with u|u
          · exfalso
            cases d <;> simp [mkG,u] at h1
          · exact u
        obtain⟨n1,l1,q1⟩:=ih c0 hc0 y yk h1
        obtain⟨n2,l2,q2⟩:=ihl (fun z hz=>hy z (by simp [hz]))
        refine⟨n1 + n2,?_,MkN.app q1 q2⟩
        rw [List.length_cons,Nat.mul_succ];omega
    obtain⟨n,ln,q⟩:=row r.f1 h.2
    have hl:=G.rl r hr
    have m4:c0 * r.f1.length≤c0 * 4:=Nat.mul_le_mul_left _ hl
    refine⟨n + 0 + 1,?_,?_⟩
    · have p:4 ^ (d + 1 + 1)=4 ^ (d + 1) * 4:=Nat.pow_succ ..
      have pp:0 < 4 ^ (d + 1):=Nat.pow_pos (by omega)
      have e3:4 ^ (d + 1) % 3=1:=by rw [Nat.pow_mod];simp
      omega
    · have:=MkN.name n 0 r [] i i i hr q (MkN.nil i)
      rwa [show K + r.f0=x by omega] at this
section
variable (K N st:Int) (rs:List S41) (w:List Int) (G:GOK K N st rs)
include G
theorem allV_mk {l:List Int} {i j:Int} (q:Mk K rs w l i j):i=j→∀y∈l,y≥K∧mkG K false rs N.toNat y=true:=by
  induction q with
  |nil i=>intro _ y hy;simp at hy
  |sym x l i j a b c d q _=>intro e;have:=q.le;omega
  |name r l i p j hr q1 q2 ih1 ih2=>
    intro e y hy
    have a:=q1.le;have b:=q2.le
    have h1:=ih1 (by omega)
    rcases List.mem_cons.1 hy with rfl|hy
    · have r0:=G.r0 r hr;have r1:=G.r1 r hr
      refine⟨by omega,?_⟩
      rw [← mkG_stop G false _ (by omega)]
      unfold mkG
      rw [if_neg (by omega),List.any_eq_true]
      refine⟨r,hr,?_⟩
      rw [Bool.and_eq_true,beq_iff_eq,List.all_eq_true]
      exact⟨by omega,fun z hz=>(h1 z hz).2⟩
    · exact ih2 (by omega) y hy
theorem small_name (n:Nat) {a i:Int} (hn:N.toNat=n) (q:Mk K rs w [K + a] i i) (ha:0≤a): ∃m,m≤1365∧MkN K rs w m [K + a] i i:=by
  have h:=(allV_mk K N st rs w G q rfl (K + a) (by simp)).2
  obtain⟨m,h1,h2⟩:=void_small G w i N.toNat _ rfl (K + a) (by omega) h
  refine⟨m,Nat.le_trans h1 ?_,h2⟩
  have:N.toNat≤5:=by have:=G.N1;omega
  have:4 ^ (N.toNat + 1)≤4 ^ 6:=Nat.pow_le_pow_right (by omega) (by omega)
  omega
theorem small_row {h:Nat} {l:List Int} {i j:Int} (q:MkH K rs w h l i j): ∃n,n≤1365 * l.length + (5465 * h + 1) * (j - i).toNat∧MkN K rs w n l i j:=by
  induction q with
  |nil h i=>exact⟨0,by simp,MkN.nil i⟩
  |sym h x l i j a b c d q ih=>
    obtain⟨n,h1,h2⟩:=ih
    refine⟨n + 1,?_,MkN.sym n x l i j a b c d h2⟩
    have le:=q.mk.le
    have e:(j - i).toNat=(j - (i + 1)).toNat + 1:=by omega
    rw [e,Nat.mul_succ,List.length_cons,Nat.mul_succ]
    generalize (5465 * h + 1) * (j - (i + 1)).toNat=z at h1 ⊢
    omega
  |name h r l i p j hr q1 q2 ih1 ih2=>
    obtain⟨n1,h1,k1⟩:=ih1
    obtain⟨n2,h2,k2⟩:=ih2
    have le1:=q1.mk.le;have le2:=q2.mk.le
    rcases Classical.em (i=p) with c|c
    · subst c
      obtain⟨m,hm,km⟩:=small_name K N st rs w G _ rfl (Mk.name r [] i i i hr q1.mk (Mk.nil i)) (G.r0 r hr)
      refine⟨m + n2,?_,MkN.app km k2⟩
      rw [List.length_cons,Nat.mul_succ]
      generalize (5465 * (h + 1) + 1) * (j - i).toNat=z at h2 ⊢
      omega
    · have hl:=G.rl r hr
      refine⟨n1 + n2 + 1,?_,MkN.name n1 n2 r l i p j hr k1 k2⟩
      have e:(j - i).toNat=(p - i).toNat + (j - p).toNat:=by omega
      have e2:(5465 * (h + 1) + 1) * (p - i).toNat=(5465 * h + 1) * (p - i).toNat + 5465 * (p - i).toNat:=by
        rw [← Nat.add_mul];congr 1
      rw [e,Nat.mul_add,e2,List.length_cons,Nat.mul_succ]
      generalize (5465 * (h + 1) + 1) * (j - p).toNat=z2 at h2 ⊢
      generalize (5465 * h + 1) * (p - i).toNat=z1 at h1 ⊢
      have:1≤(p - i).toNat:=by omega
      omega
end
section
variable (K N st:Int) (rs:List S41) (w:List Int) (G:GOK K N st rs) (hw:w.length≤12)
include G hw
theorem small_word {a:Int} (q:Mk K rs w [K + a] 0 w.length): ∃n,n≤100000000∧MkN K rs w n [K + a] 0 w.length:=by
  have hN1:=G.N1
  obtain⟨n,h1,h2⟩:=small_row K N st rs w G (height_stop K N st rs w G hw (Int.le_refl 0) (Int.le_refl _) q)
  refine⟨n,Nat.le_trans h1 ?_,h2⟩
  have e1:(5465 * (N.toNat * 169) + 1)≤5000000:=by omega
  have e2:(((w.length:Int) - 0)).toNat≤12:=by omega
  have:=Nat.mul_le_mul e1 e2
  simp only [List.length_singleton]
  omega
end
section
variable {K:Int} {rs:List S41} {w:List Int}
theorem Mk.cons_inv {x:Int} {l:List Int} {i j:Int} (h:Mk K rs w (x :: l) i j):(x < K∧0≤i∧i < w.length∧rd w i=x∧Mk K rs w l (i + 1) j)∨∃r∈rs,x=K + r.f0∧∃m,Mk K rs w r.f1 i m∧Mk K rs w l m j:=by
  generalize e:x :: l=L at h
  cases h with
  |nil=>cases e
  |sym y l2 i j a b c d q=>injection e with e1 e2;subst e1;subst e2;exact .inl ⟨a,b,c,d,q⟩
  |name r l2 i m j hr q1 q2=>injection e with e1 e2;subst e1;subst e2;exact .inr ⟨r,hr,rfl,m,q1,q2⟩
theorem MkN.cons_inv {n:Nat} {x:Int} {l:List Int} {i j:Int} (h:MkN K rs w n (x :: l) i j):(x < K∧0≤i∧i < w.length∧rd w i=x∧∃m,n=m + 1∧MkN K rs w m l (i + 1) j)∨∃r∈rs,x=K + r.f0∧∃n1 n2 m,n=n1 + n2 + 1∧MkN K rs w n1 r.f1 i m∧MkN K rs w n2 l m j:=by
  generalize e:x :: l=L at h
  cases h with
  |nil=>cases e
  |sym n y l2 i j a b c d q=>injection e with e1 e2;subst e1;subst e2;exact .inl ⟨a,b,c,d,n,rfl,q⟩
  |name n m r l2 i p j hr q1 q2=>injection e with e1 e2;subst e1;subst e2;exact .inr ⟨r,hr,rfl,n,m,p,rfl,q1,q2⟩
theorem Mk.split: ∀{l1 l2:List Int} {i j:Int},Mk K rs w (l1++l2) i j→∃p,Mk K rs w l1 i p∧Mk K rs w l2 p j
  | [],l2,i,j,h=>⟨i,Mk.nil i,h⟩
  |x :: l1,l2,i,j,h=>by
    rcases Mk.cons_inv h with ⟨a,b,c,d,q⟩|⟨r,hr,e,m,q1,q2⟩
    · obtain⟨p,h1,h2⟩:=Mk.split q
      exact⟨p,Mk.sym x l1 i p a b c d h1,h2⟩
    · obtain⟨p,h1,h2⟩:=Mk.split q2
      subst e
      exact⟨p,Mk.name r l1 i m p hr q1 h1,h2⟩
end
def fS (K N:Int) (V:Nat) (l:List Int):Nat:=maskB (inQ (hq K V l)) (K + N).toNat
theorem tripG_split (a x:Int) (β:List Int): ∀α:List Int,(a,x,β)∈tripG a (α++x :: β)
  | []=>by unfold tripG;exact List.mem_cons_self ..
  |y :: α=>by
    show(a,x,β)∈tripG a (y :: (α++x :: β))
    unfold tripG;exact List.mem_cons_of_mem _ (tripG_split a x β α)
section
variable (K N st:Int) (rs:List S41) (w:List Int) (G:GOK K N st rs)
include G
theorem gone_all {l:List Int} {i:Int} (q:Mk K rs w l i i):allV K (voidG K N rs) l=true:=by
  have hN0:=G.N0
  unfold allV
  rw [List.all_eq_true]
  intro y hy
  obtain⟨h1,h2⟩:=allV_mk K N st rs w G q rfl y hy
  rw [Bool.and_eq_true,decide_eq_true_eq]
  refine⟨h1,?_⟩
  have hlt:y - K < N:=by
    obtain⟨n,hn⟩ : ∃n,N.toNat=n + 1:=⟨N.toNat - 1,by omega⟩
    rw [hn] at h2
    unfold mkG at h2
    rw [if_neg (by omega),List.any_eq_true] at h2
    obtain⟨r,hr,h⟩:=h2
    rw [Bool.and_eq_true,beq_iff_eq] at h
    have:=G.r1 r hr;omega
  unfold voidG
  rw [leastG_eq G false,maskB_bit,decide_eq_true (by omega),Bool.true_and,show K + ((y - K).toNat:Int)=y by omega]
  exact h2
theorem firstR_bit (l:List Int) (b:Nat):(firstR K N (voidG K N rs) rs l).testBit b=true↔b < K.toNat∧(reachE 0 (K + N) (edgesF K (voidG K N rs) rs) (fS K N (voidG K N rs) l)).testBit b=true:=by
  unfold firstR fS
  rw [maskB_bit,Bool.and_eq_true,decide_eq_true_eq]
theorem fS_bit {l:List Int} {x:Int} (h:x∈hs K (voidG K N rs) l) (h0:0≤x) (h1:x < K + N):(fS K N (voidG K N rs) l).testBit x.toNat=true:=by
  unfold fS
  rw [maskB_bit,decide_eq_true (by omega),Bool.true_and]
  unfold inQ
  rw [Int.toNat_of_nonneg h0];exact decide_eq_true ((hq_mem K _ l x).2 h)
theorem fS_of {l:List Int} {b:Nat} (h:(fS K N (voidG K N rs) l).testBit b=true):(b:Int)∈hs K (voidG K N rs) l:=by
  unfold fS at h
  rw [maskB_bit,Bool.and_eq_true] at h
  exact(hq_mem K _ l _).1 (of_decide_eq_true h.2)
theorem first_sub {l l2:List Int} (hK:1≤K + N) (h: ∀i,(fS K N (voidG K N rs) l).testBit i=true→(reachE 0 (K + N) (edgesF K (voidG K N rs) rs) (fS K N (voidG K N rs) l2)).testBit i=true) {b:Nat} (hb:(firstR K N (voidG K N rs) rs l).testBit b=true):(firstR K N (voidG K N rs) rs l2).testBit b=true:=by
  have hE:=edgeF_ok K N st rs G (voidG K N rs)
  have hS1:fS K N (voidG K N rs) l < 2 ^ (K + N).toNat:=maskB_lt _ _
  have hS2:fS K N (voidG K N rs) l2 < 2 ^ (K + N).toNat:=maskB_lt _ _
  rw [firstR_bit K N st rs G] at hb ⊢
  refine⟨hb.1,?_⟩
  refine reach_least 0 (K + N) _ _ hE hS1 hK (fun i=>(reachE 0 (K + N) (edgesF K (voidG K N rs) rs) (fS K N (voidG K N rs) l2)).testBit i) ?_ h b hb.2
  intro e he q _
  exact reach_closed 0 (K + N) _ _ hE hS2 hK he q (by have:=hE e he;omega)
theorem first_row {l l2:List Int} (hr: ∀x∈l,0≤x∧x < K + N) (h: ∀x∈hs K (voidG K N rs) l,x∈hs K (voidG K N rs) l2) {b:Nat} (hb:(firstR K N (voidG K N rs) rs l).testBit b=true):(firstR K N (voidG K N rs) rs l2).testBit b=true:=by
  have hK:=G.K0;have hN:=G.N0
  have hE:=edgeF_ok K N st rs G (voidG K N rs)
  refine first_sub K N st rs G (by omega) (fun i hi=>?_) hb
  have hx:=fS_of K N st rs G hi
  have r:=hr _ (hs_sub K _ _ _ hx)
  have:=fS_bit K N st rs G (h _ hx) r.1 r.2
  rw [Int.toNat_natCast] at this
  exact reach_start 0 (K + N) _ _ hE (maskB_lt _ _) (by omega) _ this
theorem first_rule {r:S41} (hr:r∈rs) {l:List Int} (h:K + r.f0∈hs K (voidG K N rs) l) {b:Nat} (hb:(firstR K N (voidG K N rs) rs r.f1).testBit b=true):(firstR K N (voidG K N rs) rs l).testBit b=true:=by
  have hK:=G.K0;have hN:=G.N0
  have hE:=edgeF_ok K N st rs G (voidG K N rs)
  have r0:=G.r0 r hr;have r1:=G.r1 r hr
  refine first_sub K N st rs G (by omega) (fun i hi=>?_) hb
  have hx:=fS_of K N st rs G hi
  have s:=reach_start 0 (K + N) _ (fS K N (voidG K N rs) l) hE (maskB_lt _ _) (by omega) _ (fS_bit K N st rs G h (by omega) (by omega))
  have ed:(K + r.f0,(i:Int))∈edgesF K (voidG K N rs) rs:=edgesF_mem.2 ⟨r,hr,rfl,hx⟩
  have:=reach_closed 0 (K + N) _ (fS K N (voidG K N rs) l) hE (maskB_lt _ _) (by omega) ed s (by show(0:Int)≤(i:Int);omega)
  simpa using this
theorem first_sym {l:List Int} {x:Int} (h:x∈hs K (voidG K N rs) l) (h0:0≤x) (h1:x < K):(firstR K N (voidG K N rs) rs l).testBit x.toNat=true:=by
  have hN:=G.N0
  have hE:=edgeF_ok K N st rs G (voidG K N rs)
  rw [firstR_bit K N st rs G]
  exact⟨by omega,reach_start 0 (K + N) _ _ hE (maskB_lt _ _) (by omega) _ (fS_bit K N st rs G h h0 (by omega))⟩
theorem first_head (hws: ∀s∈w,0≤s∧s < K) {l:List Int} {i j:Int} (q:Mk K rs w l i j):i < j→0≤i→(∀x∈l,0≤x∧x < K + N)→(firstR K N (voidG K N rs) rs l).testBit (rd w i).toNat=true:=by
  induction q with
  |nil i=>intro;omega
  |sym x l i j a b c d q _=>
    intro _ _ hr
    rw [d]
    exact first_sym K N st rs G (by unfold hs;simp) (hr x (by simp)).1 a
  |name r l i p j hr q1 q2 ih1 ih2=>
    intro ij i0 hrg
    have le1:=q1.le;have le2:=q2.le
    have r0:=G.r0 r hr;have r1:=G.r1 r hr
    have hh:K + r.f0∈hs K (voidG K N rs) ((K + r.f0) :: l):=by unfold hs;simp
    rcases Classical.em (i < p) with c|c
    · exact first_rule K N st rs G hr hh (ih1 c i0 (fun x hx=>⟨G.x0 r hr x hx,G.x1 r hr x hx⟩))
    · obtain rfl:i=p:=by omega
      have hv:(voidG K N rs).testBit (K + r.f0 - K).toNat=true:=by
        have:=gone_all K N st rs w G (Mk.name r [] i i i hr q1 (Mk.nil i))
        unfold allV at this
        simp only [List.all_cons,List.all_nil,Bool.and_true,Bool.and_eq_true] at this
        exact this.2
      refine first_row K N st rs G (fun x hx=>hrg x (by simp [hx])) (fun x hx=>?_) (ih2 ij i0 (fun x hx=>hrg x (by simp [hx])))
      unfold hs
      rw [if_neg (by omega),if_pos hv]
      exact List.mem_cons_of_mem _ hx
end
def lkb (K:Int) (w:List Int) (m:Int):Nat:=if m < w.length then(rd w m).toNat else K.toNat
def FolT (K N st:Int) (rs:List S41) (T:List Nat):Prop:=∀a,a < N.toNat→∀b,(T.getD a 0).testBit b=true↔((comesG K N st rs).testBit a=true∧∃u:Nat,(reachE 0 N (edgesT K (voidG K N rs) (comesG K N st rs) (tripsG rs)) (2 ^ a)).testBit u=true∧baseB K st (comesG K N st rs) (firstR K N (voidG K N rs) rs) rs u b)
structure GoodS (K N st:Int) (rs:List S41) (w:List Int) (T:List Nat) (S:List Int):Prop where
  out: ∀α x β,S=α++x :: β→x≥K→(comesG K N st rs).testBit (x - K).toNat=true∧∀m,0≤m→Mk K rs w β m w.length→(T.getD (x - K).toNat 0).testBit (lkb K w m)=true
section
variable (K N st:Int) (rs:List S41) (w:List Int) (G:GOK K N st rs) (T:List Nat) (hT:FolT K N st rs T)
include G hT
theorem fol_edge: ∀e∈edgesT K (voidG K N rs) (comesG K N st rs) (tripsG rs),0≤e.1∧e.1 < N∧0≤e.2∧e.2 < 0 + N:=edgeT_ok K N st rs G (voidG K N rs) (comesG K N st rs) (firstR K N (voidG K N rs) rs) (firstR_lt K N (voidG K N rs) rs)
theorem fol_first {r:S41} (hr:r∈rs) (hc:(comesG K N st rs).testBit r.f0.toNat=true) {α β:List Int} {x:Int} (e:r.f1=α++x :: β) (hx:x≥K) {b:Nat} (hb:(firstR K N (voidG K N rs) rs β).testBit b=true):(T.getD (x - K).toNat 0).testBit b=true:=by
  have hN:=G.N0
  have hm:x∈r.f1:=by rw [e];simp
  have h1:=G.x1 r hr x hm
  have cx:=comes_closed K N st rs G (edgesG_in hr hm) hc hx
  rw [hT _ (by omega)]
  refine⟨cx,(x - K).toNat,reach_start 0 N _ _ (fol_edge K N st rs G T hT) (Nat.pow_lt_pow_right (by omega) (by omega)) hN _ (Nat.testBit_two_pow_self),.inr ⟨(r.f0,x,β),?_,hc,by show x=K + _;omega,hb⟩⟩
  unfold tripsG
  rw [List.mem_flatMap]
  exact⟨r,hr,by rw [e];exact tripG_split _ _ _ _⟩
theorem fol_gone {r:S41} (hr:r∈rs) (hc:(comesG K N st rs).testBit r.f0.toNat=true) {α β:List Int} {x:Int} (e:r.f1=α++x :: β) (hx:x≥K) (hv:allV K (voidG K N rs) β=true) {b:Nat} (hb:(T.getD r.f0.toNat 0).testBit b=true):(T.getD (x - K).toNat 0).testBit b=true:=by
  have hN:=G.N0
  have hm:x∈r.f1:=by rw [e];simp
  have h1:=G.x1 r hr x hm
  have r0:=G.r0 r hr;have r1:=G.r1 r hr
  have cx:=comes_closed K N st rs G (edgesG_in hr hm) hc hx
  have hE:=fol_edge K N st rs G T hT
  have hS1:2 ^ (x - K).toNat < 2 ^ N.toNat:=Nat.pow_lt_pow_right (by omega) (by omega)
  have hS2:2 ^ r.f0.toNat < 2 ^ N.toNat:=Nat.pow_lt_pow_right (by omega) (by omega)
  rw [hT _ (by omega)] at hb ⊢
  obtain⟨_,u,hu,hbase⟩:=hb
  refine⟨cx,u,?_,hbase⟩
  refine reach_least 0 N _ _ hE hS2 hN (fun i=>(reachE 0 N (edgesT K (voidG K N rs) (comesG K N st rs) (tripsG rs)) (2 ^ (x - K).toNat)).testBit i) ?_ ?_ u hu
  · intro e he q _
    exact reach_closed 0 N _ _ hE hS1 hN he q (by have:=hE e he;omega)
  · intro i hi
    rw [Nat.testBit_two_pow,decide_eq_true_eq] at hi
    subst hi
    have s:=reach_start 0 N _ _ hE hS1 hN _ (Nat.testBit_two_pow_self (n:=(x - K).toNat))
    have ed:(x - K,r.f0)∈edgesT K (voidG K N rs) (comesG K N st rs) (tripsG rs):=by
      unfold edgesT
      rw [List.mem_map]
      refine⟨(r.f0,x,β),List.mem_filter.2 ⟨?_,?_⟩,rfl⟩
      · unfold tripsG
        rw [List.mem_flatMap]
        exact⟨r,hr,by rw [e];exact tripG_split _ _ _ _⟩
      · unfold condT
        rw [hc,hv,decide_eq_true hx];rfl
    have:=reach_closed 0 N _ _ hE hS1 hN ed s (by show r.f0≥0;omega)
    simpa using this
theorem good_start:GoodS K N st rs w T [K + st]:=by
  refine⟨fun α x β e hx=>?_⟩
  have s0:=G.s0;have s1:=G.s1;have hN:=G.N0
  cases α with
  |cons y α=>simp at e
  |nil=>
    simp only [List.nil_append,List.cons.injEq] at e
    obtain⟨e1,e2⟩:=e
    subst e1
    subst e2
    rw [show K + st - K=st by omega]
    refine⟨comes_start K N st rs G,fun m m0 q=>?_⟩
    have:m=w.length:=by cases q;rfl
    have e:lkb K w m=K.toNat:=by unfold lkb;rw [if_neg (by omega)]
    rw [e,hT _ (by omega)]
    exact⟨comes_start K N st rs G,st.toNat,reach_start 0 N _ _ (fol_edge K N st rs G T hT) (Nat.pow_lt_pow_right (by omega) (by omega)) hN _ (Nat.testBit_two_pow_self),.inl ⟨by omega,rfl⟩⟩
theorem good_tail {x:Int} {β:List Int} (h:GoodS K N st rs w T (x :: β)):GoodS K N st rs w T β:=⟨fun α y γ e hy=>h.out (x :: α) y γ (by rw [e];rfl) hy⟩
theorem good_step (hws: ∀s∈w,0≤s∧s < K) {r:S41} (hr:r∈rs) {β:List Int} (h:GoodS K N st rs w T ((K + r.f0) :: β)):GoodS K N st rs w T (r.f1++β):=by
  have r0:=G.r0 r hr
  have hh:=h.out [] (K + r.f0) β rfl (by omega)
  rw [show K + r.f0 - K=r.f0 by omega] at hh
  refine⟨fun α x γ e hx=>?_⟩
  rcases List.append_eq_append_iff.1 e with ⟨a,e1,e2⟩|⟨c,e1,e2⟩
  · exact h.out ((K + r.f0) :: a) x γ (by rw [e2];rfl) hx
  · cases c with
    |nil=>exact h.out [K + r.f0] x γ (by simpa using e2.symm) hx
    |cons y c=>
      simp only [List.cons_append,List.cons.injEq] at e2
      obtain⟨e2,e3⟩:=e2
      subst e2
      subst e3
      have hm:x∈r.f1:=by rw [e1];simp
      refine⟨comes_closed K N st rs G (edgesG_in hr hm) hh.1 hx,fun m m0 q=>?_⟩
      obtain⟨p,q1,q2⟩:=Mk.split q
      have le1:=q1.le;have le2:=q2.le
      rcases Classical.em (m < p) with u|u
      · have e:lkb K w m=(rd w m).toNat:=by unfold lkb;rw [if_pos (by omega)]
        rw [e]
        exact fol_first K N st rs G T hT hr hh.1 e1 hx (first_head K N st rs w G hws q1 u m0 (fun z hz=>by
          have:z∈r.f1:=by rw [e1];simp [hz]
          exact⟨G.x0 r hr z this,G.x1 r hr z this⟩))
      · obtain rfl:m=p:=by omega
        exact fol_gone K N st rs G T hT hr hh.1 e1 hx (gone_all K N st rs w G q1) (hh.2 m m0 q2)
theorem look_rule (hws: ∀s∈w,0≤s∧s < K) {r:S41} (hr:r∈rs) {β:List Int} (h:GoodS K N st rs w T ((K + r.f0) :: β)) {i m:Int} (i0:0≤i) (q1:Mk K rs w r.f1 i m) (q2:Mk K rs w β m w.length):(lkR K N rs T r).testBit (lkb K w i)=true:=by
  have r0:=G.r0 r hr
  have le1:=q1.le;have le2:=q2.le
  unfold lkR
  rw [Nat.testBit_or,Bool.or_eq_true]
  rcases Classical.em (i < m) with u|u
  · left
    have e:lkb K w i=(rd w i).toNat:=by unfold lkb;rw [if_pos (by omega)]
    rw [e]
    exact first_head K N st rs w G hws q1 u i0 (fun z hz=>⟨G.x0 r hr z hz,G.x1 r hr z hz⟩)
  · right
    obtain rfl:i=m:=by omega
    rw [if_pos (gone_all K N st rs w G q1)]
    have:=(h.out [] (K + r.f0) β rfl (by omega)).2 i i0 q2
    rwa [show K + r.f0 - K=r.f0 by omega] at this
end
theorem rd_last (l:List Int) (x:Int):rd (l++[x]) (l.length:Int)=x:=by simp [rd,List.getD_eq_getElem?_getD]
theorem rd_mid (a b:List Int) (x:Int):rd (a++x :: b) (a.length:Int)=x:=by simp [rd,List.getD_eq_getElem?_getD]
theorem clear_un {rs:List S41} {lk:S41→Nat} (h:clearR rs lk=true) {i j:Nat} (hj:j < i) (hi:i < rs.length) (e:(Zb rs (j:Int)).f0=(Zb rs (i:Int)).f0):lk (Zb rs (i:Int)) &&& lk (Zb rs (j:Int))=0:=by
  unfold clearR at h
  split at h
  · cases h
  · rename_i c
    rw [Bool.not_eq_true,List.any_eq_false] at c
    have c1:=c i (List.mem_range.2 hi)
    unfold badR at c1
    rw [Bool.not_eq_true,List.any_eq_false] at c1
    have c2:=c1 j (List.mem_range.2 hj)
    unfold badL at c2
    rw [decide_eq_true e] at c2
    simpa using c2
section
variable (K N st:Int) (rs:List S41) (w:List Int) (G:GOK K N st rs)
include G
theorem rstep_big (L:List Int) (p r:Int) (hL:L.length≤100000000000) (p0:0≤p) (p1:p < L.length) (r0:0≤r) (r1:r < rs.length):Zi2.f K N st rs L p r=some (L.take p.toNat++((Zb rs r).f1++L.drop (p + 1).toNat)):=by
  have hl:=G.rl _ (rule_mem r0 r1)
  have h1:(L.take p.toNat).length≤100000000000:=by rw [List.length_take];omega
  have h2:(L.drop (p + 1).toNat).length≤100000000000:=by rw [List.length_drop];omega
  unfold Zi2.f
  simp (disch:=omega) only [Option.bind_some,if_pos,w64,List.nil_append,List.length_nil,List.length_append,List.append_assoc]
theorem looks_all (hg:gcode K N st rs=0): ∃T:List Nat,FolT K N st rs T∧(∀r,lkR K N rs T r < 2 ^ 32)∧Ev (fun k=>Zu1.f k K N st rs) ((rs.map (lkR K N rs T)).map fun n:Nat=>(n:Int))∧∀r∈rs,Ev (fun k=>Zf2.f k K N st rs r.f0 r.f1) ((lkR K N rs T r:Nat):Int):=by
  have hN0:=G.N0;have hN1:=G.N1;have hK0:=G.K0;have hK1:=G.K1;have hlen:=G.len;have s0:=G.s0;have s1:=G.s1
  have h1:=gcheck_ev K N st rs
  rw [hg] at h1
  have h32:2 ^ (K.toNat + 1)≤2 ^ 31:=Nat.pow_le_pow_right (by omega) (by omega)
  obtain⟨F,f1,f2,f3,f4⟩:=firsts_ev K N st rs G (voidG K N rs) (void_lt K N st rs G)
  obtain⟨T,t1,t2,t3,t4⟩:=follows_loop K N st rs G (voidG K N rs) (comesG K N st rs) (void_lt K N st rs G) (lt32C K N st rs G (comes_lt K N st rs G)) (firstR K N (voidG K N rs) rs) (firstR_lt K N (voidG K N rs) rs) (fun e he a b=>comes_closed K N st rs G he a b) F f1 f2 f3 (comes_start K N st rs G)
  have t5:Ev (fun k=>Zp.f k K N st rs (F.map fun n:Nat=>(n:Int)) ((voidG K N rs:Nat):Int)) (T.map fun n:Nat=>(n:Int)):=by
    unfold Zp.f Zh1.f
    refine Ev.bind (a:=(((comesG K N st rs:Nat):Int),(0:Int))) (Ev.bind h1 ?_) ?_
    · simp only [if_true,if_pos s0]
      exact comes_ev K N st rs G
    · simp only [Option.bind_some,List.length_replicate]
      exact Ev.pos (by omega) (Ev.pos (by omega) (Ev.pos (by omega) (Ev.pos s0 (Ev.pos (by omega) t4))))
  have hfr1: ∀l,firstR K N (voidG K N rs) rs l < 2 ^ (K.toNat + 1):=fun l=>Nat.lt_of_lt_of_le (firstR_lt K N (voidG K N rs) rs l) (Nat.pow_le_pow_right (by omega) (by omega))
  have hlk1: ∀r,lkR K N rs T r < 2 ^ (K.toNat + 1):=by
    intro r
    unfold lkR
    refine Nat.or_lt_two_pow (hfr1 _) ?_
    split
    · exact getD_lt t2 (Nat.two_pow_pos _) _
    · exact Nat.two_pow_pos _
  have hlk: ∀r,lkR K N rs T r < 2 ^ 32:=fun r=>by have:=hlk1 r;omega
  refine⟨T,fun a ha b=>(t3 a ha).2 b,hlk,?_,?_⟩
  · unfold Zu1.f
    refine Ev.bind (least_ev K N st rs G false) (Ev.bind f4 (Ev.bind t5 ?_))
    refine Ev.loop (L:=fun k i (o:List Int)=>Zu1.l0 k ((voidG K N rs:Nat):Int) (F.map fun n:Nat=>(n:Int)) (T.map fun n:Nat=>(n:Int)) o rs (rs.length:Int) i K N st rs) (n:=rs.length) (fun i o=>o=((rs.take i.toNat).map (lkR K N rs T)).map fun n:Nat=>(n:Int)) ?_ ?_ 0 [] (Int.le_refl _) (by omega) (by simp)
    · intro o ho
      rw [Int.toNat_natCast,List.take_length] at ho
      refine Ev.step (fun k=>Zu1.l0.eq_2 _ _ _ _ _ _ _ _ _ _ _ k) ?_
      refine Ev.neg (by omega) ?_
      rw [ho];exact Ev.now _
    · intro i o i0 i1 ho
      right
      have hm:=rule_mem i0 i1
      refine⟨_,rfl,?_⟩
      intro hk
      have hol:o.length≤10:=by rw [ho];simp only [List.length_map,List.length_take];omega
      have take_rule:rs.take (i + 1).toNat=rs.take i.toNat++[Zb rs i]:=by
        have h:i.toNat < rs.length:=by omega
        have e:Zb rs i=rs[i.toNat]:=by simp [Zb,List.getD_eq_getElem?_getD,List.getElem?_eq_getElem h]
        rw [e,show(i + 1).toNat=i.toNat + 1 by omega,List.take_succ_eq_append_getElem h]
      rw [take_rule,List.map_append,List.map_append,← ho] at hk
      obtain⟨r,hr⟩ : ∃r,Zb rs i=r:=⟨_,rfl⟩
      rw [hr] at hm hk
      have hrl:=G.rl r hm;have r0:=G.r0 r hm;have r1:=G.r1 r hm
      have hx: ∀x∈r.f1,0≤x∧x < K + N:=fun x hx=>⟨G.x0 r hm x hx,G.x1 r hm x hx⟩
      have hev:=begin_ev K N st rs G (voidG K N rs) (void_lt K N st rs G) F f1 f2 r.f1 hx (by omega)
      rw [f3 _ hx] at hev
      refine Ev.step (fun k=>Zu1.l0.eq_2 _ _ _ _ _ _ _ _ _ _ _ k) ?_
      rw [hr,w64 (show -9223372036854775808≤i + 1 by omega) (by omega)]
      refine Ev.pos i1 (Ev.pos i0 (Ev.pos i1 ?_))
      refine Ev.bind hev ?_
      have hf:=hfr1 r.f1
      have ht:=getD_lt t2 (Nat.two_pow_pos _) r.f0.toNat
      by_cases c:allV K (voidG K N rs) r.f1=true
      · have e:lkR K N rs T r=firstR K N (voidG K N rs) rs r.f1 ||| T.getD r.f0.toNat 0:=by unfold lkR;rw [if_pos c]
        refine Ev.pos c (Ev.pos r0 (Ev.pos (by rw [List.length_map];omega) (Ev.pos (by omega) ?_)))
        simp only [rdF]
        rw [u32_or _ _ (by omega) (by omega),← e];exact hk
      · have e:lkR K N rs T r=firstR K N (voidG K N rs) rs r.f1:=by unfold lkR;rw [if_neg c,Nat.or_zero]
        rw [List.map_cons,List.map_nil,e] at hk
        exact Ev.neg c (Ev.pos (by omega) hk)
  · intro r hm
    have hrl:=G.rl r hm;have r0:=G.r0 r hm;have r1:=G.r1 r hm
    have hx: ∀x∈r.f1,0≤x∧x < K + N:=fun x hx=>⟨G.x0 r hm x hx,G.x1 r hm x hx⟩
    unfold Zf2.f
    refine Ev.bind (rfirsts_ev K N st rs G r.f1 hx (by omega)) (Ev.bind (gone_ev K N st rs G r.f1 hx (by omega)) ?_)
    have hf:=hfr1 r.f1
    have ht:=getD_lt t2 (Nat.two_pow_pos _) r.f0.toNat
    by_cases c:allV K (voidG K N rs) r.f1=true
    · have e:lkR K N rs T r=firstR K N (voidG K N rs) rs r.f1 ||| T.getD r.f0.toNat 0:=by unfold lkR;rw [if_pos c]
      have h3:=t3 r.f0.toNat (by omega)
      have:=rfollow_ev K N st rs G r.f0.toNat _ (by omega) (getD_lt t2 (Nat.two_pow_pos _) r.f0.toNat) h3.1 h3.2
      rw [Int.toNat_of_nonneg r0] at this
      refine Ev.pos c (Ev.bind this ?_)
      rw [u32_or _ _ (by omega) (by omega),← e];exact Ev.now _
    · have e:lkR K N rs T r=firstR K N (voidG K N rs) rs r.f1:=by unfold lkR;rw [if_neg c,Nat.or_zero]
      rw [e]
      exact Ev.neg c (Ev.now _)
theorem parse_ev (hws : ∀ s ∈ w, 0 ≤ s ∧ s < K) (hw : w.length ≤ 12) (T : List Nat) (hT : FolT K N st rs T) (hlk : ∀ r, lkR K N rs T r < 2 ^ 32) (hcl : clearR rs (lkR K N rs T) = true) :
    ∀(n:Nat) (S:List Int) (i:Int) (steps:List Int),MkN K rs w n S i w.length→0≤i→GoodS K N st rs w T S→steps.length + n≤1000000000→S.length + 4 * n≤10000000000→
      ∃s:List Int,s.length≤n∧Ev (fun k=>Ze1.l0 k w ((rs.map (lkR K N rs T)).map fun n:Nat=>(n:Int)) steps i K N st rs S.reverse) (steps++s,(0:Int))∧
        ∀(all:List Int) (q:Int),0≤q→all.drop q.toNat=s→q + s.length=all.length→all.length≤1000000000→Ev (fun k=>Zr1.l0 k (w.take i.toNat++S) all (all.length:Int) q K N st rs) (w,true):=by
  have hK0:=G.K0;have hK1:=G.K1;have hN0:=G.N0;have hN1:=G.N1;have hlen:=G.len
  have hrd: ∀i:Int,0≤i→i < rs.length→rd ((rs.map (lkR K N rs T)).map fun n:Nat=>(n:Int)) i=((lkR K N rs T (Zb rs i):Nat):Int):=by
    intro i h0 h1
    have hi:i.toNat < rs.length:=by omega
    rw [rdF]
    simp [List.getD_eq_getElem?_getD,Zb,List.getElem?_eq_getElem hi]
  have hll:(((rs.map (lkR K N rs T)).map fun n:Nat=>(n:Int)).length:Nat)=rs.length:=by simp
  generalize ((rs.map (lkR K N rs T)).map fun n:Nat=>(n:Int))=LK at hrd hll
  intro n
  induction n with
  |zero=>
    intro S i steps h i0 hG hs1 hs2
    cases S with
    |cons x l=>rcases MkN.cons_inv h with ⟨_,_,_,_,m,e,_⟩|⟨_,_,_,n1,n2,m,e,_⟩ <;> omega
    |nil=>
      have e:i=w.length:=by cases h;rfl
      subst e
      refine⟨[],by simp,?_,?_⟩
      · refine Ev.step (fun k=>Ze1.l0.eq_2 _ _ _ _ _ _ _ _ _ k) ?_
        refine Ev.neg (by simp) (Ev.val (by simp))
      · intro all q q0 e1 e2 e3
        refine Ev.step (fun k=>Zr1.l0.eq_2 _ _ _ _ _ _ _ _ k) ?_
        refine Ev.neg (by simp only [List.length_nil] at e2;omega) (Ev.val (by simp))
  |succ n ih=>
    intro S i steps h i0 hG hs1 hs2
    cases S with
    |nil=>cases h
    |cons x l=>
      have hl:(((x :: l).reverse.length:Nat):Int)=l.length + 1:=by simp
      have er:rd (x :: l).reverse (l.length:Int)=x:=by
        have:=rd_last l.reverse x
        rw [List.length_reverse] at this
        rw [List.reverse_cons];exact this
      have et:(x :: l).reverse.take ((l.length:Int)).toNat=l.reverse:=by
        rw [List.reverse_cons,Int.toNat_natCast,List.take_append_of_le_length (by simp),List.take_of_length_le (by simp)]
      rw [List.length_cons] at hs2
      have ew:wrap64 ((l.length:Int) + 1 - 1)=(l.length:Int):=by rw [w64 (by omega) (by omega)];omega
      rcases MkN.cons_inv h with ⟨a,_,c,d,m,e,q⟩|⟨r,hr,e,n1,n2,m,en,q1,q2⟩
      · obtain rfl:n=m:=by omega
        obtain⟨s,s1,s2,s3⟩:=ih l (i + 1) steps q (by omega) (good_tail K N st rs w G T hT hG) (by omega) (by omega)
        refine⟨s,by omega,?_,?_⟩
        · refine Ev.step (fun k=>Ze1.l0.eq_2 _ _ _ _ _ _ _ _ _ k) ?_
          simp only [hl,ew,er,et,Option.bind_some]
          refine Ev.pos (by omega) (Ev.pos (by omega) (Ev.pos (by omega) (Ev.pos (by omega) (Ev.pos a ?_))))
          rw [w64 (show -9223372036854775808≤i + 1 by omega) (by omega)]
          exact s2
        · intro all p p0 e1 e2 e3
          have:=s3 all p p0 e1 e2 e3
          rw [take_rd i0 c,d,List.append_assoc] at this
          exact this
      · have hr0:=G.r0 r hr;have hr1:=G.r1 r hr;have hrl:=G.rl r hr
        subst e
        obtain rfl:n=n1 + n2:=by omega
        obtain⟨i1,hi1,ei1⟩:=List.getElem_of_mem hr
        have eri:Zb rs (i1:Int)=r:=by simp [Zb,List.getD_eq_getElem?_getD,List.getElem?_eq_getElem hi1,ei1]
        have lb:=look_rule K N st rs w G T hT hws hr hG i0 q1.mk q2.mk
        have le1:=q1.mk.le;have le2:=q2.mk.le
        have hc3:lkb K w i < 32:=by
          unfold lkb
          split
          · have:=hws _ (rd_mem i0 (by assumption));omega
          · omega
        obtain⟨s,s1,s2,s3⟩:=ih (r.f1++l) i (steps++[(i1:Int)]) (MkN.app q1 q2) i0 (good_step K N st rs w G T hT hws hr hG) (by rw [List.length_append,List.length_singleton];omega) (by rw [List.length_append];omega)
        refine⟨(i1:Int) :: s,by rw [List.length_cons];omega,?_,?_⟩
        · have core : Ev (fun k => Ze1.j1 k w LK steps i (K + r.f0) ((lkb K w i : Nat) : Int) K N st rs l.reverse) (steps ++ (i1 : Int) :: s, (0 : Int)) := by
            refine Ev.step (fun k=>Ze1.j1.eq_2 _ _ _ _ _ _ _ _ _ _ _ k) ?_
            refine Ev.loopc (σ:=Unit) (L:=fun k j _=>Ze1.l1 k w LK steps i (K + r.f0) ((lkb K w i:Nat):Int) rs (rs.length:Int) j K N st rs l.reverse) (n:=(i1:Int)) (fun _ _=>True) ?_ ?_ 0 () (Int.le_refl _) (by omega) trivial
            · intro _ _
              refine Ev.step (fun k=>Ze1.l1.eq_2 _ _ _ _ _ _ _ _ _ _ _ _ _ _ k) ?_
              rw [eri,w64 (show -9223372036854775808≤K + r.f0 - K by omega) (by omega),hrd (i1:Int) (by omega) (by omega),eri]
              have hb:=(bit_shr (lkR K N rs T r) (lkb K w i) (hlk r) hc3).2 lb
              refine Ev.pos (by omega) (Ev.pos (by omega) (Ev.pos (by omega) (Ev.pos (by omega) (Ev.pos (by omega) (Ev.pos (by omega) (Ev.pos hb (Ev.pos (by omega) (Ev.pos (by rw [List.length_reverse];omega) ?_))))))))
              rw [← List.reverse_append]
              have e:steps++(i1:Int) :: s=steps++[(i1:Int)]++s:=by simp
              rw [e];exact s2
            · intro j _ j0 j1 _ next
              obtain⟨j,rfl⟩:=Int.eq_ofNat_of_zero_le j0
              have hnext:=next () trivial
              refine Ev.step (fun k=>Ze1.l1.eq_2 _ _ _ _ _ _ _ _ _ _ _ _ _ _ k) ?_
              rw [w64 (show -9223372036854775808≤K + r.f0 - K by omega) (by omega),hrd (j:Int) (by omega) (by omega),w64 (show -9223372036854775808≤(j:Int) + 1 by omega) (by omega)]
              refine Ev.pos (by omega) (Ev.pos (by omega) (Ev.pos (by omega) ?_))
              by_cases c:(Zb rs (j:Int)).f0=K + r.f0 - K
              · refine Ev.pos c (Ev.pos (by omega) (Ev.pos (by omega) (Ev.neg (fun hb=>?_) hnext)))
                have hb2:=(bit_shr _ (lkb K w i) (hlk _) hc3).1 hb
                have un:=clear_un hcl (i:=i1) (j:=j) (by omega) hi1 (by rw [eri];omega)
                rw [eri] at un
                have:=congrArg (fun z=>z.testBit (lkb K w i)) un
                simp only [Nat.testBit_and,lb,hb2,Nat.zero_testBit] at this
                cases this
              · exact Ev.neg c hnext
          refine Ev.step (fun k=>Ze1.l0.eq_2 _ _ _ _ _ _ _ _ _ k) ?_
          simp only [hl,ew,er,et,Option.bind_some]
          refine Ev.pos (by omega) (Ev.pos (by omega) (Ev.pos (by omega) (Ev.pos (by omega) (Ev.neg (by omega) ?_))))
          by_cases c:i < w.length
          · have e : rd w i = ((lkb K w i : Nat) : Int) := by
              have:=hws _ (rd_mem i0 c)
              unfold lkb;rw [if_pos c];omega
            rw [e]
            exact Ev.pos c (Ev.pos i0 core)
          · have e:K=((lkb K w i:Nat):Int):=by unfold lkb;rw [if_neg c];omega
            refine Ev.neg c ?_
            have e2: ∀k,Ze1.j1 k w LK steps i (K + r.f0) K K N st rs l.reverse=Ze1.j1 k w LK steps i (K + r.f0) ((lkb K w i:Nat):Int) K N st rs l.reverse:=fun k=>by rw [← e]
            exact Ev.congr e2 core
        · intro all p p0 e1 e2 e3
          rw [List.length_cons] at e2
          have hp:p < all.length:=by omega
          have ed:=rd_cons p0 hp
          rw [e1] at ed
          injection ed with ed1 ed2
          have h3:=s3 all (p + 1) (by omega) ed2.symm (by omega) e3
          have hil:((w.take i.toNat).length:Int)=i:=by rw [List.length_take];omega
          refine Ev.step (fun k=>Zr1.l0.eq_2 _ _ _ _ _ _ _ _ k) ?_
          refine Ev.pos hp (Ev.pos p0 (Ev.pos hp ?_))
          rw [← ed1]
          have hLl:((w.take i.toNat++(K + r.f0) :: l).length:Int)=i + (l.length + 1):=by rw [List.length_append,List.length_cons];omega
          refine Ev.loopc (σ:=Unit) (L:=fun k j _=>Zr1.l1 k (w.take i.toNat++(K + r.f0) :: l) (i1:Int) j all (all.length:Int) p K N st rs) (n:=i) (fun _ _=>True) ?_ ?_ 0 () (Int.le_refl _) i0 trivial
          · intro _ _
            have em:rd (w.take i.toNat++(K + r.f0) :: l) i=K + r.f0:=by
              have:=rd_mid (w.take i.toNat) l (K + r.f0)
              rwa [hil] at this
            have e5:=rstep_big K N st rs G (w.take i.toNat++(K + r.f0) :: l) i (i1:Int) (by omega) i0 (by omega) (by omega) (by omega)
            have e6:(w.take i.toNat++(K + r.f0) :: l).take i.toNat=w.take i.toNat:=by
              rw [List.take_append_of_le_length (by omega),List.take_of_length_le (by omega)]
            have e7:(w.take i.toNat++(K + r.f0) :: l).drop (i + 1).toNat=l:=by
              rw [List.drop_append,List.drop_eq_nil_of_le (by omega),List.nil_append,show(i + 1).toNat - (w.take i.toNat).length=1 by omega];rfl
            rw [e6,e7,eri] at e5
            refine Ev.step (fun k=>Zr1.l1.eq_2 _ _ _ _ _ _ _ _ _ _ k) ?_
            rw [em,eri,w64 (show -9223372036854775808≤K + r.f0 by omega) (by omega),w64 (show -9223372036854775808≤p + 1 by omega) (by omega),e5]
            refine Ev.pos (by omega) (Ev.pos i0 (Ev.neg (by omega) (Ev.neg (by omega) (Ev.neg (by omega) (Ev.neg (by omega) (Ev.pos (by omega) (Ev.pos (by omega) (Ev.pos rfl ?_))))))))
            simp only [Option.bind_some]
            exact h3
          · intro j _ j0 j1 _ next
            have ej:rd (w.take i.toNat++(K + r.f0) :: l) j=rd w j:=by rw [rd_app _ _ _ j0 (by omega),rd_take _ _ _ j0 (by omega)]
            have:=hws _ (rd_mem j0 (show j < w.length by omega))
            refine Ev.step (fun k=>Zr1.l1.eq_2 _ _ _ _ _ _ _ _ _ _ k) ?_
            rw [ej,w64 (show -9223372036854775808≤j + 1 by omega) (by omega)]
            exact Ev.pos (by omega) (Ev.pos j0 (Ev.pos this.2 (next () trivial)))
end
theorem bit_of_max (m st:Nat) (hN:st < 32) (hm:m < 2 ^ 32):(Go.bits .and .u32 (shr .u32 (m:Int) (mx (st:Int) 0)) 1 == 1)=m.testBit st:=by
  have e:mx (st:Int) 0=(st:Int):=by unfold mx;rw [if_neg (by omega)]
  rw [e]
  have:=bit_shr m st hm hN
  rw [Bool.eq_iff_iff,beq_iff_eq];exact this
theorem takes_both (K N st:Int) (rs:List S41) (w:List Int) (G:GOK K N st rs) (hc:wordCode K w=0): ∃b:Bool,(b=true↔Mk K rs w [K + st] 0 w.length)∧Ev (fun k=>table_Takes.f k K N st rs w) (b,(0:Int))∧Ev (fun k=>Zh2.f k K N st rs w) b:=by
  have hN0:=G.N0;have hN1:=G.N1;have s0:=G.s0;have s1:=G.s1
  have hw:=(wordCode_0 hc).1
  obtain⟨m,e1,e2⟩:=tnames_ev K N st rs w G hw
  rw [if_pos hc] at e1
  obtain⟨hm,hb⟩:=e2 hc
  obtain⟨t,ht,et⟩:=table_ev K N st rs w G hw
  have l1:=ht.1.l1
  have l2:=ht.1.l2 st s0 s1
  have l3:=ht.1.l3 st 0 s0 s1 (Int.le_refl _) (by omega)
  obtain⟨j,rfl⟩:=Int.eq_ofNat_of_zero_le s0
  have h3:=hb j (by omega)
  have h4:=ht.2 (j:Int) 0 (w.length:Int) (by omega) (by omega) (Int.le_refl _) (by omega) (Int.le_refl _)
  refine⟨m.testBit j,h3,?_,?_⟩
  · unfold table_Takes.f
    refine Ev.bind e1 (Ev.val ?_)
    rw [bit_of_max m j (by omega) (Nat.lt_of_lt_of_le hm (Nat.pow_le_pow_right (by omega) (by omega)))]
  · unfold Zh2.f
    refine Ev.bind et (Ev.pos s0 (Ev.pos (by omega) (Ev.pos (by omega) (Ev.pos (by omega) (Ev.val ?_)))))
    rw [Bool.eq_iff_iff,h3];exact h4
theorem takes_err (K N st:Int) (rs:List S41) (w:List Int) (h:(if gcode K N st rs=0 then wordCode K w else gcode K N st rs)≠0):EvP (fun k=>table_Takes.f k K N st rs w) (fun p=>p.2=(if gcode K N st rs=0 then wordCode K w else gcode K N st rs)):=by
  unfold table_Takes.f
  refine EvP.bind (a:=((0:Int),(if gcode K N st rs=0 then wordCode K w else gcode K N st rs))) ?_ (EvP.now rfl)
  unfold Zb2.f
  refine Ev.bind (twrong_ev K N st rs w) ?_
  exact Ev.neg h (Ev.now _)
section
variable (K N st:Int) (rs:List S41) (w:List Int)
theorem law_bad (c:Int) (hc:c≠0):(∀(b:Bool),b=false→Ev (fun k=>Zd1.j0 k w [] c c b K N st rs) true):=by
  rintro b rfl
  refine Ev.step (fun k=>Zd1.j0.eq_2 _ _ _ _ _ _ _ _ _ k) (Ev.neg (by simp) ?_)
  refine Ev.step (fun k=>Zd1.j1.eq_2 _ _ _ _ _ _ _ _ k) (Ev.neg hc ?_)
  refine Ev.step (fun k=>Zd1.j2.eq_2 _ _ _ _ _ _ _ _ _ k) (Ev.neg (by simp) ?_)
  refine Ev.step (fun k=>Zd1.j3.eq_2 _ _ _ _ _ _ _ _ k) (Ev.neg hc (Ev.pos rfl (Ev.val (by simp))))
end
theorem AheadParses:Zd1.Pure:=by
  unfold Zd1.Pure
  intro K N st rs w _ _ _ _ _ _
  apply Ev.rounds
  unfold Zd1.f Ze1.f
  by_cases h:(if gcode K N st rs=0 then wordCode K w else gcode K N st rs)=0
  · have g : gcode K N st rs = 0 := by
      by_cases g:gcode K N st rs=0
      · exact g
      · rw [if_neg g] at h;exact h
    have hwc:wordCode K w=0:=by rwa [if_pos g] at h
    have G:=gcode_ok g
    obtain⟨hw,hws⟩:=wordCode_0 hwc
    have h2:=wordOf_ev K N st rs w
    rw [h] at h2
    obtain⟨b,hb,eb1,eb2⟩:=takes_both K N st rs w G hwc
    obtain⟨T,hT,hlk,el,er⟩:=looks_all K N st rs G g
    have hd:=distinct_ev K N st rs G (lkR K N rs T) hlk
    have hcl:=clear_ev K N st rs G (lkR K N rs T) hlk er
    have hK0:=G.K0;have hK1:=G.K1;have hN0:=G.N0;have hN1:=G.N1;have s0:=G.s0;have s1:=G.s1
    cases c:clearR rs (lkR K N rs T) with
    |false=>
      rw [c] at hd hcl
      refine Ev.bind (Ev.bind eb1 (Ev.pos rfl (Ev.bind el (Ev.bind hd (Ev.neg (by simp) (Ev.now (([] :List Int),(3:Int)))))))) (Ev.bind h2 (Ev.pos rfl (Ev.bind hcl ?_)))
      refine Ev.step (fun k=>Zd1.j0.eq_2 _ _ _ _ _ _ _ _ _ k) (Ev.pos (by simp) ?_)
      refine Ev.step (fun k=>Zd1.j1.eq_2 _ _ _ _ _ _ _ _ k) (Ev.neg (by decide) ?_)
      refine Ev.step (fun k=>Zd1.j2.eq_2 _ _ _ _ _ _ _ _ _ k) (Ev.neg (by simp) ?_)
      exact Ev.step (fun k=>Zd1.j3.eq_2 _ _ _ _ _ _ _ _ k) (Ev.neg (by decide) (Ev.pos rfl (Ev.val (by simp))))
    |true=>
      rw [c] at hd hcl
      cases b with
      |false=>
        refine Ev.bind (Ev.bind eb1 (Ev.pos rfl (Ev.bind el (Ev.bind hd (Ev.pos rfl (Ev.neg (by simp) (Ev.now (([] :List Int),(5:Int))))))))) (Ev.bind h2 (Ev.pos rfl (Ev.bind hcl ?_)))
        refine Ev.step (fun k=>Zd1.j0.eq_2 _ _ _ _ _ _ _ _ _ k) (Ev.neg (by simp) ?_)
        refine Ev.step (fun k=>Zd1.j1.eq_2 _ _ _ _ _ _ _ _ k) (Ev.pos rfl (Ev.bind eb2 ?_))
        refine Ev.step (fun k=>Zd1.j2.eq_2 _ _ _ _ _ _ _ _ _ k) (Ev.pos (by simp) ?_)
        exact Ev.step (fun k=>Zd1.j3.eq_2 _ _ _ _ _ _ _ _ k) (Ev.neg (by decide) (Ev.pos rfl (Ev.val (by simp))))
      |true=>
        obtain⟨n,hn,q⟩:=small_word K N st rs w G hw (hb.1 rfl)
        obtain⟨s,s1',s2,s3⟩:=parse_ev K N st rs w G hws hw T hT hlk c n [K + st] 0 [] q (Int.le_refl _) (good_start K N st rs w G T hT) (by simp;omega) (by simp;omega)
        rw [List.nil_append,List.reverse_singleton] at s2
        have f:=s3 s 0 (Int.le_refl _) (by simp) (by omega) (by omega)
        have e1:wrap64 (K + st)=K + st:=w64 (by omega) (by omega)
        refine Ev.bind (a:=(s,(0:Int))) (Ev.bind eb1 (Ev.pos rfl (Ev.bind el (Ev.bind hd (Ev.pos rfl (Ev.pos rfl ?_)))))) (Ev.bind h2 (Ev.pos rfl (Ev.bind hcl ?_)))
        · rw [e1];exact s2
        refine Ev.step (fun k=>Zd1.j0.eq_2 _ _ _ _ _ _ _ _ _ k) (Ev.neg (by simp) ?_)
        refine Ev.step (fun k=>Zd1.j1.eq_2 _ _ _ _ _ _ _ _ k) (Ev.pos rfl (Ev.bind eb2 ?_))
        refine Ev.step (fun k=>Zd1.j2.eq_2 _ _ _ _ _ _ _ _ _ k) (Ev.neg (by simp) ?_)
        refine Ev.step (fun k=>Zd1.j3.eq_2 _ _ _ _ _ _ _ _ k) (Ev.pos rfl (Ev.bind (a:=(w,true)) ?_ (Ev.pos rfl (Ev.pos rfl (Ev.bind (Ints_ev w w (by omega)) (Ev.val (by simp)))))))
        unfold Zr1.f
        rw [e1]
        simpa using f
  · have h2:=wordOf_ev K N st rs w
    obtain⟨p,hp,ep⟩:=takes_err K N st rs w h
    refine Ev.bind (a:=(([] :List Int),(if gcode K N st rs=0 then wordCode K w else gcode K N st rs))) (Ev.bind ep (Ev.neg (by rw [hp];exact h) (by rw [hp];exact Ev.now _))) (Ev.bind h2 (Ev.neg h ?_))
    exact law_bad K N st rs w _ h false rfl
end Go.Proofs.Ytbifocddbgleeaa.Pure
