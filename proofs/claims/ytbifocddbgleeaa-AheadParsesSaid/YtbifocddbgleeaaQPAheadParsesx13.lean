-- By a program.
import Derived.Test.YtbifocddbgleeaaQPAheadParsesx0
import Derived.Test.YtbifocddbgleeaaQPAheadParsesx12
namespace Go.Proofs.Ytbifocddbgleeaa.PAheadParses
set_option maxHeartbeats 8000000
set_option maxRecDepth 100000
open Go.RowKit Go.Proofs.YtbifocddbgleeaaW.PrintWords Go.Proofs.YtbifocddbgleeaaW.PrintLast Go.Proofs.YtbifocddbgleeaaW.PrintMore
attribute [local go_sem] max2_int min2_int max_two min_two max_three min_three max_four min_four
set_option linter.unusedVariables false
set_option linter.unusedSimpArgs false
def Zd2.l0:Nat→Int→List Int→Int→Int→Option (Int)
  |0,_,_,_,_=>none
  |k + 1,x0,x10,x11,x12=>if x12 < x11 then(if 0≤x12 then(if x12 < (x10.length:Int) then(if(rd x10 x12) < 0 then(some 2) else(if(rd x10 x12)≥x0 then(some 2) else(Zd2.l0 k x0 x10 x11 (wrap64 (x12 + 1))))) else(none)) else(none)) else(some 0)
def Zd2.f (k:Nat) (a0:Int) (l1:List Int):Option (Int):=if(l1.length:Int) > 12 then(some 1) else(Zd2.l0 k a0 l1 (l1.length:Int) 0)
theorem Zd2.mono_l: ∀k,(∀y0 y1 y2 y3,LeO (Zd2.l0 k y0 y1 y2 y3) (Zd2.l0 (k + 1) y0 y1 y2 y3))
  |0=>fun _ _ _ _ r h=>by simp [Zd2.l0] at h
  |k + 1=>by
    have ih0:=Zd2.mono_l k
    · intro y0 y1 y2 y3
      unfold Zd2.l0
      repeat' (with_reducible first|apply ih0|exact LeO.refl _|exact LeO.none _|refine LeO.ite ?_ ?_|refine LeO.bind ?_ (fun _=>?_))
theorem Zd2.mono: ∀a0 a1 k,LeO (Zd2.f k a0 a1) (Zd2.f (k + 1) a0 a1):=by
  intro a0 a1 k
  have ih0:=Zd2.mono_l k
  unfold Zd2.f
  repeat' (with_reducible first|apply ih0|exact LeO.refl _|exact LeO.none _|refine LeO.ite ?_ ?_|refine LeO.bind ?_ (fun _=>?_))
theorem Zd2.calls (k : Nat) (a0 : Int) (A1 : Option Addr) (c1 : Nat) (l1 : List Int) (r : Int) (w : World) (an : Kd.C (Kd.int .i64) w A1 l1.length l1) (ao : l1.length ≤ c1) (h : Zd2.f k a0 l1 = some r) :
    Calls Try.prog 15 #[.int .i64 a0,.slice A1 l1.length c1] w fun e w'=>e= .returned (.int .i64 r)∧Zf1 w w':=by
 (have au:=Try.underlying3);(have aj:=Za.mk an);(have av:=Za.mk ao);(clear an ao);(have H:(if(l1.length:Int) > 12 then(some 1) else(Zd2.l0 k a0 l1 (l1.length:Int) 0))=some r:=h);(clear h)
 by_cases c3:(l1.length:Int) > 12
 ·rw [if_pos c3] at H
  (have ah:decide (12 < (l1.length:Int))=true:=decide_eq_true c3);(have ai:decide (12 < l1.length)=true:=decide_eq_true (by omega));(clear c3);(obtain rfl:=Option.some.inj H)
  go_enter Try.func15,Try.ntmps15
  go_wp2
  go_ret
  exact⟨by first|rfl|(simp;done)|(simp [*];done),by repeat(first|exact Zf1.refl _|apply Zf1.step)⟩
 (rw [if_neg c3] at H);(have ah:decide (12 < (l1.length:Int))=false:=decide_eq_false c3);(have ai:decide (12 < l1.length)=false:=decide_eq_false (by omega));(clear c3);(have H':=Za.mk H);(clear H)
 go_enter Try.func15,Try.ntmps15
 go_wp2
 go_loopg [12] k (fun kq v12 w'=>∃(aa:Int),v12= .int .i64 aa∧Za (Zd2.l0 kq a0 l1 (l1.length:Int) aa=some r)∧Za (kq≤k)∧Zf1 w w')
 case atStart=>exact⟨(0),(by first|rfl|(simp;done)|(simp [*];done)),H',⟨Nat.le_refl _⟩,by repeat(first|exact Zf1.refl _|apply Zf1.step)⟩
 case round=>
  (clear H');(try clear c1);(try clear p2);(try clear ah);(try clear ai);(obtain⟨aa,rfl,HA,ap,⟨m1,rfl⟩⟩:=hrel)
  cases gk with
  |zero=>exact absurd HA.out (by simp [Zd2.l0])
  |succ k1=>
   (have H:=HA.out);(clear HA);(simp only [Zd2.l0] at H)
   by_cases c4:aa < (l1.length:Int)
   rotate_left
   ·rw [if_neg c4] at H
    (have ak:decide (aa < (l1.length:Int))=false:=decide_eq_false c4);(clear c4);(obtain rfl:=Option.some.inj H)
    go_wp2
    go_ret
    exact⟨by first|rfl|(simp;done)|(simp [*];done),by repeat(first|exact Zf1.refl _|apply Zf1.step)⟩
   (rw [if_pos c4] at H);(have ak:decide (aa < (l1.length:Int))=true:=decide_eq_true c4);(clear c4)
   by_cases c5:0≤aa
   rotate_left
   ·rw [if_neg c5] at H
    exact absurd H (by simp)
   (rw [if_pos c5] at H);(have aq:decide (0≤aa)=true:=decide_eq_true c5);(clear c5)
   by_cases c6:aa < (l1.length:Int)
   rotate_left
   ·rw [if_neg c6] at H
    exact absurd H (by simp)
   (rw [if_pos c6] at H);(have ar:decide (aa < (l1.length:Int))=true:=decide_eq_true c6);(clear c6)
   by_cases c7:(rd l1 aa) < 0
   ·rw [if_pos c7] at H
    (have al:decide ((rd l1 aa) < 0)=true:=decide_eq_true c7);(clear c7);(obtain rfl:=Option.some.inj H);(have ab:0≤(aa:Int):=zD);(have ac:aa < (l1.length:Int):=zD);(obtain⟨ag,af,ae⟩:=Kd.at_int aj.out aa ab ac);(cases af);(replace ab:=eq_true ab);(replace ac:=eq_true ac)
    go_wp2
    go_ret
    exact⟨by first|rfl|(simp;done)|(simp [*];done),by repeat(first|exact Zf1.refl _|apply Zf1.step)⟩
   (rw [if_neg c7] at H);(have al:decide ((rd l1 aa) < 0)=false:=decide_eq_false c7);(clear c7)
   by_cases c8:(rd l1 aa)≥a0
   ·rw [if_pos c8] at H
    (have am:decide (a0≤(rd l1 aa))=true:=decide_eq_true c8);(clear c8);(obtain rfl:=Option.some.inj H);(have ab:0≤(aa:Int):=zD);(have ac:aa < (l1.length:Int):=zD);(obtain⟨ag,af,ae⟩:=Kd.at_int aj.out aa ab ac);(cases af);(replace ab:=eq_true ab);(replace ac:=eq_true ac)
    go_wp2
    go_ret
    exact⟨by first|rfl|(simp;done)|(simp [*];done),by repeat(first|exact Zf1.refl _|apply Zf1.step)⟩
   (rw [if_neg c8] at H);(have am:decide (a0≤(rd l1 aa))=false:=decide_eq_false c8);(clear c8);(have H':=Za.mk H);(clear H);(have ab:0≤(aa:Int):=zD);(have ac:aa < (l1.length:Int):=zD);(obtain⟨ag,af,ae⟩:=Kd.at_int aj.out aa ab ac);(cases af);(replace ab:=eq_true ab);(replace ac:=eq_true ac)
   go_wp2
   go_roundg k1
   case measure=>have:=ap.out;omega
   case rel=>exact⟨(wrap64 (aa + 1)),(by first|rfl|(simp;done)|(simp [*];done)),H',⟨by have:=ap.out;omega⟩,by repeat(first|exact Zf1.refl _|apply Zf1.step)⟩
def Zg2.f (k:Nat) (a0_0:Int) (a0_1:Int) (a0_2:Int) (l0_3:List (S41)) (l1:List Int):Option (Int):=(Zc1.f k a0_0 a0_1 a0_2 l0_3).bind fun t268=>(if t268=0 then((Zd2.f k a0_0 l1).bind fun t269=>(some t269)) else(some t268))
theorem Zg2.mono: ∀a0 a1 a2 a3 a4 k,LeO (Zg2.f k a0 a1 a2 a3 a4) (Zg2.f (k + 1) a0 a1 a2 a3 a4):=by
  intro a0 a1 a2 a3 a4 k
  unfold Zg2.f
  repeat' (with_reducible first|apply Zc1.mono|apply Zd2.mono|exact LeO.refl _|exact LeO.none _|refine LeO.ite ?_ ?_|refine LeO.bind ?_ (fun _=>?_))
theorem Zg2.calls (k : Nat) (ab : Int) (ag : Int) (ah : Int) (ai : Option Addr) (aj : Nat) (ac : List (S41)) (A1 : Option Addr) (c1 : Nat) (l1 : List Int) (r : Int) (w : World) (al : Kd.C k41 w ai ac.length ac) (am : ac.length ≤ aj) (bt : Kd.C (Kd.int .i64) w A1 l1.length l1) (bu : l1.length ≤ c1) (h : Zg2.f k ab ag ah ac l1 = some r) :
    Calls Try.prog 5 #[.agg #[.int .i64 ab,.int .i64 ag,.int .i64 ah,.slice ai ac.length aj],.slice A1 l1.length c1] w fun e w'=>e= .returned (.int .i64 r)∧Below w.heap.size w w':=by
 (have bx:=Try.underlying24);(have cb:=Try.underlying3);(have an:=Za.mk al);(have ao:=Za.mk am);(clear al am);(have bz:=Za.mk bt);(have ca:=Za.mk bu);(clear bt bu);(have HB:=Za.mk (Below.refl w.heap.size w));(have H:((Zc1.f k ab ag ah ac).bind fun ae=>(if ae=0 then((Zd2.f k ab l1).bind fun ak=>(some ak)) else(some ae)))=some r:=h);(clear h);(replace H:=Option.bind_eq_some_iff.mp H);(obtain⟨ae,bv,H⟩:=H);(replace H:(if ae=0 then((Zd2.f k ab l1).bind fun ak=>(some ak)) else(some ae))=some r:=H);(have A3:=Za.mk bv);(clear bv)
 by_cases c4:ae=0
 rotate_left
 ·rw [if_neg c4] at H
  (have bb:(ae == 0)=false:=beq_eq_false_iff_ne.mpr c4);(have bc:(ae != 0)=true:=bne_iff_ne.mpr c4);(obtain rfl:=Option.some.inj H)
  go_enter Try.func5,Try.ntmps5
  go_wp2_with (first|((with_reducible refine Zs (N:=2) rfl ?_);refine Zx ?hg (N:=2) ?hd (cs:=#[.int .i64 ab,.int .i64 ag,.int .i64 ah,.slice ai ac.length aj]) (t:=24) ?hr ?_;(case hd=>rfl);(case hg=>rfl);(case hr=>first|(go_simp;done)|(go_simp;rfl));intro af hg cd hbox hb;have aa:=Za.mk (hbox);have ap:=Za.mk ((by rw [hg];exact(Zg (zH HB)):w.heap.size≤af));have aq:=Za.mk ((by rw [hg];exact(Zg (zH HB)):w.heap.size≤af));replace HB:=Za.mk (Zh (zH HB) hb);clear hb hbox hg;obtain⟨ar,au,av,aw⟩:=zq4 aa.out;obtain⟨ax,ay,az,ba⟩:=zf4 aa.out)|((with_reducible refine Zl1 (f:=14) rfl ?_);refine goesL_ (some 7) rfl rfl Try.func14 (by kernel_rfl) rfl #[.agg #[.int .i64 ab,.int .i64 ag,.int .i64 ah,.slice ai ac.length aj]] rfl (by (try simp only [List.map_toArray,List.map_cons,List.map_nil]);first|done|rfl|(simp only [List.length_drop,List.length_take];rfl)) ?_;(with_reducible refine(Zc1.calls k ab ag ah _ _ ac ae _ ?side1 ?side2 A3.out).mono ?_);(case side1=>exact zC an HB);(case side2=>exact ao.out);rintro e ce ⟨rfl,hb⟩;refine⟨_,rfl,?_⟩;replace aa:=Za.mk (Zj (g:=af) (zK aa) hb);replace HB:=Za.mk (Zh (zH HB) hb);(try clear hb);(try clear hb2);(try clear hk);(try clear hi)))
  go_ret
  exact⟨by first|rfl|(simp [Zl,Zk] <;> rfl)|(simp [*,Zl,Zk] <;> rfl),zH HB⟩
 (rw [if_pos c4] at H);(have bb:(ae == 0)=true:=beq_iff_eq.mpr c4);(have bc:(ae != 0)=false:=bne_eq_false_iff_eq.mpr c4);(clear c4);(replace H:=Option.bind_eq_some_iff.mp H);(obtain⟨ak,bw,H⟩:=H);(replace H:(some ak)=some r:=H);(have A5:=Za.mk bw);(clear bw);(obtain rfl:=Option.some.inj H)
 go_enter Try.func5,Try.ntmps5
 go_wp2_with (first|((with_reducible refine Zs (N:=2) rfl ?_);refine Zx ?hg (N:=2) ?hd (cs:=#[.int .i64 ab,.int .i64 ag,.int .i64 ah,.slice ai ac.length aj]) (t:=24) ?hr ?_;(case hd=>rfl);(case hg=>rfl);(case hr=>first|(go_simp;done)|(go_simp;rfl));intro af hg w6 hbox hb;have aa:=Za.mk (hbox);have ap:=Za.mk ((by rw [hg];exact(Zg (zH HB)):w.heap.size≤af));have aq:=Za.mk ((by rw [hg];exact(Zg (zH HB)):w.heap.size≤af));replace HB:=Za.mk (Zh (zH HB) hb);clear hb hbox hg;obtain⟨bd,be,bf,bg⟩:=zq4 aa.out;obtain⟨bh,bi,bj,bk⟩:=zf4 aa.out)|((with_reducible refine Zl1 (f:=14) rfl ?_);refine goesL_ (some 7) rfl rfl Try.func14 (by kernel_rfl) rfl #[.agg #[.int .i64 ab,.int .i64 ag,.int .i64 ah,.slice ai ac.length aj]] rfl (by (try simp only [List.map_toArray,List.map_cons,List.map_nil]);first|done|rfl|(simp only [List.length_drop,List.length_take];rfl)) ?_;(with_reducible refine(Zc1.calls k ab ag ah _ _ ac ae _ ?side1 ?side2 A3.out).mono ?_);(case side1=>exact zC an HB);(case side2=>exact ao.out);rintro e w8 ⟨rfl,hb⟩;refine⟨_,rfl,?_⟩;replace aa:=Za.mk (Zj (g:=af) (zK aa) hb);replace HB:=Za.mk (Zh (zH HB) hb);(try clear hb);(try clear hb2);(try clear hk);(try clear hi);obtain⟨bl,bm,bn,bo⟩:=zq4 aa.out;obtain⟨bp,bq,br,bs⟩:=zf4 aa.out)|((with_reducible refine Zl1 (f:=15) rfl ?_);refine goesL_ (some 13) rfl rfl Try.func15 (by kernel_rfl) rfl #[.int .i64 ab,.slice A1 l1.length c1] rfl (by (try simp only [List.map_toArray,List.map_cons,List.map_nil]);first|done|rfl|(simp only [List.length_drop,List.length_take];rfl)) ?_;(with_reducible refine(Zd2.calls k ab _ _ l1 ak _ ?side1 ?side2 A5.out).mono ?_);(case side1=>exact zC bz HB);(case side2=>exact ca.out);rintro e w' ⟨rfl,⟨nd,rfl⟩⟩;refine⟨_,rfl,?_⟩))
 go_ret
 exact⟨by first|rfl|(simp [Zl,Zk] <;> rfl)|(simp [*,Zl,Zk] <;> rfl),zH HB⟩
def Za1.l0:Nat→Int→List Int→Int→Int→Option (Bool)
  |0,_,_,_,_=>none
  |k + 1,x1,x7,x8,x9=>if x9 < x8 then(if 0≤x9 then(if x9 < (x7.length:Int) then(if x1=(rd x7 x9) then(some true) else(Za1.l0 k x1 x7 x8 (wrap64 (x9 + 1)))) else(none)) else(none)) else(some false)
def Za1.f (k:Nat) (l0:List Int) (a1:Int):Option (Bool):=Za1.l0 k a1 l0 (l0.length:Int) 0
theorem Za1.mono_l: ∀k,(∀y0 y1 y2 y3,LeO (Za1.l0 k y0 y1 y2 y3) (Za1.l0 (k + 1) y0 y1 y2 y3))
  |0=>fun _ _ _ _ r h=>by simp [Za1.l0] at h
  |k + 1=>by
    have ih0:=Za1.mono_l k
    · intro y0 y1 y2 y3
      unfold Za1.l0
      repeat' (with_reducible first|apply ih0|exact LeO.refl _|exact LeO.none _|refine LeO.ite ?_ ?_|refine LeO.bind ?_ (fun _=>?_))
theorem Za1.mono: ∀a0 a1 k,LeO (Za1.f k a0 a1) (Za1.f (k + 1) a0 a1):=by
  intro a0 a1 k
  have ih0:=Za1.mono_l k
  unfold Za1.f
  repeat' (with_reducible first|apply ih0|exact LeO.refl _|exact LeO.none _|refine LeO.ite ?_ ?_|refine LeO.bind ?_ (fun _=>?_))
theorem Za1.calls (k : Nat) (A0 : Option Addr) (c0 : Nat) (l0 : List Int) (a1 : Int) (r : Bool) (w : World) (ak : Kd.C (Kd.int .i64) w A0 l0.length l0) (al : l0.length ≤ c0) (h : Za1.f k l0 a1 = some r) :
    Calls Try.prog 36 #[.slice A0 l0.length c0,.int .i64 a1] w fun e w'=>e= .returned (.bool r)∧Zf1 w w':=by
 (have aq:=Try.underlying3);(have am:=Za.mk ak);(have ar:=Za.mk al);(clear ak al);(have H:(Za1.l0 k a1 l0 (l0.length:Int) 0)=some r:=h);(clear h);(have H':=Za.mk H);(clear H)
 go_enter Try.func36,Try.ntmps36
 go_wp2
 go_loopg [9] k (fun kq v9 w'=>∃(aa:Int),v9= .int .i64 aa∧Za (Za1.l0 kq a1 l0 (l0.length:Int) aa=some r)∧Za (kq≤k)∧Zf1 w w')
 case atStart=>exact⟨(0),(by first|rfl|(simp;done)|(simp [*];done)),H',⟨Nat.le_refl _⟩,by repeat(first|exact Zf1.refl _|apply Zf1.step)⟩
 case round=>
  (clear H');(try clear p2);(obtain⟨aa,rfl,HA,an,⟨m1,rfl⟩⟩:=hrel)
  cases gk with
  |zero=>exact absurd HA.out (by simp [Za1.l0])
  |succ k1=>
   (have H:=HA.out);(clear HA);(simp only [Za1.l0] at H)
   by_cases c3:aa < (l0.length:Int)
   rotate_left
   ·rw [if_neg c3] at H
    (have ah:decide (aa < (l0.length:Int))=false:=decide_eq_false c3);(clear c3);(obtain rfl:=Option.some.inj H)
    go_wp2
    go_ret
    exact⟨by first|rfl|(simp;done)|(simp [*];done),by repeat(first|exact Zf1.refl _|apply Zf1.step)⟩
   (rw [if_pos c3] at H);(have ah:decide (aa < (l0.length:Int))=true:=decide_eq_true c3);(clear c3)
   by_cases c4:0≤aa
   rotate_left
   ·rw [if_neg c4] at H
    exact absurd H (by simp)
   (rw [if_pos c4] at H);(have ao:decide (0≤aa)=true:=decide_eq_true c4);(clear c4)
   by_cases c5:aa < (l0.length:Int)
   rotate_left
   ·rw [if_neg c5] at H
    exact absurd H (by simp)
   (rw [if_pos c5] at H);(have ap:decide (aa < (l0.length:Int))=true:=decide_eq_true c5);(clear c5)
   by_cases c6:a1=(rd l0 aa)
   ·rw [if_pos c6] at H
    (have ai:(a1 == (rd l0 aa))=true:=beq_iff_eq.mpr c6);(have aj:(a1 != (rd l0 aa))=false:=bne_eq_false_iff_eq.mpr c6);(clear c6);(obtain rfl:=Option.some.inj H);(have ab:0≤(aa:Int):=zD);(have ac:aa < (l0.length:Int):=zD);(obtain⟨ag,af,ae⟩:=Kd.at_int am.out aa ab ac);(cases af);(replace ab:=eq_true ab);(replace ac:=eq_true ac)
    go_wp2
    go_ret
    exact⟨by first|rfl|(simp;done)|(simp [*];done),by repeat(first|exact Zf1.refl _|apply Zf1.step)⟩
   (rw [if_neg c6] at H);(have ai:(a1 == (rd l0 aa))=false:=beq_eq_false_iff_ne.mpr c6);(have aj:(a1 != (rd l0 aa))=true:=bne_iff_ne.mpr c6);(have H':=Za.mk H);(clear H);(have ab:0≤(aa:Int):=zD);(have ac:aa < (l0.length:Int):=zD);(obtain⟨ag,af,ae⟩:=Kd.at_int am.out aa ab ac);(cases af);(replace ab:=eq_true ab);(replace ac:=eq_true ac)
   go_wp2
   go_roundg k1
   case measure=>have:=an.out;omega
   case rel=>exact⟨(wrap64 (aa + 1)),(by first|rfl|(simp;done)|(simp [*];done)),H',⟨by have:=an.out;omega⟩,by repeat(first|exact Zf1.refl _|apply Zf1.step)⟩
mutual
def Zk1.l0:Nat→Int→Int→Bool→List (S41)→Int→Int→Int→Int→Int→List (S41)→Option (Bool)
  |0,_,_,_,_,_,_,_,_,_,_=>none
  |k + 1,x1,x2,x3,x23,x24,x25,x272000,x272001,x272002,x272003=>if x25 < x24 then(if 0≤x25 then(if x25 < (x23.length:Int) then(if((Zb x23 x25).f0)=(wrap64 (x1 - x272000)) then(Zk1.l1 k x1 x2 x3 true x23 x24 x25 ((Zb x23 x25).f1) (((Zb x23 x25).f1).length:Int) 0 x272000 x272001 x272002 x272003) else(Zk1.l0 k x1 x2 x3 x23 x24 (wrap64 (x25 + 1)) x272000 x272001 x272002 x272003)) else(none)) else(none)) else(some false)
def Zk1.l1:Nat→Int→Int→Bool→Bool→List (S41)→Int→Int→List Int→Int→Int→Int→Int→Int→List (S41)→Option (Bool)
  |0,_,_,_,_,_,_,_,_,_,_,_,_,_,_=>none
  |k + 1,x1,x2,x3,x11,x23,x24,x25,x37,x38,x39,x272000,x272001,x272002,x272003=>if x39 < x38 then(if 0≤x39 then(if x39 < (x37.length:Int) then(if x11=true then((Zk1.f k x272000 x272001 x272002 x272003 (rd x37 x39) (wrap64 (x2 - 1)) x3).bind fun t275=>(Zk1.l1 k x1 x2 x3 t275 x23 x24 x25 x37 x38 (wrap64 (x39 + 1)) x272000 x272001 x272002 x272003)) else(Zk1.l1 k x1 x2 x3 false x23 x24 x25 x37 x38 (wrap64 (x39 + 1)) x272000 x272001 x272002 x272003)) else(none)) else(none)) else(if x11=true then(some true) else(Zk1.l0 k x1 x2 x3 x23 x24 (wrap64 (x25 + 1)) x272000 x272001 x272002 x272003))
def Zk1.f:Nat→Int→Int→Int→List (S41)→Int→Int→Bool→Option (Bool)
  |0,_,_,_,_,_,_,_=>none
  |k + 1,a0_0,a0_1,a0_2,l0_3,a1,a2,a3=>if a1 < a0_0 then(some (!a3)) else(if a2=0 then(some false) else(Zk1.l0 k a1 a2 a3 l0_3 (l0_3.length:Int) 0 a0_0 a0_1 a0_2 l0_3))
end
theorem Zk1.mono_l: ∀k,(∀y0 y1 y2 y3 y4 y5 y6,LeO (Zk1.f k y0 y1 y2 y3 y4 y5 y6) (Zk1.f (k + 1) y0 y1 y2 y3 y4 y5 y6))∧(∀y0 y1 y2 y3 y4 y5 y6 y7 y8 y9,LeO (Zk1.l0 k y0 y1 y2 y3 y4 y5 y6 y7 y8 y9) (Zk1.l0 (k + 1) y0 y1 y2 y3 y4 y5 y6 y7 y8 y9))∧(∀y0 y1 y2 y3 y4 y5 y6 y7 y8 y9 y10 y11 y12 y13,LeO (Zk1.l1 k y0 y1 y2 y3 y4 y5 y6 y7 y8 y9 y10 y11 y12 y13) (Zk1.l1 (k + 1) y0 y1 y2 y3 y4 y5 y6 y7 y8 y9 y10 y11 y12 y13))
  |0=>⟨fun _ _ _ _ _ _ _ r h=>by simp [Zk1.f] at h,fun _ _ _ _ _ _ _ _ _ _ r h=>by simp [Zk1.l0] at h,fun _ _ _ _ _ _ _ _ _ _ _ _ _ _ r h=>by simp [Zk1.l1] at h⟩
  |k + 1=>by
    obtain⟨ih0,ih1,ih2⟩:=Zk1.mono_l k
    refine⟨?_,?_,?_⟩
    · intro y0 y1 y2 y3 y4 y5 y6
      unfold Zk1.f
      repeat' (with_reducible first|apply ih0|apply ih1|apply ih2|exact LeO.refl _|exact LeO.none _|refine LeO.ite ?_ ?_|refine LeO.bind ?_ (fun _=>?_))
    · intro y0 y1 y2 y3 y4 y5 y6 y7 y8 y9
      unfold Zk1.l0
      repeat' (with_reducible first|apply ih0|apply ih1|apply ih2|exact LeO.refl _|exact LeO.none _|refine LeO.ite ?_ ?_|refine LeO.bind ?_ (fun _=>?_))
    · intro y0 y1 y2 y3 y4 y5 y6 y7 y8 y9 y10 y11 y12 y13
      unfold Zk1.l1
      repeat' (with_reducible first|apply ih0|apply ih1|apply ih2|exact LeO.refl _|exact LeO.none _|refine LeO.ite ?_ ?_|refine LeO.bind ?_ (fun _=>?_))
theorem Zk1.mono: ∀a0 a1 a2 a3 a4 a5 a6 k,LeO (Zk1.f k a0 a1 a2 a3 a4 a5 a6) (Zk1.f (k + 1) a0 a1 a2 a3 a4 a5 a6):=by
  intro a0 a1 a2 a3 a4 a5 a6 k
  obtain⟨ih0,ih1,ih2⟩:=Zk1.mono_l k
  exact ih0 a0 a1 a2 a3 a4 a5 a6
theorem Zk1.calls (k : Nat) : ∀ (ah : Int) (ai : Int) (aj : Int) (ba : Option Addr) (au : Nat) (ab : List (S41)) (a1 : Int) (a2 : Int) (a3 : Bool) (r : Bool) (w : World) (bt : Kd.C k41 w ba ab.length ab) (bu : ab.length ≤ au) (h : Zk1.f k ah ai aj ab a1 a2 a3 = some r),
    Calls Try.prog 44 #[.agg #[.int .i64 ah,.int .i64 ai,.int .i64 aj,.slice ba ab.length au],.int .i64 a1,.int .i64 a2,.bool a3] w fun e w'=>e= .returned (.bool r)∧Below w.heap.size w w':=by
 induction k using Nat.strongRecOn with
 |_ k ih=>
 intro ah ai aj ba au ab a1 a2 a3 r w bt bu h
 cases k with
 |zero=>exact absurd h (by simp [Zk1.f])
 |succ k=>
 (simp only [Zk1.f] at h);(have gh:=Try.underlying24);(have gm:=Try.underlying3);(have gi:=Try.underlying41);(have gj:=Try.underlying25);(have bv:=Za.mk bt);(have du:=Za.mk bu);(clear bt bu);(have HB:=Za.mk (Below.refl w.heap.size w));(have H:(if a1 < ah then(some (!a3)) else(if a2=0 then(some false) else(Zk1.l0 k a1 a2 a3 ab (ab.length:Int) 0 ah ai aj ab)))=some r:=h);(clear h)
 by_cases c5:a1 < ah
 ·rw [if_pos c5] at H
  (have dj:decide (a1 < ah)=true:=decide_eq_true c5);(clear c5);(obtain rfl:=Option.some.inj H)
  go_enter Try.func44,Try.ntmps44
  go_wp2_with (first|((with_reducible refine Zs (N:=4) rfl ?_);refine Zx ?hg (N:=4) ?hd (cs:=#[.int .i64 ah,.int .i64 ai,.int .i64 aj,.slice ba ab.length au]) (t:=24) ?hr ?_;(case hd=>rfl);(case hg=>rfl);(case hr=>first|(go_simp;done)|(go_simp;rfl));intro af hg w6 hbox hb;have ac:=Za.mk (hbox);have de:=Za.mk ((by rw [hg];exact(Zg (zH HB)):w.heap.size≤af));have df:=Za.mk ((by rw [hg];exact(Zg (zH HB)):w.heap.size≤af));replace HB:=Za.mk (Zh (zH HB) hb);clear hb hbox hg;obtain⟨bw,bx,bz,ca⟩:=zq4 ac.out;obtain⟨cb,cd,ce,cf⟩:=zf4 ac.out))
  go_ret
  exact⟨by first|rfl|(simp [Zl,Zk] <;> rfl)|(simp [*,Zl,Zk] <;> rfl),zH HB⟩
 (rw [if_neg c5] at H);(have dj:decide (a1 < ah)=false:=decide_eq_false c5);(clear c5)
 by_cases c8:a2=0
 ·rw [if_pos c8] at H
  (have dk:(a2 == 0)=true:=beq_iff_eq.mpr c8);(have dl:(a2 != 0)=false:=bne_eq_false_iff_eq.mpr c8);(clear c8);(obtain rfl:=Option.some.inj H)
  go_enter Try.func44,Try.ntmps44
  go_wp2_with (first|((with_reducible refine Zs (N:=4) rfl ?_);refine Zx ?hg (N:=4) ?hd (cs:=#[.int .i64 ah,.int .i64 ai,.int .i64 aj,.slice ba ab.length au]) (t:=24) ?hr ?_;(case hd=>rfl);(case hg=>rfl);(case hr=>first|(go_simp;done)|(go_simp;rfl));intro af hg w9 hbox hb;have ac:=Za.mk (hbox);have de:=Za.mk ((by rw [hg];exact(Zg (zH HB)):w.heap.size≤af));have df:=Za.mk ((by rw [hg];exact(Zg (zH HB)):w.heap.size≤af));replace HB:=Za.mk (Zh (zH HB) hb);clear hb hbox hg;obtain⟨bd,be,bf,bg⟩:=zq4 ac.out;obtain⟨bh,bi,bj,bk⟩:=zf4 ac.out))
  go_ret
  exact⟨by first|rfl|(simp [Zl,Zk] <;> rfl)|(simp [*,Zl,Zk] <;> rfl),zH HB⟩
 (rw [if_neg c8] at H);(have dk:(a2 == 0)=false:=beq_eq_false_iff_ne.mpr c8);(have dl:(a2 != 0)=true:=bne_iff_ne.mpr c8);(have H':=Za.mk H);(clear H)
 go_enter Try.func44,Try.ntmps44
 go_wp2_with (first|((with_reducible refine Zs (N:=4) rfl ?_);refine Zx ?hg (N:=4) ?hd (cs:=#[.int .i64 ah,.int .i64 ai,.int .i64 aj,.slice ba ab.length au]) (t:=24) ?hr ?_;(case hd=>rfl);(case hg=>rfl);(case hr=>first|(go_simp;done)|(go_simp;rfl));intro af hg gn hbox hb;have ac:=Za.mk (hbox);have de:=Za.mk ((by rw [hg];exact(Zg (zH HB)):w.heap.size≤af));have df:=Za.mk ((by rw [hg];exact(Zg (zH HB)):w.heap.size≤af));replace HB:=Za.mk (Zh (zH HB) hb);clear hb hbox hg;obtain⟨bl,bm,bn,bo⟩:=zq4 ac.out;obtain⟨bp,bq,br,bs⟩:=zf4 ac.out))
 go_loopg [25] k (fun kq v25 w'=>∃(aa:Int),v25= .int .i64 aa∧Za (Zk1.l0 kq a1 a2 a3 ab (ab.length:Int) aa ah ai aj ab=some r)∧Za (kq≤k)∧Za (w'.heap[af]? =some (.cells #[.int .i64 ah,.int .i64 ai,.int .i64 aj,(.slice ba ab.length au)] 24 (0,0)))∧Za (Below w.heap.size w w'))
 case atStart=>exact⟨(0),(by first|rfl|(simp;done)|(simp [*];done)),H',⟨Nat.le_refl _⟩,⟨zK ac⟩,⟨zH HB⟩⟩
 case round=>
  (clear H');(try clear p2);(try clear c4);(try clear dj);(try clear dk);(try clear dl);(try clear bd be bf bg bl bm bn bo bw bx bz ca bh bi bj bk bp bq br bs cb cd ce cf);(obtain⟨aa,rfl,HA,cj,ac,HB⟩:=hrel)
  cases gk with
  |zero=>exact absurd HA.out (by simp [Zk1.l0])
  |succ k1=>
   (have H:=HA.out);(clear HA);(simp only [Zk1.l0] at H)
   by_cases dr:aa < (ab.length:Int)
   rotate_left
   ·rw [if_neg dr] at H
    (have dg:decide (aa < (ab.length:Int))=false:=decide_eq_false dr);(clear dr);(obtain rfl:=Option.some.inj H)
    go_wp2
    go_ret
    exact⟨by first|rfl|(simp [Zl,Zk] <;> rfl)|(simp [*,Zl,Zk] <;> rfl),zH HB⟩
   (rw [if_pos dr] at H);(have dg:decide (aa < (ab.length:Int))=true:=decide_eq_true dr);(clear dr)
   by_cases ee:0≤aa
   rotate_left
   ·rw [if_neg ee] at H
    exact absurd H (by simp)
   (rw [if_pos ee] at H);(have dv:decide (0≤aa)=true:=decide_eq_true ee);(clear ee)
   by_cases ef:aa < (ab.length:Int)
   rotate_left
   ·rw [if_neg ef] at H
    exact absurd H (by simp)
   (rw [if_pos ef] at H);(have dw:decide (aa < (ab.length:Int))=true:=decide_eq_true ef);(clear ef)
   by_cases dm:((Zb ab aa).f0)=(wrap64 (a1 - ah))
   rotate_left
   ·rw [if_neg dm] at H
    (have dh:(((Zb ab aa).f0) == (wrap64 (a1 - ah)))=false:=beq_eq_false_iff_ne.mpr dm);(have di:(((Zb ab aa).f0) != (wrap64 (a1 - ah)))=true:=bne_iff_ne.mpr dm);(have H':=Za.mk H);(clear H);(have ax:0≤(aa:Int):=zD);(have ay:aa < (ab.length:Int):=zD);(obtain⟨av,cg,ch,dn,am,an,ap,aq⟩:=at_T41 bv.out aa ax ay);(cases dn);(replace am:=zX HB am);(replace an:=zX HB an);(have aw:=Za.mk aq);(have ck:=Za.mk ap);(clear aq ap);(replace ax:=eq_true ax);(replace ay:=eq_true ay)
    go_wp2_with (first|((with_reducible refine Zs (N:=10) rfl ?_);refine Zx ?hg (N:=10) ?hd (cs:=#[.int .i64 0,.slice none 0 0]) (t:=41) ?hr ?_;(case hd=>rfl);(case hg=>rfl);(case hr=>first|(go_simp;done)|(go_simp;rfl));intro ak hg gp hbox hb;have al:=Za.mk (hbox);have dx:=Za.mk ((by rw [hg];exact(Zg (zH HB)):w.heap.size≤ak));have dy:=Za.mk ((by rw [hg];exact(Zg (zH HB)):w.heap.size≤ak));replace HB:=Za.mk (Zh (zH HB) hb);have ag:=Za.mk ((by rw [hg];exact Nat.ne_of_lt (Zu (g:=af) (o:= .cells #[.int .i64 ah,.int .i64 ai,.int .i64 aj,.slice (some av) ab.length au] 24 (0,0)) (zK ac)):af≠ak));have ao:=Za.mk ((by rw [hg];exact Nat.ne_of_gt (Zu (g:=af) (o:= .cells #[.int .i64 ah,.int .i64 ai,.int .i64 aj,.slice (some av) ab.length au] 24 (0,0)) (zK ac)):ak≠af));replace ac:=Za.mk (Zj (g:=af) (zK ac) hb);clear hb hbox hg;have fu:=ao.out;have fv:=ag.out;obtain⟨eh,ei⟩:=zq2 al.out;obtain⟨ek,eo⟩:=zf2 al.out;obtain⟨es,eu,ey,ez⟩:=zq4 ac.out;obtain⟨fa,fb,fc,fd⟩:=zf4 ac.out))
    go_roundg k1
    case measure=>have:=cj.out;omega
    case rel=>exact⟨(wrap64 (aa + 1)),(by first|rfl|(simp;done)|(simp [*];done)),H',⟨by have:=cj.out;omega⟩,⟨by (with_reducible repeat(first|refine Zn ?_ _|refine Zi ?_|refine Zm ?_ _));refine Zv ?_ ag.out _;(with_reducible repeat(first|refine Zn ?_ _|refine Zi ?_|refine Zm ?_ _));refine Zv ?_ ag.out _;(with_reducible repeat(first|apply zb3|apply zb2|apply zb1));exact ac.out⟩,⟨zH HB⟩⟩
   (rw [if_pos dm] at H);(have dh:(((Zb ab aa).f0) == (wrap64 (a1 - ah)))=true:=beq_iff_eq.mpr dm);(have di:(((Zb ab aa).f0) != (wrap64 (a1 - ah)))=false:=bne_eq_false_iff_eq.mpr dm);(clear dm);(have H':=Za.mk H);(clear H);(have ax:0≤(aa:Int):=zD);(have ay:aa < (ab.length:Int):=zD);(obtain⟨av,cg,ch,dn,am,an,ap,aq⟩:=at_T41 bv.out aa ax ay);(cases dn);(replace am:=zX HB am);(replace an:=zX HB an);(have aw:=Za.mk aq);(have ck:=Za.mk ap);(clear aq ap);(replace ax:=eq_true ax);(replace ay:=eq_true ay)
   go_wp2_with (first|((with_reducible refine Zs (N:=10) rfl ?_);refine Zx ?hg (N:=10) ?hd (cs:=#[.int .i64 0,.slice none 0 0]) (t:=41) ?hr ?_;(case hd=>rfl);(case hg=>rfl);(case hr=>first|(go_simp;done)|(go_simp;rfl));intro ak hg gq hbox hb;have al:=Za.mk (hbox);have dx:=Za.mk ((by rw [hg];exact(Zg (zH HB)):w.heap.size≤ak));have dy:=Za.mk ((by rw [hg];exact(Zg (zH HB)):w.heap.size≤ak));replace HB:=Za.mk (Zh (zH HB) hb);have ag:=Za.mk ((by rw [hg];exact Nat.ne_of_lt (Zu (g:=af) (o:= .cells #[.int .i64 ah,.int .i64 ai,.int .i64 aj,.slice (some av) ab.length au] 24 (0,0)) (zK ac)):af≠ak));have ao:=Za.mk ((by rw [hg];exact Nat.ne_of_gt (Zu (g:=af) (o:= .cells #[.int .i64 ah,.int .i64 ai,.int .i64 aj,.slice (some av) ab.length au] 24 (0,0)) (zK ac)):ak≠af));replace ac:=Za.mk (Zj (g:=af) (zK ac) hb);clear hb hbox hg;have fw:=ao.out;have fx:=ag.out;obtain⟨cm,cn⟩:=zq2 al.out;obtain⟨co,cp⟩:=zf2 al.out;obtain⟨cq,cu,cw,cy⟩:=zq4 ac.out;obtain⟨da,db,dc,dd⟩:=zf4 ac.out))
   go_loopg [11,39] k1 (fun kq v11 v39 w'=>∃(az:Bool) (ae:Int),v11= .bool az∧v39= .int .i64 ae∧Za (Zk1.l1 kq a1 a2 a3 az ab (ab.length:Int) aa ((Zb ab aa).f1) (((Zb ab aa).f1).length:Int) ae ah ai aj ab=some r)∧Za (kq≤k1)∧Za (w'.heap[af]? =some (.cells #[.int .i64 ah,.int .i64 ai,.int .i64 aj,(.slice (some av) ab.length au)] 24 (0,0)))∧Za (w'.heap[ak]? =some (.cells #[.int .i64 ((Zb ab aa).f0),(.slice cg ((Zb ab aa).f1).length ch)] 41 (0,0)))∧Za (Below w.heap.size w w'))
   case atStart=>exact⟨(true),(0),(by first|rfl|(simp;done)|(simp [*];done)),(by first|rfl|(simp;done)|(simp [*];done)),H',⟨Nat.le_refl _⟩,⟨by (with_reducible repeat(first|refine Zn ?_ _|refine Zi ?_|refine Zm ?_ _));refine Zv ?_ ag.out _;(with_reducible repeat(first|refine Zn ?_ _|refine Zi ?_|refine Zm ?_ _));refine Zv ?_ ag.out _;(with_reducible repeat(first|apply zb3|apply zb2|apply zb1));exact ac.out⟩,⟨by (with_reducible repeat(first|refine Zn ?_ _|refine Zi ?_|refine Zm ?_ _));refine Zs1 (cs:=#[.int .i64 ((Zb ab aa).f0),.slice none 0 0]) ?_ 1 _ rfl;(with_reducible repeat(first|refine Zn ?_ _|refine Zi ?_|refine Zm ?_ _));refine Zs1 (cs:=#[.int .i64 0,.slice none 0 0]) ?_ 0 _ rfl;(with_reducible repeat(first|apply zb3|apply zb2|apply zb1));exact al.out⟩,⟨zH HB⟩⟩
   case round=>
    (clear H');(try clear c1);(try clear c2);(try clear p2);(try clear q2);(try clear gu);(try clear c4);(try clear dj);(try clear p6);(try clear dk);(try clear dl);(try clear dg);(try clear dv);(try clear dw);(try clear dh);(try clear di);(try clear gv);(try clear bd be bf bg bl bm bn bo cm cn cq cu cw cy bw bx bz ca bh bi bj bk bp bq br bs co cp da db dc dd cb cd ce cf);(try clear am);(try clear an);(try clear p2);(try clear ax);(try clear ay);(obtain⟨az,ae,rfl,rfl,HA,dp,ac,al,HB⟩:=hrel)
    cases gk with
    |zero=>exact absurd HA.out (by simp [Zk1.l1])
    |succ k2=>
     (have H:=HA.out);(clear HA);(simp only [Zk1.l1] at H)
     by_cases dt:ae < (((Zb ab aa).f1).length:Int)
     rotate_left
     ·rw [if_neg dt] at H
      (have dz:decide (ae < (((Zb ab aa).f1).length:Int))=false:=decide_eq_false dt);(clear dt)
      by_cases fe:az=true
      ·subst fe
       (have H1:(some true)=some r:=by rw [if_pos rfl] at H;exact H);(clear H);(have H:=H1);(clear H1);(obtain rfl:=Option.some.inj H)
       go_wp2
       go_ret
       exact⟨by first|rfl|(simp [Zl,Zk] <;> rfl)|(simp [*,Zl,Zk] <;> rfl),zH HB⟩
      (replace fe:=Bool.eq_false_iff.mpr fe);(subst fe);(have H1:(Zk1.l0 k2 a1 a2 a3 ab (ab.length:Int) (wrap64 (aa + 1)) ah ai aj ab)=some r:=by rw [if_neg (show ¬ (false=true) by decide)] at H;exact H);(clear H);(have H:=H1);(clear H1);(have H':=Za.mk H);(clear H)
      go_wp2
      go_roundg k2
      case measure=>have:=cj.out;have:=dp.out;omega
      case rel=>exact⟨(wrap64 (aa + 1)),(by first|rfl|(simp;done)|(simp [*];done)),H',⟨by have:=cj.out;have:=dp.out;omega⟩,⟨zK ac⟩,⟨zH HB⟩⟩
     (rw [if_pos dt] at H);(have dz:decide (ae < (((Zb ab aa).f1).length:Int))=true:=decide_eq_true dt);(clear dt)
     by_cases ff:0≤ae
     rotate_left
     ·rw [if_neg ff] at H
      exact absurd H (by simp)
     (rw [if_pos ff] at H);(have fy:decide (0≤ae)=true:=decide_eq_true ff);(clear ff)
     by_cases fg:ae < (((Zb ab aa).f1).length:Int)
     rotate_left
     ·rw [if_neg fg] at H
      exact absurd H (by simp)
     (rw [if_pos fg] at H);(have fz:decide (ae < (((Zb ab aa).f1).length:Int))=true:=decide_eq_true fg);(clear fg)
     by_cases fh:az=true
     rotate_left
     ·replace fh:=Bool.eq_false_iff.mpr fh
      (subst fh);(have H1:(Zk1.l1 k2 a1 a2 a3 false ab (ab.length:Int) aa ((Zb ab aa).f1) (((Zb ab aa).f1).length:Int) (wrap64 (ae + 1)) ah ai aj ab)=some r:=by rw [if_neg (show ¬ (false=true) by decide)] at H;exact H);(clear H);(have H:=H1);(clear H1);(have H':=Za.mk H);(clear H);(have bb:0≤(ae:Int):=zD);(have bc:ae < (((Zb ab aa).f1).length:Int):=zD);(obtain⟨ea,dq,ar⟩:=Kd.at_int aw.out ae bb bc);(cases dq);(replace ar:=zX HB ar);(replace bb:=eq_true bb);(replace bc:=eq_true bc)
      go_wp2
      go_roundg k2
      case measure=>have:=cj.out;have:=dp.out;omega
      case rel=>exact⟨(false),(wrap64 (ae + 1)),(by first|rfl|(simp;done)|(simp [*];done)),(by first|rfl|(simp;done)|(simp [*];done)),H',⟨by have:=cj.out;have:=dp.out;omega⟩,⟨zK ac⟩,⟨zK al⟩,⟨zH HB⟩⟩
     (subst fh);(have H1:((Zk1.f k2 ah ai aj ab (rd ((Zb ab aa).f1) ae) (wrap64 (a2 - 1)) a3).bind fun ci=>(Zk1.l1 k2 a1 a2 a3 ci ab (ab.length:Int) aa ((Zb ab aa).f1) (((Zb ab aa).f1).length:Int) (wrap64 (ae + 1)) ah ai aj ab))=some r:=by rw [if_pos rfl] at H;exact H);(clear H);(have H:=H1);(clear H1);(replace H:=Option.bind_eq_some_iff.mp H);(obtain⟨ci,ec,H⟩:=H);(replace H:(Zk1.l1 k2 a1 a2 a3 ci ab (ab.length:Int) aa ((Zb ab aa).f1) (((Zb ab aa).f1).length:Int) (wrap64 (ae + 1)) ah ai aj ab)=some r:=H);(have gl:=Za.mk ec);(clear ec);(have H':=Za.mk H);(clear H);(have bb:0≤(ae:Int):=zD);(have bc:ae < (((Zb ab aa).f1).length:Int):=zD);(obtain⟨ea,dq,ar⟩:=Kd.at_int aw.out ae bb bc);(cases dq);(replace ar:=zX HB ar);(replace bb:=eq_true bb);(replace bc:=eq_true bc);(have ga:=ag.out);(have gc:=ao.out);(obtain⟨fi,fj,fk,fm⟩:=zq4 ac.out)
     (obtain⟨fo,fp,fq,ft⟩:=zf4 ac.out)
     go_wp2_with (first|(go_at_call 44;(with_reducible refine(ih k2 (by have:=cj.out;have:=dp.out;omega) ah ai aj _ _ ab (rd ((Zb ab aa).f1) ae) (wrap64 (a2 - 1)) a3 ci _ ?side1 ?side2 gl.out).mono ?_);(case side1=>exact zC bv HB);(case side2=>exact du.out);rintro e gw ⟨rfl,hb⟩;replace ac:=Za.mk (Zj (g:=af) (zK ac) hb);replace al:=Za.mk (Zj (g:=ak) (zK al) hb);replace HB:=Za.mk (Zh (zH HB) hb);(try clear hb);(try clear hb2);(try clear hk);(try clear hi)))
     go_roundg k2
     case measure=>have:=cj.out;have:=dp.out;omega
     case rel=>exact⟨(ci),(wrap64 (ae + 1)),(by first|rfl|(simp;done)|(simp [*];done)),(by first|rfl|(simp;done)|(simp [*];done)),H',⟨by have:=cj.out;have:=dp.out;omega⟩,⟨zK ac⟩,⟨zK al⟩,⟨zH HB⟩⟩
def Zw1.l0:Nat→Bool→Int→Int→Int→Int→Int→List (S41)→Option (Int)
  |0,_,_,_,_,_,_,_=>none
  |k + 1,x1,x5,x6,x277000,x277001,x277002,x277003=>if x6 < x277001 then((Zk1.f k x277000 x277001 x277002 x277003 (wrap64 (x277000 + x6)) x277001 x1).bind fun t277=>(if t277=true then(if 0≤(IntKind.u64.wrap (x6)) then(Zw1.l0 k x1 ((x5 + (shl .u32 1 (IntKind.u64.wrap (x6)))) % 4294967296) (wrap64 (x6 + 1)) x277000 x277001 x277002 x277003) else(none)) else(Zw1.l0 k x1 x5 (wrap64 (x6 + 1)) x277000 x277001 x277002 x277003))) else(some x5)
def Zw1.f (k:Nat) (a0_0:Int) (a0_1:Int) (a0_2:Int) (l0_3:List (S41)) (a1:Bool):Option (Int):=Zw1.l0 k a1 0 0 a0_0 a0_1 a0_2 l0_3
theorem Zw1.mono_l: ∀k,(∀y0 y1 y2 y3 y4 y5 y6,LeO (Zw1.l0 k y0 y1 y2 y3 y4 y5 y6) (Zw1.l0 (k + 1) y0 y1 y2 y3 y4 y5 y6))
  |0=>fun _ _ _ _ _ _ _ r h=>by simp [Zw1.l0] at h
  |k + 1=>by
    have ih0:=Zw1.mono_l k
    · intro y0 y1 y2 y3 y4 y5 y6
      unfold Zw1.l0
      repeat' (with_reducible first|apply ih0|apply Zk1.mono|exact LeO.refl _|exact LeO.none _|refine LeO.ite ?_ ?_|refine LeO.bind ?_ (fun _=>?_))
theorem Zw1.mono: ∀a0 a1 a2 a3 a4 k,LeO (Zw1.f k a0 a1 a2 a3 a4) (Zw1.f (k + 1) a0 a1 a2 a3 a4):=by
  intro a0 a1 a2 a3 a4 k
  have ih0:=Zw1.mono_l k
  unfold Zw1.f
  repeat' (with_reducible first|apply ih0|apply Zk1.mono|exact LeO.refl _|exact LeO.none _|refine LeO.ite ?_ ?_|refine LeO.bind ?_ (fun _=>?_))
theorem Zw1.calls (k : Nat) (ae : Int) (ab : Int) (ag : Int) (ak : Option Addr) (al : Nat) (af : List (S41)) (a1 : Bool) (r : Int) (w : World) (ao : Kd.C k41 w ak af.length af) (ap : af.length ≤ al) (h : Zw1.f k ae ab ag af a1 = some r) :
    Calls Try.prog 37 #[.agg #[.int .i64 ae,.int .i64 ab,.int .i64 ag,.slice ak af.length al],.bool a1] w fun e w'=>e= .returned (.int .u32 r)∧Below w.heap.size w w':=by
 (have cf:=Try.underlying24);(have ci:=Try.underlying3);(have aq:=Za.mk ao);(have ar:=Za.mk ap);(clear ao ap);(have HB:=Za.mk (Below.refl w.heap.size w));(have H:(Zw1.l0 k a1 0 0 ae ab ag af)=some r:=h);(clear h);(have H':=Za.mk H);(clear H)
 go_enter Try.func37,Try.ntmps37
 go_wp2_with (first|((with_reducible refine Zs (N:=2) rfl ?_);refine Zx ?hg (N:=2) ?hd (cs:=#[.int .i64 ae,.int .i64 ab,.int .i64 ag,.slice ak af.length al]) (t:=24) ?hr ?_;(case hd=>rfl);(case hg=>rfl);(case hr=>first|(go_simp;done)|(go_simp;rfl));intro aj hg w3 hbox hb;have ac:=Za.mk (hbox);have bz:=Za.mk ((by rw [hg];exact(Zg (zH HB)):w.heap.size≤aj));have ca:=Za.mk ((by rw [hg];exact(Zg (zH HB)):w.heap.size≤aj));replace HB:=Za.mk (Zh (zH HB) hb);clear hb hbox hg))
 go_loopg [5,6] k (fun kq v5 v6 w'=>∃(ah:Int) (aa:Int),v5= .int .u32 ah∧v6= .int .i64 aa∧Za (Zw1.l0 kq a1 ah aa ae ab ag af=some r)∧Za (kq≤k)∧Za (w'.heap[aj]? =some (.cells #[.int .i64 ae,.int .i64 ab,.int .i64 ag,(.slice ak af.length al)] 24 (0,0)))∧Za (Below w.heap.size w w'))
 case atStart=>exact⟨(0),(0),(by first|rfl|(simp;done)|(simp [*];done)),(by first|rfl|(simp;done)|(simp [*];done)),H',⟨Nat.le_refl _⟩,⟨zK ac⟩,⟨zH HB⟩⟩
 case round=>
  (clear H');(try clear p2);(try clear c3);(obtain⟨ah,aa,rfl,rfl,HA,av,ac,HB⟩:=hrel)
  cases gk with
  |zero=>exact absurd HA.out (by simp [Zw1.l0])
  |succ k1=>
   (have H:=HA.out);(clear HA);(simp only [Zw1.l0] at H)
   by_cases c4:aa < ab
   rotate_left
   ·rw [if_neg c4] at H
    (have bx:decide (aa < ab)=false:=decide_eq_false c4);(clear c4);(obtain rfl:=Option.some.inj H);(obtain⟨az,ba,bb,bc⟩:=zq4 ac.out);(obtain⟨bd,be,bf,bg⟩:=zf4 ac.out)
    go_wp2
    go_ret
    exact⟨by first|rfl|(simp [Zl,Zk] <;> rfl)|(simp [*,Zl,Zk] <;> rfl),zH HB⟩
   (rw [if_pos c4] at H);(have bx:decide (aa < ab)=true:=decide_eq_true c4);(clear c4);(replace H:=Option.bind_eq_some_iff.mp H);(obtain⟨aw,cb,H⟩:=H);(replace H:(if aw=true then(if 0≤(IntKind.u64.wrap (aa)) then(Zw1.l0 k1 a1 ((ah + (shl .u32 1 (IntKind.u64.wrap (aa)))) % 4294967296) (wrap64 (aa + 1)) ae ab ag af) else(none)) else(Zw1.l0 k1 a1 ah (wrap64 (aa + 1)) ae ab ag af))=some r:=H);(have A5:=Za.mk cb);(clear cb)
   by_cases c6:aw=true
   rotate_left
   ·replace c6:=Bool.eq_false_iff.mpr c6
    (subst c6);(have H1:(Zw1.l0 k1 a1 ah (wrap64 (aa + 1)) ae ab ag af)=some r:=by rw [if_neg (show ¬ (false=true) by decide)] at H;exact H);(clear H);(have H:=H1);(clear H1);(have H':=Za.mk H);(clear H);(obtain⟨bh,bi,bj,bk⟩:=zq4 ac.out);(obtain⟨bl,bm,bn,bo⟩:=zf4 ac.out)
    go_wp2_with (first|((with_reducible refine Zl1 (f:=44) rfl ?_);refine goesL_ (some 21) rfl rfl Try.func44 (by kernel_rfl) rfl #[.agg #[.int .i64 ae,.int .i64 ab,.int .i64 ag,.slice ak af.length al],.int .i64 (wrap64 (ae + aa)),.int .i64 ab,.bool a1] rfl (by (try simp only [List.map_toArray,List.map_cons,List.map_nil]);first|done|rfl|(simp only [List.length_drop,List.length_take];rfl)) ?_;(with_reducible refine(Zk1.calls k1 ae ab ag _ _ af (wrap64 (ae + aa)) ab a1 false _ ?side1 ?side2 A5.out).mono ?_);(case side1=>exact zC aq HB);(case side2=>exact ar.out);rintro e cj ⟨rfl,hb⟩;refine⟨_,rfl,?_⟩;replace ac:=Za.mk (Zj (g:=aj) (zK ac) hb);replace HB:=Za.mk (Zh (zH HB) hb);(try clear hb);(try clear hb2);(try clear hk);(try clear hi)))
    go_roundg k1
    case measure=>have:=av.out;omega
    case rel=>exact⟨(ah),(wrap64 (aa + 1)),(by first|rfl|(simp;done)|(simp [*];done)),(by first|rfl|(simp;done)|(simp [*];done)),H',⟨by have:=av.out;omega⟩,⟨zK ac⟩,⟨zH HB⟩⟩
   (subst c6);(have H1:(if 0≤(IntKind.u64.wrap (aa)) then(Zw1.l0 k1 a1 ((ah + (shl .u32 1 (IntKind.u64.wrap (aa)))) % 4294967296) (wrap64 (aa + 1)) ae ab ag af) else(none))=some r:=by rw [if_pos rfl] at H;exact H);(clear H);(have H:=H1);(clear H1);(obtain⟨am,an⟩ : ∃j_:Int,(IntKind.u64.wrap (aa))=j_:=⟨_,rfl⟩);(replace H:(if 0≤(am) then(Zw1.l0 k1 a1 ((ah + (shl .u32 1 (am))) % 4294967296) (wrap64 (aa + 1)) ae ab ag af) else(none))=some r:=by first|(rw [an] at H;exact H)|(simp only [an] at H ⊢;exact H));((try rw [an] at A5))
   by_cases c8:0≤(am)
   rotate_left
   ·rw [if_neg c8] at H
    exact absurd H (by simp)
   (rw [if_pos c8] at H);(have cg:=eq_true c8);(have ch:decide (0≤(am))=true:=decide_eq_true c8);(clear c8);(obtain⟨au,ai⟩ : ∃j_:Int,(shl .u32 1 (am))=j_:=⟨_,rfl⟩);(replace H:(Zw1.l0 k1 a1 ((ah + (au)) % 4294967296) (wrap64 (aa + 1)) ae ab ag af)=some r:=by first|(rw [ai] at H;exact H)|(simp only [ai] at H ⊢;exact H));((try rw [ai] at A5));(have ax:(IntKind.u32.wrap (1 * 2 ^ min (am).toNat 32))=au:=ai);(have ay:(am)≤32→(IntKind.u32.wrap (1 * 2 ^ (am).toNat))=au:=shl_small ai);(have cd:(IntKind.u32.wrap (2 ^ min (am).toNat 32))=au:=by have h_:=ax;rw [Int.one_mul] at h_;exact h_);(have ce:(am)≤32→(IntKind.u32.wrap (2 ^ (am).toNat))=au:=fun hle_=>by have h_:=ay hle_;rw [Int.one_mul] at h_;exact h_);(have H':=Za.mk H);(clear H);(obtain⟨bp,bq,br,bs⟩:=zq4 ac.out);(obtain⟨bt,bu,bv,bw⟩:=zf4 ac.out)
   go_wp2_with (first|((with_reducible refine Zl1 (f:=44) rfl ?_);refine goesL_ (some 21) rfl rfl Try.func44 (by kernel_rfl) rfl #[.agg #[.int .i64 ae,.int .i64 ab,.int .i64 ag,.slice ak af.length al],.int .i64 (wrap64 (ae + aa)),.int .i64 ab,.bool a1] rfl (by (try simp only [List.map_toArray,List.map_cons,List.map_nil]);first|done|rfl|(simp only [List.length_drop,List.length_take];rfl)) ?_;(with_reducible refine(Zk1.calls k1 ae ab ag _ _ af (wrap64 (ae + aa)) ab a1 true _ ?side1 ?side2 A5.out).mono ?_);(case side1=>exact zC aq HB);(case side2=>exact ar.out);rintro e ck ⟨rfl,hb⟩;refine⟨_,rfl,?_⟩;replace ac:=Za.mk (Zj (g:=aj) (zK ac) hb);replace HB:=Za.mk (Zh (zH HB) hb);(try clear hb);(try clear hb2);(try clear hk);(try clear hi)))
   (first|go_roundg k1|(simp only [← ai];go_roundg k1)|(simp only [← an,← ai];go_roundg k1))
   case measure=>have:=av.out;omega
   case rel=>first|exact⟨((ah + (au)) % 4294967296),(wrap64 (aa + 1)),(by first|rfl|(simp;done)|(simp only [← ai] <;> (first|rfl|simp))|(simp [*];done)),(by first|rfl|(simp;done)|(simp [*];done)),H',⟨by have:=av.out;omega⟩,⟨zK ac⟩,⟨zH HB⟩⟩|(subst ai;subst an;exact⟨((ah + (shl .u32 1 (IntKind.u64.wrap (aa)))) % 4294967296),(wrap64 (aa + 1)),(by first|rfl|(simp;done)|(simp only [← ai] <;> (first|rfl|simp))|(simp [*];done)),(by first|rfl|(simp;done)|(simp [*];done)),H',⟨by have:=av.out;omega⟩,⟨zK ac⟩,⟨zH HB⟩⟩)
end Go.Proofs.Ytbifocddbgleeaa.PAheadParses
