-- By a program.
import Derived.Test.YtbifocddbgleeaaQPAheadParsesx0
import Derived.Test.YtbifocddbgleeaaQPAheadParsesx10
import Derived.Test.YtbifocddbgleeaaQPAheadParsesx13
import Derived.Test.YtbifocddbgleeaaQPAheadParsesx19
import Derived.Test.YtbifocddbgleeaaQPAheadParsesx21
import Derived.Test.YtbifocddbgleeaaQPAheadParsesx22
namespace Go.Proofs.Ytbifocddbgleeaa.PAheadParses
set_option maxHeartbeats 8000000
set_option maxRecDepth 100000
open Go.RowKit Go.Proofs.YtbifocddbgleeaaW.PrintWords Go.Proofs.YtbifocddbgleeaaW.PrintLast Go.Proofs.YtbifocddbgleeaaW.PrintMore
attribute [local go_sem] max2_int min2_int max_two min_two max_three min_three max_four min_four
set_option linter.unusedVariables false
set_option linter.unusedSimpArgs false
def Zx1.l0:Nat→List Int→List Int→Int→Option (Bool)
  |0,_,_,_=>none
  |k + 1,x0,x1,x5=>if x5 < (x0.length:Int) then(if 0≤x5 then(if x5 < (x1.length:Int) then(if(rd x0 x5)=(rd x1 x5) then(Zx1.l0 k x0 x1 (wrap64 (x5 + 1))) else(some false)) else(none)) else(none)) else(some true)
def Zx1.f (k:Nat) (l0:List Int) (l1:List Int):Option (Bool):=if(l0.length:Int)=(l1.length:Int) then(Zx1.l0 k l0 l1 0) else(some false)
theorem Zx1.mono_l: ∀k,(∀y0 y1 y2,LeO (Zx1.l0 k y0 y1 y2) (Zx1.l0 (k + 1) y0 y1 y2))
  |0=>fun _ _ _ r h=>by simp [Zx1.l0] at h
  |k + 1=>by
    have ih0:=Zx1.mono_l k
    · intro y0 y1 y2
      unfold Zx1.l0
      repeat' (with_reducible first|apply ih0|exact LeO.refl _|exact LeO.none _|refine LeO.ite ?_ ?_|refine LeO.bind ?_ (fun _=>?_))
theorem Zx1.mono: ∀a0 a1 k,LeO (Zx1.f k a0 a1) (Zx1.f (k + 1) a0 a1):=by
  intro a0 a1 k
  have ih0:=Zx1.mono_l k
  unfold Zx1.f
  repeat' (with_reducible first|apply ih0|exact LeO.refl _|exact LeO.none _|refine LeO.ite ?_ ?_|refine LeO.bind ?_ (fun _=>?_))
theorem Zx1.calls (k : Nat) (A0 : Option Addr) (c0 : Nat) (l0 : List Int) (A1 : Option Addr) (c1 : Nat) (l1 : List Int) (r : Bool) (w : World) (au : Kd.C (Kd.int .i64) w A0 l0.length l0) (av : l0.length ≤ c0) (aw : Kd.C (Kd.int .i64) w A1 l1.length l1) (ax : l1.length ≤ c1) (h : Zx1.f k l0 l1 = some r) :
    Calls Try.prog 9 #[.slice A0 l0.length c0,.slice A1 l1.length c1] w fun e w'=>e= .returned (.bool r)∧Zf1 w w':=by
 (have bd:=Try.underlying3);(have ay:=Za.mk au);(have be:=Za.mk av);(clear au av);(have az:=Za.mk aw);(have bf:=Za.mk ax);(clear aw ax);(have H:(if(l0.length:Int)=(l1.length:Int) then(Zx1.l0 k l0 l1 0) else(some false))=some r:=h);(clear h)
 by_cases c3:(l0.length:Int)=(l1.length:Int)
 rotate_left
 ·rw [if_neg c3] at H
  (have ak:((l0.length:Int) == (l1.length:Int))=false:=beq_eq_false_iff_ne.mpr c3);(have al:((l0.length:Int) != (l1.length:Int))=true:=bne_iff_ne.mpr c3);(have am:(l0.length == l1.length)=false:=by first|simpa using c3|(simp at c3 ⊢;omega));(obtain rfl:=Option.some.inj H)
  go_enter Try.func9,Try.ntmps9
  go_wp2
  repeat(go_quiet (fail);try go_wp2)
  go_ret
  exact⟨by first|rfl|(simp;done)|(simp [*];done),by repeat(first|exact Zf1.refl _|apply Zf1.step)⟩
 (rw [if_pos c3] at H);(have ak:((l0.length:Int) == (l1.length:Int))=true:=beq_iff_eq.mpr c3);(have al:((l0.length:Int) != (l1.length:Int))=false:=bne_eq_false_iff_eq.mpr c3);(have am:(l0.length == l1.length)=true:=by first|simpa using c3|(simp at c3 ⊢;omega));(clear c3);(have H':=Za.mk H);(clear H)
 go_enter Try.func9,Try.ntmps9
 go_wp2
 repeat(go_quiet (fail);try go_wp2)
 go_loopg [5] k (fun kq v5 w'=>∃(aa:Int),v5= .int .i64 aa∧Za (Zx1.l0 kq l0 l1 aa=some r)∧Za (kq≤k)∧Zf1 w w')
 case atStart=>exact⟨(0),(by first|rfl|(simp;done)|(simp [*];done)),H',⟨Nat.le_refl _⟩,by repeat(first|exact Zf1.refl _|apply Zf1.step)⟩
 case round=>
  (clear H');(try clear c1);(try clear p2);(try clear ak);(try clear al);(try clear am);(obtain⟨aa,rfl,HA,ba,⟨m1,rfl⟩⟩:=hrel)
  cases gk with
  |zero=>exact absurd HA.out (by simp [Zx1.l0])
  |succ k1=>
   (have H:=HA.out);(clear HA);(simp only [Zx1.l0] at H)
   by_cases c4:aa < (l0.length:Int)
   rotate_left
   ·rw [if_neg c4] at H
    (have ap:decide (aa < (l0.length:Int))=false:=decide_eq_false c4);(clear c4);(obtain rfl:=Option.some.inj H)
    go_wp2
    repeat(go_quiet (fail);try go_wp2)
    go_ret
    exact⟨by first|rfl|(simp;done)|(simp [*];done),by repeat(first|exact Zf1.refl _|apply Zf1.step)⟩
   (rw [if_pos c4] at H);(have ap:decide (aa < (l0.length:Int))=true:=decide_eq_true c4);(clear c4)
   by_cases c5:0≤aa
   rotate_left
   ·rw [if_neg c5] at H
    exact absurd H (by simp)
   (rw [if_pos c5] at H);(have bb:decide (0≤aa)=true:=decide_eq_true c5);(clear c5)
   by_cases c6:aa < (l1.length:Int)
   rotate_left
   ·rw [if_neg c6] at H
    exact absurd H (by simp)
   (rw [if_pos c6] at H);(have bc:decide (aa < (l1.length:Int))=true:=decide_eq_true c6);(clear c6)
   by_cases c7:(rd l0 aa)=(rd l1 aa)
   rotate_left
   ·rw [if_neg c7] at H
    (have aq:((rd l0 aa) == (rd l1 aa))=false:=beq_eq_false_iff_ne.mpr c7);(have ar:((rd l0 aa) != (rd l1 aa))=true:=bne_iff_ne.mpr c7);(obtain rfl:=Option.some.inj H);(have ab:0≤(aa:Int):=zD);(have ac:aa < (l0.length:Int):=zD);(obtain⟨an,ai,ag⟩:=Kd.at_int ay.out aa ab ac);(cases ai);(replace ab:=eq_true ab);(replace ac:=eq_true ac);(have ae:0≤(aa:Int):=zD);(have af:aa < (l1.length:Int):=zD);(obtain⟨ao,aj,ah⟩:=Kd.at_int az.out aa ae af);(cases aj);(replace ae:=eq_true ae);(replace af:=eq_true af)
    go_wp2
    repeat(go_quiet (fail);try go_wp2)
    go_ret
    exact⟨by first|rfl|(simp;done)|(simp [*];done),by repeat(first|exact Zf1.refl _|apply Zf1.step)⟩
   (rw [if_pos c7] at H);(have aq:((rd l0 aa) == (rd l1 aa))=true:=beq_iff_eq.mpr c7);(have ar:((rd l0 aa) != (rd l1 aa))=false:=bne_eq_false_iff_eq.mpr c7);(clear c7);(have H':=Za.mk H);(clear H);(have ab:0≤(aa:Int):=zD);(have ac:aa < (l0.length:Int):=zD);(obtain⟨an,ai,ag⟩:=Kd.at_int ay.out aa ab ac);(cases ai);(replace ab:=eq_true ab);(replace ac:=eq_true ac);(have ae:0≤(aa:Int):=zD);(have af:aa < (l1.length:Int):=zD);(obtain⟨ao,aj,ah⟩:=Kd.at_int az.out aa ae af);(cases aj);(replace ae:=eq_true ae);(replace af:=eq_true af)
   go_wp2
   repeat(go_quiet (fail);try go_wp2)
   go_roundg k1
   case measure=>have:=ba.out;omega
   case rel=>exact⟨(wrap64 (aa + 1)),(by first|rfl|(simp;done)|(simp [*];done)),H',⟨by have:=ba.out;omega⟩,by repeat(first|exact Zf1.refl _|apply Zf1.step)⟩
mutual
def Zd1.j0:Nat→List Int→List Int→Int→Int→Bool→Int→Int→Int→List (S41)→Option (Bool)
  |0,_,_,_,_,_,_,_,_,_=>none
  |k + 1,x1,x5,x6,x7,x25,x412000,x412001,x412002,x412003=>if x25=true then(Zd1.j1 k x1 x5 x6 3 x412000 x412001 x412002 x412003) else(Zd1.j1 k x1 x5 x6 x7 x412000 x412001 x412002 x412003)
def Zd1.j1:Nat→List Int→List Int→Int→Int→Int→Int→Int→List (S41)→Option (Bool)
  |0,_,_,_,_,_,_,_,_=>none
  |k + 1,x1,x5,x6,x7,x412000,x412001,x412002,x412003=>if x7=0 then((Zh2.f k x412000 x412001 x412002 x412003 x1).bind fun t418=>(Zd1.j2 k x1 x5 x6 x7 (!t418) x412000 x412001 x412002 x412003)) else(Zd1.j2 k x1 x5 x6 x7 false x412000 x412001 x412002 x412003)
def Zd1.j2:Nat→List Int→List Int→Int→Int→Bool→Int→Int→Int→List (S41)→Option (Bool)
  |0,_,_,_,_,_,_,_,_,_=>none
  |k + 1,x1,x5,x6,x7,x33,x412000,x412001,x412002,x412003=>if x33=true then(Zd1.j3 k x1 x5 x6 5 x412000 x412001 x412002 x412003) else(Zd1.j3 k x1 x5 x6 x7 x412000 x412001 x412002 x412003)
def Zd1.j3:Nat→List Int→List Int→Int→Int→Int→Int→Int→List (S41)→Option (Bool)
  |0,_,_,_,_,_,_,_,_=>none
  |k + 1,x1,x5,x6,x7,x412000,x412001,x412002,x412003=>if x7=0 then((Zr1.f k x412000 x412001 x412002 x412003 x5).bind fun bt419=>(if x6=0 then(if bt419.2=true then((Zx1.f k bt419.1 x1).bind fun t423=>(some t423)) else(some false)) else(some false))) else(if x6=x7 then(some ((x5.length:Int) == 0)) else(some false))
end
def Zd1.f (k:Nat) (a0_0:Int) (a0_1:Int) (a0_2:Int) (l0_3:List (S41)) (l1:List Int):Option (Bool):=(Ze1.f k a0_0 a0_1 a0_2 l0_3 l1).bind fun bt412=>((Zg2.f k a0_0 a0_1 a0_2 l0_3 l1).bind fun t416=>(if t416=0 then((Zg1.f k a0_0 a0_1 a0_2 l0_3).bind fun t417=>(Zd1.j0 k l1 bt412.1 bt412.2 t416 (!t417) a0_0 a0_1 a0_2 l0_3)) else(Zd1.j0 k l1 bt412.1 bt412.2 t416 false a0_0 a0_1 a0_2 l0_3)))
theorem Zd1.mono_l: ∀k,(∀y0 y1 y2 y3 y4 y5 y6 y7 y8,LeO (Zd1.j0 k y0 y1 y2 y3 y4 y5 y6 y7 y8) (Zd1.j0 (k + 1) y0 y1 y2 y3 y4 y5 y6 y7 y8))∧(∀y0 y1 y2 y3 y4 y5 y6 y7,LeO (Zd1.j1 k y0 y1 y2 y3 y4 y5 y6 y7) (Zd1.j1 (k + 1) y0 y1 y2 y3 y4 y5 y6 y7))∧(∀y0 y1 y2 y3 y4 y5 y6 y7 y8,LeO (Zd1.j2 k y0 y1 y2 y3 y4 y5 y6 y7 y8) (Zd1.j2 (k + 1) y0 y1 y2 y3 y4 y5 y6 y7 y8))∧(∀y0 y1 y2 y3 y4 y5 y6 y7,LeO (Zd1.j3 k y0 y1 y2 y3 y4 y5 y6 y7) (Zd1.j3 (k + 1) y0 y1 y2 y3 y4 y5 y6 y7))
  |0=>⟨fun _ _ _ _ _ _ _ _ _ r h=>by simp [Zd1.j0] at h,fun _ _ _ _ _ _ _ _ r h=>by simp [Zd1.j1] at h,fun _ _ _ _ _ _ _ _ _ r h=>by simp [Zd1.j2] at h,fun _ _ _ _ _ _ _ _ r h=>by simp [Zd1.j3] at h⟩
  |k + 1=>by
    obtain⟨ih0,ih1,ih2,ih3⟩:=Zd1.mono_l k
    refine⟨?_,?_,?_,?_⟩
    · intro y0 y1 y2 y3 y4 y5 y6 y7 y8
      unfold Zd1.j0
      repeat' (with_reducible first|apply ih0|apply ih1|apply ih2|apply ih3|apply Ze1.mono|apply Zg2.mono|apply Zg1.mono|apply Zr1.mono|apply Zx1.mono|apply Zh2.mono|exact LeO.refl _|exact LeO.none _|refine LeO.ite ?_ ?_|refine LeO.bind ?_ (fun _=>?_))
    · intro y0 y1 y2 y3 y4 y5 y6 y7
      unfold Zd1.j1
      repeat' (with_reducible first|apply ih0|apply ih1|apply ih2|apply ih3|apply Ze1.mono|apply Zg2.mono|apply Zg1.mono|apply Zr1.mono|apply Zx1.mono|apply Zh2.mono|exact LeO.refl _|exact LeO.none _|refine LeO.ite ?_ ?_|refine LeO.bind ?_ (fun _=>?_))
    · intro y0 y1 y2 y3 y4 y5 y6 y7 y8
      unfold Zd1.j2
      repeat' (with_reducible first|apply ih0|apply ih1|apply ih2|apply ih3|apply Ze1.mono|apply Zg2.mono|apply Zg1.mono|apply Zr1.mono|apply Zx1.mono|apply Zh2.mono|exact LeO.refl _|exact LeO.none _|refine LeO.ite ?_ ?_|refine LeO.bind ?_ (fun _=>?_))
    · intro y0 y1 y2 y3 y4 y5 y6 y7
      unfold Zd1.j3
      repeat' (with_reducible first|apply ih0|apply ih1|apply ih2|apply ih3|apply Ze1.mono|apply Zg2.mono|apply Zg1.mono|apply Zr1.mono|apply Zx1.mono|apply Zh2.mono|exact LeO.refl _|exact LeO.none _|refine LeO.ite ?_ ?_|refine LeO.bind ?_ (fun _=>?_))
theorem Zd1.mono: ∀a0 a1 a2 a3 a4 k,LeO (Zd1.f k a0 a1 a2 a3 a4) (Zd1.f (k + 1) a0 a1 a2 a3 a4):=by
  intro a0 a1 a2 a3 a4 k
  obtain⟨ih0,ih1,ih2,ih3⟩:=Zd1.mono_l k
  unfold Zd1.f
  repeat' (with_reducible first|apply ih0|apply ih1|apply ih2|apply ih3|apply Ze1.mono|apply Zg2.mono|apply Zg1.mono|apply Zr1.mono|apply Zx1.mono|apply Zh2.mono|exact LeO.refl _|exact LeO.none _|refine LeO.ite ?_ ?_|refine LeO.bind ?_ (fun _=>?_))
theorem Zd1.calls (k : Nat) (ac : Int) (ae : Int) (af : Int) (ao : Option Addr) (ap : Nat) (ab : List (S41)) (A1 : Option Addr) (c1 : Nat) (l1 : List Int) (r : Bool) (w : World) (cq : Kd.C k41 w ao ab.length ab) (cu : ab.length ≤ ap) (gn : Kd.C (Kd.int .i64) w A1 l1.length l1) (gp : l1.length ≤ c1) (h : Zd1.f k ac ae af ab l1 = some r) :
    Calls Try.prog 3 #[.agg #[.int .i64 ac,.int .i64 ae,.int .i64 af,.slice ao ab.length ap],.slice A1 l1.length c1] w fun e w'=>e= .returned (.bool r)∧Below w.heap.size w w':=by
 (have gx:=Try.underlying24);(have ba:=Za.mk cq);(have bb:=Za.mk cu);(clear cq cu);(have ea:=Za.mk gn);(have ec:=Za.mk gp);(clear gn gp);(have HB:=Za.mk (Below.refl w.heap.size w));(have H:((Ze1.f k ac ae af ab l1).bind fun bz=>((Zg2.f k ac ae af ab l1).bind fun aj=>(if aj=0 then((Zg1.f k ac ae af ab).bind fun be=>(Zd1.j0 k l1 bz.1 bz.2 aj (!be) ac ae af ab)) else(Zd1.j0 k l1 bz.1 bz.2 aj false ac ae af ab))))=some r:=h);(clear h);(replace H:=Option.bind_eq_some_iff.mp H);(obtain⟨⟨ai,ah⟩,gq,H⟩:=H);(replace H:((Zg2.f k ac ae af ab l1).bind fun aj=>(if aj=0 then((Zg1.f k ac ae af ab).bind fun be=>(Zd1.j0 k l1 ai ah aj (!be) ac ae af ab)) else(Zd1.j0 k l1 ai ah aj false ac ae af ab)))=some r:=H);(have A3:=Za.mk gq);(clear gq);(replace H:=Option.bind_eq_some_iff.mp H);(obtain⟨aj,gu,H⟩:=H);(replace H:(if aj=0 then((Zg1.f k ac ae af ab).bind fun be=>(Zd1.j0 k l1 ai ah aj (!be) ac ae af ab)) else(Zd1.j0 k l1 ai ah aj false ac ae af ab))=some r:=H);(have A4:=Za.mk gu);(clear gu);(have ft:=Za.mk H);(clear H)
 go_enter Try.func3,Try.ntmps3
 go_upto_region 3 with (first|((with_reducible refine Zs (N:=2) rfl ?_);(try(refine gate_guard (by rfl) ?_;dsimp only));refine Zx ?hg (N:=2) ?hd (cs:=#[.int .i64 ac,.int .i64 ae,.int .i64 af,.slice ao ab.length ap]) (t:=24) ?hr ?_;(case hd=>rfl);(case hg=>rfl);(case hr=>first|(go_simp;done)|(go_simp;rfl));intro ak hg w6 hbox hb;have n0_:=Za.mk (Zh (zH HB) hb);have n1_:=Za.mk (hbox);have n2_:=Za.mk ((by rw [hg];exact(Zg (zH HB)):w.heap.size≤ak));have n3_:=Za.mk ((by rw [hg];exact(Zg (zH HB)):w.heap.size≤ak));clear HB;have HB:=n0_;have aa:=n1_;have gv:=n2_;have gw:=n3_;clear n0_ n1_ n2_ n3_;clear hb hbox hg;obtain⟨bf,bg,bh,bi⟩:=zq4 aa.out;obtain⟨bj,bk,bl,bm⟩:=zf4 aa.out)|((with_reducible refine Zl1 (f:=4) rfl ?_);refine goesL_ (some 13) rfl rfl Try.func4 (by kernel_rfl) rfl #[.agg #[.int .i64 ac,.int .i64 ae,.int .i64 af,.slice ao ab.length ap],.slice A1 l1.length c1] rfl (by (try simp only [List.map_toArray,List.map_cons,List.map_nil]);first|done|rfl|(simp only [List.length_drop,List.length_take];rfl)) ?_;(with_reducible refine(Ze1.calls k ac ae af _ _ ab _ _ l1 ai ah _ ?side1 ?side2 ?side3 ?side4 A3.out).mono ?_);(case side1=>exact zC ba HB);(case side2=>exact bb.out);(case side3=>exact zC ea HB);(case side4=>exact ec.out);rintro e w8 ⟨v413,rfl,ho0,hb⟩;refine⟨_,rfl,?_⟩;have n0_:=Za.mk (Kd.R_lower ho0 (Zg (zH HB)));have n1_:=Za.mk (Zj (g:=ak) (zK aa) hb);have n2_:=Za.mk (Zh (zH HB) hb);clear aa;clear HB;have bc:=n0_;have aa:=n1_;have HB:=n2_;clear n0_ n1_ n2_;(try clear hb);(try clear hb2);(try clear hk);(try clear hi);(try clear ho0);obtain⟨bn,bo,bp,bq⟩:=zq4 aa.out;obtain⟨br,bs,bt,bu⟩:=zf4 aa.out)|((with_reducible refine Zl1 (f:=5) rfl ?_);refine goesL_ (some 18) rfl rfl Try.func5 (by kernel_rfl) rfl #[.agg #[.int .i64 ac,.int .i64 ae,.int .i64 af,.slice ao ab.length ap],.slice A1 l1.length c1] rfl (by (try simp only [List.map_toArray,List.map_cons,List.map_nil]);first|done|rfl|(simp only [List.length_drop,List.length_take];rfl)) ?_;(with_reducible refine(Zg2.calls k ac ae af _ _ ab _ _ l1 aj _ ?side1 ?side2 ?side3 ?side4 A4.out).mono ?_);(case side1=>exact zC ba HB);(case side2=>exact bb.out);(case side3=>exact zC ea HB);(case side4=>exact ec.out);rintro e ik ⟨rfl,hb⟩;refine⟨_,rfl,?_⟩;have n0_:=Za.mk (Kd.R_below (zR bc) hb);have n1_:=Za.mk (Zj (g:=ak) (zK aa) hb);have n2_:=Za.mk (Zh (zH HB) hb);clear bc;clear aa;clear HB;have bc:=n0_;have aa:=n1_;have HB:=n2_;clear n0_ n1_ n2_;(try clear hb);(try clear hb2);(try clear hk);(try clear hi)))
 (try simp only [Act.put,zp1,zp2,zp3])
 go_cut [25] (fun v25 wc=>∃(kq:Nat) (ca:Bool),v25= .bool ca∧Za (Zd1.j0 kq l1 ai ah aj ca ac ae af ab=some r)∧Za (kq≤k)∧Za (Kd.R (Kd.int .i64) 3 wc w.heap.size (fun _=>True) v413 ai)∧Za (wc.heap[ak]? =some (.cells #[.int .i64 ac,.int .i64 ae,.int .i64 af,(.slice ao ab.length ap)] 24 (0,0)))∧Za (Below w.heap.size w wc))
 case first=>
  (have H:=ft.out);(clear ft)
  by_cases cw:aj=0
  rotate_left
  ·rw [if_neg cw] at H
   (have an:(aj == 0)=false:=beq_eq_false_iff_ne.mpr cw);(have bw:(aj != 0)=true:=bne_iff_ne.mpr cw)
   (first|rw [an]|(simp only [Zc,Zd];rw [an])|skip)
   (have H':=Za.mk H);(clear H)
   go_wp2
   go_meet
   case rel=>exact⟨_,(false),(by first|rfl|(simp;done)|(simp [*];done)),H',⟨by first|omega|exact Nat.le_refl _⟩,⟨zR bc⟩,⟨zK aa⟩,⟨zH HB⟩⟩
  (rw [if_pos cw] at H);(have an:(aj == 0)=true:=beq_iff_eq.mpr cw);(have bw:(aj != 0)=false:=bne_eq_false_iff_eq.mpr cw);(clear cw)
  (first|rw [an]|(simp only [Zc,Zd];rw [an])|skip)
  (replace H:=Option.bind_eq_some_iff.mp H);(obtain⟨be,dm,H⟩:=H);(replace H:(Zd1.j0 k l1 ai ah aj (!be) ac ae af ab)=some r:=H);(have gy:=Za.mk dm);(clear dm);(have H':=Za.mk H);(clear H);(obtain⟨aq,ar,au,av⟩:=zq4 aa.out);(obtain⟨aw,ax,ay,az⟩:=zf4 aa.out)
  go_wp2_with (first|(go_at_call 6;(with_reducible refine(Zg1.calls k ac ae af _ _ ab be _ ?side1 ?side2 gy.out).mono ?_);(case side1=>exact zC ba HB);(case side2=>exact bb.out);rintro e il ⟨rfl,hb⟩;replace bc:=Za.mk (Kd.R_below (zR bc) hb);replace aa:=Za.mk (Zj (g:=ak) (zK aa) hb);replace HB:=Za.mk (Zh (zH HB) hb);(try clear hb);(try clear hb2);(try clear hk);(try clear hi)))
  go_meet
  case rel=>exact⟨_,(!be),(by first|rfl|(simp;done)|(simp [*];done)),H',⟨by first|omega|exact Nat.le_refl _⟩,⟨zR bc⟩,⟨zK aa⟩,⟨zH HB⟩⟩
 case rest=>
  (clear ft);(try clear c1);(try clear p2);(try clear c3);(try clear c4);(try clear c5);(try clear an);(try clear bw);(try clear aq ar au av bf bg bh bi bn bo bp bq aw ax ay az bj bk bl bm br bs bt bu);(obtain⟨kq,ca,rfl,HA,dl,ag,aa,HB⟩:=hcut)
  cases kq with
  |zero=>exact absurd HA.out (by simp [Zd1.j0])
  |succ fu=>
   (have H:=HA.out);(clear HA);(simp only [Zd1.j0] at H);(have cy:=Za.mk H);(clear H)
   go_upto_if 25 with (fail)
   go_cut [7] (fun v7 wc=>∃(kq:Nat) (am:Int),v7= .int .i64 am∧Za (Zd1.j1 kq l1 ai ah am ac ae af ab=some r)∧Za (kq≤fu)∧Za (Kd.R (Kd.int .i64) 3 wc w.heap.size (fun _=>True) v413 ai)∧Za (wc.heap[ak]? =some (.cells #[.int .i64 ac,.int .i64 ae,.int .i64 af,(.slice ao ab.length ap)] 24 (0,0)))∧Za (Below w.heap.size w wc))
   case first=>
    (have H:=cy.out);(clear cy)
    by_cases da:ca=true
    ·subst da
     (have H1:(Zd1.j1 fu l1 ai ah 3 ac ae af ab)=some r:=by rw [if_pos rfl] at H;exact H);(clear H);(have H:=H1);(clear H1);(have H':=Za.mk H);(clear H)
     go_wp2
     go_meet
     case rel=>exact⟨_,(3),(by first|rfl|(simp;done)|(simp [*];done)),H',⟨by have:=dl.out;first|omega|exact Nat.le_refl _⟩,⟨zR ag⟩,⟨zK aa⟩,⟨zH HB⟩⟩
    (replace da:=Bool.eq_false_iff.mpr da);(subst da);(have H1:(Zd1.j1 fu l1 ai ah aj ac ae af ab)=some r:=by rw [if_neg (show ¬ (false=true) by decide)] at H;exact H);(clear H);(have H:=H1);(clear H1);(have H':=Za.mk H);(clear H)
    go_wp2
    go_meet
    case rel=>exact⟨_,(aj),(by first|rfl|(simp;done)|(simp [*];done)),H',⟨by have:=dl.out;first|omega|exact Nat.le_refl _⟩,⟨zR ag⟩,⟨zK aa⟩,⟨zH HB⟩⟩
   case rest=>
    (clear cy);(try clear c1);(try clear p2);(try clear c3);(try clear c4);(try clear c5);(try clear an);(try clear bw);(try clear da);(try clear aq ar au av bf bg bh bi bn bo bp bq aw ax ay az bj bk bl bm br bs bt bu);(try clear p2);(obtain⟨kq,am,rfl,HA,cp,ag,aa,HB⟩:=hcut)
    cases kq with
    |zero=>exact absurd HA.out (by simp [Zd1.j1])
    |succ db=>
     (have H:=HA.out);(clear HA);(simp only [Zd1.j1] at H);(have dc:=Za.mk H);(clear H)
     go_upto_region 5 with (fail)
     go_cut [33] (fun v33 wc=>∃(kq:Nat) (bv:Bool),v33= .bool bv∧Za (Zd1.j2 kq l1 ai ah am bv ac ae af ab=some r)∧Za (kq≤db)∧Za (Kd.R (Kd.int .i64) 3 wc w.heap.size (fun _=>True) v413 ai)∧Za (wc.heap[ak]? =some (.cells #[.int .i64 ac,.int .i64 ae,.int .i64 af,(.slice ao ab.length ap)] 24 (0,0)))∧Za (Below w.heap.size w wc))
     case first=>
      (have H:=dc.out);(clear dc)
      by_cases dd:am=0
      rotate_left
      ·rw [if_neg dd] at H
       (have bd:(am == 0)=false:=beq_eq_false_iff_ne.mpr dd);(have co:(am != 0)=true:=bne_iff_ne.mpr dd)
       (first|rw [bd]|(simp only [Zc,Zd];rw [bd])|skip)
       (have H':=Za.mk H);(clear H)
       go_wp2
       go_meet
       case rel=>exact⟨_,(false),(by first|rfl|(simp;done)|(simp [*];done)),H',⟨by have:=dl.out;have:=cp.out;first|omega|exact Nat.le_refl _⟩,⟨zR ag⟩,⟨zK aa⟩,⟨zH HB⟩⟩
      (rw [if_pos dd] at H);(have bd:(am == 0)=true:=beq_iff_eq.mpr dd);(have co:(am != 0)=false:=bne_eq_false_iff_eq.mpr dd);(clear dd)
      (first|rw [bd]|(simp only [Zc,Zd];rw [bd])|skip)
      (replace H:=Option.bind_eq_some_iff.mp H);(obtain⟨de,dn,H⟩:=H);(replace H:(Zd1.j2 db l1 ai ah am (!de) ac ae af ab)=some r:=H);(have gz:=Za.mk dn);(clear dn);(have H':=Za.mk H);(clear H);(obtain⟨cb,cd,ce,cf⟩:=zq4 aa.out);(obtain⟨cg,ch,ci,cj⟩:=zf4 aa.out)
      go_wp2_with (first|(go_at_call 7;(with_reducible refine(Zh2.calls db ac ae af _ _ ab _ _ l1 de _ ?side1 ?side2 ?side3 ?side4 gz.out).mono ?_);(case side1=>exact zC ba HB);(case side2=>exact bb.out);(case side3=>exact zC ea HB);(case side4=>exact ec.out);rintro e io ⟨rfl,hb⟩;replace ag:=Za.mk (Kd.R_below (zR ag) hb);replace aa:=Za.mk (Zj (g:=ak) (zK aa) hb);replace HB:=Za.mk (Zh (zH HB) hb);(try clear hb);(try clear hb2);(try clear hk);(try clear hi)))
      go_meet
      case rel=>exact⟨_,(!de),(by first|rfl|(simp;done)|(simp [*];done)),H',⟨by have:=dl.out;have:=cp.out;first|omega|exact Nat.le_refl _⟩,⟨zR ag⟩,⟨zK aa⟩,⟨zH HB⟩⟩
     case rest=>
      (clear dc);(try clear c1);(try clear p2);(try clear c3);(try clear c4);(try clear c5);(try clear an);(try clear bw);(try clear da);(try clear bd);(try clear co);(try clear aq ar au av cb cd ce cf bf bg bh bi bn bo bp bq aw ax ay az cg ch ci cj bj bk bl bm br bs bt bu);(try clear p2);(obtain⟨kq,bv,rfl,HA,dp,ag,aa,HB⟩:=hcut)
      cases kq with
      |zero=>exact absurd HA.out (by simp [Zd1.j2])
      |succ df=>
       (have H:=HA.out);(clear HA);(simp only [Zd1.j2] at H);(have dg:=Za.mk H);(clear H)
       go_upto_if 33 with (fail)
       go_cut [7] (fun v7 wc=>∃(kq:Nat) (al:Int),v7= .int .i64 al∧Za (Zd1.j3 kq l1 ai ah al ac ae af ab=some r)∧Za (kq≤df)∧Za (Kd.R (Kd.int .i64) 3 wc w.heap.size (fun _=>True) v413 ai)∧Za (wc.heap[ak]? =some (.cells #[.int .i64 ac,.int .i64 ae,.int .i64 af,(.slice ao ab.length ap)] 24 (0,0)))∧Za (Below w.heap.size w wc))
       case first=>
        (have H:=dg.out);(clear dg)
        by_cases dq:bv=true
        ·subst dq
         (have H1:(Zd1.j3 df l1 ai ah 5 ac ae af ab)=some r:=by rw [if_pos rfl] at H;exact H);(clear H);(have H:=H1);(clear H1);(have H':=Za.mk H);(clear H)
         go_wp2
         go_meet
         case rel=>exact⟨_,(5),(by first|rfl|(simp;done)|(simp [*];done)),H',⟨by have:=dl.out;have:=cp.out;have:=dp.out;first|omega|exact Nat.le_refl _⟩,⟨zR ag⟩,⟨zK aa⟩,⟨zH HB⟩⟩
        (replace dq:=Bool.eq_false_iff.mpr dq);(subst dq);(have H1:(Zd1.j3 df l1 ai ah am ac ae af ab)=some r:=by rw [if_neg (show ¬ (false=true) by decide)] at H;exact H);(clear H);(have H:=H1);(clear H1);(have H':=Za.mk H);(clear H)
        go_wp2
        go_meet
        case rel=>exact⟨_,(am),(by first|rfl|(simp;done)|(simp [*];done)),H',⟨by have:=dl.out;have:=cp.out;have:=dp.out;first|omega|exact Nat.le_refl _⟩,⟨zR ag⟩,⟨zK aa⟩,⟨zH HB⟩⟩
       case rest=>
        (clear dg);(try clear c1);(try clear c2);(try clear p2);(try clear c3);(try clear c4);(try clear c5);(try clear an);(try clear bw);(try clear da);(try clear bd);(try clear co);(try clear dq);(try clear aq ar au av cb cd ce cf bf bg bh bi bn bo bp bq aw ax ay az cg ch ci cj bj bk bl bm br bs bt bu);(try clear p2);(obtain⟨kq,al,rfl,HA,ia,ag,aa,HB⟩:=hcut)
        cases kq with
        |zero=>exact absurd HA.out (by simp [Zd1.j3])
        |succ ck=>
         (have H:=HA.out);(clear HA);(simp only [Zd1.j3] at H)
         by_cases dh:al=0
         rotate_left
         ·rw [if_neg dh] at H
          (have dr:(al == 0)=false:=beq_eq_false_iff_ne.mpr dh);(have dt:(al != 0)=true:=bne_iff_ne.mpr dh)
          by_cases di:ah=al
          rotate_left
          ·rw [if_neg di] at H
           (have du:(ah == al)=false:=beq_eq_false_iff_ne.mpr di);(have dv:(ah != al)=true:=bne_iff_ne.mpr di);(obtain rfl:=Option.some.inj H)
           go_wp2
           go_ret
           exact⟨by first|rfl|(simp [Zl,Zk] <;> rfl)|(simp [*,Zl,Zk] <;> rfl),zH HB⟩
          (rw [if_pos di] at H);(have du:(ah == al)=true:=beq_iff_eq.mpr di);(have dv:(ah != al)=false:=bne_eq_false_iff_eq.mpr di);(clear di);(obtain rfl:=Option.some.inj H);(obtain⟨ib,ic,fv⟩:=Kd.R_slice ag.out);(subst fv)
          go_wp2
          go_ret
          exact⟨by first|rfl|(simp [Zl,Zk] <;> rfl)|(simp [*,Zl,Zk] <;> rfl),zH HB⟩
         (rw [if_pos dh] at H);(have dr:(al == 0)=true:=beq_iff_eq.mpr dh);(have dt:(al != 0)=false:=bne_eq_false_iff_eq.mpr dh);(clear dh);(replace H:=Option.bind_eq_some_iff.mp H);(obtain⟨⟨cm,dj⟩,dw,H⟩:=H);(replace H:(if ah=0 then(if dj=true then((Zx1.f ck cm l1).bind fun cn=>(some cn)) else(some false)) else(some false))=some r:=H);(have fw:=Za.mk dw);(clear dw)
         by_cases dk:ah=0
         rotate_left
         ·rw [if_neg dk] at H
          (have dx:(ah == 0)=false:=beq_eq_false_iff_ne.mpr dk);(have dy:(ah != 0)=true:=bne_iff_ne.mpr dk);(obtain rfl:=Option.some.inj H);(obtain⟨ee,ef,eh,ei⟩:=zq4 aa.out);(obtain⟨ek,eo,es,eu⟩:=zf4 aa.out);(obtain⟨fx,fy,fz⟩:=Kd.R_slice ag.out);(subst fz)
          go_wp2_with (first|((with_reducible refine Zl1 (f:=8) rfl ?_);refine goesL_ (some 47) rfl rfl Try.func8 (by kernel_rfl) rfl #[.agg #[.int .i64 ac,.int .i64 ae,.int .i64 af,.slice ao ab.length ap],.slice fx ai.length fy] rfl (by (try simp only [List.map_toArray,List.map_cons,List.map_nil]);first|done|rfl|(simp only [List.length_drop,List.length_take];rfl)) ?_;(with_reducible refine(Zr1.calls ck ac ae af _ _ ab _ _ ai cm dj _ ?side1 ?side2 ?side3 ?side4 fw.out).mono ?_);(case side1=>exact zC ba HB);(case side2=>exact bb.out);(case side3=>repeat(first|exact(Kd.R_reads' ag.out).2.2|(with_reducible refine Kd.C_alloc ?_ _)|(with_reducible refine Kd.C_drewN ?_ _)|(with_reducible refine Kd.C_drew ?_)));(case side4=>exact(Kd.R_reads' ag.out).2.1);rintro e ip ⟨v420,rfl,ho0,hb⟩;refine⟨_,rfl,?_⟩;have bx:=Za.mk (Kd.R_lower (Kd.R_new' ho0 (Kd.R_lt (zR ag))) (Zg (zH HB)));replace ag:=Za.mk (Kd.R_elder' (zR ag) (Kd.R_base ho0) hb);replace aa:=Za.mk (Zj (g:=ak) (zK aa) hb);replace HB:=Za.mk (Zh (zH HB) hb);(try clear hb);(try clear hb2);(try clear hk);(try clear hi);(try clear ho0)))
          go_ret
          exact⟨by first|rfl|(simp [Zl,Zk] <;> rfl)|(simp [*,Zl,Zk] <;> rfl),zH HB⟩
         (rw [if_pos dk] at H);(have dx:(ah == 0)=true:=beq_iff_eq.mpr dk);(have dy:(ah != 0)=false:=bne_eq_false_iff_eq.mpr dk);(clear dk)
         by_cases ey:dj=true
         rotate_left
         ·replace ey:=Bool.eq_false_iff.mpr ey
          (subst ey);(have H1:(some false)=some r:=by rw [if_neg (show ¬ (false=true) by decide)] at H;exact H);(clear H);(have H:=H1);(clear H1);(obtain rfl:=Option.some.inj H);(obtain⟨ez,fa,fb,fc⟩:=zq4 aa.out);(obtain⟨fd,fe,ff,fg⟩:=zf4 aa.out);(obtain⟨ga,gc,gh⟩:=Kd.R_slice ag.out);(subst gh)
          go_wp2_with (first|((with_reducible refine Zl1 (f:=8) rfl ?_);refine goesL_ (some 47) rfl rfl Try.func8 (by kernel_rfl) rfl #[.agg #[.int .i64 ac,.int .i64 ae,.int .i64 af,.slice ao ab.length ap],.slice ga ai.length gc] rfl (by (try simp only [List.map_toArray,List.map_cons,List.map_nil]);first|done|rfl|(simp only [List.length_drop,List.length_take];rfl)) ?_;(with_reducible refine(Zr1.calls ck ac ae af _ _ ab _ _ ai cm false _ ?side1 ?side2 ?side3 ?side4 fw.out).mono ?_);(case side1=>exact zC ba HB);(case side2=>exact bb.out);(case side3=>repeat(first|exact(Kd.R_reads' ag.out).2.2|(with_reducible refine Kd.C_alloc ?_ _)|(with_reducible refine Kd.C_drewN ?_ _)|(with_reducible refine Kd.C_drew ?_)));(case side4=>exact(Kd.R_reads' ag.out).2.1);rintro e iq ⟨v420,rfl,ho0,hb⟩;refine⟨_,rfl,?_⟩;have bx:=Za.mk (Kd.R_lower (Kd.R_new' ho0 (Kd.R_lt (zR ag))) (Zg (zH HB)));replace ag:=Za.mk (Kd.R_elder' (zR ag) (Kd.R_base ho0) hb);replace aa:=Za.mk (Zj (g:=ak) (zK aa) hb);replace HB:=Za.mk (Zh (zH HB) hb);(try clear hb);(try clear hb2);(try clear hk);(try clear hi);(try clear ho0)))
          go_ret
          exact⟨by first|rfl|(simp [Zl,Zk] <;> rfl)|(simp [*,Zl,Zk] <;> rfl),zH HB⟩
         (subst ey);(have H1:((Zx1.f ck cm l1).bind fun cn=>(some cn))=some r:=by rw [if_pos rfl] at H;exact H);(clear H);(have H:=H1);(clear H1);(replace H:=Option.bind_eq_some_iff.mp H);(obtain⟨cn,dz,H⟩:=H);(replace H:(some cn)=some r:=H);(have ie:=Za.mk dz);(clear dz);(obtain rfl:=Option.some.inj H);(obtain⟨fh,fi,fj,fk⟩:=zq4 aa.out);(obtain⟨fm,fo,fp,fq⟩:=zf4 aa.out);(obtain⟨gi,gj,gl⟩:=Kd.R_slice ag.out);(subst gl)
         go_wp2_with (first|((with_reducible refine Zl1 (f:=8) rfl ?_);refine goesL_ (some 47) rfl rfl Try.func8 (by kernel_rfl) rfl #[.agg #[.int .i64 ac,.int .i64 ae,.int .i64 af,.slice ao ab.length ap],.slice gi ai.length gj] rfl (by (try simp only [List.map_toArray,List.map_cons,List.map_nil]);first|done|rfl|(simp only [List.length_drop,List.length_take];rfl)) ?_;(with_reducible refine(Zr1.calls ck ac ae af _ _ ab _ _ ai cm true _ ?side1 ?side2 ?side3 ?side4 fw.out).mono ?_);(case side1=>exact zC ba HB);(case side2=>exact bb.out);(case side3=>repeat(first|exact(Kd.R_reads' ag.out).2.2|(with_reducible refine Kd.C_alloc ?_ _)|(with_reducible refine Kd.C_drewN ?_ _)|(with_reducible refine Kd.C_drew ?_)));(case side4=>exact(Kd.R_reads' ag.out).2.1);rintro e ir ⟨v420,rfl,ho0,hb⟩;refine⟨_,rfl,?_⟩;have bx:=Za.mk (Kd.R_lower (Kd.R_new' ho0 (Kd.R_lt (zR ag))) (Zg (zH HB)));replace ag:=Za.mk (Kd.R_elder' (zR ag) (Kd.R_base ho0) hb);replace aa:=Za.mk (Zj (g:=ak) (zK aa) hb);replace HB:=Za.mk (Zh (zH HB) hb);(try clear hb);(try clear hb2);(try clear hk);(try clear hi);(try clear ho0);obtain⟨ig,ii,gm⟩:=Kd.R_slice bx.out;subst gm)|(go_at_call 9;(with_reducible refine(Zx1.calls ck _ _ cm _ _ l1 cn _ ?side1 ?side2 ?side3 ?side4 ie.out).mono ?_);(case side1=>repeat(first|exact(Kd.R_reads' bx.out).2.2|(with_reducible refine Kd.C_alloc ?_ _)|(with_reducible refine Kd.C_drewN ?_ _)|(with_reducible refine Kd.C_drew ?_)));(case side2=>exact(Kd.R_reads' bx.out).2.1);(case side3=>exact zC ea HB);(case side4=>exact ec.out);rintro e w' ⟨rfl,⟨nd,rfl⟩⟩))
         go_ret
         exact⟨by first|rfl|(simp [Zl,Zk] <;> rfl)|(simp [*,Zl,Zk] <;> rfl),zH HB⟩
end Go.Proofs.Ytbifocddbgleeaa.PAheadParses
