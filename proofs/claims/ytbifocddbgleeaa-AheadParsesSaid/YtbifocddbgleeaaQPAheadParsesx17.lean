-- By a program.
import Derived.Test.YtbifocddbgleeaaQPAheadParsesx0
import Derived.Test.YtbifocddbgleeaaQPAheadParsesx13
import Derived.Test.YtbifocddbgleeaaQPAheadParsesx14
import Derived.Test.YtbifocddbgleeaaQPAheadParsesx15
import Derived.Test.YtbifocddbgleeaaQPAheadParsesx16
namespace Go.Proofs.Ytbifocddbgleeaa.PAheadParses
open Go.RowKit Go.Proofs.YtbifocddbgleeaaW.PrintWords Go.Proofs.YtbifocddbgleeaaW.PrintLast Go.Proofs.YtbifocddbgleeaaW.PrintMore
attribute [local go_sem] max2_int min2_int max_two min_two max_three min_three max_four min_four
set_option linter.unusedVariables false
set_option linter.unusedSimpArgs false
mutual
def Zo.l0:Nat→Int→List Int→Int→Int→Int→Int→Int→List (S41)→Option (Int)
  |0,_,_,_,_,_,_,_,_=>none
  |k + 1,x5,x6,x7,x8,x321000,x321001,x321002,x321003=>if x8 < (x6.length:Int) then(if 0≤x8 then(if(rd x6 x8)=x321002 then(if 0≤(IntKind.u64.wrap (x321000)) then(Zo.j1 k x5 x6 (Go.bits .or .u32 x7 (shl .u32 1 (IntKind.u64.wrap (x321000)))) x8 x321000 x321001 x321002 x321003) else(none)) else(Zo.j1 k x5 x6 x7 x8 x321000 x321001 x321002 x321003)) else(none)) else(some x7)
def Zo.j1:Nat→Int→List Int→Int→Int→Int→Int→Int→List (S41)→Option (Int)
  |0,_,_,_,_,_,_,_,_=>none
  |k + 1,x5,x6,x7,x8,x321000,x321001,x321002,x321003=>Zo.l1 k x5 x6 x7 x8 x321003 (x321003.length:Int) 0 x321000 x321001 x321002 x321003
def Zo.l1:Nat→Int→List Int→Int→Int→List (S41)→Int→Int→Int→Int→Int→List (S41)→Option (Int)
  |0,_,_,_,_,_,_,_,_,_,_,_=>none
  |k + 1,x5,x6,x7,x8,x41,x42,x43,x321000,x321001,x321002,x321003=>if x43 < x42 then(if 0≤x43 then(if x43 < (x41.length:Int) then((Ze2.f x5 ((Zb x41 x43).f0)).bind fun t329=>(if t329=true then(Zo.l2 k x5 x6 x7 x8 x41 x42 x43 ((Zb x41 x43).f1) (((Zb x41 x43).f1).length:Int) 0 x321000 x321001 x321002 x321003 ((Zb x41 x43).f0) ((Zb x41 x43).f1)) else(Zo.l1 k x5 x6 x7 x8 x41 x42 (wrap64 (x43 + 1)) x321000 x321001 x321002 x321003))) else(none)) else(none)) else(Zo.l0 k x5 x6 x7 (wrap64 (x8 + 1)) x321000 x321001 x321002 x321003)
def Zo.l2:Nat→Int→List Int→Int→Int→List (S41)→Int→Int→List Int→Int→Int→Int→Int→Int→List (S41)→Int→List Int→Option (Int)
  |0,_,_,_,_,_,_,_,_,_,_,_,_,_,_,_,_=>none
  |k + 1,x5,x6,x7,x8,x41,x42,x43,x53,x54,x55,x321000,x321001,x321002,x321003,x329000,x329001=>if x55 < x54 then(if 0≤x55 then(if x55 < (x53.length:Int) then(if 0≤x8 then(if x8 < (x6.length:Int) then(if(rd x53 x55)=(wrap64 (x321000 + (rd x6 x8))) then(if 0≤(wrap64 (x55 + 1)) then(if(wrap64 (x55 + 1))≤(x329001.length:Int) then((some (x329001.drop ((wrap64 (x55 + 1)):Int).toNat:List Int)).bind fun y332=>((Zy.f k x321000 x321001 x321002 x321003 y332).bind fun t336=>((Zq1.f k x321000 x321001 x321002 x321003 y332).bind fun t337=>(if t337=true then((Za1.f k x6 x329000).bind fun t338=>(if t338=true then(Zo.l2 k x5 x6 (Go.bits .or .u32 x7 t336) x8 x41 x42 x43 x53 x54 (wrap64 (x55 + 1)) x321000 x321001 x321002 x321003 x329000 x329001) else(if x6.length < 17592186044416 then(Zo.l2 k x5 (x6++[x329000]) (Go.bits .or .u32 x7 t336) x8 x41 x42 x43 x53 x54 (wrap64 (x55 + 1)) x321000 x321001 x321002 x321003 x329000 x329001) else(none)))) else(Zo.l2 k x5 x6 (Go.bits .or .u32 x7 t336) x8 x41 x42 x43 x53 x54 (wrap64 (x55 + 1)) x321000 x321001 x321002 x321003 x329000 x329001))))) else(none)) else(none)) else(Zo.l2 k x5 x6 x7 x8 x41 x42 x43 x53 x54 (wrap64 (x55 + 1)) x321000 x321001 x321002 x321003 x329000 x329001)) else(none)) else(none)) else(none)) else(none)) else(Zo.l1 k x5 x6 x7 x8 x41 x42 (wrap64 (x43 + 1)) x321000 x321001 x321002 x321003)
end
def Zo.f (k:Nat) (a0_0:Int) (a0_1:Int) (a0_2:Int) (l0_3:List (S41)) (a1:Int):Option (Int):=(Zz.f k a0_0 a0_1 a0_2 l0_3).bind fun t321=>((Ze2.f t321 a1).bind fun t322=>(if t322=true then(Zo.l0 k t321 (([a1] :List Int)) 0 0 a0_0 a0_1 a0_2 l0_3) else(some 0)))
theorem Zo.mono_l: ∀k,(∀y0 y1 y2 y3 y4 y5 y6 y7,LeO (Zo.l0 k y0 y1 y2 y3 y4 y5 y6 y7) (Zo.l0 (k + 1) y0 y1 y2 y3 y4 y5 y6 y7))∧(∀y0 y1 y2 y3 y4 y5 y6 y7,LeO (Zo.j1 k y0 y1 y2 y3 y4 y5 y6 y7) (Zo.j1 (k + 1) y0 y1 y2 y3 y4 y5 y6 y7))∧(∀y0 y1 y2 y3 y4 y5 y6 y7 y8 y9 y10,LeO (Zo.l1 k y0 y1 y2 y3 y4 y5 y6 y7 y8 y9 y10) (Zo.l1 (k + 1) y0 y1 y2 y3 y4 y5 y6 y7 y8 y9 y10))∧(∀y0 y1 y2 y3 y4 y5 y6 y7 y8 y9 y10 y11 y12 y13 y14 y15,LeO (Zo.l2 k y0 y1 y2 y3 y4 y5 y6 y7 y8 y9 y10 y11 y12 y13 y14 y15) (Zo.l2 (k + 1) y0 y1 y2 y3 y4 y5 y6 y7 y8 y9 y10 y11 y12 y13 y14 y15))
  |0=>⟨fun _ _ _ _ _ _ _ _ r h=>by simp [Zo.l0] at h,fun _ _ _ _ _ _ _ _ r h=>by simp [Zo.j1] at h,fun _ _ _ _ _ _ _ _ _ _ _ r h=>by simp [Zo.l1] at h,fun _ _ _ _ _ _ _ _ _ _ _ _ _ _ _ _ r h=>by simp [Zo.l2] at h⟩
  |k + 1=>by
    obtain⟨ih0,ih1,ih2,ih3⟩:=Zo.mono_l k
    refine⟨?_,?_,?_,?_⟩
    · intro y0 y1 y2 y3 y4 y5 y6 y7
      unfold Zo.l0
      repeat' (with_reducible first|apply ih0|apply ih1|apply ih2|apply ih3|apply Zz.mono|apply Zy.mono|apply Zq1.mono|apply Za1.mono|exact LeO.refl _|exact LeO.none _|refine LeO.ite ?_ ?_|refine LeO.bind ?_ (fun _=>?_))
    · intro y0 y1 y2 y3 y4 y5 y6 y7
      unfold Zo.j1
      repeat' (with_reducible first|apply ih0|apply ih1|apply ih2|apply ih3|apply Zz.mono|apply Zy.mono|apply Zq1.mono|apply Za1.mono|exact LeO.refl _|exact LeO.none _|refine LeO.ite ?_ ?_|refine LeO.bind ?_ (fun _=>?_))
    · intro y0 y1 y2 y3 y4 y5 y6 y7 y8 y9 y10
      unfold Zo.l1
      repeat' (with_reducible first|apply ih0|apply ih1|apply ih2|apply ih3|apply Zz.mono|apply Zy.mono|apply Zq1.mono|apply Za1.mono|exact LeO.refl _|exact LeO.none _|refine LeO.ite ?_ ?_|refine LeO.bind ?_ (fun _=>?_))
    · intro y0 y1 y2 y3 y4 y5 y6 y7 y8 y9 y10 y11 y12 y13 y14 y15
      unfold Zo.l2
      repeat' (with_reducible first|apply ih0|apply ih1|apply ih2|apply ih3|apply Zz.mono|apply Zy.mono|apply Zq1.mono|apply Za1.mono|exact LeO.refl _|exact LeO.none _|refine LeO.ite ?_ ?_|refine LeO.bind ?_ (fun _=>?_))
theorem Zo.mono: ∀a0 a1 a2 a3 a4 k,LeO (Zo.f k a0 a1 a2 a3 a4) (Zo.f (k + 1) a0 a1 a2 a3 a4):=by
  intro a0 a1 a2 a3 a4 k
  obtain⟨ih0,ih1,ih2,ih3⟩:=Zo.mono_l k
  unfold Zo.f
  repeat' (with_reducible first|apply ih0|apply ih1|apply ih2|apply ih3|apply Zz.mono|apply Zy.mono|apply Zq1.mono|apply Za1.mono|exact LeO.refl _|exact LeO.none _|refine LeO.ite ?_ ?_|refine LeO.bind ?_ (fun _=>?_))
def Zo.T18:Bool × List (List Nat × List Nat):=(true,[([],[]),([],[]),([1],[1]),([],[]),([],[]),([3,4],[3,4]),([5],[5]),([2,6],[2,6]),([0,7],[0,7])])
def Zo.B18:List Nat:=[0,0,2,0,0,24,56,126,255]
theorem Zo.tab18:rtab .any (opsOf Try.f28 18)=Zo.T18:=by kernel_rfl
theorem Zo.bits18:waitsOk Zo.T18.2 Zo.B18=true:=by kernel_rfl
def Zo.T19:Bool × List (List Nat × List Nat):=(true,[([],[]),([],[]),([],[]),([2],[2]),([],[]),([4],[4]),([3,5],[3,5]),([1,6],[1,6]),([0,7],[0,7]),([8,7,0,1,2,3,4,5,6,7,8],[0,8])])
def Zo.B19:List Nat:=[0,0,0,4,0,16,60,126,255,511]
theorem Zo.tab19:rtab .any (opsOf Try.f28 19)=Zo.T19:=by kernel_rfl
theorem Zo.bits19:waitsOk Zo.T19.2 Zo.B19=true:=by kernel_rfl
def Zo.T20:Bool × List (List Nat × List Nat):=(true,[([],[]),([],[]),([1],[1]),([],[]),([3],[3]),([2,4],[2,4]),([0,5],[0,5]),([6,6],[6]),([7],[7]),([7],[7]),([9,7],[7,9]),([8,10,7,7],[7,8,10]),([11,7],[7,11]),([7,12],[7,12])])
def Zo.B20:List Nat:=[0,0,2,0,8,30,63,127,255,255,767,2047,4095,8191]
theorem Zo.tab20:rtab .any (opsOf Try.f28 20)=Zo.T20:=by kernel_rfl
theorem Zo.bits20:waitsOk Zo.T20.2 Zo.B20=true:=by kernel_rfl
set_option maxHeartbeats 8000000 in
set_option maxRecDepth 100000 in
theorem Zo.calls (k : Nat) (ag : Int) (aj : Int) (ah : Int) (ca : Option Addr) (aw : Nat) (ab : List (S41)) (a1 : Int) (r : Int) (w : World) (fi : Kd.C k41 w ca ab.length ab) (fj : ab.length ≤ aw) (h : Zo.f k ag aj ah ab a1 = some r) :
    Calls Try.prog 28 #[.agg #[.int .i64 ag,.int .i64 aj,.int .i64 ah,.slice ca ab.length aw],.int .i64 a1] w fun e w'=>e= .returned (.int .u32 r)∧Below w.heap.size w w':=by
 (have mq:=Try.underlying24);(have nm:=Try.underlying3);(have mr:=Try.underlying41);(have ms:=Try.underlying25);(have bk:=Za.mk fi);(have bt:=Za.mk fj);(clear fi fj);(have HB:=Za.mk (Below.refl w.heap.size w));(have H:((Zz.f k ag aj ah ab).bind fun aq=>((Ze2.f aq a1).bind fun ee=>(if ee=true then(Zo.l0 k aq (([a1] :List Int)) 0 0 ag aj ah ab) else(some 0))))=some r:=h);(clear h);(replace H:=Option.bind_eq_some_iff.mp H);(obtain⟨aq,lu,H⟩:=H);(replace H:((Ze2.f aq a1).bind fun ee=>(if ee=true then(Zo.l0 k aq (([a1] :List Int)) 0 0 ag aj ah ab) else(some 0)))=some r:=H);(have A3:=Za.mk lu);(clear lu);(replace H:=Option.bind_eq_some_iff.mp H);(obtain⟨ee,gq,H⟩:=H);(replace H:(if ee=true then(Zo.l0 k aq (([a1] :List Int)) 0 0 ag aj ah ab) else(some 0))=some r:=H);(have A4:=Za.mk gq);(clear gq)
 by_cases c5:ee=true
 rotate_left
 ·replace c5:=Bool.eq_false_iff.mpr c5
  (subst c5);(have H1:(some 0)=some r:=by rw [if_neg (show ¬ (false=true) by decide)] at H;exact H);(clear H);(have H:=H1);(clear H1);(obtain rfl:=Option.some.inj H)
  go_enter Try.func28,Try.ntmps28
  go_wp2_with (first|((with_reducible refine Zs (N:=2) rfl ?_);refine Zx ?hg (N:=2) ?hd (cs:=#[.int .i64 ag,.int .i64 aj,.int .i64 ah,.slice ca ab.length aw]) (t:=24) ?hr ?_;(case hd=>rfl);(case hg=>rfl);(case hr=>first|(go_simp;done)|(go_simp;rfl));intro af hg nn hbox hb;have ac:=Za.mk (hbox);have gx:=Za.mk ((by rw [hg];exact(Zg (zH HB)):w.heap.size≤af));have gy:=Za.mk ((by rw [hg];exact(Zg (zH HB)):w.heap.size≤af));replace HB:=Za.mk (Zh (zH HB) hb);clear hb hbox hg;obtain⟨jh,ji,jj,jk⟩:=zq4 ac.out;obtain⟨jl,jm,jn,jo⟩:=zf4 ac.out)|((with_reducible refine Zl1 (f:=39) rfl ?_);refine goesL_ (some 14) rfl rfl Try.func39 (by kernel_rfl) rfl #[.agg #[.int .i64 ag,.int .i64 aj,.int .i64 ah,.slice ca ab.length aw]] rfl (by (try simp only [List.map_toArray,List.map_cons,List.map_nil]);first|done|rfl|(simp only [List.length_drop,List.length_take];rfl)) ?_;(with_reducible refine(Zz.calls k ag aj ah _ _ ab aq _ ?side1 ?side2 A3.out).mono ?_);(case side1=>exact zC bk HB);(case side2=>exact bt.out);rintro e no ⟨rfl,hb⟩;refine⟨_,rfl,?_⟩;replace ac:=Za.mk (Zj (g:=af) (zK ac) hb);replace HB:=Za.mk (Zh (zH HB) hb);(try clear hb);(try clear hb2);(try clear hk);(try clear hi))|((with_reducible refine Zl1 (f:=38) rfl ?_);refine goesL_ (some 17) rfl rfl Try.func38 (by kernel_rfl) rfl #[.int .u32 aq,.int .i64 a1] rfl (by (try simp only [List.map_toArray,List.map_cons,List.map_nil]);first|done|rfl|(simp only [List.length_drop,List.length_take];rfl)) ?_;(with_reducible refine(Ze2.calls aq a1 false _ A4.out).mono ?_);rintro e w' ⟨rfl,⟨nd,rfl⟩⟩;refine⟨_,rfl,?_⟩))
  go_ret
  exact⟨by first|rfl|(simp [Zl,Zk] <;> rfl)|(simp [*,Zl,Zk] <;> rfl),zH HB⟩
 (subst c5);(have H1:(Zo.l0 k aq (([a1] :List Int)) 0 0 ag aj ah ab)=some r:=by rw [if_pos rfl] at H;exact H);(clear H);(have H:=H1);(clear H1);(obtain⟨gz,de⟩ : ∃y_:List Int,y_=(([a1] :List Int)):=⟨_,rfl⟩);(replace H:(Zo.l0 k aq gz 0 0 ag aj ah ab)=some r:=by first|(rw [de];with_reducible exact H)|(have H2_:=(Option.bind_some _ _).symm.trans H;rw [de];with_reducible exact H2_)|(have H2_:=(Option.bind_some _ _).symm.trans H;with_reducible exact H2_)|with_reducible exact H|(rw [de];exact H)|exact H);(have fk:=Za.mk de);(clear de);(have H':=Za.mk H);(clear H)
 go_enter Try.func28,Try.ntmps28
 go_wp2_with (first|((with_reducible refine Zs (N:=2) rfl ?_);refine Zx ?hg (N:=2) ?hd (cs:=#[.int .i64 ag,.int .i64 aj,.int .i64 ah,.slice ca ab.length aw]) (t:=24) ?hr ?_;(case hd=>rfl);(case hg=>rfl);(case hr=>first|(go_simp;done)|(go_simp;rfl));intro af hg w6 hbox hb;have ac:=Za.mk (hbox);have gx:=Za.mk ((by rw [hg];exact(Zg (zH HB)):w.heap.size≤af));have gy:=Za.mk ((by rw [hg];exact(Zg (zH HB)):w.heap.size≤af));replace HB:=Za.mk (Zh (zH HB) hb);clear hb hbox hg;obtain⟨cf,cg,ch,ci⟩:=zq4 ac.out;obtain⟨cj,ck,cm,cn⟩:=zf4 ac.out)|((with_reducible refine Zl1 (f:=39) rfl ?_);refine goesL_ (some 14) rfl rfl Try.func39 (by kernel_rfl) rfl #[.agg #[.int .i64 ag,.int .i64 aj,.int .i64 ah,.slice ca ab.length aw]] rfl (by (try simp only [List.map_toArray,List.map_cons,List.map_nil]);first|done|rfl|(simp only [List.length_drop,List.length_take];rfl)) ?_;(with_reducible refine(Zz.calls k ag aj ah _ _ ab aq _ ?side1 ?side2 A3.out).mono ?_);(case side1=>exact zC bk HB);(case side2=>exact bt.out);rintro e w8 ⟨rfl,hb⟩;refine⟨_,rfl,?_⟩;replace ac:=Za.mk (Zj (g:=af) (zK ac) hb);replace HB:=Za.mk (Zh (zH HB) hb);(try clear hb);(try clear hb2);(try clear hk);(try clear hi))|((with_reducible refine Zl1 (f:=38) rfl ?_);refine goesL_ (some 17) rfl rfl Try.func38 (by kernel_rfl) rfl #[.int .u32 aq,.int .i64 a1] rfl (by (try simp only [List.map_toArray,List.map_cons,List.map_nil]);first|done|rfl|(simp only [List.length_drop,List.length_take];rfl)) ?_;(with_reducible refine(Ze2.calls aq a1 true _ A4.out).mono ?_);rintro e w' ⟨rfl,⟨nd,rfl⟩⟩;refine⟨_,rfl,?_⟩)|((with_reducible refine Zs (N:=20) rfl ?_);refine Kd.R_lit (Kd.int .i64) _ 3 ?hg (N:=20) ?hd (xs:=([a1] :List Int)) (inner:=[.int .i64 a1]) (ok:=fun _=>True) (okp:=fun _=>True) ?hr ?hp (fun _ hk=>hk) trivial (Below.refl _ _) (Nat.le_refl _) (by simp) ?_;(case hd=>rfl);(case hg=>rfl);(case hr=>first|(go_simp;done)|(go_simp;rfl));(case hp=>exact(Reps.one (show Kd.M (Kd.int .i64) _ _ _ a1 [.int .i64 a1] from rfl) (Reps.none _ _)));intro v324 w9 ho10 hb hg_ hnew_;clear hg_ hnew_;(first|rw [← fk.out] at ho10|(simp only [Int.reduceToNat] at ho10;rw [← fk.out] at ho10));have ia:=Za.mk (Kd.R_lower ho10 (Zg (zH HB)));replace ac:=Za.mk (Zj (g:=af) (zK ac) hb);replace HB:=Za.mk (Zh (zH HB) hb);clear hb ho10))
 go_loopg [6,7,8] k (fun kq v6 v7 v8 w'=>∃(be:List Int) (dm:Int) (ak:Int),v7= .int .u32 dm∧v8= .int .i64 ak∧Za (Zo.l0 kq aq be dm ak ag aj ah ab=some r)∧Za (kq≤k)∧Za (Kd.R (Kd.int .i64) 3 w' w.heap.size (fun _=>True) v6 be)∧Za (w'.heap[af]? =some (.cells #[.int .i64 ag,.int .i64 aj,.int .i64 ah,(.slice ca ab.length aw)] 24 (0,0)))∧Za (Below w.heap.size w w'))
 case atStart=>exact⟨(gz),(0),(0),(by first|rfl|(simp;done)|(simp [*];done)),(by first|rfl|(simp;done)|(simp [*];done)),H',⟨Nat.le_refl _⟩,⟨zR ia⟩,⟨zK ac⟩,⟨zH HB⟩⟩
 case round=>
  (clear H');(try clear c2);(try clear p2);(try clear c3);(try clear c5);(try clear cf cg ch ci cj ck cm cn);(obtain⟨be,dm,ak,rfl,rfl,HA,co,ai,ac,HB⟩:=hrel)
  cases gk with
  |zero=>exact absurd HA.out (by simp [Zo.l0])
  |succ k1=>
   (have H:=HA.out);(clear HA);(simp only [Zo.l0] at H)
   by_cases gu:ak < (be.length:Int)
   rotate_left
   ·rw [if_neg gu] at H
    (have dq:decide (ak < (be.length:Int))=false:=decide_eq_false gu);(clear gu);(obtain rfl:=Option.some.inj H);(obtain⟨mt,mu,kp⟩:=Kd.R_slice ai.out);(subst kp)
    go_wp2
    go_ret
    exact⟨by first|rfl|(simp [Zl,Zk] <;> rfl)|(simp [*,Zl,Zk] <;> rfl),zH HB⟩
   (rw [if_pos gu] at H);(have dq:decide (ak < (be.length:Int))=true:=decide_eq_true gu);(clear gu)
   by_cases jp:0≤ak
   rotate_left
   ·rw [if_neg jp] at H
    exact absurd H (by simp)
   (rw [if_pos jp] at H);(have eo:decide (0≤ak)=true:=decide_eq_true jp);(clear jp);(have fw:=Za.mk H);(clear H);(obtain⟨mv,kr,kt⟩:=Kd.R_slice ai.out);(subst kt)
   try go_wp2
   (replace ai:=Za.mk (Kd.R_drew ai.out));(replace ac:=Za.mk (Zi ac.out));(replace HB:=Za.mk (Zz1 HB.out));(have ef:0≤(ak:Int):=zD);(have eh:ak < (be.length:Int):=zD);(obtain⟨fm,ku,bq⟩:=Kd.at_int (Kd.R_reads' ai.out).2.2 ak ef eh);(cases ku);(replace ef:=eq_true ef);(replace eh:=eq_true eh)
   refine start_ (n:=7) (S:=fun w'=>w'.cell? ⟨af,0,none⟩=some (.int .i64 ag)∧w'.cell? ⟨af,1,none⟩=some (.int .i64 aj)∧w'.cell? ⟨af,2,none⟩=some (.int .i64 ah)∧w'.cell? ⟨af,3,none⟩=some (.slice ca ab.length aw)∧w'.cell? (fm.add (ak).toNat)=some (.int .i64 (rd be ak))) (ds:=[]) #[false,false,false,false,false,false,false] (by kernel_rfl) rfl rfl ⟨(Zf ac.out 0).trans rfl,(Zf ac.out 1).trans rfl,(Zf ac.out 2).trans rfl,(Zf ac.out 3).trans rfl,bq⟩ (fun hHeld=>?_)
   generalize wr.drew=np at ai ac HB bq hHeld ⊢
   refine zP 0 (some 27) (zt 7 1) (by kernel_rfl) ?_
   refine zP 1 (some 28) (zt 7 3) (by kernel_rfl) ?_
   refine zP 2 (some 29) (zt 7 7) (by kernel_rfl) ?_
   refine zP 4 (some 31) (zt 7 23) (by kernel_rfl) ?_
   refine take_ (i:=3) (N:=some 30) (v:=?_) (a':=?_) #[true,true,true,true,true,false,false] rfl rfl (by kernel_rfl) (fun _ _ _ h=>h) (Or.inl ⟨by rfl,?_⟩) hHeld ?_ ?_
   rotate_left
   ·rintro w' ⟨s0,s1,s2,s3,s4⟩
    go_simp
    with_reducible rfl
   rotate_left
   ·simp only [Act.put,zp1,zp2,zp3,Zc,Zd]
    rfl
   refine take_ (i:=5) (N:=some 32) (v:=?_) (a':=?_) #[true,true,true,true,true,true,false] rfl rfl (by kernel_rfl) (fun _ _ _ h=>h) (Or.inl ⟨by rfl,?_⟩) hHeld ?_ ?_
   rotate_left
   ·rintro w' ⟨s0,s1,s2,s3,s4⟩
    go_simp
    with_reducible rfl
   rotate_left
   ·simp only [Act.put,zp1,zp2,zp3,Zc,Zd]
    rfl
   refine zP 6 (some 33) (zt 7 127) (by kernel_rfl) ?_
   refine done_ (by kernel_rfl) ?_
   go_upto_if 33 with (fail)
   go_cut [7] (fun v7 wc=>∃(kq:Nat) (dr:Int),v7= .int .u32 dr∧Za (Zo.j1 kq aq be dr ak ag aj ah ab=some r)∧Za (kq≤k1)∧Za (Kd.R (Kd.int .i64) 3 wc w.heap.size (fun _=>True) (.slice (some fm) be.length kr) be)∧Za (wc.heap[af]? =some (.cells #[.int .i64 ag,.int .i64 aj,.int .i64 ah,(.slice ca ab.length aw)] 24 (0,0)))∧Za (Below w.heap.size w wc))
   case first=>
    (have H:=fw.out);(clear fw)
    by_cases fx:(rd be ak)=ah
    rotate_left
    ·rw [if_neg fx] at H
     (have bu:((rd be ak) == ah)=false:=beq_eq_false_iff_ne.mpr fx);(have dt:((rd be ak) != ah)=true:=bne_iff_ne.mpr fx)
     (first|rw [bu]|(simp only [Zc,Zd];rw [bu])|skip)
     (have H':=Za.mk H);(clear H)
     go_wp2
     go_meet
     case rel=>exact⟨_,(dm),(by first|rfl|(simp;done)|(simp [*];done)),H',⟨by have:=co.out;first|omega|exact Nat.le_refl _⟩,⟨zR ai⟩,⟨zK ac⟩,⟨zH HB⟩⟩
    (rw [if_pos fx] at H);(have bu:((rd be ak) == ah)=true:=beq_iff_eq.mpr fx);(have dt:((rd be ak) != ah)=false:=bne_eq_false_iff_eq.mpr fx);(clear fx)
    (first|rw [bu]|(simp only [Zc,Zd];rw [bu])|skip)
    (obtain⟨bz,fo⟩ : ∃j_:Int,(IntKind.u64.wrap (ag))=j_:=⟨_,rfl⟩);(replace H:(if 0≤(bz) then(Zo.j1 k1 aq be (Go.bits .or .u32 dm (shl .u32 1 (bz))) ak ag aj ah ab) else(none))=some r:=by first|(rw [fo] at H;exact H)|(simp only [fo] at H ⊢;exact H))
    by_cases ib:0≤(bz)
    rotate_left
    ·rw [if_neg ib] at H
     exact absurd H (by simp)
    (rw [if_pos ib] at H);(have es:=eq_true ib);(have eu:decide (0≤(bz))=true:=decide_eq_true ib);(clear ib);(obtain⟨ei,df⟩ : ∃j_:Int,(shl .u32 1 (bz))=j_:=⟨_,rfl⟩);(replace H:(Zo.j1 k1 aq be (Go.bits .or .u32 dm (ei)) ak ag aj ah ab)=some r:=by first|(rw [df] at H;exact H)|(simp only [df] at H ⊢;exact H));(have fy:(IntKind.u32.wrap (1 * 2 ^ min (bz).toNat 32))=ei:=df);(have fz:(bz)≤32→(IntKind.u32.wrap (1 * 2 ^ (bz).toNat))=ei:=shl_small df);(have kv:(IntKind.u32.wrap (2 ^ min (bz).toNat 32))=ei:=by have h_:=fy;rw [Int.one_mul] at h_;exact h_);(have kw:(bz)≤32→(IntKind.u32.wrap (2 ^ (bz).toNat))=ei:=fun hle_=>by have h_:=fz hle_;rw [Int.one_mul] at h_;exact h_);(have H':=Za.mk H);(clear H);(obtain⟨cp,cq,cu,cw⟩:=zq4 ac.out);(obtain⟨cy,da,db,dc⟩:=zf4 ac.out)
    go_wp2
    go_meet
    case rel=>exact⟨_,(Go.bits .or .u32 dm (ei)),(by first|rfl|(simp;done)|(simp only [← df] <;> (first|rfl|simp))|(simp [*];done)),H',⟨by have:=co.out;first|omega|exact Nat.le_refl _⟩,⟨zR ai⟩,⟨zK ac⟩,⟨zH HB⟩⟩
   case rest=>
    (clear fw);(try clear c1);(try clear c2);(try clear p2);(try clear c3);(try clear p3);(try clear q3);(try clear lv);(try clear c5);(try clear dq);(try clear eo);(try clear bu);(try clear dt);(try clear es);(try clear eu);(try clear cp cq cu cw cf cg ch ci cy da db dc cj ck cm cn);(try clear bq);(try clear p2);(try clear ef);(try clear eh);(obtain⟨kq,dr,rfl,HA,bf,ai,ac,HB⟩:=hcut)
    cases kq with
    |zero=>exact absurd HA.out (by simp [Zo.j1])
    |succ ic=>
     (have H:=HA.out);(clear HA);(simp only [Zo.j1] at H);(have H':=Za.mk H);(clear H);(obtain⟨du,dv,dw,dx⟩:=zq4 ac.out);(obtain⟨dy,dz,ea,ec⟩:=zf4 ac.out)
     go_wp2
     go_loopg [6,7,43] ic (fun kq v6 v7 v43 w'=>∃(cb:List Int) (cd:Int) (aa:Int),v7= .int .u32 cd∧v43= .int .i64 aa∧Za (Zo.l1 kq aq cb cd ak ab (ab.length:Int) aa ag aj ah ab=some r)∧Za (kq≤ic)∧Za (Kd.R (Kd.int .i64) 3 w' w.heap.size (fun _=>True) v6 cb)∧Za (w'.heap[af]? =some (.cells #[.int .i64 ag,.int .i64 aj,.int .i64 ah,(.slice ca ab.length aw)] 24 (0,0)))∧Za (Below w.heap.size w w'))
     case atStart=>exact⟨(be),(dr),(0),(by first|rfl|(simp;done)|(simp [*];done)),(by first|rfl|(simp;done)|(simp [*];done)),H',⟨Nat.le_refl _⟩,⟨zR ai⟩,⟨zK ac⟩,⟨zH HB⟩⟩
     case round=>
      (clear H');(try clear c1);(try clear c2);(try clear p2);(try clear c3);(try clear p3);(try clear q3);(try clear lv);(try clear c5);(try clear dq);(try clear eo);(try clear bu);(try clear dt);(try clear es);(try clear eu);(try clear cp cq cu cw du dv dw dx cf cg ch ci cy da db dc dy dz ea ec cj ck cm cn);(try clear bq);(try clear p2);(try clear p3);(try clear ef);(try clear q3);(try clear eh);(obtain⟨cb,cd,aa,rfl,rfl,HA,dg,ai,ac,HB⟩:=hrel)
      cases gk with
      |zero=>exact absurd HA.out (by simp [Zo.l1])
      |succ k3=>
       (have H:=HA.out);(clear HA);(simp only [Zo.l1] at H)
       by_cases gv:aa < (ab.length:Int)
       rotate_left
       ·rw [if_neg gv] at H
        (have fp:decide (aa < (ab.length:Int))=false:=decide_eq_false gv);(clear gv);(have H':=Za.mk H);(clear H)
        go_wp2
        go_roundg k3
        case measure=>have:=co.out;have:=bf.out;have:=dg.out;omega
        case rel=>exact⟨(cb),(cd),(wrap64 (ak + 1)),(by first|rfl|(simp;done)|(simp [*];done)),(by first|rfl|(simp;done)|(simp [*];done)),H',⟨by have:=co.out;have:=bf.out;have:=dg.out;omega⟩,⟨zR ai⟩,⟨zK ac⟩,⟨zH HB⟩⟩
       (rw [if_pos gv] at H);(have fp:decide (aa < (ab.length:Int))=true:=decide_eq_true gv);(clear gv)
       by_cases jq:0≤aa
       rotate_left
       ·rw [if_neg jq] at H
        exact absurd H (by simp)
       (rw [if_pos jq] at H);(have ie:decide (0≤aa)=true:=decide_eq_true jq);(clear jq)
       by_cases jr:aa < (ab.length:Int)
       rotate_left
       ·rw [if_neg jr] at H
        exact absurd H (by simp)
       (rw [if_pos jr] at H);(have ig:decide (aa < (ab.length:Int))=true:=decide_eq_true jr);(clear jr);(replace H:=Option.bind_eq_some_iff.mp H);(obtain⟨ii,ik,H⟩:=H);(replace H:(if ii=true then(Zo.l2 k3 aq cb cd ak ab (ab.length:Int) aa ((Zb ab aa).f1) (((Zb ab aa).f1).length:Int) 0 ag aj ah ab ((Zb ab aa).f0) ((Zb ab aa).f1)) else(Zo.l1 k3 aq cb cd ak ab (ab.length:Int) (wrap64 (aa + 1)) ag aj ah ab))=some r:=H);(have lw:=Za.mk ik);(clear ik)
       by_cases il:ii=true
       rotate_left
       ·replace il:=Bool.eq_false_iff.mpr il
        (subst il);(have H1:(Zo.l1 k3 aq cb cd ak ab (ab.length:Int) (wrap64 (aa + 1)) ag aj ah ab)=some r:=by rw [if_neg (show ¬ (false=true) by decide)] at H;exact H);(clear H);(have H:=H1);(clear H1);(have H':=Za.mk H);(clear H);(have dh:0≤(aa:Int):=zD);(have di:aa < (ab.length:Int):=zD);(obtain⟨ar,dd,an,ga,bh,bi,br,bs⟩:=at_T41 bk.out aa dh di);(cases ga);(replace bh:=zX HB bh);(replace bi:=zX HB bi);(have bd:=Za.mk bs);(have bx:=Za.mk br);(clear bs br);(replace dh:=eq_true dh);(replace di:=eq_true di)
        go_wp2_with (first|((with_reducible refine Zs (N:=10) rfl ?_);refine Zx ?hg (N:=10) ?hd (cs:=#[.int .i64 0,.slice none 0 0]) (t:=41) ?hr ?_;(case hd=>rfl);(case hg=>rfl);(case hr=>first|(go_simp;done)|(go_simp;rfl));intro ao hg nq hbox hb;replace ai:=Za.mk (Kd.R_below (zR ai) hb);have ae:=Za.mk (hbox);have io:=Za.mk ((by rw [hg];exact(Zg (zH HB)):w.heap.size≤ao));have ip:=Za.mk ((by rw [hg];exact(Zg (zH HB)):w.heap.size≤ao));replace HB:=Za.mk (Zh (zH HB) hb);have az:=Za.mk ((by rw [hg];exact Nat.ne_of_lt (Zu (g:=af) (o:= .cells #[.int .i64 ag,.int .i64 aj,.int .i64 ah,.slice (some ar) ab.length aw] 24 (0,0)) (zK ac)):af≠ao));have bj:=Za.mk ((by rw [hg];exact Nat.ne_of_gt (Zu (g:=af) (o:= .cells #[.int .i64 ag,.int .i64 aj,.int .i64 ah,.slice (some ar) ab.length aw] 24 (0,0)) (zK ac)):ao≠af));replace ac:=Za.mk (Zj (g:=af) (zK ac) hb);clear hb hbox hg;have lx:=bj.out;have ly:=az.out;obtain⟨js,jt⟩:=zq2 ae.out;obtain⟨ju,jv⟩:=zf2 ae.out)|((with_reducible refine Zl1 (f:=38) rfl ?_);refine goesL_ (some 50) rfl rfl Try.func38 (by kernel_rfl) rfl #[.int .u32 aq,.int .i64 ((Zb ab aa).f0)] rfl (by (try simp only [List.map_toArray,List.map_cons,List.map_nil]);first|done|rfl|(simp only [List.length_drop,List.length_take];rfl)) ?_;(with_reducible refine(Ze2.calls aq ((Zb ab aa).f0) false _ lw.out).mono ?_);rintro e w' ⟨rfl,⟨nd,rfl⟩⟩;refine⟨_,rfl,?_⟩))
        go_roundg k3
        case measure=>have:=co.out;have:=bf.out;have:=dg.out;omega
        case rel=>exact⟨(cb),(cd),(wrap64 (aa + 1)),(by first|rfl|(simp;done)|(simp [*];done)),(by first|rfl|(simp;done)|(simp [*];done)),H',⟨by have:=co.out;have:=bf.out;have:=dg.out;omega⟩,⟨by (with_reducible repeat(first|apply Kd.R_alloc|apply Kd.R_drewN|apply Kd.R_drew));exact Kd.R_mono (Kd.R_far (p:=⟨ao,1,none⟩) (Kd.R_far (p:=⟨ao,0,none⟩) (Kd.R_types ai.out ae.out (by decide)) (fun _ hk=>hk.2) (.int .i64 ((Zb ab aa).f0))) (fun _ hk=>hk.2) (.slice dd ((Zb ab aa).f1).length an)) (fun _ hk=>trivial)⟩,⟨by (with_reducible repeat(first|refine Zn ?_ _|refine Zi ?_|refine Zm ?_ _));refine Zv ?_ az.out _;(with_reducible repeat(first|refine Zn ?_ _|refine Zi ?_|refine Zm ?_ _));refine Zv ?_ az.out _;(with_reducible repeat(first|apply zb3|apply zb2|apply zb1));exact ac.out⟩,⟨zH HB⟩⟩
       (subst il);(have H1:(Zo.l2 k3 aq cb cd ak ab (ab.length:Int) aa ((Zb ab aa).f1) (((Zb ab aa).f1).length:Int) 0 ag aj ah ab ((Zb ab aa).f0) ((Zb ab aa).f1))=some r:=by rw [if_pos rfl] at H;exact H);(clear H);(have H:=H1);(clear H1);(have H':=Za.mk H);(clear H);(have dh:0≤(aa:Int):=zD);(have di:aa < (ab.length:Int):=zD);(obtain⟨ar,dd,an,ga,bh,bi,br,bs⟩:=at_T41 bk.out aa dh di);(cases ga);(replace bh:=zX HB bh);(replace bi:=zX HB bi);(have bd:=Za.mk bs);(have bx:=Za.mk br);(clear bs br);(replace dh:=eq_true dh);(replace di:=eq_true di)
       go_wp2_with (first|((with_reducible refine Zs (N:=10) rfl ?_);refine Zx ?hg (N:=10) ?hd (cs:=#[.int .i64 0,.slice none 0 0]) (t:=41) ?hr ?_;(case hd=>rfl);(case hg=>rfl);(case hr=>first|(go_simp;done)|(go_simp;rfl));intro ao hg nr hbox hb;replace ai:=Za.mk (Kd.R_below (zR ai) hb);have ae:=Za.mk (hbox);have io:=Za.mk ((by rw [hg];exact(Zg (zH HB)):w.heap.size≤ao));have ip:=Za.mk ((by rw [hg];exact(Zg (zH HB)):w.heap.size≤ao));replace HB:=Za.mk (Zh (zH HB) hb);have az:=Za.mk ((by rw [hg];exact Nat.ne_of_lt (Zu (g:=af) (o:= .cells #[.int .i64 ag,.int .i64 aj,.int .i64 ah,.slice (some ar) ab.length aw] 24 (0,0)) (zK ac)):af≠ao));have bj:=Za.mk ((by rw [hg];exact Nat.ne_of_gt (Zu (g:=af) (o:= .cells #[.int .i64 ag,.int .i64 aj,.int .i64 ah,.slice (some ar) ab.length aw] 24 (0,0)) (zK ac)):ao≠af));replace ac:=Za.mk (Zj (g:=af) (zK ac) hb);clear hb hbox hg;have lz:=bj.out;have ma:=az.out;obtain⟨fb,fc⟩:=zq2 ae.out;obtain⟨fd,fe⟩:=zf2 ae.out)|((with_reducible refine Zl1 (f:=38) rfl ?_);refine goesL_ (some 50) rfl rfl Try.func38 (by kernel_rfl) rfl #[.int .u32 aq,.int .i64 ((Zb ab aa).f0)] rfl (by (try simp only [List.map_toArray,List.map_cons,List.map_nil]);first|done|rfl|(simp only [List.length_drop,List.length_take];rfl)) ?_;(with_reducible refine(Ze2.calls aq ((Zb ab aa).f0) true _ lw.out).mono ?_);rintro e w' ⟨rfl,⟨nd,rfl⟩⟩;refine⟨_,rfl,?_⟩))
       go_loopg [6,7,55] k3 (fun kq v6 v7 v55 w'=>∃(al:List Int) (ax:Int) (ap:Int),v7= .int .u32 ax∧v55= .int .i64 ap∧Za (Zo.l2 kq aq al ax ak ab (ab.length:Int) aa ((Zb ab aa).f1) (((Zb ab aa).f1).length:Int) ap ag aj ah ab ((Zb ab aa).f0) ((Zb ab aa).f1)=some r)∧Za (kq≤k3)∧Za (Kd.R (Kd.int .i64) 3 w' w.heap.size (fun _=>True) v6 al)∧Za (w'.heap[af]? =some (.cells #[.int .i64 ag,.int .i64 aj,.int .i64 ah,(.slice (some ar) ab.length aw)] 24 (0,0)))∧Za (w'.heap[ao]? =some (.cells #[.int .i64 ((Zb ab aa).f0),(.slice dd ((Zb ab aa).f1).length an)] 41 (0,0)))∧Za (Below w.heap.size w w'))
       case atStart=>exact⟨(cb),(cd),(0),(by first|rfl|(simp;done)|(simp [*];done)),(by first|rfl|(simp;done)|(simp [*];done)),H',⟨Nat.le_refl _⟩,⟨by (with_reducible repeat(first|apply Kd.R_alloc|apply Kd.R_drewN|apply Kd.R_drew));exact Kd.R_mono (Kd.R_far (p:=⟨ao,1,none⟩) (Kd.R_far (p:=⟨ao,0,none⟩) (Kd.R_types ai.out ae.out (by decide)) (fun _ hk=>hk.2) (.int .i64 ((Zb ab aa).f0))) (fun _ hk=>hk.2) (.slice dd ((Zb ab aa).f1).length an)) (fun _ hk=>trivial)⟩,⟨by (with_reducible repeat(first|refine Zn ?_ _|refine Zi ?_|refine Zm ?_ _));refine Zv ?_ az.out _;(with_reducible repeat(first|refine Zn ?_ _|refine Zi ?_|refine Zm ?_ _));refine Zv ?_ az.out _;(with_reducible repeat(first|apply zb3|apply zb2|apply zb1));exact ac.out⟩,⟨by (with_reducible repeat(first|refine Zn ?_ _|refine Zi ?_|refine Zm ?_ _));refine Zs1 (cs:=#[.int .i64 ((Zb ab aa).f0),.slice none 0 0]) ?_ 1 _ rfl;(with_reducible repeat(first|refine Zn ?_ _|refine Zi ?_|refine Zm ?_ _));refine Zs1 (cs:=#[.int .i64 0,.slice none 0 0]) ?_ 0 _ rfl;(with_reducible repeat(first|apply zb3|apply zb2|apply zb1));exact ae.out⟩,⟨zH HB⟩⟩
       case round=>
        (clear H');(try clear c1);(try clear c2);(try clear p2);(try clear c3);(try clear p3);(try clear q3);(try clear lv);(try clear c5);(try clear p6);(try clear dq);(try clear eo);(try clear bu);(try clear dt);(try clear es);(try clear eu);(try clear fp);(try clear ie);(try clear ig);(try clear il);(try clear nt);(try clear cp cq cu cw du dv dw dx fb fc cf cg ch ci cy da db dc dy dz ea ec fd fe cj ck cm cn);(try clear bq);(try clear bh);(try clear bi);(try clear p2);(try clear p3);(try clear ef);(try clear dh);(try clear q3);(try clear eh);(try clear di);(obtain⟨al,ax,ap,rfl,rfl,HA,ek,ai,ac,ae,HB⟩:=hrel)
        cases gk with
        |zero=>exact absurd HA.out (by simp [Zo.l2])
        |succ k4=>
         (have H:=HA.out);(clear HA);(simp only [Zo.l2] at H)
         by_cases gw:ap < (((Zb ab aa).f1).length:Int)
         rotate_left
         ·rw [if_neg gw] at H
          (have iq:decide (ap < (((Zb ab aa).f1).length:Int))=false:=decide_eq_false gw);(clear gw);(have H':=Za.mk H);(clear H)
          go_wp2
          go_roundg k4
          case measure=>have:=co.out;have:=bf.out;have:=dg.out;have:=ek.out;omega
          case rel=>exact⟨(al),(ax),(wrap64 (aa + 1)),(by first|rfl|(simp;done)|(simp [*];done)),(by first|rfl|(simp;done)|(simp [*];done)),H',⟨by have:=co.out;have:=bf.out;have:=dg.out;have:=ek.out;omega⟩,⟨zR ai⟩,⟨zK ac⟩,⟨zH HB⟩⟩
         (rw [if_pos gw] at H);(have iq:decide (ap < (((Zb ab aa).f1).length:Int))=true:=decide_eq_true gw);(clear gw)
         by_cases jw:0≤ap
         rotate_left
         ·rw [if_neg jw] at H
          exact absurd H (by simp)
         (rw [if_pos jw] at H);(have mb:decide (0≤ap)=true:=decide_eq_true jw);(clear jw)
         by_cases jx:ap < (((Zb ab aa).f1).length:Int)
         rotate_left
         ·rw [if_neg jx] at H
          exact absurd H (by simp)
         (rw [if_pos jx] at H);(have mc:decide (ap < (((Zb ab aa).f1).length:Int))=true:=decide_eq_true jx);(clear jx)
         by_cases jy:0≤ak
         rotate_left
         ·rw [if_neg jy] at H
          exact absurd H (by simp)
         (rw [if_pos jy] at H);(have me:decide (0≤ak)=true:=decide_eq_true jy);(clear jy)
         by_cases jz:ak < (al.length:Int)
         rotate_left
         ·rw [if_neg jz] at H
          exact absurd H (by simp)
         (rw [if_pos jz] at H);(have mf:decide (ak < (al.length:Int))=true:=decide_eq_true jz);(clear jz)
         by_cases gc:(rd ((Zb ab aa).f1) ap)=(wrap64 (ag + (rd al ak)))
         rotate_left
         ·rw [if_neg gc] at H
          (have ir:((rd ((Zb ab aa).f1) ap) == (wrap64 (ag + (rd al ak))))=false:=beq_eq_false_iff_ne.mpr gc);(have iu:((rd ((Zb ab aa).f1) ap) != (wrap64 (ag + (rd al ak))))=true:=bne_iff_ne.mpr gc);(have H':=Za.mk H);(clear H);(have bm:0≤(ap:Int):=zD);(have bn:ap < (((Zb ab aa).f1).length:Int):=zD);(obtain⟨av,dn,ba⟩:=Kd.at_int bd.out ap bm bn);(cases dn);(replace ba:=zX HB ba);(replace bm:=eq_true bm);(replace bn:=eq_true bn)
          try go_wp2
          (replace ai:=Za.mk (Kd.R_drew ai.out));(replace ac:=Za.mk (Zi ac.out));(replace ae:=Za.mk (Zi ae.out));(replace HB:=Za.mk (Zz1 HB.out));(obtain⟨mw,my,iv⟩:=Kd.R_slice ai.out)
          (first|subst iv|(injection iv with f1_ f2_ f3_;have f4_:=f1_.symm;have f5_:=f3_.symm;clear f1_ f2_ f3_;subst f4_;subst f5_))
          (have bo:0≤(ak:Int):=zD);(have bp:ak < (al.length:Int):=zD);(obtain⟨bl,dp,bb⟩:=Kd.at_int (Kd.R_reads' ai.out).2.2 ak bo bp);(cases dp);(replace bo:=eq_true bo);(replace bp:=eq_true bp)
          refine start_ (n:=9) (S:=fun w'=>w'.cell? ⟨af,0,none⟩=some (.int .i64 ag)∧w'.cell? ⟨af,1,none⟩=some (.int .i64 aj)∧w'.cell? ⟨af,2,none⟩=some (.int .i64 ah)∧w'.cell? ⟨af,3,none⟩=some (.slice (some ar) ab.length aw)∧w'.cell? (bl.add (ak).toNat)=some (.int .i64 (rd al ak))) (ds:=[]) #[false,false,false,false,false,false,false,false,false] (by kernel_rfl) rfl rfl ⟨(Zf ac.out 0).trans rfl,(Zf ac.out 1).trans rfl,(Zf ac.out 2).trans rfl,(Zf ac.out 3).trans rfl,bb⟩ (fun hHeld=>?_);refine Zc2 Zo.tab18 Zo.bits18 (fun HT_ HW_=>?_)
          generalize wr.drew=nu at ai ac ae HB bb hHeld ⊢
          refine zP 0 (some 60) (zt 9 1) (Ze HT_.out (by kernel_rfl)) ?_
          refine zP 1 (some 61) (zt 9 3) (Ze HT_.out (by kernel_rfl)) ?_
          refine zP 3 (some 63) (zt 9 11) (Ze HT_.out (by kernel_rfl)) ?_
          refine zP 4 (some 64) (zt 9 27) (Ze HT_.out (by kernel_rfl)) ?_
          refine zP 5 (some 65) (zt 9 59) (Ze HT_.out (by kernel_rfl)) ?_
          refine take_ (i:=2) (N:=some 62) (v:=?_) (a':=?_) #[true,true,true,true,true,true,false,false,false] rfl rfl (Zi1 HT_.out HW_.out (by kernel_rfl)) (fun _ _ _ h=>h) (Or.inl ⟨by rfl,?_⟩) hHeld ?_ ?_
          rotate_left
          ·rintro w' ⟨s0,s1,s2,s3,s4⟩
           go_simp
           with_reducible rfl
          rotate_left
          ·simp only [Act.put,zp1,zp2,zp3,Zc,Zd]
           rfl
          refine take_ (i:=6) (N:=some 66) (v:=?_) (a':=?_) #[true,true,true,true,true,true,true,false,false] rfl rfl (Zi1 HT_.out HW_.out (by kernel_rfl)) (fun _ _ _ h=>h) (Or.inl ⟨by rfl,?_⟩) hHeld ?_ ?_
          rotate_left
          ·rintro w' ⟨s0,s1,s2,s3,s4⟩
           go_simp
           with_reducible rfl
          rotate_left
          ·simp only [Act.put,zp1,zp2,zp3,Zc,Zd]
           rfl
          refine zP 7 (some 67) (zt 9 255) (Ze HT_.out (by kernel_rfl)) ?_
          refine zP 8 (some 68) (zt 9 511) (Ze HT_.out (by kernel_rfl)) ?_
          refine done_ (done_of HT_.out (by kernel_rfl)) ?_
          try go_wp2
          go_roundg k4
          case measure=>have:=co.out;have:=bf.out;have:=dg.out;have:=ek.out;omega
          case rel=>exact⟨(al),(ax),(wrap64 (ap + 1)),(by first|rfl|(simp;done)|(simp [*];done)),(by first|rfl|(simp;done)|(simp [*];done)),H',⟨by have:=co.out;have:=bf.out;have:=dg.out;have:=ek.out;omega⟩,⟨zR ai⟩,⟨zK ac⟩,⟨zK ae⟩,⟨zH HB⟩⟩
         (rw [if_pos gc] at H);(have ir:((rd ((Zb ab aa).f1) ap) == (wrap64 (ag + (rd al ak))))=true:=beq_iff_eq.mpr gc);(have iu:((rd ((Zb ab aa).f1) ap) != (wrap64 (ag + (rd al ak))))=false:=bne_eq_false_iff_eq.mpr gc);(clear gc);(obtain⟨am,bc⟩ : ∃j_:Int,(wrap64 (ap + 1))=j_:=⟨_,rfl⟩);(replace H:(if 0≤(am) then(if(am)≤(((Zb ab aa).f1).length:Int) then((some (((Zb ab aa).f1).drop ((am):Int).toNat:List Int)).bind fun au=>((Zy.f k4 ag aj ah ab au).bind fun ay=>((Zq1.f k4 ag aj ah ab au).bind fun dj=>(if dj=true then((Za1.f k4 al ((Zb ab aa).f0)).bind fun bw=>(if bw=true then(Zo.l2 k4 aq al (Go.bits .or .u32 ax ay) ak ab (ab.length:Int) aa ((Zb ab aa).f1) (((Zb ab aa).f1).length:Int) am ag aj ah ab ((Zb ab aa).f0) ((Zb ab aa).f1)) else(if al.length < 17592186044416 then(Zo.l2 k4 aq (al++[((Zb ab aa).f0)]) (Go.bits .or .u32 ax ay) ak ab (ab.length:Int) aa ((Zb ab aa).f1) (((Zb ab aa).f1).length:Int) am ag aj ah ab ((Zb ab aa).f0) ((Zb ab aa).f1)) else(none)))) else(Zo.l2 k4 aq al (Go.bits .or .u32 ax ay) ak ab (ab.length:Int) aa ((Zb ab aa).f1) (((Zb ab aa).f1).length:Int) am ag aj ah ab ((Zb ab aa).f0) ((Zb ab aa).f1)))))) else(none)) else(none))=some r:=by first|(rw [bc] at H;exact H)|(simp only [bc] at H ⊢;exact H))
         have kx:(IntKind.i64.wrap (ap + 1))=am:=(Zc _).trans bc
         by_cases iw:0≤(am)
         rotate_left
         ·rw [if_neg iw] at H
          exact absurd H (by simp)
         (rw [if_pos iw] at H);(have mg:=eq_true iw);(have mh:decide (0≤(am))=true:=decide_eq_true iw);(clear iw)
         by_cases ix:(am)≤(((Zb ab aa).f1).length:Int)
         rotate_left
         ·rw [if_neg ix] at H
          exact absurd H (by simp)
         (rw [if_pos ix] at H);(have mi:=eq_true ix);(have ml:decide ((am)≤(((Zb ab aa).f1).length:Int))=true:=decide_eq_true ix);(clear ix);(obtain⟨au,dk⟩ : ∃y_:List Int,y_=(((Zb ab aa).f1).drop ((am):Int).toNat):=⟨_,rfl⟩);(replace H:((Zy.f k4 ag aj ah ab au).bind fun ay=>((Zq1.f k4 ag aj ah ab au).bind fun dj=>(if dj=true then((Za1.f k4 al ((Zb ab aa).f0)).bind fun bw=>(if bw=true then(Zo.l2 k4 aq al (Go.bits .or .u32 ax ay) ak ab (ab.length:Int) aa ((Zb ab aa).f1) (((Zb ab aa).f1).length:Int) am ag aj ah ab ((Zb ab aa).f0) ((Zb ab aa).f1)) else(if al.length < 17592186044416 then(Zo.l2 k4 aq (al++[((Zb ab aa).f0)]) (Go.bits .or .u32 ax ay) ak ab (ab.length:Int) aa ((Zb ab aa).f1) (((Zb ab aa).f1).length:Int) am ag aj ah ab ((Zb ab aa).f0) ((Zb ab aa).f1)) else(none)))) else(Zo.l2 k4 aq al (Go.bits .or .u32 ax ay) ak ab (ab.length:Int) aa ((Zb ab aa).f1) (((Zb ab aa).f1).length:Int) am ag aj ah ab ((Zb ab aa).f0) ((Zb ab aa).f1)))))=some r:=by first|(rw [dk];with_reducible exact H)|(have H2_:=(Option.bind_some _ _).symm.trans H;rw [dk];with_reducible exact H2_)|(have H2_:=(Option.bind_some _ _).symm.trans H;with_reducible exact H2_)|with_reducible exact H|(rw [dk];exact H)|exact H)
         (have ce:=Za.mk dk);(clear dk);(replace H:=Option.bind_eq_some_iff.mp H);(obtain⟨ay,iy,H⟩:=H);(replace H:((Zq1.f k4 ag aj ah ab au).bind fun dj=>(if dj=true then((Za1.f k4 al ((Zb ab aa).f0)).bind fun bw=>(if bw=true then(Zo.l2 k4 aq al (Go.bits .or .u32 ax ay) ak ab (ab.length:Int) aa ((Zb ab aa).f1) (((Zb ab aa).f1).length:Int) am ag aj ah ab ((Zb ab aa).f0) ((Zb ab aa).f1)) else(if al.length < 17592186044416 then(Zo.l2 k4 aq (al++[((Zb ab aa).f0)]) (Go.bits .or .u32 ax ay) ak ab (ab.length:Int) aa ((Zb ab aa).f1) (((Zb ab aa).f1).length:Int) am ag aj ah ab ((Zb ab aa).f0) ((Zb ab aa).f1)) else(none)))) else(Zo.l2 k4 aq al (Go.bits .or .u32 ax ay) ak ab (ab.length:Int) aa ((Zb ab aa).f1) (((Zb ab aa).f1).length:Int) am ag aj ah ab ((Zb ab aa).f0) ((Zb ab aa).f1))))=some r:=H);(have ky:=Za.mk iy);(clear iy);(replace H:=Option.bind_eq_some_iff.mp H);(obtain⟨dj,iz,H⟩:=H);(replace H:(if dj=true then((Za1.f k4 al ((Zb ab aa).f0)).bind fun bw=>(if bw=true then(Zo.l2 k4 aq al (Go.bits .or .u32 ax ay) ak ab (ab.length:Int) aa ((Zb ab aa).f1) (((Zb ab aa).f1).length:Int) am ag aj ah ab ((Zb ab aa).f0) ((Zb ab aa).f1)) else(if al.length < 17592186044416 then(Zo.l2 k4 aq (al++[((Zb ab aa).f0)]) (Go.bits .or .u32 ax ay) ak ab (ab.length:Int) aa ((Zb ab aa).f1) (((Zb ab aa).f1).length:Int) am ag aj ah ab ((Zb ab aa).f0) ((Zb ab aa).f1)) else(none)))) else(Zo.l2 k4 aq al (Go.bits .or .u32 ax ay) ak ab (ab.length:Int) aa ((Zb ab aa).f1) (((Zb ab aa).f1).length:Int) am ag aj ah ab ((Zb ab aa).f0) ((Zb ab aa).f1)))=some r:=H)
         (have gq:=Za.mk iz);(clear iz)
         by_cases ka:dj=true
         rotate_left
         ·replace ka:=Bool.eq_false_iff.mpr ka
          (subst ka);(have H1:(Zo.l2 k4 aq al (Go.bits .or .u32 ax ay) ak ab (ab.length:Int) aa ((Zb ab aa).f1) (((Zb ab aa).f1).length:Int) am ag aj ah ab ((Zb ab aa).f0) ((Zb ab aa).f1))=some r:=by rw [if_neg (show ¬ (false=true) by decide)] at H;exact H);(clear H);(have H:=H1);(clear H1);(have H':=Za.mk H);(clear H);(have bm:0≤(ap:Int):=zD);(have bn:ap < (((Zb ab aa).f1).length:Int):=zD);(obtain⟨av,dn,ba⟩:=Kd.at_int bd.out ap bm bn);(cases dn);(replace ba:=zX HB ba);(replace bm:=eq_true bm);(replace bn:=eq_true bn)
          try go_wp2
          (replace ai:=Za.mk (Kd.R_drew ai.out));(replace ac:=Za.mk (Zi ac.out));(replace ae:=Za.mk (Zi ae.out));(replace HB:=Za.mk (Zz1 HB.out));(obtain⟨mz,na,ja⟩:=Kd.R_slice ai.out)
          (first|subst ja|(injection ja with f1_ f2_ f3_;have f4_:=f1_.symm;have f5_:=f3_.symm;clear f1_ f2_ f3_;subst f4_;subst f5_))
          (have bo:0≤(ak:Int):=zD);(have bp:ak < (al.length:Int):=zD);(obtain⟨bl,dp,bb⟩:=Kd.at_int (Kd.R_reads' ai.out).2.2 ak bo bp);(cases dp);(replace bo:=eq_true bo);(replace bp:=eq_true bp)
          refine start_ (n:=9) (S:=fun w'=>w'.cell? ⟨af,0,none⟩=some (.int .i64 ag)∧w'.cell? ⟨af,1,none⟩=some (.int .i64 aj)∧w'.cell? ⟨af,2,none⟩=some (.int .i64 ah)∧w'.cell? ⟨af,3,none⟩=some (.slice (some ar) ab.length aw)∧w'.cell? (bl.add (ak).toNat)=some (.int .i64 (rd al ak))) (ds:=[]) #[false,false,false,false,false,false,false,false,false] (by kernel_rfl) rfl rfl ⟨(Zf ac.out 0).trans rfl,(Zf ac.out 1).trans rfl,(Zf ac.out 2).trans rfl,(Zf ac.out 3).trans rfl,bb⟩ (fun hHeld=>?_);refine Zc2 Zo.tab18 Zo.bits18 (fun HT_ HW_=>?_)
          generalize wr.drew=nb at ai ac ae HB bb hHeld ⊢
          refine zP 0 (some 60) (zt 9 1) (Ze HT_.out (by kernel_rfl)) ?_
          refine zP 1 (some 61) (zt 9 3) (Ze HT_.out (by kernel_rfl)) ?_
          refine zP 3 (some 63) (zt 9 11) (Ze HT_.out (by kernel_rfl)) ?_
          refine zP 4 (some 64) (zt 9 27) (Ze HT_.out (by kernel_rfl)) ?_
          refine zP 5 (some 65) (zt 9 59) (Ze HT_.out (by kernel_rfl)) ?_
          refine take_ (i:=2) (N:=some 62) (v:=?_) (a':=?_) #[true,true,true,true,true,true,false,false,false] rfl rfl (Zi1 HT_.out HW_.out (by kernel_rfl)) (fun _ _ _ h=>h) (Or.inl ⟨by rfl,?_⟩) hHeld ?_ ?_
          rotate_left
          ·rintro w' ⟨s0,s1,s2,s3,s4⟩
           go_simp
           with_reducible rfl
          rotate_left
          ·simp only [Act.put,zp1,zp2,zp3,Zc,Zd]
           rfl
          refine take_ (i:=6) (N:=some 66) (v:=?_) (a':=?_) #[true,true,true,true,true,true,true,false,false] rfl rfl (Zi1 HT_.out HW_.out (by kernel_rfl)) (fun _ _ _ h=>h) (Or.inl ⟨by rfl,?_⟩) hHeld ?_ ?_
          rotate_left
          ·rintro w' ⟨s0,s1,s2,s3,s4⟩
           go_simp
           with_reducible rfl
          rotate_left
          ·simp only [Act.put,zp1,zp2,zp3,Zc,Zd]
           rfl
          refine zP 7 (some 67) (zt 9 255) (Ze HT_.out (by kernel_rfl)) ?_
          refine zP 8 (some 68) (zt 9 511) (Ze HT_.out (by kernel_rfl)) ?_
          refine done_ (done_of HT_.out (by kernel_rfl)) ?_
          try go_wp2
          (replace ai:=Za.mk (Kd.R_drew ai.out));(replace ac:=Za.mk (Zi ac.out));(replace ae:=Za.mk (Zi ae.out));(replace HB:=Za.mk (Zz1 HB.out));(have kz:((am):Int)≤((((Zb ab aa).f1).length:Int):Int):=zD);(obtain⟨i065,fq,_,hsz65,_⟩:=info_parts info3);(have hroom65:((Zb ab aa).f1).length≤an:=bx.out);(have hC65:Kd.C (Kd.int .i64) _ (some av) ((Zb ab aa).f1).length ((Zb ab aa).f1):=bd.out);(have la:(0:Int)≤((am):Int):=zD);(have gh:=cut_from (P:=Try.prog) 25 3 .i64 Try.underlying25 fq 1 hsz65 (some av) ((Zb ab aa).f1).length an (am) la kz);(have ey:=Kd.C_drop (m:=((am):Int).toNat) (c:=an) hC65 (by omega) hroom65);(obtain⟨lc,hA65⟩ : ∃Aq_,Aq_=(if an=((am):Int).toNat then(some av) else((some av):Option Addr).map (·.add (((am):Int).toNat * 1))):=⟨_,rfl⟩);(obtain⟨ld,gi⟩ : ∃cq_,cq_=an - ((am):Int).toNat:=⟨_,rfl⟩);(have ff:au.length=((Zb ab aa).f1).length - ((am):Int).toNat:=(by rw [ce.out,List.length_drop] <;> omega));(rw [show(((Zb ab aa).f1)).drop ((am):Int).toNat=au from ce.out.symm] at ey);(replace ey:Kd.C (Kd.int .i64) _ lc au.length au:=(by rw [hA65];exact ey));(rw [← ff,← hA65,← gi] at gh);(have bg:=Za.mk ey);(have bv:=Za.mk (show au.length≤ld from by rw [ff,gi];exact Nat.sub_le_sub_right hroom65 _))
          (clear ey hC65 hroom65 fq hsz65 gi);(have KY65:=Za.mk ff);(have KA65:=Za.mk hA65);(clear ff hA65);(replace kz:=eq_true kz)
          refine start_ (n:=10) (S:=fun w'=>w'.cell? ⟨af,0,none⟩=some (.int .i64 ag)∧w'.cell? ⟨af,1,none⟩=some (.int .i64 aj)∧w'.cell? ⟨af,2,none⟩=some (.int .i64 ah)∧w'.cell? ⟨af,3,none⟩=some (.slice (some ar) ab.length aw)∧w'.cell? ⟨ao,0,none⟩=some (.int .i64 ((Zb ab aa).f0))∧w'.cell? ⟨ao,1,none⟩=some (.slice (some av) ((Zb ab aa).f1).length an)) (ds:=[]) #[false,false,false,false,false,false,false,false,false,false] (by kernel_rfl) rfl rfl ⟨(Zf ac.out 0).trans rfl,(Zf ac.out 1).trans rfl,(Zf ac.out 2).trans rfl,(Zf ac.out 3).trans rfl,(Zf ae.out 0).trans rfl,(Zf ae.out 1).trans rfl⟩ (fun hHeld=>?_);refine Zc2 Zo.tab19 Zo.bits19 (fun HT_ HW_=>?_)
          generalize nb.drew=w64 at ai ac ae HB bg hHeld ⊢
          refine zP 0 (some 69) (zt 10 1) (Ze HT_.out (by kernel_rfl)) ?_
          refine zP 2 (some 71) (zt 10 5) (Ze HT_.out (by kernel_rfl)) ?_
          refine zP 4 (some 73) (zt 10 21) (Ze HT_.out (by kernel_rfl)) ?_
          refine zP 5 (some 74) (zt 10 53) (Ze HT_.out (by kernel_rfl)) ?_
          refine take_ (i:=1) (N:=some 70) (v:=?_) (a':=?_) #[true,true,true,false,true,true,false,false,false,false] rfl rfl (Zi1 HT_.out HW_.out (by kernel_rfl)) (fun _ _ _ h=>h) (Or.inl ⟨by rfl,?_⟩) hHeld ?_ ?_
          rotate_left
          ·rintro w' ⟨s0,s1,s2,s3,s4,s5⟩
           go_simp
           with_reducible rfl
          rotate_left
          ·simp only [Act.put,zp1,zp2,zp3,Zc,Zd]
           rfl
          refine take_ (i:=3) (N:=some 72) (v:=?_) (a':=?_) #[true,true,true,true,true,true,false,false,false,false] rfl rfl (Zi1 HT_.out HW_.out (by kernel_rfl)) (fun _ _ _ h=>h) (Or.inl ⟨by rfl,?_⟩) hHeld ?_ ?_
          rotate_left
          ·rintro w' ⟨s0,s1,s2,s3,s4,s5⟩
           go_simp
           with_reducible rfl
          rotate_left
          ·simp only [Act.put,zp1,zp2,zp3,Zc,Zd]
           rfl
          refine zP 6 (some 75) (zt 10 127) (Ze HT_.out (by kernel_rfl)) ?_
          refine one_ (i:=7) (N:=some 76) #[true,true,true,true,true,true,true,true,false,false] rfl rfl (one_of HT_.out (by kernel_rfl)) (by decide) (fun K hK=>?_)
          refine goes_ Try.func26 (by kernel_rfl) rfl #[.agg #[.int .i64 ag,.int .i64 aj,.int .i64 ah,.slice (some ar) ab.length aw],.slice lc au.length ld] (by rfl) rfl rfl (by (try simp only [List.map_toArray,List.map_cons,List.map_nil]);first|done|rfl|(simp only [List.length_drop,List.length_take];rfl)) ?_
          with_reducible refine(Zy.calls k4 ag aj ah _ _ ab _ _ au ay _ ?side1 ?side2 ?side3 ?side4 ky.out).mono ?_
          (case side1=>exact zC bk HB)
          (case side2=>exact bt.out)
          (case side3=>exact zC bg HB)
          (case side4=>exact bv.out)
          rintro e nc ⟨rfl,hb⟩
          refine⟨_,rfl,?_⟩
          (replace ai:=Za.mk (Kd.R_below (zR ai) hb));(replace ac:=Za.mk (Zj (g:=af) (zK ac) hb));(replace ae:=Za.mk (Zj (g:=ao) (zK ae) hb));(replace HB:=Za.mk (Zh (zH HB) hb));((try clear hb));((try clear hb2));((try clear hk));((try clear hi))
          refine hK.out _ _ ⟨(Zf ac.out 0).trans rfl,(Zf ac.out 1).trans rfl,(Zf ac.out 2).trans rfl,(Zf ac.out 3).trans rfl,(Zf ae.out 0).trans rfl,(Zf ae.out 1).trans rfl⟩ (fun hHeld=>?_)
          clear hK K
          refine norm_ (a':=?_) ?_ ?_
          rotate_left
          ·show Act.put _ (some 76) _=_
           simp only [Act.put,zp1,zp2,zp3,Zc,Zd]
           rfl
          refine zP 8 (some 77) (zt 10 511) (Ze HT_.out (by kernel_rfl)) ?_
          refine zP 9 (some 7) (zt 10 1023) (Ze HT_.out (by kernel_rfl)) ?_
          refine done_ (done_of HT_.out (by kernel_rfl)) ?_
          try go_wp2
          (replace ai:=Za.mk (Kd.R_drew ai.out));(replace ac:=Za.mk (Zi ac.out));(replace ae:=Za.mk (Zi ae.out));(replace HB:=Za.mk (Zz1 HB.out))
          refine start_ (n:=14) (S:=fun w'=>w'.cell? ⟨af,0,none⟩=some (.int .i64 ag)∧w'.cell? ⟨af,1,none⟩=some (.int .i64 aj)∧w'.cell? ⟨af,2,none⟩=some (.int .i64 ah)∧w'.cell? ⟨af,3,none⟩=some (.slice (some ar) ab.length aw)∧w'.cell? ⟨ao,0,none⟩=some (.int .i64 ((Zb ab aa).f0))∧w'.cell? ⟨ao,1,none⟩=some (.slice (some av) ((Zb ab aa).f1).length an)) (ds:=[]) #[false,false,false,false,false,false,false,false,false,false,false,false,false,false] (by kernel_rfl) rfl rfl ⟨(Zf ac.out 0).trans rfl,(Zf ac.out 1).trans rfl,(Zf ac.out 2).trans rfl,(Zf ac.out 3).trans rfl,(Zf ae.out 0).trans rfl,(Zf ae.out 1).trans rfl⟩ (fun hHeld=>?_);refine Zc2 Zo.tab20 Zo.bits20 (fun HT_ HW_=>?_)
          generalize nc.drew=nv at ai ac ae HB hHeld ⊢
          refine zP 1 (some 79) (zt 14 2) (Ze HT_.out (by kernel_rfl)) ?_
          refine zP 3 (some 81) (zt 14 10) (Ze HT_.out (by kernel_rfl)) ?_
          refine zP 4 (some 82) (zt 14 26) (Ze HT_.out (by kernel_rfl)) ?_
          refine take_ (i:=0) (N:=some 78) (v:=?_) (a':=?_) #[true,true,false,true,true,false,false,false,false,false,false,false,false,false] rfl rfl (Zi1 HT_.out HW_.out (by kernel_rfl)) (fun _ _ _ h=>h) (Or.inl ⟨by rfl,?_⟩) hHeld ?_ ?_
          rotate_left
          ·rintro w' ⟨s0,s1,s2,s3,s4,s5⟩
           go_simp
           with_reducible rfl
          rotate_left
          ·simp only [Act.put,zp1,zp2,zp3,Zc,Zd]
           rfl
          refine take_ (i:=2) (N:=some 80) (v:=?_) (a':=?_) #[true,true,true,true,true,false,false,false,false,false,false,false,false,false] rfl rfl (Zi1 HT_.out HW_.out (by kernel_rfl)) (fun _ _ _ h=>h) (Or.inl ⟨by rfl,?_⟩) hHeld ?_ ?_
          rotate_left
          ·rintro w' ⟨s0,s1,s2,s3,s4,s5⟩
           go_simp
           with_reducible rfl
          rotate_left
          ·simp only [Act.put,zp1,zp2,zp3,Zc,Zd]
           rfl
          refine zP 5 (some 83) (zt 14 63) (Ze HT_.out (by kernel_rfl)) ?_
          refine one_ (i:=6) (N:=some 84) #[true,true,true,true,true,true,true,false,false,false,false,false,false,false] rfl rfl (one_of HT_.out (by kernel_rfl)) (by decide) (fun K hK=>?_)
          refine goes_ Try.func27 (by kernel_rfl) rfl #[.agg #[.int .i64 ag,.int .i64 aj,.int .i64 ah,.slice (some ar) ab.length aw],.slice lc au.length ld] (by rfl) rfl rfl (by (try simp only [List.map_toArray,List.map_cons,List.map_nil]);first|done|rfl|(simp only [List.length_drop,List.length_take];rfl)) ?_
          with_reducible refine(Zq1.calls k4 ag aj ah _ _ ab _ _ au false _ ?side1 ?side2 ?side3 ?side4 gq.out).mono ?_
          (case side1=>exact zC bk HB)
          (case side2=>exact bt.out)
          (case side3=>exact zC bg HB)
          (case side4=>exact bv.out)
          rintro e nw ⟨rfl,hb⟩
          refine⟨_,rfl,?_⟩
          (replace ai:=Za.mk (Kd.R_below (zR ai) hb));(replace ac:=Za.mk (Zj (g:=af) (zK ac) hb));(replace ae:=Za.mk (Zj (g:=ao) (zK ae) hb));(replace HB:=Za.mk (Zh (zH HB) hb));((try clear hb));((try clear hb2));((try clear hk));((try clear hi))
          refine hK.out _ _ ⟨(Zf ac.out 0).trans rfl,(Zf ac.out 1).trans rfl,(Zf ac.out 2).trans rfl,(Zf ac.out 3).trans rfl,(Zf ae.out 0).trans rfl,(Zf ae.out 1).trans rfl⟩ (fun hHeld=>?_)
          clear hK K
          refine norm_ (a':=?_) ?_ ?_
          rotate_left
          ·show Act.put _ (some 84) _=_
           simp only [Act.put,zp1,zp2,zp3,Zc,Zd]
           rfl
          refine zP 7 (some 85) (zt 14 255) (Ze HT_.out (by kernel_rfl)) ?_
          refine pure_ (i:=8) (N:=some 86) (v:=undef) (a':=?_) #[true,true,true,true,true,true,true,true,true,false,false,false,false,false] rfl rfl (Ze HT_.out (by kernel_rfl)) (fun _ _ _ h=>h) (Or.inr ⟨by rfl,rfl⟩) ?_ ?_
          rotate_left
          ·simp only [Act.put,zp1,zp2,zp3,Zc,Zd]
           rfl
          refine pure_ (i:=9) (N:=some 87) (v:=undef) (a':=?_) #[true,true,true,true,true,true,true,true,true,true,false,false,false,false] rfl rfl (Ze HT_.out (by kernel_rfl)) (fun _ _ _ h=>h) (Or.inr ⟨by rfl,rfl⟩) ?_ ?_
          rotate_left
          ·simp only [Act.put,zp1,zp2,zp3,Zc,Zd]
           rfl
          refine pure_ (i:=10) (N:=some 88) (v:=undef) (a':=?_) #[true,true,true,true,true,true,true,true,true,true,true,false,false,false] rfl rfl (Ze HT_.out (by kernel_rfl)) (fun _ _ _ h=>h) (Or.inr ⟨by rfl,rfl⟩) ?_ ?_
          rotate_left
          ·simp only [Act.put,zp1,zp2,zp3,Zc,Zd]
           rfl
          refine pure_ (i:=11) (N:=some 89) (v:=undef) (a':=?_) #[true,true,true,true,true,true,true,true,true,true,true,true,false,false] rfl rfl (Ze HT_.out (by kernel_rfl)) (fun _ _ _ h=>h) (Or.inr ⟨by rfl,rfl⟩) ?_ ?_
          rotate_left
          ·simp only [Act.put,zp1,zp2,zp3,Zc,Zd]
           rfl
          refine pure_ (i:=12) (N:=some 90) (v:=undef) (a':=?_) #[true,true,true,true,true,true,true,true,true,true,true,true,true,false] rfl rfl (Ze HT_.out (by kernel_rfl)) (fun _ _ _ h=>h) (Or.inr ⟨by rfl,rfl⟩) ?_ ?_
          rotate_left
          ·simp only [Act.put,zp1,zp2,zp3,Zc,Zd]
           rfl
          refine zP 13 (some 91) (zt 14 16383) (Ze HT_.out (by kernel_rfl)) ?_
          refine done_ (done_of HT_.out (by kernel_rfl)) ?_
          try go_wp2
          (first|go_roundg k4|(simp only [← bc];go_roundg k4))
          case measure=>have:=co.out;have:=bf.out;have:=dg.out;have:=ek.out;omega
          case rel=>first|exact⟨(al),(Go.bits .or .u32 ax ay),(am),(by first|rfl|(simp;done)|(simp [*];done)),(by first|rfl|(simp;done)|(simp only [← bc] <;> (first|rfl|simp))|(simp [*];done)),H',⟨by have:=co.out;have:=bf.out;have:=dg.out;have:=ek.out;omega⟩,⟨zR ai⟩,⟨zK ac⟩,⟨zK ae⟩,⟨zH HB⟩⟩|(subst bc;exact⟨(al),(Go.bits .or .u32 ax ay),(wrap64 (ap + 1)),(by first|rfl|(simp;done)|(simp [*];done)),(by first|rfl|(simp;done)|(simp only [← bc] <;> (first|rfl|simp))|(simp [*];done)),H',⟨by have:=co.out;have:=bf.out;have:=dg.out;have:=ek.out;omega⟩,⟨zR ai⟩,⟨zK ac⟩,⟨zK ae⟩,⟨zH HB⟩⟩)
         (subst ka);(have H1:((Za1.f k4 al ((Zb ab aa).f0)).bind fun bw=>(if bw=true then(Zo.l2 k4 aq al (Go.bits .or .u32 ax ay) ak ab (ab.length:Int) aa ((Zb ab aa).f1) (((Zb ab aa).f1).length:Int) am ag aj ah ab ((Zb ab aa).f0) ((Zb ab aa).f1)) else(if al.length < 17592186044416 then(Zo.l2 k4 aq (al++[((Zb ab aa).f0)]) (Go.bits .or .u32 ax ay) ak ab (ab.length:Int) aa ((Zb ab aa).f1) (((Zb ab aa).f1).length:Int) am ag aj ah ab ((Zb ab aa).f0) ((Zb ab aa).f1)) else(none))))=some r:=by rw [if_pos rfl] at H;exact H);(clear H);(have H:=H1);(clear H1);(replace H:=Option.bind_eq_some_iff.mp H);(obtain⟨bw,jb,H⟩:=H);(replace H:(if bw=true then(Zo.l2 k4 aq al (Go.bits .or .u32 ax ay) ak ab (ab.length:Int) aa ((Zb ab aa).f1) (((Zb ab aa).f1).length:Int) am ag aj ah ab ((Zb ab aa).f0) ((Zb ab aa).f1)) else(if al.length < 17592186044416 then(Zo.l2 k4 aq (al++[((Zb ab aa).f0)]) (Go.bits .or .u32 ax ay) ak ab (ab.length:Int) aa ((Zb ab aa).f1) (((Zb ab aa).f1).length:Int) am ag aj ah ab ((Zb ab aa).f0) ((Zb ab aa).f1)) else(none)))=some r:=H);(have mm:=Za.mk jb);(clear jb)
         by_cases kd:bw=true
         ·subst kd
          (have H1:(Zo.l2 k4 aq al (Go.bits .or .u32 ax ay) ak ab (ab.length:Int) aa ((Zb ab aa).f1) (((Zb ab aa).f1).length:Int) am ag aj ah ab ((Zb ab aa).f0) ((Zb ab aa).f1))=some r:=by rw [if_pos rfl] at H;exact H);(clear H);(have H:=H1);(clear H1);(have H':=Za.mk H);(clear H);(have bm:0≤(ap:Int):=zD);(have bn:ap < (((Zb ab aa).f1).length:Int):=zD);(obtain⟨av,dn,ba⟩:=Kd.at_int bd.out ap bm bn);(cases dn);(replace ba:=zX HB ba);(replace bm:=eq_true bm);(replace bn:=eq_true bn)
          try go_wp2
          (replace ai:=Za.mk (Kd.R_drew ai.out));(replace ac:=Za.mk (Zi ac.out));(replace ae:=Za.mk (Zi ae.out));(replace HB:=Za.mk (Zz1 HB.out));(obtain⟨nf,lf,jc⟩:=Kd.R_slice ai.out)
          (first|subst jc|(injection jc with f1_ f2_ f3_;have f4_:=f1_.symm;have f5_:=f3_.symm;clear f1_ f2_ f3_;subst f4_;subst f5_))
          (have bo:0≤(ak:Int):=zD);(have bp:ak < (al.length:Int):=zD);(obtain⟨bl,dp,bb⟩:=Kd.at_int (Kd.R_reads' ai.out).2.2 ak bo bp);(cases dp);(replace bo:=eq_true bo);(replace bp:=eq_true bp)
          refine start_ (n:=9) (S:=fun w'=>w'.cell? ⟨af,0,none⟩=some (.int .i64 ag)∧w'.cell? ⟨af,1,none⟩=some (.int .i64 aj)∧w'.cell? ⟨af,2,none⟩=some (.int .i64 ah)∧w'.cell? ⟨af,3,none⟩=some (.slice (some ar) ab.length aw)∧w'.cell? (bl.add (ak).toNat)=some (.int .i64 (rd al ak))) (ds:=[]) #[false,false,false,false,false,false,false,false,false] (by kernel_rfl) rfl rfl ⟨(Zf ac.out 0).trans rfl,(Zf ac.out 1).trans rfl,(Zf ac.out 2).trans rfl,(Zf ac.out 3).trans rfl,bb⟩ (fun hHeld=>?_);refine Zc2 Zo.tab18 Zo.bits18 (fun HT_ HW_=>?_)
          generalize wr.drew=ng at ai ac ae HB bb hHeld ⊢
          refine zP 0 (some 60) (zt 9 1) (Ze HT_.out (by kernel_rfl)) ?_
          refine zP 1 (some 61) (zt 9 3) (Ze HT_.out (by kernel_rfl)) ?_
          refine zP 3 (some 63) (zt 9 11) (Ze HT_.out (by kernel_rfl)) ?_
          refine zP 4 (some 64) (zt 9 27) (Ze HT_.out (by kernel_rfl)) ?_
          refine zP 5 (some 65) (zt 9 59) (Ze HT_.out (by kernel_rfl)) ?_
          refine take_ (i:=2) (N:=some 62) (v:=?_) (a':=?_) #[true,true,true,true,true,true,false,false,false] rfl rfl (Zi1 HT_.out HW_.out (by kernel_rfl)) (fun _ _ _ h=>h) (Or.inl ⟨by rfl,?_⟩) hHeld ?_ ?_
          rotate_left
          ·rintro w' ⟨s0,s1,s2,s3,s4⟩
           go_simp
           with_reducible rfl
          rotate_left
          ·simp only [Act.put,zp1,zp2,zp3,Zc,Zd]
           rfl
          refine take_ (i:=6) (N:=some 66) (v:=?_) (a':=?_) #[true,true,true,true,true,true,true,false,false] rfl rfl (Zi1 HT_.out HW_.out (by kernel_rfl)) (fun _ _ _ h=>h) (Or.inl ⟨by rfl,?_⟩) hHeld ?_ ?_
          rotate_left
          ·rintro w' ⟨s0,s1,s2,s3,s4⟩
           go_simp
           with_reducible rfl
          rotate_left
          ·simp only [Act.put,zp1,zp2,zp3,Zc,Zd]
           rfl
          refine zP 7 (some 67) (zt 9 255) (Ze HT_.out (by kernel_rfl)) ?_
          refine zP 8 (some 68) (zt 9 511) (Ze HT_.out (by kernel_rfl)) ?_
          refine done_ (done_of HT_.out (by kernel_rfl)) ?_
          try go_wp2
          (replace ai:=Za.mk (Kd.R_drew ai.out));(replace ac:=Za.mk (Zi ac.out));(replace ae:=Za.mk (Zi ae.out));(replace HB:=Za.mk (Zz1 HB.out));(have lg:((am):Int)≤((((Zb ab aa).f1).length:Int):Int):=zD);(obtain⟨i047,ft,_,hsz47,_⟩:=info_parts info3);(have hroom47:((Zb ab aa).f1).length≤an:=bx.out);(have hC47:Kd.C (Kd.int .i64) _ (some av) ((Zb ab aa).f1).length ((Zb ab aa).f1):=bd.out);(have lh:(0:Int)≤((am):Int):=zD);(have gj:=cut_from (P:=Try.prog) 25 3 .i64 Try.underlying25 ft 1 hsz47 (some av) ((Zb ab aa).f1).length an (am) lh lg);(have ez:=Kd.C_drop (m:=((am):Int).toNat) (c:=an) hC47 (by omega) hroom47);(obtain⟨ll,hA47⟩ : ∃Aq_,Aq_=(if an=((am):Int).toNat then(some av) else((some av):Option Addr).map (·.add (((am):Int).toNat * 1))):=⟨_,rfl⟩);(obtain⟨lm,gl⟩ : ∃cq_,cq_=an - ((am):Int).toNat:=⟨_,rfl⟩);(have fg:au.length=((Zb ab aa).f1).length - ((am):Int).toNat:=(by rw [ce.out,List.length_drop] <;> omega));(rw [show(((Zb ab aa).f1)).drop ((am):Int).toNat=au from ce.out.symm] at ez);(replace ez:Kd.C (Kd.int .i64) _ ll au.length au:=(by rw [hA47];exact ez));(rw [← fg,← hA47,← gl] at gj);(have bg:=Za.mk ez);(have bv:=Za.mk (show au.length≤lm from by rw [fg,gl];exact Nat.sub_le_sub_right hroom47 _))
          (clear ez hC47 hroom47 ft hsz47 gl);(have KY47:=Za.mk fg);(have KA47:=Za.mk hA47);(clear fg hA47);(replace lg:=eq_true lg)
          refine start_ (n:=10) (S:=fun w'=>w'.cell? ⟨af,0,none⟩=some (.int .i64 ag)∧w'.cell? ⟨af,1,none⟩=some (.int .i64 aj)∧w'.cell? ⟨af,2,none⟩=some (.int .i64 ah)∧w'.cell? ⟨af,3,none⟩=some (.slice (some ar) ab.length aw)∧w'.cell? ⟨ao,0,none⟩=some (.int .i64 ((Zb ab aa).f0))∧w'.cell? ⟨ao,1,none⟩=some (.slice (some av) ((Zb ab aa).f1).length an)) (ds:=[]) #[false,false,false,false,false,false,false,false,false,false] (by kernel_rfl) rfl rfl ⟨(Zf ac.out 0).trans rfl,(Zf ac.out 1).trans rfl,(Zf ac.out 2).trans rfl,(Zf ac.out 3).trans rfl,(Zf ae.out 0).trans rfl,(Zf ae.out 1).trans rfl⟩ (fun hHeld=>?_);refine Zc2 Zo.tab19 Zo.bits19 (fun HT_ HW_=>?_)
          generalize ng.drew=nx at ai ac ae HB bg hHeld ⊢
          refine zP 0 (some 69) (zt 10 1) (Ze HT_.out (by kernel_rfl)) ?_
          refine zP 2 (some 71) (zt 10 5) (Ze HT_.out (by kernel_rfl)) ?_
          refine zP 4 (some 73) (zt 10 21) (Ze HT_.out (by kernel_rfl)) ?_
          refine zP 5 (some 74) (zt 10 53) (Ze HT_.out (by kernel_rfl)) ?_
          refine take_ (i:=1) (N:=some 70) (v:=?_) (a':=?_) #[true,true,true,false,true,true,false,false,false,false] rfl rfl (Zi1 HT_.out HW_.out (by kernel_rfl)) (fun _ _ _ h=>h) (Or.inl ⟨by rfl,?_⟩) hHeld ?_ ?_
          rotate_left
          ·rintro w' ⟨s0,s1,s2,s3,s4,s5⟩
           go_simp
           with_reducible rfl
          rotate_left
          ·simp only [Act.put,zp1,zp2,zp3,Zc,Zd]
           rfl
          refine take_ (i:=3) (N:=some 72) (v:=?_) (a':=?_) #[true,true,true,true,true,true,false,false,false,false] rfl rfl (Zi1 HT_.out HW_.out (by kernel_rfl)) (fun _ _ _ h=>h) (Or.inl ⟨by rfl,?_⟩) hHeld ?_ ?_
          rotate_left
          ·rintro w' ⟨s0,s1,s2,s3,s4,s5⟩
           go_simp
           with_reducible rfl
          rotate_left
          ·simp only [Act.put,zp1,zp2,zp3,Zc,Zd]
           rfl
          refine zP 6 (some 75) (zt 10 127) (Ze HT_.out (by kernel_rfl)) ?_
          refine one_ (i:=7) (N:=some 76) #[true,true,true,true,true,true,true,true,false,false] rfl rfl (one_of HT_.out (by kernel_rfl)) (by decide) (fun K hK=>?_)
          refine goes_ Try.func26 (by kernel_rfl) rfl #[.agg #[.int .i64 ag,.int .i64 aj,.int .i64 ah,.slice (some ar) ab.length aw],.slice ll au.length lm] (by rfl) rfl rfl (by (try simp only [List.map_toArray,List.map_cons,List.map_nil]);first|done|rfl|(simp only [List.length_drop,List.length_take];rfl)) ?_
          with_reducible refine(Zy.calls k4 ag aj ah _ _ ab _ _ au ay _ ?side1 ?side2 ?side3 ?side4 ky.out).mono ?_
          (case side1=>exact zC bk HB)
          (case side2=>exact bt.out)
          (case side3=>exact zC bg HB)
          (case side4=>exact bv.out)
          rintro e nh ⟨rfl,hb⟩
          refine⟨_,rfl,?_⟩
          (replace ai:=Za.mk (Kd.R_below (zR ai) hb));(replace ac:=Za.mk (Zj (g:=af) (zK ac) hb));(replace ae:=Za.mk (Zj (g:=ao) (zK ae) hb));(replace HB:=Za.mk (Zh (zH HB) hb));((try clear hb));((try clear hb2));((try clear hk));((try clear hi))
          refine hK.out _ _ ⟨(Zf ac.out 0).trans rfl,(Zf ac.out 1).trans rfl,(Zf ac.out 2).trans rfl,(Zf ac.out 3).trans rfl,(Zf ae.out 0).trans rfl,(Zf ae.out 1).trans rfl⟩ (fun hHeld=>?_)
          clear hK K
          refine norm_ (a':=?_) ?_ ?_
          rotate_left
          ·show Act.put _ (some 76) _=_
           simp only [Act.put,zp1,zp2,zp3,Zc,Zd]
           rfl
          refine zP 8 (some 77) (zt 10 511) (Ze HT_.out (by kernel_rfl)) ?_
          refine zP 9 (some 7) (zt 10 1023) (Ze HT_.out (by kernel_rfl)) ?_
          refine done_ (done_of HT_.out (by kernel_rfl)) ?_
          try go_wp2
          (replace ai:=Za.mk (Kd.R_drew ai.out));(replace ac:=Za.mk (Zi ac.out));(replace ae:=Za.mk (Zi ae.out));(replace HB:=Za.mk (Zz1 HB.out))
          refine start_ (n:=14) (S:=fun w'=>w'.cell? ⟨af,0,none⟩=some (.int .i64 ag)∧w'.cell? ⟨af,1,none⟩=some (.int .i64 aj)∧w'.cell? ⟨af,2,none⟩=some (.int .i64 ah)∧w'.cell? ⟨af,3,none⟩=some (.slice (some ar) ab.length aw)∧w'.cell? ⟨ao,0,none⟩=some (.int .i64 ((Zb ab aa).f0))∧w'.cell? ⟨ao,1,none⟩=some (.slice (some av) ((Zb ab aa).f1).length an)) (ds:=[]) #[false,false,false,false,false,false,false,false,false,false,false,false,false,false] (by kernel_rfl) rfl rfl ⟨(Zf ac.out 0).trans rfl,(Zf ac.out 1).trans rfl,(Zf ac.out 2).trans rfl,(Zf ac.out 3).trans rfl,(Zf ae.out 0).trans rfl,(Zf ae.out 1).trans rfl⟩ (fun hHeld=>?_);refine Zc2 Zo.tab20 Zo.bits20 (fun HT_ HW_=>?_)
          generalize nh.drew=ny at ai ac ae HB hHeld ⊢
          refine zP 1 (some 79) (zt 14 2) (Ze HT_.out (by kernel_rfl)) ?_
          refine zP 3 (some 81) (zt 14 10) (Ze HT_.out (by kernel_rfl)) ?_
          refine zP 4 (some 82) (zt 14 26) (Ze HT_.out (by kernel_rfl)) ?_
          refine take_ (i:=0) (N:=some 78) (v:=?_) (a':=?_) #[true,true,false,true,true,false,false,false,false,false,false,false,false,false] rfl rfl (Zi1 HT_.out HW_.out (by kernel_rfl)) (fun _ _ _ h=>h) (Or.inl ⟨by rfl,?_⟩) hHeld ?_ ?_
          rotate_left
          ·rintro w' ⟨s0,s1,s2,s3,s4,s5⟩
           go_simp
           with_reducible rfl
          rotate_left
          ·simp only [Act.put,zp1,zp2,zp3,Zc,Zd]
           rfl
          refine take_ (i:=2) (N:=some 80) (v:=?_) (a':=?_) #[true,true,true,true,true,false,false,false,false,false,false,false,false,false] rfl rfl (Zi1 HT_.out HW_.out (by kernel_rfl)) (fun _ _ _ h=>h) (Or.inl ⟨by rfl,?_⟩) hHeld ?_ ?_
          rotate_left
          ·rintro w' ⟨s0,s1,s2,s3,s4,s5⟩
           go_simp
           with_reducible rfl
          rotate_left
          ·simp only [Act.put,zp1,zp2,zp3,Zc,Zd]
           rfl
          refine zP 5 (some 83) (zt 14 63) (Ze HT_.out (by kernel_rfl)) ?_
          refine one_ (i:=6) (N:=some 84) #[true,true,true,true,true,true,true,false,false,false,false,false,false,false] rfl rfl (one_of HT_.out (by kernel_rfl)) (by decide) (fun K hK=>?_)
          refine goes_ Try.func27 (by kernel_rfl) rfl #[.agg #[.int .i64 ag,.int .i64 aj,.int .i64 ah,.slice (some ar) ab.length aw],.slice ll au.length lm] (by rfl) rfl rfl (by (try simp only [List.map_toArray,List.map_cons,List.map_nil]);first|done|rfl|(simp only [List.length_drop,List.length_take];rfl)) ?_
          with_reducible refine(Zq1.calls k4 ag aj ah _ _ ab _ _ au true _ ?side1 ?side2 ?side3 ?side4 gq.out).mono ?_
          (case side1=>exact zC bk HB)
          (case side2=>exact bt.out)
          (case side3=>exact zC bg HB)
          (case side4=>exact bv.out)
          rintro e nz ⟨rfl,hb⟩
          refine⟨_,rfl,?_⟩
          (replace ai:=Za.mk (Kd.R_below (zR ai) hb));(replace ac:=Za.mk (Zj (g:=af) (zK ac) hb));(replace ae:=Za.mk (Zj (g:=ao) (zK ae) hb));(replace HB:=Za.mk (Zh (zH HB) hb));((try clear hb));((try clear hb2));((try clear hk));((try clear hi))
          refine hK.out _ _ ⟨(Zf ac.out 0).trans rfl,(Zf ac.out 1).trans rfl,(Zf ac.out 2).trans rfl,(Zf ac.out 3).trans rfl,(Zf ae.out 0).trans rfl,(Zf ae.out 1).trans rfl⟩ (fun hHeld=>?_)
          clear hK K
          refine norm_ (a':=?_) ?_ ?_
          rotate_left
          ·show Act.put _ (some 84) _=_
           simp only [Act.put,zp1,zp2,zp3,Zc,Zd]
           rfl
          refine zP 7 (some 85) (zt 14 255) (Ze HT_.out (by kernel_rfl)) ?_
          refine zP 8 (some 86) (zt 14 511) (Ze HT_.out (by kernel_rfl)) ?_
          refine zP 9 (some 87) (zt 14 1023) (Ze HT_.out (by kernel_rfl)) ?_
          refine take_ (i:=10) (N:=some 88) (v:=?_) (a':=?_) #[true,true,true,true,true,true,true,true,true,true,true,false,false,false] rfl rfl (Zi1 HT_.out HW_.out (by kernel_rfl)) (fun _ _ _ h=>h) (Or.inl ⟨by rfl,?_⟩) hHeld ?_ ?_
          rotate_left
          ·rintro w' ⟨s0,s1,s2,s3,s4,s5⟩
           go_simp
           with_reducible rfl
          rotate_left
          ·simp only [Act.put,zp1,zp2,zp3,Zc,Zd]
           rfl
          refine one_ (i:=11) (N:=some 89) #[true,true,true,true,true,true,true,true,true,true,true,true,false,false] rfl rfl (one_of HT_.out (by kernel_rfl)) (by decide) (fun K hK=>?_)
          refine goes_ Try.func36 (by kernel_rfl) rfl #[.slice (some bl) al.length lf,.int .i64 ((Zb ab aa).f0)] (by rfl) rfl rfl (by (try simp only [List.map_toArray,List.map_cons,List.map_nil]);first|done|rfl|(simp only [List.length_drop,List.length_take];rfl)) ?_
          with_reducible refine(Za1.calls k4 _ _ al ((Zb ab aa).f0) true _ ?side1 ?side2 mm.out).mono ?_
          (case side1=>repeat(first|exact(Kd.R_reads' ai.out).2.2|(with_reducible refine Kd.C_alloc ?_ _)|(with_reducible refine Kd.C_drewN ?_ _)|(with_reducible refine Kd.C_drew ?_)))
          (case side2=>exact(Kd.R_reads' ai.out).2.1)
          rintro e w' ⟨rfl,⟨nd,rfl⟩⟩
          refine⟨_,rfl,?_⟩
          refine hK.out _ _ ⟨(Zf ac.out 0).trans rfl,(Zf ac.out 1).trans rfl,(Zf ac.out 2).trans rfl,(Zf ac.out 3).trans rfl,(Zf ae.out 0).trans rfl,(Zf ae.out 1).trans rfl⟩ (fun hHeld=>?_)
          clear hK K
          refine norm_ (a':=?_) ?_ ?_
          rotate_left
          ·show Act.put _ (some 89) _=_
           simp only [Act.put,zp1,zp2,zp3,Zc,Zd]
           rfl
          refine zP 12 (some 90) (zt 14 8191) (Ze HT_.out (by kernel_rfl)) ?_
          refine zP 13 (some 91) (zt 14 16383) (Ze HT_.out (by kernel_rfl)) ?_
          refine done_ (done_of HT_.out (by kernel_rfl)) ?_
          try go_wp2
          (first|go_roundg k4|(simp only [← bc];go_roundg k4))
          case measure=>have:=co.out;have:=bf.out;have:=dg.out;have:=ek.out;omega
          case rel=>first|exact⟨(al),(Go.bits .or .u32 ax ay),(am),(by first|rfl|(simp;done)|(simp [*];done)),(by first|rfl|(simp;done)|(simp only [← bc] <;> (first|rfl|simp))|(simp [*];done)),H',⟨by have:=co.out;have:=bf.out;have:=dg.out;have:=ek.out;omega⟩,⟨zR ai⟩,⟨zK ac⟩,⟨zK ae⟩,⟨zH HB⟩⟩|(subst bc;exact⟨(al),(Go.bits .or .u32 ax ay),(wrap64 (ap + 1)),(by first|rfl|(simp;done)|(simp [*];done)),(by first|rfl|(simp;done)|(simp only [← bc] <;> (first|rfl|simp))|(simp [*];done)),H',⟨by have:=co.out;have:=bf.out;have:=dg.out;have:=ek.out;omega⟩,⟨zR ai⟩,⟨zK ac⟩,⟨zK ae⟩,⟨zH HB⟩⟩)
         (replace kd:=Bool.eq_false_iff.mpr kd);(subst kd);(have H1:(if al.length < 17592186044416 then(Zo.l2 k4 aq (al++[((Zb ab aa).f0)]) (Go.bits .or .u32 ax ay) ak ab (ab.length:Int) aa ((Zb ab aa).f1) (((Zb ab aa).f1).length:Int) am ag aj ah ab ((Zb ab aa).f0) ((Zb ab aa).f1)) else(none))=some r:=by rw [if_neg (show ¬ (false=true) by decide)] at H;exact H);(clear H);(have H:=H1);(clear H1)
         by_cases ke:al.length < 17592186044416
         rotate_left
         ·rw [if_neg ke] at H
          exact absurd H (by simp)
         (rw [if_pos ke] at H);(have jd:=Za.mk ke);(clear ke);(obtain⟨gm,dl⟩ : ∃y_:List Int,y_=(al++[((Zb ab aa).f0)]):=⟨_,rfl⟩);(replace H:(Zo.l2 k4 aq gm (Go.bits .or .u32 ax ay) ak ab (ab.length:Int) aa ((Zb ab aa).f1) (((Zb ab aa).f1).length:Int) am ag aj ah ab ((Zb ab aa).f0) ((Zb ab aa).f1))=some r:=by first|(rw [dl];with_reducible exact H)|(have H2_:=(Option.bind_some _ _).symm.trans H;rw [dl];with_reducible exact H2_)|(have H2_:=(Option.bind_some _ _).symm.trans H;with_reducible exact H2_)|with_reducible exact H|(rw [dl];exact H)|exact H);(have je:=Za.mk dl);(clear dl);(have H':=Za.mk H);(clear H);(have bm:0≤(ap:Int):=zD);(have bn:ap < (((Zb ab aa).f1).length:Int):=zD);(obtain⟨av,dn,ba⟩:=Kd.at_int bd.out ap bm bn);(cases dn);(replace ba:=zX HB ba);(replace bm:=eq_true bm);(replace bn:=eq_true bn)
         try go_wp2
         (replace ai:=Za.mk (Kd.R_drew ai.out));(replace ac:=Za.mk (Zi ac.out));(replace ae:=Za.mk (Zi ae.out));(replace HB:=Za.mk (Zz1 HB.out));(obtain⟨ni,jf,jg⟩:=Kd.R_slice ai.out)
         (first|subst jg|(injection jg with f1_ f2_ f3_;have f4_:=f1_.symm;have f5_:=f3_.symm;clear f1_ f2_ f3_;subst f4_;subst f5_))
         (have bo:0≤(ak:Int):=zD);(have bp:ak < (al.length:Int):=zD);(obtain⟨bl,dp,bb⟩:=Kd.at_int (Kd.R_reads' ai.out).2.2 ak bo bp);(cases dp);(replace bo:=eq_true bo);(replace bp:=eq_true bp)
         refine start_ (n:=9) (S:=fun w'=>w'.cell? ⟨af,0,none⟩=some (.int .i64 ag)∧w'.cell? ⟨af,1,none⟩=some (.int .i64 aj)∧w'.cell? ⟨af,2,none⟩=some (.int .i64 ah)∧w'.cell? ⟨af,3,none⟩=some (.slice (some ar) ab.length aw)∧w'.cell? (bl.add (ak).toNat)=some (.int .i64 (rd al ak))) (ds:=[]) #[false,false,false,false,false,false,false,false,false] (by kernel_rfl) rfl rfl ⟨(Zf ac.out 0).trans rfl,(Zf ac.out 1).trans rfl,(Zf ac.out 2).trans rfl,(Zf ac.out 3).trans rfl,bb⟩ (fun hHeld=>?_);refine Zc2 Zo.tab18 Zo.bits18 (fun HT_ HW_=>?_)
         generalize wr.drew=nj at ai ac ae HB bb hHeld ⊢
         refine zP 0 (some 60) (zt 9 1) (Ze HT_.out (by kernel_rfl)) ?_
         refine zP 1 (some 61) (zt 9 3) (Ze HT_.out (by kernel_rfl)) ?_
         refine zP 3 (some 63) (zt 9 11) (Ze HT_.out (by kernel_rfl)) ?_
         refine zP 4 (some 64) (zt 9 27) (Ze HT_.out (by kernel_rfl)) ?_
         refine zP 5 (some 65) (zt 9 59) (Ze HT_.out (by kernel_rfl)) ?_
         refine take_ (i:=2) (N:=some 62) (v:=?_) (a':=?_) #[true,true,true,true,true,true,false,false,false] rfl rfl (Zi1 HT_.out HW_.out (by kernel_rfl)) (fun _ _ _ h=>h) (Or.inl ⟨by rfl,?_⟩) hHeld ?_ ?_
         rotate_left
         ·rintro w' ⟨s0,s1,s2,s3,s4⟩
          go_simp
          with_reducible rfl
         rotate_left
         ·simp only [Act.put,zp1,zp2,zp3,Zc,Zd]
          rfl
         refine take_ (i:=6) (N:=some 66) (v:=?_) (a':=?_) #[true,true,true,true,true,true,true,false,false] rfl rfl (Zi1 HT_.out HW_.out (by kernel_rfl)) (fun _ _ _ h=>h) (Or.inl ⟨by rfl,?_⟩) hHeld ?_ ?_
         rotate_left
         ·rintro w' ⟨s0,s1,s2,s3,s4⟩
          go_simp
          with_reducible rfl
         rotate_left
         ·simp only [Act.put,zp1,zp2,zp3,Zc,Zd]
          rfl
         refine zP 7 (some 67) (zt 9 255) (Ze HT_.out (by kernel_rfl)) ?_
         refine zP 8 (some 68) (zt 9 511) (Ze HT_.out (by kernel_rfl)) ?_
         refine done_ (done_of HT_.out (by kernel_rfl)) ?_
         try go_wp2
         (replace ai:=Za.mk (Kd.R_drew ai.out));(replace ac:=Za.mk (Zi ac.out));(replace ae:=Za.mk (Zi ae.out));(replace HB:=Za.mk (Zz1 HB.out));(have lp:((am):Int)≤((((Zb ab aa).f1).length:Int):Int):=zD);(obtain⟨i055,fu,_,hsz55,_⟩:=info_parts info3);(have hroom55:((Zb ab aa).f1).length≤an:=bx.out);(have hC55:Kd.C (Kd.int .i64) _ (some av) ((Zb ab aa).f1).length ((Zb ab aa).f1):=bd.out);(have lq:(0:Int)≤((am):Int):=zD);(have gn:=cut_from (P:=Try.prog) 25 3 .i64 Try.underlying25 fu 1 hsz55 (some av) ((Zb ab aa).f1).length an (am) lq lp);(have fa:=Kd.C_drop (m:=((am):Int).toNat) (c:=an) hC55 (by omega) hroom55);(obtain⟨lr,hA55⟩ : ∃Aq_,Aq_=(if an=((am):Int).toNat then(some av) else((some av):Option Addr).map (·.add (((am):Int).toNat * 1))):=⟨_,rfl⟩);(obtain⟨ls,gp⟩ : ∃cq_,cq_=an - ((am):Int).toNat:=⟨_,rfl⟩);(have fh:au.length=((Zb ab aa).f1).length - ((am):Int).toNat:=(by rw [ce.out,List.length_drop] <;> omega));(rw [show(((Zb ab aa).f1)).drop ((am):Int).toNat=au from ce.out.symm] at fa);(replace fa:Kd.C (Kd.int .i64) _ lr au.length au:=(by rw [hA55];exact fa));(rw [← fh,← hA55,← gp] at gn);(have bg:=Za.mk fa);(have bv:=Za.mk (show au.length≤ls from by rw [fh,gp];exact Nat.sub_le_sub_right hroom55 _))
         (clear fa hC55 hroom55 fu hsz55 gp);(have KY55:=Za.mk fh);(have KA55:=Za.mk hA55);(clear fh hA55);(replace lp:=eq_true lp)
         refine start_ (n:=10) (S:=fun w'=>w'.cell? ⟨af,0,none⟩=some (.int .i64 ag)∧w'.cell? ⟨af,1,none⟩=some (.int .i64 aj)∧w'.cell? ⟨af,2,none⟩=some (.int .i64 ah)∧w'.cell? ⟨af,3,none⟩=some (.slice (some ar) ab.length aw)∧w'.cell? ⟨ao,0,none⟩=some (.int .i64 ((Zb ab aa).f0))∧w'.cell? ⟨ao,1,none⟩=some (.slice (some av) ((Zb ab aa).f1).length an)) (ds:=[]) #[false,false,false,false,false,false,false,false,false,false] (by kernel_rfl) rfl rfl ⟨(Zf ac.out 0).trans rfl,(Zf ac.out 1).trans rfl,(Zf ac.out 2).trans rfl,(Zf ac.out 3).trans rfl,(Zf ae.out 0).trans rfl,(Zf ae.out 1).trans rfl⟩ (fun hHeld=>?_);refine Zc2 Zo.tab19 Zo.bits19 (fun HT_ HW_=>?_)
         generalize nj.drew=oa at ai ac ae HB bg hHeld ⊢
         refine zP 0 (some 69) (zt 10 1) (Ze HT_.out (by kernel_rfl)) ?_
         refine zP 2 (some 71) (zt 10 5) (Ze HT_.out (by kernel_rfl)) ?_
         refine zP 4 (some 73) (zt 10 21) (Ze HT_.out (by kernel_rfl)) ?_
         refine zP 5 (some 74) (zt 10 53) (Ze HT_.out (by kernel_rfl)) ?_
         refine take_ (i:=1) (N:=some 70) (v:=?_) (a':=?_) #[true,true,true,false,true,true,false,false,false,false] rfl rfl (Zi1 HT_.out HW_.out (by kernel_rfl)) (fun _ _ _ h=>h) (Or.inl ⟨by rfl,?_⟩) hHeld ?_ ?_
         rotate_left
         ·rintro w' ⟨s0,s1,s2,s3,s4,s5⟩
          go_simp
          with_reducible rfl
         rotate_left
         ·simp only [Act.put,zp1,zp2,zp3,Zc,Zd]
          rfl
         refine take_ (i:=3) (N:=some 72) (v:=?_) (a':=?_) #[true,true,true,true,true,true,false,false,false,false] rfl rfl (Zi1 HT_.out HW_.out (by kernel_rfl)) (fun _ _ _ h=>h) (Or.inl ⟨by rfl,?_⟩) hHeld ?_ ?_
         rotate_left
         ·rintro w' ⟨s0,s1,s2,s3,s4,s5⟩
          go_simp
          with_reducible rfl
         rotate_left
         ·simp only [Act.put,zp1,zp2,zp3,Zc,Zd]
          rfl
         refine zP 6 (some 75) (zt 10 127) (Ze HT_.out (by kernel_rfl)) ?_
         refine one_ (i:=7) (N:=some 76) #[true,true,true,true,true,true,true,true,false,false] rfl rfl (one_of HT_.out (by kernel_rfl)) (by decide) (fun K hK=>?_)
         refine goes_ Try.func26 (by kernel_rfl) rfl #[.agg #[.int .i64 ag,.int .i64 aj,.int .i64 ah,.slice (some ar) ab.length aw],.slice lr au.length ls] (by rfl) rfl rfl (by (try simp only [List.map_toArray,List.map_cons,List.map_nil]);first|done|rfl|(simp only [List.length_drop,List.length_take];rfl)) ?_
         with_reducible refine(Zy.calls k4 ag aj ah _ _ ab _ _ au ay _ ?side1 ?side2 ?side3 ?side4 ky.out).mono ?_
         (case side1=>exact zC bk HB)
         (case side2=>exact bt.out)
         (case side3=>exact zC bg HB)
         (case side4=>exact bv.out)
         rintro e nl ⟨rfl,hb⟩
         refine⟨_,rfl,?_⟩
         (replace ai:=Za.mk (Kd.R_below (zR ai) hb));(replace ac:=Za.mk (Zj (g:=af) (zK ac) hb));(replace ae:=Za.mk (Zj (g:=ao) (zK ae) hb));(replace HB:=Za.mk (Zh (zH HB) hb));((try clear hb));((try clear hb2));((try clear hk));((try clear hi))
         refine hK.out _ _ ⟨(Zf ac.out 0).trans rfl,(Zf ac.out 1).trans rfl,(Zf ac.out 2).trans rfl,(Zf ac.out 3).trans rfl,(Zf ae.out 0).trans rfl,(Zf ae.out 1).trans rfl⟩ (fun hHeld=>?_)
         clear hK K
         refine norm_ (a':=?_) ?_ ?_
         rotate_left
         ·show Act.put _ (some 76) _=_
          simp only [Act.put,zp1,zp2,zp3,Zc,Zd]
          rfl
         refine zP 8 (some 77) (zt 10 511) (Ze HT_.out (by kernel_rfl)) ?_
         refine zP 9 (some 7) (zt 10 1023) (Ze HT_.out (by kernel_rfl)) ?_
         refine done_ (done_of HT_.out (by kernel_rfl)) ?_
         try go_wp2
         (replace ai:=Za.mk (Kd.R_drew ai.out));(replace ac:=Za.mk (Zi ac.out));(replace ae:=Za.mk (Zi ae.out));(replace HB:=Za.mk (Zz1 HB.out))
         refine start_ (n:=14) (S:=fun w'=>w'.cell? ⟨af,0,none⟩=some (.int .i64 ag)∧w'.cell? ⟨af,1,none⟩=some (.int .i64 aj)∧w'.cell? ⟨af,2,none⟩=some (.int .i64 ah)∧w'.cell? ⟨af,3,none⟩=some (.slice (some ar) ab.length aw)∧w'.cell? ⟨ao,0,none⟩=some (.int .i64 ((Zb ab aa).f0))∧w'.cell? ⟨ao,1,none⟩=some (.slice (some av) ((Zb ab aa).f1).length an)) (ds:=[]) #[false,false,false,false,false,false,false,false,false,false,false,false,false,false] (by kernel_rfl) rfl rfl ⟨(Zf ac.out 0).trans rfl,(Zf ac.out 1).trans rfl,(Zf ac.out 2).trans rfl,(Zf ac.out 3).trans rfl,(Zf ae.out 0).trans rfl,(Zf ae.out 1).trans rfl⟩ (fun hHeld=>?_);refine Zc2 Zo.tab20 Zo.bits20 (fun HT_ HW_=>?_)
         generalize nl.drew=oc at ai ac ae HB hHeld ⊢
         refine zP 1 (some 79) (zt 14 2) (Ze HT_.out (by kernel_rfl)) ?_
         refine zP 3 (some 81) (zt 14 10) (Ze HT_.out (by kernel_rfl)) ?_
         refine zP 4 (some 82) (zt 14 26) (Ze HT_.out (by kernel_rfl)) ?_
         refine take_ (i:=0) (N:=some 78) (v:=?_) (a':=?_) #[true,true,false,true,true,false,false,false,false,false,false,false,false,false] rfl rfl (Zi1 HT_.out HW_.out (by kernel_rfl)) (fun _ _ _ h=>h) (Or.inl ⟨by rfl,?_⟩) hHeld ?_ ?_
         rotate_left
         ·rintro w' ⟨s0,s1,s2,s3,s4,s5⟩
          go_simp
          with_reducible rfl
         rotate_left
         ·simp only [Act.put,zp1,zp2,zp3,Zc,Zd]
          rfl
         refine take_ (i:=2) (N:=some 80) (v:=?_) (a':=?_) #[true,true,true,true,true,false,false,false,false,false,false,false,false,false] rfl rfl (Zi1 HT_.out HW_.out (by kernel_rfl)) (fun _ _ _ h=>h) (Or.inl ⟨by rfl,?_⟩) hHeld ?_ ?_
         rotate_left
         ·rintro w' ⟨s0,s1,s2,s3,s4,s5⟩
          go_simp
          with_reducible rfl
         rotate_left
         ·simp only [Act.put,zp1,zp2,zp3,Zc,Zd]
          rfl
         refine zP 5 (some 83) (zt 14 63) (Ze HT_.out (by kernel_rfl)) ?_
         refine one_ (i:=6) (N:=some 84) #[true,true,true,true,true,true,true,false,false,false,false,false,false,false] rfl rfl (one_of HT_.out (by kernel_rfl)) (by decide) (fun K hK=>?_)
         refine goes_ Try.func27 (by kernel_rfl) rfl #[.agg #[.int .i64 ag,.int .i64 aj,.int .i64 ah,.slice (some ar) ab.length aw],.slice lr au.length ls] (by rfl) rfl rfl (by (try simp only [List.map_toArray,List.map_cons,List.map_nil]);first|done|rfl|(simp only [List.length_drop,List.length_take];rfl)) ?_
         with_reducible refine(Zq1.calls k4 ag aj ah _ _ ab _ _ au true _ ?side1 ?side2 ?side3 ?side4 gq.out).mono ?_
         (case side1=>exact zC bk HB)
         (case side2=>exact bt.out)
         (case side3=>exact zC bg HB)
         (case side4=>exact bv.out)
         rintro e od ⟨rfl,hb⟩
         refine⟨_,rfl,?_⟩
         (replace ai:=Za.mk (Kd.R_below (zR ai) hb));(replace ac:=Za.mk (Zj (g:=af) (zK ac) hb));(replace ae:=Za.mk (Zj (g:=ao) (zK ae) hb));(replace HB:=Za.mk (Zh (zH HB) hb));((try clear hb));((try clear hb2));((try clear hk));((try clear hi))
         refine hK.out _ _ ⟨(Zf ac.out 0).trans rfl,(Zf ac.out 1).trans rfl,(Zf ac.out 2).trans rfl,(Zf ac.out 3).trans rfl,(Zf ae.out 0).trans rfl,(Zf ae.out 1).trans rfl⟩ (fun hHeld=>?_)
         clear hK K
         refine norm_ (a':=?_) ?_ ?_
         rotate_left
         ·show Act.put _ (some 84) _=_
          simp only [Act.put,zp1,zp2,zp3,Zc,Zd]
          rfl
         refine zP 7 (some 85) (zt 14 255) (Ze HT_.out (by kernel_rfl)) ?_
         refine zP 8 (some 86) (zt 14 511) (Ze HT_.out (by kernel_rfl)) ?_
         refine zP 9 (some 87) (zt 14 1023) (Ze HT_.out (by kernel_rfl)) ?_
         refine take_ (i:=10) (N:=some 88) (v:=?_) (a':=?_) #[true,true,true,true,true,true,true,true,true,true,true,false,false,false] rfl rfl (Zi1 HT_.out HW_.out (by kernel_rfl)) (fun _ _ _ h=>h) (Or.inl ⟨by rfl,?_⟩) hHeld ?_ ?_
         rotate_left
         ·rintro w' ⟨s0,s1,s2,s3,s4,s5⟩
          go_simp
          with_reducible rfl
         rotate_left
         ·simp only [Act.put,zp1,zp2,zp3,Zc,Zd]
          rfl
         refine one_ (i:=11) (N:=some 89) #[true,true,true,true,true,true,true,true,true,true,true,true,false,false] rfl rfl (one_of HT_.out (by kernel_rfl)) (by decide) (fun K hK=>?_)
         refine goes_ Try.func36 (by kernel_rfl) rfl #[.slice (some bl) al.length jf,.int .i64 ((Zb ab aa).f0)] (by rfl) rfl rfl (by (try simp only [List.map_toArray,List.map_cons,List.map_nil]);first|done|rfl|(simp only [List.length_drop,List.length_take];rfl)) ?_
         with_reducible refine(Za1.calls k4 _ _ al ((Zb ab aa).f0) false _ ?side1 ?side2 mm.out).mono ?_
         (case side1=>repeat(first|exact(Kd.R_reads' ai.out).2.2|(with_reducible refine Kd.C_alloc ?_ _)|(with_reducible refine Kd.C_drewN ?_ _)|(with_reducible refine Kd.C_drew ?_)))
         (case side2=>exact(Kd.R_reads' ai.out).2.1)
         rintro e w' ⟨rfl,⟨nd,rfl⟩⟩
         refine⟨_,rfl,?_⟩
         refine hK.out _ _ ⟨(Zf ac.out 0).trans rfl,(Zf ac.out 1).trans rfl,(Zf ac.out 2).trans rfl,(Zf ac.out 3).trans rfl,(Zf ae.out 0).trans rfl,(Zf ae.out 1).trans rfl⟩ (fun hHeld=>?_)
         clear hK K
         refine norm_ (a':=?_) ?_ ?_
         rotate_left
         ·show Act.put _ (some 89) _=_
          simp only [Act.put,zp1,zp2,zp3,Zc,Zd]
          rfl
         refine zP 12 (some 90) (zt 14 8191) (Ze HT_.out (by kernel_rfl)) ?_
         refine zP 13 (some 91) (zt 14 16383) (Ze HT_.out (by kernel_rfl)) ?_
         refine done_ (done_of HT_.out (by kernel_rfl)) ?_
         (have mn:=bj.out);(have mo:=az.out);(obtain⟨kf,ki⟩:=zq2 ae.out);(obtain⟨kj,kn⟩:=zf2 ae.out)
         try go_wp2_with (first|((with_reducible refine gate_builtin (b:= .append) (xs:=#[.tmp 92,.tmp 95]) rfl ?_);at_builtin;refine Kd.R_append (Kd.int .i64) (w0:=w) w.heap.size rfl (.tmp 92) (.tmp 95) 25 3 (.int .i64 0) 8 rfl Try.underlying25 info3 rfl (by decide) (by omega) (.slice (some bl) al.length jf) al ((Zb ab aa).f0) [.int .i64 ((Zb ab aa).f0)] (fun _=>True) (fun _=>False) rfl rfl ?aP (fun _ hk=>hk.elim) ?aF ?aO ?aB ?aS ?aL ?_;(case aP=>exact rfl);(case aB=>exact(zH HB));(case aF=>exact(fun _ _=>trivial));(case aO=>exact(zR ai));(case aS=>exact(Zg (zH HB)));(case aL=>have:=jd.out;omega);intro v340 oe ho hb hg hat;rw [← je.out] at ho;replace ac:=Za.mk (Zv1 (g:=af) (zK ac) hg (Kd.R_ne ai.out ac.out (by decide)));replace ae:=Za.mk (Zv1 (g:=ao) (zK ae) hg (Kd.R_ne ai.out ae.out (by decide)));replace HB:=Za.mk (hb);have fv:=Za.mk (ho);clear ai;clear ho hb hg hat))
         (first|go_roundg k4|(simp only [← bc];go_roundg k4))
         case measure=>have:=co.out;have:=bf.out;have:=dg.out;have:=ek.out;omega
         case rel=>first|exact⟨(gm),(Go.bits .or .u32 ax ay),(am),(by first|rfl|(simp;done)|(simp [*];done)),(by first|rfl|(simp;done)|(simp only [← bc] <;> (first|rfl|simp))|(simp [*];done)),H',⟨by have:=co.out;have:=bf.out;have:=dg.out;have:=ek.out;omega⟩,⟨zR fv⟩,⟨zK ac⟩,⟨zK ae⟩,⟨zH HB⟩⟩|(subst bc;exact⟨(gm),(Go.bits .or .u32 ax ay),(wrap64 (ap + 1)),(by first|rfl|(simp;done)|(simp [*];done)),(by first|rfl|(simp;done)|(simp only [← bc] <;> (first|rfl|simp))|(simp [*];done)),H',⟨by have:=co.out;have:=bf.out;have:=dg.out;have:=ek.out;omega⟩,⟨zR fv⟩,⟨zK ac⟩,⟨zK ae⟩,⟨zH HB⟩⟩)
end Go.Proofs.Ytbifocddbgleeaa.PAheadParses
