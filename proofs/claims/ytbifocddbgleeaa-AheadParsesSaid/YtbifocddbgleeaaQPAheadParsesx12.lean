-- By a program.
import Derived.Test.YtbifocddbgleeaaQPAheadParsesx0
import Derived.Test.YtbifocddbgleeaaQPAheadParsesx11
namespace Go.Proofs.Ytbifocddbgleeaa.PAheadParses
open Go.RowKit Go.Proofs.YtbifocddbgleeaaW.PrintWords Go.Proofs.YtbifocddbgleeaaW.PrintLast Go.Proofs.YtbifocddbgleeaaW.PrintMore
attribute [local go_sem] max2_int min2_int max_two min_two max_three min_three max_four min_four
set_option linter.unusedVariables false
set_option linter.unusedSimpArgs false
mutual
def Zc1.j0:Nat→Bool→Int→Int→Int→List (S41)→Option (Int)
  |0,_,_,_,_,_=>none
  |k + 1,x30,x261000,x261001,x261002,x261003=>if x30=true then(some 1) else(Zc1.l0 k x261003 (x261003.length:Int) 0 x261000 x261001 x261002 x261003)
def Zc1.l0:Nat→List (S41)→Int→Int→Int→Int→Int→List (S41)→Option (Int)
  |0,_,_,_,_,_,_,_=>none
  |k + 1,x32,x33,x34,x261000,x261001,x261002,x261003=>if x34 < x33 then(if 0≤x34 then(if x34 < (x32.length:Int) then(if(((Zb x32 x34).f1).length:Int) > 4 then(some 1) else(Zc1.l0 k x32 x33 (wrap64 (x34 + 1)) x261000 x261001 x261002 x261003)) else(none)) else(none)) else(if x261002 < 0 then(Zc1.j2 k true x261000 x261001 x261002 x261003) else(Zc1.j2 k (decide (x261002≥x261001)) x261000 x261001 x261002 x261003))
def Zc1.j2:Nat→Bool→Int→Int→Int→List (S41)→Option (Int)
  |0,_,_,_,_,_=>none
  |k + 1,x52,x261000,x261001,x261002,x261003=>if x52=true then(some 2) else(Zc1.l1 k x261003 (x261003.length:Int) 0 x261000 x261001 x261002 x261003)
def Zc1.l1:Nat→List (S41)→Int→Int→Int→Int→Int→List (S41)→Option (Int)
  |0,_,_,_,_,_,_,_=>none
  |k + 1,x54,x55,x56,x261000,x261001,x261002,x261003=>if x56 < x55 then(if 0≤x56 then(if x56 < (x54.length:Int) then(if((Zb x54 x56).f0) < 0 then(some 2) else(if((Zb x54 x56).f0)≥x261001 then(some 2) else((Zy1.f k x261000 x261001 x261002 x261003 ((Zb x54 x56).f1)).bind fun t265=>(if t265=true then(Zc1.l1 k x54 x55 (wrap64 (x56 + 1)) x261000 x261001 x261002 x261003) else(some 2))))) else(none)) else(none)) else(some 0)
end
def Zc1.f (k:Nat) (a0_0:Int) (a0_1:Int) (a0_2:Int) (l0_3:List (S41)):Option (Int):=if a0_0 < 1 then(Zc1.j0 k true a0_0 a0_1 a0_2 l0_3) else(if a0_0 > 3 then(Zc1.j0 k true a0_0 a0_1 a0_2 l0_3) else(if a0_1 < 1 then(Zc1.j0 k true a0_0 a0_1 a0_2 l0_3) else(if a0_1 > 5 then(Zc1.j0 k true a0_0 a0_1 a0_2 l0_3) else(Zc1.j0 k (decide ((l0_3.length:Int) > 10)) a0_0 a0_1 a0_2 l0_3))))
theorem Zc1.mono_l: ∀k,(∀y0 y1 y2 y3 y4,LeO (Zc1.j0 k y0 y1 y2 y3 y4) (Zc1.j0 (k + 1) y0 y1 y2 y3 y4))∧(∀y0 y1 y2 y3 y4 y5 y6,LeO (Zc1.l0 k y0 y1 y2 y3 y4 y5 y6) (Zc1.l0 (k + 1) y0 y1 y2 y3 y4 y5 y6))∧(∀y0 y1 y2 y3 y4,LeO (Zc1.j2 k y0 y1 y2 y3 y4) (Zc1.j2 (k + 1) y0 y1 y2 y3 y4))∧(∀y0 y1 y2 y3 y4 y5 y6,LeO (Zc1.l1 k y0 y1 y2 y3 y4 y5 y6) (Zc1.l1 (k + 1) y0 y1 y2 y3 y4 y5 y6))
  |0=>⟨fun _ _ _ _ _ r h=>by simp [Zc1.j0] at h,fun _ _ _ _ _ _ _ r h=>by simp [Zc1.l0] at h,fun _ _ _ _ _ r h=>by simp [Zc1.j2] at h,fun _ _ _ _ _ _ _ r h=>by simp [Zc1.l1] at h⟩
  |k + 1=>by
    obtain⟨ih0,ih1,ih2,ih3⟩:=Zc1.mono_l k
    refine⟨?_,?_,?_,?_⟩
    · intro y0 y1 y2 y3 y4
      unfold Zc1.j0
      repeat' (with_reducible first|apply ih0|apply ih1|apply ih2|apply ih3|apply Zy1.mono|exact LeO.refl _|exact LeO.none _|refine LeO.ite ?_ ?_|refine LeO.bind ?_ (fun _=>?_))
    · intro y0 y1 y2 y3 y4 y5 y6
      unfold Zc1.l0
      repeat' (with_reducible first|apply ih0|apply ih1|apply ih2|apply ih3|apply Zy1.mono|exact LeO.refl _|exact LeO.none _|refine LeO.ite ?_ ?_|refine LeO.bind ?_ (fun _=>?_))
    · intro y0 y1 y2 y3 y4
      unfold Zc1.j2
      repeat' (with_reducible first|apply ih0|apply ih1|apply ih2|apply ih3|apply Zy1.mono|exact LeO.refl _|exact LeO.none _|refine LeO.ite ?_ ?_|refine LeO.bind ?_ (fun _=>?_))
    · intro y0 y1 y2 y3 y4 y5 y6
      unfold Zc1.l1
      repeat' (with_reducible first|apply ih0|apply ih1|apply ih2|apply ih3|apply Zy1.mono|exact LeO.refl _|exact LeO.none _|refine LeO.ite ?_ ?_|refine LeO.bind ?_ (fun _=>?_))
theorem Zc1.mono: ∀a0 a1 a2 a3 k,LeO (Zc1.f k a0 a1 a2 a3) (Zc1.f (k + 1) a0 a1 a2 a3):=by
  intro a0 a1 a2 a3 k
  obtain⟨ih0,ih1,ih2,ih3⟩:=Zc1.mono_l k
  unfold Zc1.f
  repeat' (with_reducible first|apply ih0|apply ih1|apply ih2|apply ih3|apply Zy1.mono|exact LeO.refl _|exact LeO.none _|refine LeO.ite ?_ ?_|refine LeO.bind ?_ (fun _=>?_))
set_option maxHeartbeats 8000000 in
set_option maxRecDepth 100000 in
theorem Zc1.calls (k : Nat) (ag : Int) (af : Int) (ai : Int) (dy : Option Addr) (ar : Nat) (ab : List (S41)) (r : Int) (w : World) (gp : Kd.C k41 w dy ab.length ab) (gq : ab.length ≤ ar) (h : Zc1.f k ag af ai ab = some r) :
    Calls Try.prog 14 #[.agg #[.int .i64 ag,.int .i64 af,.int .i64 ai,.slice dy ab.length ar]] w fun e w'=>e= .returned (.int .i64 r)∧Below w.heap.size w w':=by
 (have mo:=Try.underlying24);(have mv:=Try.underlying3);(have mq:=Try.underlying41);(have mr:=Try.underlying25);(have bg:=Za.mk gp);(have gu:=Za.mk gq);(clear gp gq);(have HB:=Za.mk (Below.refl w.heap.size w));(have H:(if ag < 1 then(Zc1.j0 k true ag af ai ab) else(if ag > 3 then(Zc1.j0 k true ag af ai ab) else(if af < 1 then(Zc1.j0 k true ag af ai ab) else(if af > 5 then(Zc1.j0 k true ag af ai ab) else(Zc1.j0 k (decide ((ab.length:Int) > 10)) ag af ai ab)))))=some r:=h);(clear h);(have lh:=Za.mk H);(clear H)
 go_enter Try.func14,Try.ntmps14
 go_upto_region 1 with (first|((with_reducible refine Zs (N:=1) rfl ?_);(try(refine gate_guard (by rfl) ?_;dsimp only));refine Zx ?hg (N:=1) ?hd (cs:=#[.int .i64 ag,.int .i64 af,.int .i64 ai,.slice dy ab.length ar]) (t:=24) ?hr ?_;(case hd=>rfl);(case hg=>rfl);(case hr=>first|(go_simp;done)|(go_simp;rfl));intro ae hg w3 hbox hb;have n0_:=Za.mk (Zh (zH HB) hb);have n1_:=Za.mk (hbox);have n2_:=Za.mk ((by rw [hg];exact(Zg (zH HB)):w.heap.size≤ae));have n3_:=Za.mk ((by rw [hg];exact(Zg (zH HB)):w.heap.size≤ae));clear HB;have HB:=n0_;have aa:=n1_;have lp:=n2_;have lq:=n3_;clear n0_ n1_ n2_ n3_;clear hb hbox hg))
 (try simp only [Act.put,zp1,zp2,zp3])
 go_cut [30] (fun v30 wc=>∃(kq:Nat) (ea:Bool),v30= .bool ea∧Za (Zc1.j0 kq ea ag af ai ab=some r)∧Za (kq≤k)∧Za (wc.heap[ae]? =some (.cells #[.int .i64 ag,.int .i64 af,.int .i64 ai,(.slice dy ab.length ar)] 24 (0,0)))∧Za (Below w.heap.size w wc))
 case first=>
  (have H:=lh.out);(clear lh)
  by_cases c4:ag < 1
  ·rw [if_pos c4] at H
   (have cb:decide (ag < 1)=true:=decide_eq_true c4);(clear c4)
   (first|rw [cb]|(simp only [Zc,Zd];rw [cb])|skip)
   (have H':=Za.mk H);(clear H);(obtain⟨cd,ce,cf,cg⟩:=zq4 aa.out);(obtain⟨ch,ci,cj,ck⟩:=zf4 aa.out)
   go_wp2
   go_meet
   case rel=>exact⟨_,(true),(by first|rfl|(simp;done)|(simp [*];done)),H',⟨by first|omega|exact Nat.le_refl _⟩,⟨zK aa⟩,⟨zH HB⟩⟩
  (rw [if_neg c4] at H);(have cb:decide (ag < 1)=false:=decide_eq_false c4);(clear c4)
  (first|rw [cb]|(simp only [Zc,Zd];rw [cb])|skip)
  by_cases c6:ag > 3
  ·rw [if_pos c6] at H
   (have fp:decide (3 < ag)=true:=decide_eq_true c6);(clear c6);(have H':=Za.mk H);(clear H);(obtain⟨cm,cn,co,cp⟩:=zq4 aa.out);(obtain⟨cq,cu,cw,cy⟩:=zf4 aa.out)
   go_wp2
   go_meet
   case rel=>exact⟨_,(true),(by first|rfl|(simp;done)|(simp [*];done)),H',⟨by first|omega|exact Nat.le_refl _⟩,⟨zK aa⟩,⟨zH HB⟩⟩
  (rw [if_neg c6] at H);(have fp:decide (3 < ag)=false:=decide_eq_false c6);(clear c6)
  by_cases c8:af < 1
  ·rw [if_pos c8] at H
   (have fq:decide (af < 1)=true:=decide_eq_true c8);(clear c8);(have H':=Za.mk H);(clear H);(obtain⟨da,db,dc,dd⟩:=zq4 aa.out);(obtain⟨de,df,dg,dh⟩:=zf4 aa.out)
   go_wp2
   go_meet
   case rel=>exact⟨_,(true),(by first|rfl|(simp;done)|(simp [*];done)),H',⟨by first|omega|exact Nat.le_refl _⟩,⟨zK aa⟩,⟨zH HB⟩⟩
  (rw [if_neg c8] at H);(have fq:decide (af < 1)=false:=decide_eq_false c8);(clear c8)
  by_cases c10:af > 5
  ·rw [if_pos c10] at H
   (have dv:decide (5 < af)=true:=decide_eq_true c10);(clear c10);(have H':=Za.mk H);(clear H);(obtain⟨bh,bi,bj,bk⟩:=zq4 aa.out);(obtain⟨bl,bm,bn,bo⟩:=zf4 aa.out)
   go_wp2
   go_meet
   case rel=>exact⟨_,(true),(by first|rfl|(simp;done)|(simp [*];done)),H',⟨by first|omega|exact Nat.le_refl _⟩,⟨zK aa⟩,⟨zH HB⟩⟩
  (rw [if_neg c10] at H);(have dv:decide (5 < af)=false:=decide_eq_false c10);(clear c10);(have H':=Za.mk H);(clear H);(obtain⟨bp,bq,br,bs⟩:=zq4 aa.out);(obtain⟨bt,bu,bv,bw⟩:=zf4 aa.out)
  go_wp2
  go_meet
  case rel=>exact⟨_,(decide ((ab.length:Int) > 10)),(by first|rfl|(simp;done)|(simp [*];done)),H',⟨by first|omega|exact Nat.le_refl _⟩,⟨zK aa⟩,⟨zH HB⟩⟩
 case rest=>
  (clear lh);(try clear c1);(try clear p2);(try clear cb);(try clear fp);(try clear fq);(try clear dv);(try clear bh bi bj bk bp bq br bs cd ce cf cg cm cn co cp da db dc dd bl bm bn bo bt bu bv bw ch ci cj ck cq cu cw cy de df dg dh);(obtain⟨kq,ea,rfl,HA,ie,aa,HB⟩:=hcut)
  cases kq with
  |zero=>exact absurd HA.out (by simp [Zc1.j0])
  |succ ll=>
   (have H:=HA.out);(clear HA);(simp only [Zc1.j0] at H)
   by_cases gx:ea=true
   ·subst gx
    (have H1:(some 1)=some r:=by rw [if_pos rfl] at H;exact H);(clear H);(have H:=H1);(clear H1);(obtain rfl:=Option.some.inj H)
    go_wp2
    go_ret
    exact⟨by first|rfl|(simp [Zl,Zk] <;> rfl)|(simp [*,Zl,Zk] <;> rfl),zH HB⟩
   (replace gx:=Bool.eq_false_iff.mpr gx);(subst gx);(have H1:(Zc1.l0 ll ab (ab.length:Int) 0 ag af ai ab)=some r:=by rw [if_neg (show ¬ (false=true) by decide)] at H;exact H);(clear H);(have H:=H1);(clear H1);(have H':=Za.mk H);(clear H);(obtain⟨di,dj,dk,dl⟩:=zq4 aa.out);(obtain⟨dm,dn,dp,dq⟩:=zf4 aa.out)
   go_wp2
   go_loopg [34] ll (fun kq v34 w'=>∃(aj:Int),v34= .int .i64 aj∧Za (Zc1.l0 kq ab (ab.length:Int) aj ag af ai ab=some r)∧Za (kq≤ll)∧Za (w'.heap[ae]? =some (.cells #[.int .i64 ag,.int .i64 af,.int .i64 ai,(.slice dy ab.length ar)] 24 (0,0)))∧Za (Below w.heap.size w w'))
   case atStart=>exact⟨(0),(by first|rfl|(simp;done)|(simp [*];done)),H',⟨Nat.le_refl _⟩,⟨zK aa⟩,⟨zH HB⟩⟩
   case round=>
    (clear H');(try clear c1);(try clear p2);(try clear cb);(try clear fp);(try clear fq);(try clear dv);(try clear gx);(try clear lr);(try clear bh bi bj bk bp bq br bs di dj dk dl cd ce cf cg cm cn co cp da db dc dd bl bm bn bo bt bu bv bw dm dn dp dq ch ci cj ck cq cu cw cy de df dg dh);(try clear p2);(obtain⟨aj,rfl,HA,ig,aa,HB⟩:=hrel)
    cases gk with
    |zero=>exact absurd HA.out (by simp [Zc1.l0])
    |succ k2=>
     (have H:=HA.out);(clear HA);(simp only [Zc1.l0] at H)
     by_cases ii:aj < (ab.length:Int)
     ·rw [if_pos ii] at H
      (have ft:decide (aj < (ab.length:Int))=true:=decide_eq_true ii);(clear ii)
      by_cases jc:0≤aj
      rotate_left
      ·rw [if_neg jc] at H
       exact absurd H (by simp)
      (rw [if_pos jc] at H);(have gv:decide (0≤aj)=true:=decide_eq_true jc);(clear jc)
      by_cases jd:aj < (ab.length:Int)
      rotate_left
      ·rw [if_neg jd] at H
       exact absurd H (by simp)
      (rw [if_pos jd] at H);(have gw:decide (aj < (ab.length:Int))=true:=decide_eq_true jd);(clear jd)
      by_cases ik:(((Zb ab aj).f1).length:Int) > 4
      ·rw [if_pos ik] at H
       (have fu:decide (4 < (((Zb ab aj).f1).length:Int))=true:=decide_eq_true ik);(have fv:decide (4 < ((Zb ab aj).f1).length)=true:=decide_eq_true (by omega));(clear ik);(obtain rfl:=Option.some.inj H);(have dr:0≤(aj:Int):=zD);(have dt:aj < (ab.length:Int):=zD);(obtain⟨dw,gy,gz,ia,aw,ax,ba,bb⟩:=at_T41 bg.out aj dr dt);(cases ia);(replace aw:=zX HB aw);(replace ax:=zX HB ax);(have fy:=Za.mk bb);(have fz:=Za.mk ba);(clear bb ba);(replace dr:=eq_true dr);(replace dt:=eq_true dt)
       go_wp2_with (first|((with_reducible refine Zs (N:=4) rfl ?_);(try(refine gate_guard (by rfl) ?_;dsimp only));refine Zx ?hg (N:=4) ?hd (cs:=#[.int .i64 0,.slice none 0 0]) (t:=41) ?hr ?_;(case hd=>rfl);(case hg=>rfl);(case hr=>first|(go_simp;done)|(go_simp;rfl));intro bc hg mw hbox hb;have dx:=Za.mk (hbox);have ir:=Za.mk ((by rw [hg];exact(Zg (zH HB)):w.heap.size≤bc));have iu:=Za.mk ((by rw [hg];exact(Zg (zH HB)):w.heap.size≤bc));replace HB:=Za.mk (Zh (zH HB) hb);have au:=Za.mk ((by rw [hg];exact Nat.ne_of_lt (Zu (g:=ae) (o:= .cells #[.int .i64 ag,.int .i64 af,.int .i64 ai,.slice (some dw) ab.length ar] 24 (0,0)) (zK aa)):ae≠bc));have bf:=Za.mk ((by rw [hg];exact Nat.ne_of_gt (Zu (g:=ae) (o:= .cells #[.int .i64 ag,.int .i64 af,.int .i64 ai,.slice (some dw) ab.length ar] 24 (0,0)) (zK aa)):bc≠ae));replace aa:=Za.mk (Zj (g:=ae) (zK aa) hb);clear hb hbox hg;have ls:=bf.out;have lu:=au.out;obtain⟨ec,ee⟩:=zq2 dx.out;obtain⟨ef,eh⟩:=zf2 dx.out))
       go_ret
       exact⟨by first|rfl|(simp [Zl,Zk] <;> rfl)|(simp [*,Zl,Zk] <;> rfl),zH HB⟩
      (rw [if_neg ik] at H);(have fu:decide (4 < (((Zb ab aj).f1).length:Int))=false:=decide_eq_false ik);(have fv:decide (4 < ((Zb ab aj).f1).length)=false:=decide_eq_false (by omega));(clear ik);(have H':=Za.mk H);(clear H);(have dr:0≤(aj:Int):=zD);(have dt:aj < (ab.length:Int):=zD);(obtain⟨dw,gy,gz,ia,aw,ax,ba,bb⟩:=at_T41 bg.out aj dr dt);(cases ia);(replace aw:=zX HB aw);(replace ax:=zX HB ax);(have fy:=Za.mk bb);(have fz:=Za.mk ba);(clear bb ba);(replace dr:=eq_true dr);(replace dt:=eq_true dt)
      go_wp2_with (first|((with_reducible refine Zs (N:=4) rfl ?_);(try(refine gate_guard (by rfl) ?_;dsimp only));refine Zx ?hg (N:=4) ?hd (cs:=#[.int .i64 0,.slice none 0 0]) (t:=41) ?hr ?_;(case hd=>rfl);(case hg=>rfl);(case hr=>first|(go_simp;done)|(go_simp;rfl));intro bc hg my hbox hb;have dx:=Za.mk (hbox);have ir:=Za.mk ((by rw [hg];exact(Zg (zH HB)):w.heap.size≤bc));have iu:=Za.mk ((by rw [hg];exact(Zg (zH HB)):w.heap.size≤bc));replace HB:=Za.mk (Zh (zH HB) hb);have au:=Za.mk ((by rw [hg];exact Nat.ne_of_lt (Zu (g:=ae) (o:= .cells #[.int .i64 ag,.int .i64 af,.int .i64 ai,.slice (some dw) ab.length ar] 24 (0,0)) (zK aa)):ae≠bc));have bf:=Za.mk ((by rw [hg];exact Nat.ne_of_gt (Zu (g:=ae) (o:= .cells #[.int .i64 ag,.int .i64 af,.int .i64 ai,.slice (some dw) ab.length ar] 24 (0,0)) (zK aa)):bc≠ae));replace aa:=Za.mk (Zj (g:=ae) (zK aa) hb);clear hb hbox hg;have lv:=bf.out;have lw:=au.out;obtain⟨ei,ek⟩:=zq2 dx.out;obtain⟨eo,es⟩:=zf2 dx.out))
      go_roundg k2
      case measure=>have:=ie.out;have:=ig.out;omega
      case rel=>exact⟨(wrap64 (aj + 1)),(by first|rfl|(simp;done)|(simp [*];done)),H',⟨by have:=ie.out;have:=ig.out;omega⟩,⟨by (with_reducible repeat(first|refine Zn ?_ _|refine Zi ?_|refine Zm ?_ _));refine Zv ?_ au.out _;(with_reducible repeat(first|refine Zn ?_ _|refine Zi ?_|refine Zm ?_ _));refine Zv ?_ au.out _;(with_reducible repeat(first|apply zb3|apply zb2|apply zb1));exact aa.out⟩,⟨zH HB⟩⟩
     (rw [if_neg ii] at H);(have ft:decide (aj < (ab.length:Int))=false:=decide_eq_false ii);(clear ii);(have ib:=Za.mk H);(clear H)
     go_upto_region 9 with (fail)
     go_cut [52] (fun v52 wc=>∃(kq:Nat) (du:Bool),v52= .bool du∧Za (Zc1.j2 kq du ag af ai ab=some r)∧Za (kq≤k2)∧Za (wc.heap[ae]? =some (.cells #[.int .i64 ag,.int .i64 af,.int .i64 ai,(.slice dy ab.length ar)] 24 (0,0)))∧Za (Below w.heap.size w wc))
     case first=>
      (have H:=ib.out);(clear ib)
      by_cases il:ai < 0
      ·rw [if_pos il] at H
       (have bx:decide (ai < 0)=true:=decide_eq_true il);(clear il)
       (first|rw [bx]|(simp only [Zc,Zd];rw [bx])|skip)
       (have H':=Za.mk H);(clear H);(obtain⟨eu,ey,ez,fa⟩:=zq4 aa.out);(obtain⟨fb,fc,fd,fe⟩:=zf4 aa.out)
       go_wp2
       go_meet
       case rel=>exact⟨_,(true),(by first|rfl|(simp;done)|(simp [*];done)),H',⟨by have:=ie.out;have:=ig.out;first|omega|exact Nat.le_refl _⟩,⟨zK aa⟩,⟨zH HB⟩⟩
      (rw [if_neg il] at H);(have bx:decide (ai < 0)=false:=decide_eq_false il);(clear il)
      (first|rw [bx]|(simp only [Zc,Zd];rw [bx])|skip)
      (have H':=Za.mk H);(clear H);(obtain⟨ff,fg,fh,fi⟩:=zq4 aa.out);(obtain⟨fj,fk,fm,fo⟩:=zf4 aa.out)
      go_wp2
      go_meet
      case rel=>exact⟨_,(decide (ai≥af)),(by first|rfl|(simp;done)|(simp [*];done)),H',⟨by have:=ie.out;have:=ig.out;first|omega|exact Nat.le_refl _⟩,⟨zK aa⟩,⟨zH HB⟩⟩
     case rest=>
      (clear ib);(try clear c1);(try clear c2);(try clear p2);(try clear q2);(try clear ms);(try clear cb);(try clear fp);(try clear p6);(try clear fq);(try clear dv);(try clear gx);(try clear lr);(try clear ft);(try clear gv);(try clear gw);(try clear fu);(try clear fv);(try clear mt);(try clear mu);(try clear bx);(try clear lx);(try clear ly);(try clear lm);(try clear bh bi bj bk bp bq br bs di dj dk dl ec ee ei ek eu ey ez fa ff fg fh fi cd ce cf cg cm cn co cp da db dc dd bl bm bn bo bt bu bv bw dm dn dp dq ef eh eo es fb fc fd fe fj fk fm fo ch ci cj ck cq cu cw cy de df dg dh);(try clear aw);(try clear ax);(try clear p2);(try clear dr);(try clear dt);(obtain⟨kq,du,rfl,HA,iv,aa,HB⟩:=hcut)
      cases kq with
      |zero=>exact absurd HA.out (by simp [Zc1.j2])
      |succ ic=>
       (have H:=HA.out);(clear HA);(simp only [Zc1.j2] at H)
       by_cases iw:du=true
       ·subst iw
        (have H1:(some 2)=some r:=by rw [if_pos rfl] at H;exact H);(clear H);(have H:=H1);(clear H1);(obtain rfl:=Option.some.inj H)
        go_wp2
        go_ret
        exact⟨by first|rfl|(simp [Zl,Zk] <;> rfl)|(simp [*,Zl,Zk] <;> rfl),zH HB⟩
       (replace iw:=Bool.eq_false_iff.mpr iw);(subst iw);(have H1:(Zc1.l1 ic ab (ab.length:Int) 0 ag af ai ab)=some r:=by rw [if_neg (show ¬ (false=true) by decide)] at H;exact H);(clear H);(have H:=H1);(clear H1);(have H':=Za.mk H);(clear H);(obtain⟨ga,gc,gh,gi⟩:=zq4 aa.out);(obtain⟨gj,gl,gm,gn⟩:=zf4 aa.out)
       go_wp2
       go_loopg [56] ic (fun kq v56 w'=>∃(ac:Int),v56= .int .i64 ac∧Za (Zc1.l1 kq ab (ab.length:Int) ac ag af ai ab=some r)∧Za (kq≤ic)∧Za (w'.heap[ae]? =some (.cells #[.int .i64 ag,.int .i64 af,.int .i64 ai,(.slice dy ab.length ar)] 24 (0,0)))∧Za (Below w.heap.size w w'))
       case atStart=>exact⟨(0),(by first|rfl|(simp;done)|(simp [*];done)),H',⟨Nat.le_refl _⟩,⟨zK aa⟩,⟨zH HB⟩⟩
       case round=>
        (clear H');(try clear c1);(try clear c2);(try clear p2);(try clear q2);(try clear ms);(try clear cb);(try clear fp);(try clear p6);(try clear fq);(try clear dv);(try clear gx);(try clear lr);(try clear ft);(try clear gv);(try clear gw);(try clear fu);(try clear fv);(try clear mt);(try clear mu);(try clear bx);(try clear lx);(try clear ly);(try clear lm);(try clear iw);(try clear bh bi bj bk bp bq br bs di dj dk dl ec ee ei ek eu ey ez fa ff fg fh fi ga gc gh gi cd ce cf cg cm cn co cp da db dc dd bl bm bn bo bt bu bv bw dm dn dp dq ef eh eo es fb fc fd fe fj fk fm fo gj gl gm gn ch ci cj ck cq cu cw cy de df dg dh);(try clear aw);(try clear ax);(try clear p2);(try clear lx);(try clear dr);(try clear p6);(try clear q2);(try clear ly);(try clear dt);(obtain⟨ac,rfl,HA,lz,aa,HB⟩:=hrel)
        cases gk with
        |zero=>exact absurd HA.out (by simp [Zc1.l1])
        |succ k4=>
         (have H:=HA.out);(clear HA);(simp only [Zc1.l1] at H)
         by_cases io:ac < (ab.length:Int)
         rotate_left
         ·rw [if_neg io] at H
          (have ix:decide (ac < (ab.length:Int))=false:=decide_eq_false io);(clear io);(obtain rfl:=Option.some.inj H)
          go_wp2
          go_ret
          exact⟨by first|rfl|(simp [Zl,Zk] <;> rfl)|(simp [*,Zl,Zk] <;> rfl),zH HB⟩
         (rw [if_pos io] at H);(have ix:decide (ac < (ab.length:Int))=true:=decide_eq_true io);(clear io)
         by_cases je:0≤ac
         rotate_left
         ·rw [if_neg je] at H
          exact absurd H (by simp)
         (rw [if_pos je] at H);(have ma:decide (0≤ac)=true:=decide_eq_true je);(clear je)
         by_cases jf:ac < (ab.length:Int)
         rotate_left
         ·rw [if_neg jf] at H
          exact absurd H (by simp)
         (rw [if_pos jf] at H);(have mb:decide (ac < (ab.length:Int))=true:=decide_eq_true jf);(clear jf)
         by_cases ip:((Zb ab ac).f0) < 0
         ·rw [if_pos ip] at H
          (have iy:decide (((Zb ab ac).f0) < 0)=true:=decide_eq_true ip);(clear ip);(obtain rfl:=Option.some.inj H);(have ay:0≤(ac:Int):=zD);(have az:ac < (ab.length:Int):=zD);(obtain⟨av,bz,ca,dz,al,am,an,ao⟩:=at_T41 bg.out ac ay az);(cases dz);(replace al:=zX HB al);(replace am:=zX HB am);(have bd:=Za.mk ao);(have be:=Za.mk an);(clear ao an);(replace ay:=eq_true ay);(replace az:=eq_true az)
          go_wp2_with (first|((with_reducible refine Zs (N:=6) rfl ?_);(try(refine gate_guard (by rfl) ?_;dsimp only));refine Zx ?hg (N:=6) ?hd (cs:=#[.int .i64 0,.slice none 0 0]) (t:=41) ?hr ?_;(case hd=>rfl);(case hg=>rfl);(case hr=>first|(go_simp;done)|(go_simp;rfl));intro ak hg mz hbox hb;have aq:=Za.mk (hbox);have fw:=Za.mk ((by rw [hg];exact(Zg (zH HB)):w.heap.size≤ak));have fx:=Za.mk ((by rw [hg];exact(Zg (zH HB)):w.heap.size≤ak));replace HB:=Za.mk (Zh (zH HB) hb);have ah:=Za.mk ((by rw [hg];exact Nat.ne_of_lt (Zu (g:=ae) (o:= .cells #[.int .i64 ag,.int .i64 af,.int .i64 ai,.slice (some av) ab.length ar] 24 (0,0)) (zK aa)):ae≠ak));have ap:=Za.mk ((by rw [hg];exact Nat.ne_of_gt (Zu (g:=ae) (o:= .cells #[.int .i64 ag,.int .i64 af,.int .i64 ai,.slice (some av) ab.length ar] 24 (0,0)) (zK aa)):ak≠ae));replace aa:=Za.mk (Zj (g:=ae) (zK aa) hb);clear hb hbox hg;have mc:=ap.out;have me:=ah.out;obtain⟨jg,jh⟩:=zq2 aq.out;obtain⟨ji,jj⟩:=zf2 aq.out))
          go_ret
          exact⟨by first|rfl|(simp [Zl,Zk] <;> rfl)|(simp [*,Zl,Zk] <;> rfl),zH HB⟩
         (rw [if_neg ip] at H);(have iy:decide (((Zb ab ac).f0) < 0)=false:=decide_eq_false ip);(clear ip)
         by_cases iq:((Zb ab ac).f0)≥af
         ·rw [if_pos iq] at H
          (have iz:decide (af≤((Zb ab ac).f0))=true:=decide_eq_true iq);(clear iq);(obtain rfl:=Option.some.inj H);(have ay:0≤(ac:Int):=zD);(have az:ac < (ab.length:Int):=zD);(obtain⟨av,bz,ca,dz,al,am,an,ao⟩:=at_T41 bg.out ac ay az);(cases dz);(replace al:=zX HB al);(replace am:=zX HB am);(have bd:=Za.mk ao);(have be:=Za.mk an);(clear ao an);(replace ay:=eq_true ay);(replace az:=eq_true az)
          go_wp2_with (first|((with_reducible refine Zs (N:=6) rfl ?_);(try(refine gate_guard (by rfl) ?_;dsimp only));refine Zx ?hg (N:=6) ?hd (cs:=#[.int .i64 0,.slice none 0 0]) (t:=41) ?hr ?_;(case hd=>rfl);(case hg=>rfl);(case hr=>first|(go_simp;done)|(go_simp;rfl));intro ak hg na hbox hb;have aq:=Za.mk (hbox);have fw:=Za.mk ((by rw [hg];exact(Zg (zH HB)):w.heap.size≤ak));have fx:=Za.mk ((by rw [hg];exact(Zg (zH HB)):w.heap.size≤ak));replace HB:=Za.mk (Zh (zH HB) hb);have ah:=Za.mk ((by rw [hg];exact Nat.ne_of_lt (Zu (g:=ae) (o:= .cells #[.int .i64 ag,.int .i64 af,.int .i64 ai,.slice (some av) ab.length ar] 24 (0,0)) (zK aa)):ae≠ak));have ap:=Za.mk ((by rw [hg];exact Nat.ne_of_gt (Zu (g:=ae) (o:= .cells #[.int .i64 ag,.int .i64 af,.int .i64 ai,.slice (some av) ab.length ar] 24 (0,0)) (zK aa)):ak≠ae));replace aa:=Za.mk (Zj (g:=ae) (zK aa) hb);clear hb hbox hg;have mf:=ap.out;have mg:=ah.out;obtain⟨jk,jl⟩:=zq2 aq.out;obtain⟨jm,jn⟩:=zf2 aq.out;obtain⟨jo,jp,jq,jr⟩:=zq4 aa.out;obtain⟨js,jt,ju,jv⟩:=zf4 aa.out))
          go_ret
          exact⟨by first|rfl|(simp [Zl,Zk] <;> rfl)|(simp [*,Zl,Zk] <;> rfl),zH HB⟩
         (rw [if_neg iq] at H);(have iz:decide (af≤((Zb ab ac).f0))=false:=decide_eq_false iq);(clear iq);(replace H:=Option.bind_eq_some_iff.mp H);(obtain⟨ja,jb,H⟩:=H);(replace H:(if ja=true then(Zc1.l1 k4 ab (ab.length:Int) (wrap64 (ac + 1)) ag af ai ab) else(some 2))=some r:=H);(have mh:=Za.mk jb);(clear jb)
         by_cases jw:ja=true
         rotate_left
         ·replace jw:=Bool.eq_false_iff.mpr jw
          (subst jw);(have H1:(some 2)=some r:=by rw [if_neg (show ¬ (false=true) by decide)] at H;exact H);(clear H);(have H:=H1);(clear H1);(obtain rfl:=Option.some.inj H);(have ay:0≤(ac:Int):=zD);(have az:ac < (ab.length:Int):=zD);(obtain⟨av,bz,ca,dz,al,am,an,ao⟩:=at_T41 bg.out ac ay az);(cases dz);(replace al:=zX HB al);(replace am:=zX HB am);(have bd:=Za.mk ao);(have be:=Za.mk an);(clear ao an);(replace ay:=eq_true ay);(replace az:=eq_true az)
          go_wp2_with (first|((with_reducible refine Zs (N:=6) rfl ?_);(try(refine gate_guard (by rfl) ?_;dsimp only));refine Zx ?hg (N:=6) ?hd (cs:=#[.int .i64 0,.slice none 0 0]) (t:=41) ?hr ?_;(case hd=>rfl);(case hg=>rfl);(case hr=>first|(go_simp;done)|(go_simp;rfl));intro ak hg nb hbox hb;have aq:=Za.mk (hbox);have fw:=Za.mk ((by rw [hg];exact(Zg (zH HB)):w.heap.size≤ak));have fx:=Za.mk ((by rw [hg];exact(Zg (zH HB)):w.heap.size≤ak));replace HB:=Za.mk (Zh (zH HB) hb);have ah:=Za.mk ((by rw [hg];exact Nat.ne_of_lt (Zu (g:=ae) (o:= .cells #[.int .i64 ag,.int .i64 af,.int .i64 ai,.slice (some av) ab.length ar] 24 (0,0)) (zK aa)):ae≠ak));have ap:=Za.mk ((by rw [hg];exact Nat.ne_of_gt (Zu (g:=ae) (o:= .cells #[.int .i64 ag,.int .i64 af,.int .i64 ai,.slice (some av) ab.length ar] 24 (0,0)) (zK aa)):ak≠ae));replace aa:=Za.mk (Zj (g:=ae) (zK aa) hb);clear hb hbox hg;have mi:=ap.out;have ml:=ah.out;obtain⟨jx,jy⟩:=zq2 aq.out;obtain⟨jz,ka⟩:=zf2 aq.out;obtain⟨kd,ke,kf,ki⟩:=zq4 aa.out;obtain⟨kj,kn,kp,kr⟩:=zf4 aa.out)|(go_at_call 25;(with_reducible refine(Zy1.calls k4 ag af ai _ _ ab _ _ ((Zb ab ac).f1) false _ ?side1 ?side2 ?side3 ?side4 mh.out).mono ?_);(case side1=>exact Kd.C_below bg.out (zH HB));(case side2=>exact gu.out);(case side3=>exact Kd.C_below bd.out (zH HB));(case side4=>exact be.out);rintro e nc ⟨rfl,hb⟩;replace aa:=Za.mk (Zj (g:=ae) (o:= .cells #[.int .i64 ag,.int .i64 af,.int .i64 ai,.slice (some av) ab.length ar] 24 (0,0)) (by (with_reducible repeat(first|refine Zn ?_ _|refine Zi ?_|refine Zm ?_ _));refine Zv ?_ ah.out _;(with_reducible repeat(first|refine Zn ?_ _|refine Zi ?_|refine Zm ?_ _));refine Zv ?_ ah.out _;(with_reducible repeat(first|apply zb3|apply zb2|apply zb1));exact aa.out) hb);replace aq:=Za.mk (Zj (g:=ak) (o:= .cells #[.int .i64 ((Zb ab ac).f0),.slice bz ((Zb ab ac).f1).length ca] 41 (0,0)) (by (with_reducible repeat(first|refine Zn ?_ _|refine Zi ?_|refine Zm ?_ _));refine Zs1 (cs:=#[.int .i64 ((Zb ab ac).f0),.slice none 0 0]) ?_ 1 _ rfl;(with_reducible repeat(first|refine Zn ?_ _|refine Zi ?_|refine Zm ?_ _));refine Zs1 (cs:=#[.int .i64 0,.slice none 0 0]) ?_ 0 _ rfl;(with_reducible repeat(first|apply zb3|apply zb2|apply zb1));exact aq.out) hb);replace HB:=Za.mk (Zh (zH HB) hb);(try clear hb);(try clear hb2);(try clear hk);(try clear hi)))
          go_ret
          exact⟨by first|rfl|(simp [Zl,Zk] <;> rfl)|(simp [*,Zl,Zk] <;> rfl),zH HB⟩
         (subst jw);(have H1:(Zc1.l1 k4 ab (ab.length:Int) (wrap64 (ac + 1)) ag af ai ab)=some r:=by rw [if_pos rfl] at H;exact H);(clear H);(have H:=H1);(clear H1);(have H':=Za.mk H);(clear H);(have ay:0≤(ac:Int):=zD);(have az:ac < (ab.length:Int):=zD);(obtain⟨av,bz,ca,dz,al,am,an,ao⟩:=at_T41 bg.out ac ay az);(cases dz);(replace al:=zX HB al);(replace am:=zX HB am);(have bd:=Za.mk ao);(have be:=Za.mk an);(clear ao an);(replace ay:=eq_true ay);(replace az:=eq_true az)
         go_wp2_with (first|((with_reducible refine Zs (N:=6) rfl ?_);(try(refine gate_guard (by rfl) ?_;dsimp only));refine Zx ?hg (N:=6) ?hd (cs:=#[.int .i64 0,.slice none 0 0]) (t:=41) ?hr ?_;(case hd=>rfl);(case hg=>rfl);(case hr=>first|(go_simp;done)|(go_simp;rfl));intro ak hg nf hbox hb;have aq:=Za.mk (hbox);have fw:=Za.mk ((by rw [hg];exact(Zg (zH HB)):w.heap.size≤ak));have fx:=Za.mk ((by rw [hg];exact(Zg (zH HB)):w.heap.size≤ak));replace HB:=Za.mk (Zh (zH HB) hb);have ah:=Za.mk ((by rw [hg];exact Nat.ne_of_lt (Zu (g:=ae) (o:= .cells #[.int .i64 ag,.int .i64 af,.int .i64 ai,.slice (some av) ab.length ar] 24 (0,0)) (zK aa)):ae≠ak));have ap:=Za.mk ((by rw [hg];exact Nat.ne_of_gt (Zu (g:=ae) (o:= .cells #[.int .i64 ag,.int .i64 af,.int .i64 ai,.slice (some av) ab.length ar] 24 (0,0)) (zK aa)):ak≠ae));replace aa:=Za.mk (Zj (g:=ae) (zK aa) hb);clear hb hbox hg;have mm:=ap.out;have mn:=ah.out;obtain⟨kt,ku⟩:=zq2 aq.out;obtain⟨kv,kw⟩:=zf2 aq.out;obtain⟨kx,ky,kz,la⟩:=zq4 aa.out;obtain⟨lc,ld,lf,lg⟩:=zf4 aa.out)|(go_at_call 25;(with_reducible refine(Zy1.calls k4 ag af ai _ _ ab _ _ ((Zb ab ac).f1) true _ ?side1 ?side2 ?side3 ?side4 mh.out).mono ?_);(case side1=>exact Kd.C_below bg.out (zH HB));(case side2=>exact gu.out);(case side3=>exact Kd.C_below bd.out (zH HB));(case side4=>exact be.out);rintro e ng ⟨rfl,hb⟩;replace aa:=Za.mk (Zj (g:=ae) (o:= .cells #[.int .i64 ag,.int .i64 af,.int .i64 ai,.slice (some av) ab.length ar] 24 (0,0)) (by (with_reducible repeat(first|refine Zn ?_ _|refine Zi ?_|refine Zm ?_ _));refine Zv ?_ ah.out _;(with_reducible repeat(first|refine Zn ?_ _|refine Zi ?_|refine Zm ?_ _));refine Zv ?_ ah.out _;(with_reducible repeat(first|apply zb3|apply zb2|apply zb1));exact aa.out) hb);replace aq:=Za.mk (Zj (g:=ak) (o:= .cells #[.int .i64 ((Zb ab ac).f0),.slice bz ((Zb ab ac).f1).length ca] 41 (0,0)) (by (with_reducible repeat(first|refine Zn ?_ _|refine Zi ?_|refine Zm ?_ _));refine Zs1 (cs:=#[.int .i64 ((Zb ab ac).f0),.slice none 0 0]) ?_ 1 _ rfl;(with_reducible repeat(first|refine Zn ?_ _|refine Zi ?_|refine Zm ?_ _));refine Zs1 (cs:=#[.int .i64 0,.slice none 0 0]) ?_ 0 _ rfl;(with_reducible repeat(first|apply zb3|apply zb2|apply zb1));exact aq.out) hb);replace HB:=Za.mk (Zh (zH HB) hb);(try clear hb);(try clear hb2);(try clear hk);(try clear hi)))
         go_roundg k4
         case measure=>have:=ie.out;have:=ig.out;have:=iv.out;have:=lz.out;omega
         case rel=>exact⟨(wrap64 (ac + 1)),(by first|rfl|(simp;done)|(simp [*];done)),H',⟨by have:=ie.out;have:=ig.out;have:=iv.out;have:=lz.out;omega⟩,⟨zK aa⟩,⟨zH HB⟩⟩
end Go.Proofs.Ytbifocddbgleeaa.PAheadParses
