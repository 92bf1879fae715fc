-- By a program.
import Derived.Test.YtbifocddbgleeaaQPAheadParsesx0
import Derived.Test.YtbifocddbgleeaaQPAheadParsesx6
import Derived.Test.YtbifocddbgleeaaQPAheadParsesx7
namespace Go.Proofs.Ytbifocddbgleeaa.PAheadParses
open Go.RowKit Go.Proofs.YtbifocddbgleeaaW.PrintWords Go.Proofs.YtbifocddbgleeaaW.PrintLast Go.Proofs.YtbifocddbgleeaaW.PrintMore
attribute [local go_sem] max2_int min2_int max_two min_two max_three min_three max_four min_four
set_option linter.unusedVariables false
set_option linter.unusedSimpArgs false
mutual
def Zp.l0:Nat→List Int→Int→Int→List Int→Bool→Int→Int→Int→List (S41)→Option (List Int)
  |0,_,_,_,_,_,_,_,_,_=>none
  |k + 1,x1,x2,x7,x9,x10,x182000,x182001,x182002,x182003=>if x10=true then(Zp.l1 k x1 x2 x7 x9 false x182003 (x182003.length:Int) 0 x182000 x182001 x182002 x182003) else(some x9)
def Zp.l1:Nat→List Int→Int→Int→List Int→Bool→List (S41)→Int→Int→Int→Int→Int→List (S41)→Option (List Int)
  |0,_,_,_,_,_,_,_,_,_,_,_,_=>none
  |k + 1,x1,x2,x7,x9,x10,x34,x35,x36,x182000,x182001,x182002,x182003=>if x36 < x35 then(if 0≤x36 then(if x36 < (x34.length:Int) then(if 0≤((Zb x34 x36).f0) then(if(Go.bits .and .u32 (shr .u32 x7 ((Zb x34 x36).f0)) 1)=0 then(Zp.l1 k x1 x2 x7 x9 x10 x34 x35 (wrap64 (x36 + 1)) x182000 x182001 x182002 x182003) else(Zp.l2 k x1 x2 x7 x9 x10 x34 x35 x36 ((Zb x34 x36).f1) (((Zb x34 x36).f1).length:Int) 0 x182000 x182001 x182002 x182003 ((Zb x34 x36).f0) ((Zb x34 x36).f1))) else(none)) else(none)) else(none)) else(Zp.l0 k x1 x2 x7 x9 x10 x182000 x182001 x182002 x182003)
def Zp.l2:Nat→List Int→Int→Int→List Int→Bool→List (S41)→Int→Int→List Int→Int→Int→Int→Int→Int→List (S41)→Int→List Int→Option (List Int)
  |0,_,_,_,_,_,_,_,_,_,_,_,_,_,_,_,_,_=>none
  |k + 1,x1,x2,x7,x9,x10,x34,x35,x36,x47,x48,x49,x182000,x182001,x182002,x182003,x190000,x190001=>if x49 < x48 then(if 0≤x49 then(if x49 < (x47.length:Int) then(if(rd x47 x49) < x182000 then(Zp.l2 k x1 x2 x7 x9 x10 x34 x35 x36 x47 x48 (wrap64 (x49 + 1)) x182000 x182001 x182002 x182003 x190000 x190001) else(if 0≤(wrap64 (x49 + 1)) then(if(wrap64 (x49 + 1))≤(x190001.length:Int) then((Zm1.f k x182000 x182001 x182002 x182003 x1 x2 (x190001.drop ((wrap64 (x49 + 1)):Int).toNat)).bind fun bt195=>(if bt195.2=true then(if 0≤x190000 then(if x190000 < (x9.length:Int) then(if x10=true then(if 0≤(wrap64 ((rd x47 x49) - x182000)) then(if(wrap64 ((rd x47 x49) - x182000)) < (x9.length:Int) then(Zp.l2 k x1 x2 x7 (x9.set ((wrap64 ((rd x47 x49) - x182000)):Int).toNat (Go.bits .or .u32 (rd x9 (wrap64 ((rd x47 x49) - x182000))) (Go.bits .or .u32 bt195.1 (rd x9 x190000)))) true x34 x35 x36 x47 x48 (wrap64 (x49 + 1)) x182000 x182001 x182002 x182003 x190000 x190001) else(none)) else(none)) else(if 0≤(wrap64 ((rd x47 x49) - x182000)) then(if(wrap64 ((rd x47 x49) - x182000)) < (x9.length:Int) then(Zp.l2 k x1 x2 x7 (x9.set ((wrap64 ((rd x47 x49) - x182000)):Int).toNat (Go.bits .or .u32 (rd x9 (wrap64 ((rd x47 x49) - x182000))) (Go.bits .or .u32 bt195.1 (rd x9 x190000)))) ((Go.bits .andNot .u32 (Go.bits .or .u32 bt195.1 (rd x9 x190000)) (rd x9 (wrap64 ((rd x47 x49) - x182000)))) != 0) x34 x35 x36 x47 x48 (wrap64 (x49 + 1)) x182000 x182001 x182002 x182003 x190000 x190001) else(none)) else(none))) else(none)) else(none)) else(if x10=true then(if 0≤(wrap64 ((rd x47 x49) - x182000)) then(if(wrap64 ((rd x47 x49) - x182000)) < (x9.length:Int) then(Zp.l2 k x1 x2 x7 (x9.set ((wrap64 ((rd x47 x49) - x182000)):Int).toNat (Go.bits .or .u32 (rd x9 (wrap64 ((rd x47 x49) - x182000))) bt195.1)) true x34 x35 x36 x47 x48 (wrap64 (x49 + 1)) x182000 x182001 x182002 x182003 x190000 x190001) else(none)) else(none)) else(if 0≤(wrap64 ((rd x47 x49) - x182000)) then(if(wrap64 ((rd x47 x49) - x182000)) < (x9.length:Int) then(Zp.l2 k x1 x2 x7 (x9.set ((wrap64 ((rd x47 x49) - x182000)):Int).toNat (Go.bits .or .u32 (rd x9 (wrap64 ((rd x47 x49) - x182000))) bt195.1)) ((Go.bits .andNot .u32 bt195.1 (rd x9 (wrap64 ((rd x47 x49) - x182000)))) != 0) x34 x35 x36 x47 x48 (wrap64 (x49 + 1)) x182000 x182001 x182002 x182003 x190000 x190001) else(none)) else(none))))) else(none)) else(none))) else(none)) else(none)) else(Zp.l1 k x1 x2 x7 x9 x10 x34 x35 (wrap64 (x36 + 1)) x182000 x182001 x182002 x182003)
end
def Zp.f (k:Nat) (a0_0:Int) (a0_1:Int) (a0_2:Int) (l0_3:List (S41)) (l1:List Int) (a2:Int):Option (List Int):=(Zh1.f k a0_0 a0_1 a0_2 l0_3).bind fun bt182=>(if 0≤a0_1 then(if(a0_1:Int).toNat≤70368744177664 then((some (List.replicate (a0_1:Int).toNat 0:List Int)).bind fun y184=>(if 0≤a0_0 then(if 0≤a0_2 then(if a0_2 < (y184.length:Int) then(Zp.l0 k l1 a2 bt182.1 (y184.set (a0_2:Int).toNat (shl .u32 1 a0_0)) true a0_0 a0_1 a0_2 l0_3) else(none)) else(none)) else(none))) else(none)) else(none))
theorem Zp.mono_l: ∀k,(∀y0 y1 y2 y3 y4 y5 y6 y7 y8,LeO (Zp.l0 k y0 y1 y2 y3 y4 y5 y6 y7 y8) (Zp.l0 (k + 1) y0 y1 y2 y3 y4 y5 y6 y7 y8))∧(∀y0 y1 y2 y3 y4 y5 y6 y7 y8 y9 y10 y11,LeO (Zp.l1 k y0 y1 y2 y3 y4 y5 y6 y7 y8 y9 y10 y11) (Zp.l1 (k + 1) y0 y1 y2 y3 y4 y5 y6 y7 y8 y9 y10 y11))∧(∀y0 y1 y2 y3 y4 y5 y6 y7 y8 y9 y10 y11 y12 y13 y14 y15 y16,LeO (Zp.l2 k y0 y1 y2 y3 y4 y5 y6 y7 y8 y9 y10 y11 y12 y13 y14 y15 y16) (Zp.l2 (k + 1) y0 y1 y2 y3 y4 y5 y6 y7 y8 y9 y10 y11 y12 y13 y14 y15 y16))
  |0=>⟨fun _ _ _ _ _ _ _ _ _ r h=>by simp [Zp.l0] at h,fun _ _ _ _ _ _ _ _ _ _ _ _ r h=>by simp [Zp.l1] at h,fun _ _ _ _ _ _ _ _ _ _ _ _ _ _ _ _ _ r h=>by simp [Zp.l2] at h⟩
  |k + 1=>by
    obtain⟨ih0,ih1,ih2⟩:=Zp.mono_l k
    refine⟨?_,?_,?_⟩
    · intro y0 y1 y2 y3 y4 y5 y6 y7 y8
      unfold Zp.l0
      repeat' (with_reducible first|apply ih0|apply ih1|apply ih2|apply Zm1.mono|apply Zh1.mono|exact LeO.refl _|exact LeO.none _|refine LeO.ite ?_ ?_|refine LeO.bind ?_ (fun _=>?_))
    · intro y0 y1 y2 y3 y4 y5 y6 y7 y8 y9 y10 y11
      unfold Zp.l1
      repeat' (with_reducible first|apply ih0|apply ih1|apply ih2|apply Zm1.mono|apply Zh1.mono|exact LeO.refl _|exact LeO.none _|refine LeO.ite ?_ ?_|refine LeO.bind ?_ (fun _=>?_))
    · intro y0 y1 y2 y3 y4 y5 y6 y7 y8 y9 y10 y11 y12 y13 y14 y15 y16
      unfold Zp.l2
      repeat' (with_reducible first|apply ih0|apply ih1|apply ih2|apply Zm1.mono|apply Zh1.mono|exact LeO.refl _|exact LeO.none _|refine LeO.ite ?_ ?_|refine LeO.bind ?_ (fun _=>?_))
theorem Zp.mono: ∀a0 a1 a2 a3 a4 a5 k,LeO (Zp.f k a0 a1 a2 a3 a4 a5) (Zp.f (k + 1) a0 a1 a2 a3 a4 a5):=by
  intro a0 a1 a2 a3 a4 a5 k
  obtain⟨ih0,ih1,ih2⟩:=Zp.mono_l k
  unfold Zp.f
  repeat' (with_reducible first|apply ih0|apply ih1|apply ih2|apply Zm1.mono|apply Zh1.mono|exact LeO.refl _|exact LeO.none _|refine LeO.ite ?_ ?_|refine LeO.bind ?_ (fun _=>?_))
def Zp.T3:Bool × List (List Nat × List Nat):=(true,[([],[]),([],[]),([1],[1]),([],[]),([3],[3]),([4],[4]),([0,2,0,1,2,3,4,5],[0,2]),([6,5,0,1,2,3,4,5],[5,6])])
def Zp.B3:List Nat:=[0,0,2,0,8,24,63,127]
theorem Zp.tab3:rtab .any (opsOf Try.f22 3)=Zp.T3:=by kernel_rfl
theorem Zp.bits3:waitsOk Zp.T3.2 Zp.B3=true:=by kernel_rfl
def Zp.T15:Bool × List (List Nat × List Nat):=(true,[([],[]),([],[]),([],[]),([],[]),([3],[3]),([],[]),([5],[5]),([4,6],[4,6]),([0,1,2,7],[0,1,2,7]),([8],[8]),([9],[9]),([9],[9]),([10,8,0,1,2,3,4,5,6,7,8,9,10],[10]),([11,12,0,1,2,3,4,5,6,7,8,9,10,11,12],[11])])
def Zp.B15:List Nat:=[0,0,0,0,8,0,32,120,255,511,1023,1023,2047,8191]
theorem Zp.tab15:rtab .any (opsOf Try.f22 15)=Zp.T15:=by kernel_rfl
theorem Zp.bits15:waitsOk Zp.T15.2 Zp.B15=true:=by kernel_rfl
set_option maxHeartbeats 8000000 in
set_option maxRecDepth 100000 in
theorem Zp.calls (k : Nat) (af : Int) (am : Int) (ak : Int) (ei : Option Addr) (bi : Nat) (ab : List (S41)) (A1 : Option Addr) (c1 : Nat) (l1 : List Int) (a2 : Int) (r : List Int) (w : World) (gx : Kd.C k41 w ei ab.length ab) (gy : ab.length ≤ bi) (su : Kd.C (Kd.int .u32) w A1 l1.length l1) (sv : l1.length ≤ c1) (h : Zp.f k af am ak ab l1 a2 = some r) :
    Calls Try.prog 22 #[.agg #[.int .i64 af,.int .i64 am,.int .i64 ak,.slice ei ab.length bi],.slice A1 l1.length c1,.int .u32 a2] w fun e w'=>∃v0_:Value,e= .returned (v0_)∧Kd.R (Kd.int .u32) 42 w' w.heap.size (fun _=>True) v0_ r∧Below w.heap.size w w':=by
 (have ut:=Try.underlying24);(have uy:=Try.underlying3);(have uu:=Try.underlying42);(have uv:=Try.underlying41);(have ci:=Za.mk gx);(have du:=Za.mk gy);(clear gx gy);(have ml:=Za.mk su);(have mm:=Za.mk sv);(clear su sv);(have HB:=Za.mk (Below.refl w.heap.size w));(have H:((Zh1.f k af am ak ab).bind fun kn=>(if 0≤am then(if(am:Int).toNat≤70368744177664 then((some (List.replicate (am:Int).toNat 0:List Int)).bind fun bx=>(if 0≤af then(if 0≤ak then(if ak < (bx.length:Int) then(Zp.l0 k l1 a2 kn.1 (bx.set (ak:Int).toNat (shl .u32 1 af)) true af am ak ab) else(none)) else(none)) else(none))) else(none)) else(none)))=some r:=h);(clear h);(replace H:=Option.bind_eq_some_iff.mp H);(obtain⟨⟨aw,rc⟩,sw,H⟩:=H);(replace H:(if 0≤am then(if(am:Int).toNat≤70368744177664 then((some (List.replicate (am:Int).toNat 0:List Int)).bind fun bx=>(if 0≤af then(if 0≤ak then(if ak < (bx.length:Int) then(Zp.l0 k l1 a2 aw (bx.set (ak:Int).toNat (shl .u32 1 af)) true af am ak ab) else(none)) else(none)) else(none))) else(none)) else(none))=some r:=H);(have A4:=Za.mk sw);(clear sw)
 by_cases c5:0≤am
 rotate_left
 ·rw [if_neg c5] at H
  exact absurd H (by simp)
 (rw [if_pos c5] at H);(have io:=eq_true c5);(have ip:decide (0≤am)=true:=decide_eq_true c5);(clear c5)
 by_cases c6:(am:Int).toNat≤70368744177664
 rotate_left
 ·rw [if_neg c6] at H
  exact absurd H (by simp)
 (rw [if_pos c6] at H);(have iq:=eq_true c6);(have ir:decide ((am:Int).toNat≤70368744177664)=true:=decide_eq_true c6);(clear c6);(obtain⟨bx,dv⟩ : ∃y_:List Int,y_=(List.replicate (am:Int).toNat 0):=⟨_,rfl⟩);(replace H:(if 0≤af then(if 0≤ak then(if ak < (bx.length:Int) then(Zp.l0 k l1 a2 aw (bx.set (ak:Int).toNat (shl .u32 1 af)) true af am ak ab) else(none)) else(none)) else(none))=some r:=by first|(rw [dv];with_reducible exact H)|(have H2_:=(Option.bind_some _ _).symm.trans H;rw [dv];with_reducible exact H2_)|(have H2_:=(Option.bind_some _ _).symm.trans H;with_reducible exact H2_)|with_reducible exact H|(rw [dv];exact H)|exact H);(have gz:=Za.mk dv);(clear dv)
 by_cases c7:0≤af
 rotate_left
 ·rw [if_neg c7] at H
  exact absurd H (by simp)
 (rw [if_pos c7] at H);(have iu:=eq_true c7);(have iv:decide (0≤af)=true:=decide_eq_true c7);(clear c7);(obtain⟨iw,bk⟩ : ∃j_:Int,(shl .u32 1 af)=j_:=⟨_,rfl⟩);(replace H:(if 0≤ak then(if ak < (bx.length:Int) then(Zp.l0 k l1 a2 aw (bx.set (ak:Int).toNat (iw)) true af am ak ab) else(none)) else(none))=some r:=by first|(rw [bk] at H;exact H)|(simp only [bk] at H ⊢;exact H));((try rw [bk] at A4));(have kp:(IntKind.u32.wrap (1 * 2 ^ min af.toNat 32))=iw:=bk);(have kr:af≤32→(IntKind.u32.wrap (1 * 2 ^ af.toNat))=iw:=shl_small bk);(have sx:(IntKind.u32.wrap (2 ^ min af.toNat 32))=iw:=by have h_:=kp;rw [Int.one_mul] at h_;exact h_);(have ta:af≤32→(IntKind.u32.wrap (2 ^ af.toNat))=iw:=fun hle_=>by have h_:=kr hle_;rw [Int.one_mul] at h_;exact h_)
 by_cases c9:0≤ak
 rotate_left
 ·rw [if_neg c9] at H
  exact absurd H (by simp)
 (rw [if_pos c9] at H);(have ix:decide (0≤ak)=true:=decide_eq_true c9);(clear c9)
 by_cases c10:ak < (bx.length:Int)
 rotate_left
 ·rw [if_neg c10] at H
  exact absurd H (by simp)
 (rw [if_pos c10] at H);(have fk:decide (ak < (bx.length:Int))=true:=decide_eq_true c10);(clear c10);(obtain⟨kt,dw⟩ : ∃y_:List Int,y_=(bx.set (ak:Int).toNat (iw)):=⟨_,rfl⟩);(replace H:(Zp.l0 k l1 a2 aw kt true af am ak ab)=some r:=by first|(rw [dw];with_reducible exact H)|(have H2_:=(Option.bind_some _ _).symm.trans H;rw [dw];with_reducible exact H2_)|(have H2_:=(Option.bind_some _ _).symm.trans H;with_reducible exact H2_)|with_reducible exact H|(rw [dw];exact H)|exact H);(have ku:=Za.mk dw);(clear dw);(have H':=Za.mk H);(clear H)
 go_enter Try.func22,Try.ntmps22
 try go_wp2_with (first|((with_reducible refine Zs (N:=3) rfl ?_);refine Zx ?hg (N:=3) ?hd (cs:=#[.int .i64 af,.int .i64 am,.int .i64 ak,.slice ei ab.length bi]) (t:=24) ?hr ?_;(case hd=>rfl);(case hg=>rfl);(case hr=>first|(go_simp;done)|(go_simp;rfl));intro ap hg uz hbox hb;have ac:=Za.mk (hbox);have tb:=Za.mk ((by rw [hg];exact(Zg (zH HB)):w.heap.size≤ap));have kv:=Za.mk ((by rw [hg];exact(Zg (zH HB)):w.heap.size≤ap));replace HB:=Za.mk (Zh (zH HB) hb);clear hb hbox hg;obtain⟨cn,co,cp,cq⟩:=zq4 ac.out;obtain⟨cu,cw,cy,da⟩:=zf4 ac.out)|((with_reducible refine Zl1 (f:=34) rfl ?_);refine goesL_ (some 19) rfl rfl Try.func34 (by kernel_rfl) rfl #[.agg #[.int .i64 af,.int .i64 am,.int .i64 ak,.slice ei ab.length bi]] rfl (by (try simp only [List.map_toArray,List.map_cons,List.map_nil]);first|done|rfl|(simp only [List.length_drop,List.length_take];rfl)) ?_;(with_reducible refine(Zh1.calls k af am ak _ _ ab aw rc _ ?side1 ?side2 A4.out).mono ?_);(case side1=>exact zC ci HB);(case side2=>exact du.out);rintro e vk ⟨rfl,hb⟩;refine⟨_,rfl,?_⟩;replace ac:=Za.mk (Zj (g:=ap) (zK ac) hb);replace HB:=Za.mk (Zh (zH HB) hb);(try clear hb);(try clear hb2);(try clear hk);(try clear hi);obtain⟨db,dc,dd,de⟩:=zq4 ac.out;obtain⟨df,dg,dh,di⟩:=zf4 ac.out)|((with_reducible refine Zs (N:=24) rfl ?_);refine Kd.R_make (Kd.int .u32) _ 42 rfl (N:=24) rfl 37 _ _ rfl am rfl rfl Try.underlying37 (.int .u32 0) 4 info42 rfl (by decide) (by omega) 0 (ok:=fun _=>True) (okp:=fun _=>True) rfl (fun _ hk=>hk) trivial (zD) (Nat.le_trans (Nat.mul_le_mul_right _ (zD:am.toNat≤70368744177664)) (by omega)) (Below.refl _ _) (Nat.le_refl _) ?_;intro v185 uw ho17 hb hg_ hnew_;clear hg_ hnew_;(first|rw [← gz.out] at ho17|(simp only [Int.reduceToNat] at ho17;rw [← gz.out] at ho17));have bq:=Za.mk (Kd.R_lower ho17 (Zg (zH HB)));replace ac:=Za.mk (Zj (g:=ap) (zK ac) hb);replace HB:=Za.mk (Zh (zH HB) hb);clear hb ho17))
 (replace bq:=Za.mk (Kd.R_drew bq.out));(replace ac:=Za.mk (Zi ac.out));(replace HB:=Za.mk (Zz1 HB.out));(have fv:0≤(ak:Int):=zD);(have fw:(ak:Int) < ((bx.length:Int):Int):=zD);(obtain⟨go11,ek,kw,kx,gl11,cl11,HG11⟩:=Kd.R_form bq.out (by omega))
 (first|cases kw|(injection kw with ea_ en_ ec_;(first|subst ea_|(injection ea_ with ea_;subst ea_));subst ec_;clear en_))
 (have GB11:=Za.mk kx);(have GG11:=Za.mk HG11);(clear kx gl11 HG11);(obtain⟨dj,hf11_0⟩:=Kd.R_celln 0 bq.out (ak:Int) fv fw);(replace fv:=eq_true fv);(replace fw:=eq_true fw);(have HP19:=Kd.R_putn bq.out (ak:Int) iw);(rw [← ku.out] at HP19);(have HQ19:=Za.mk HP19);(clear HP19)
 refine start_ (n:=8) (S:=fun w'=>w'.cell? ⟨ap,0,none⟩=some (.int .i64 af)∧w'.cell? ⟨ap,1,none⟩=some (.int .i64 am)∧w'.cell? ⟨ap,2,none⟩=some (.int .i64 ak)∧w'.cell? ⟨ap,3,none⟩=some (.slice ei ab.length bi)) (ds:=[]) #[false,false,false,false,false,false,false,false] (by kernel_rfl) rfl rfl ⟨(Zf ac.out 0).trans rfl,(Zf ac.out 1).trans rfl,(Zf ac.out 2).trans rfl,(Zf ac.out 3).trans rfl⟩ (fun hHeld=>?_);refine Zc2 Zp.tab3 Zp.bits3 (fun HT_ HW_=>?_)
 generalize uw.drew=vl at bq ac HB GG11 HQ19 hf11_0 dj hHeld ⊢
 refine zP 0 (some 25) (zt 8 1) (Ze HT_.out (by kernel_rfl)) ?_
 refine zP 1 (some 26) (zt 8 3) (Ze HT_.out (by kernel_rfl)) ?_
 refine zP 3 (some 28) (zt 8 11) (Ze HT_.out (by kernel_rfl)) ?_
 refine take_ (i:=2) (N:=some 27) (v:=?_) (a':=?_) #[true,true,true,true,false,false,false,false] rfl rfl (Zi1 HT_.out HW_.out (by kernel_rfl)) (fun _ _ _ h=>h) (Or.inl ⟨by rfl,?_⟩) hHeld ?_ ?_
 rotate_left
 ·rintro w' ⟨s0,s1,s2,s3⟩
  go_simp
  with_reducible rfl
 rotate_left
 ·simp only [Act.put,zp1,zp2,zp3,Zc,Zd]
  rfl
 refine take_ (i:=4) (N:=some 29) (v:=?_) (a':=?_) #[true,true,true,true,true,false,false,false] rfl rfl (Zi1 HT_.out HW_.out (by kernel_rfl)) (fun _ _ _ h=>h) (Or.inl ⟨by rfl,?_⟩) hHeld ?_ ?_
 rotate_left
 ·rintro w' ⟨s0,s1,s2,s3⟩
  go_simp
  with_reducible rfl
 rotate_left
 ·simp only [Act.put,zp1,zp2,zp3,Zc,Zd]
  rfl
 refine zP 5 (some 30) (zt 8 63) (Ze HT_.out (by kernel_rfl)) ?_
 refine zP 6 (some 31) (zt 8 127) (Ze HT_.out (by kernel_rfl)) ?_
 refine one_ (i:=7) (N:=none) #[true,true,true,true,true,true,true,true] rfl rfl (one_of HT_.out (by kernel_rfl)) (by decide) (fun K hK=>?_)
 refine skip_ (w1:=?_) (by rfl) rfl ?_ ?_
 rotate_left
 ·go_simp
  rfl
 refine hK.out _ _ ⟨((cell_far (p:=⟨go11,_,none⟩) (show ap≠go11 from(by have h_:=Kd.R_ne bq.out ac.out (by decide);intro e_;exact h_ (by rw [e_];rfl))) _).trans (hHeld.1)),((cell_far (p:=⟨go11,_,none⟩) (show ap≠go11 from(by have h_:=Kd.R_ne bq.out ac.out (by decide);intro e_;exact h_ (by rw [e_];rfl))) _).trans (hHeld.2.1)),((cell_far (p:=⟨go11,_,none⟩) (show ap≠go11 from(by have h_:=Kd.R_ne bq.out ac.out (by decide);intro e_;exact h_ (by rw [e_];rfl))) _).trans (hHeld.2.2.1)),((cell_far (p:=⟨go11,_,none⟩) (show ap≠go11 from(by have h_:=Kd.R_ne bq.out ac.out (by decide);intro e_;exact h_ (by rw [e_];rfl))) _).trans (hHeld.2.2.2))⟩ (fun hHeld=>?_)
 clear hK K
 refine done_ (done_of HT_.out (by kernel_rfl)) ?_
 try go_wp2
 go_loopg [10] k (fun kq v10 w'=>∃(eo:List Int) (fa:Bool),v10= .bool fa∧Za (Zp.l0 kq l1 a2 aw eo fa af am ak ab=some r)∧Za (kq≤k)∧Za (Kd.R (Kd.int .u32) 42 w' w.heap.size (fun _=>True) (.slice (some ⟨go11,0,none⟩) bx.length ek) eo)∧Za (w'.heap[ap]? =some (.cells #[.int .i64 af,.int .i64 am,.int .i64 ak,(.slice ei ab.length bi)] 24 (0,0)))∧Za (Below w.heap.size w w'))
 case atStart=>exact⟨(kt),(true),(by first|rfl|(simp;done)|(simp [*];done)),H',⟨Nat.le_refl _⟩,⟨by (with_reducible repeat(first|apply Kd.R_alloc|apply Kd.R_drewN|apply Kd.R_drew));exact HQ19.out⟩,⟨by (with_reducible repeat(first|refine Zn ?_ _|refine Zi ?_|refine Zm ?_ _));refine Zv ?_ (by have h_:=Kd.R_ne bq.out ac.out (by decide);intro e_;exact h_ (by rw [e_];rfl)) _;(with_reducible repeat(first|apply zb3|apply zb2|apply zb1));exact ac.out⟩,⟨by repeat(first|(with_reducible first|exact HB.out|apply below_alloc|apply pw_below_drewN|apply Zz1|refine below_set ?_ GB11.out|refine below_set ?_ kv.out)|exact HB.out)⟩⟩
 case round=>
  (clear H');(try clear c1);(try clear p1);(try clear q1);(try clear tc);(try clear c2);(try clear p2);(try clear c3);(try clear io);(try clear ip);(try clear iq);(try clear ir);(try clear iu);(try clear iv);(try clear ix);(try clear fk);(try clear fv);(try clear fw);(try clear ky);(try clear hf11);(try clear cn co cp cq db dc dd de cu cw cy da df dg dh di);(try clear dj);(try clear fv);(try clear fw);(obtain⟨eo,fa,rfl,HA,cg,al,ac,HB⟩:=hrel);(have ai:=(Kd.R_reads' al.out).1);(rw [ai] at al);((try simp only [ai]));((try simp only [ai] at ac))
  cases gk with
  |zero=>exact absurd HA.out (by simp [Zp.l0])
  |succ k1=>
   (have H:=HA.out);(clear HA);(simp only [Zp.l0] at H)
   by_cases ke:fa=true
   rotate_left
   ·replace ke:=Bool.eq_false_iff.mpr ke
    (subst ke);(have H1:(some eo)=some r:=by rw [if_neg (show ¬ (false=true) by decide)] at H;exact H);(clear H);(have H:=H1);(clear H1);(obtain rfl:=Option.some.inj H)
    go_wp2
    go_ret
    exact⟨_,by first|rfl|(simp [Zl,Zk] <;> rfl)|(simp only [← bk];first|rfl|(simp [Zl,Zk] <;> rfl))|(simp [*,Zl,Zk] <;> rfl),by (with_reducible repeat(first|apply Kd.R_alloc|apply Kd.R_drewN|apply Kd.R_drew));exact al.out,zH HB⟩
   (subst ke);(have H1:(Zp.l1 k1 l1 a2 aw eo false ab (ab.length:Int) 0 af am ak ab)=some r:=by rw [if_pos rfl] at H;exact H);(clear H);(have H:=H1);(clear H1);(have H':=Za.mk H);(clear H);(obtain⟨fb,fc,fd,fe⟩:=zq4 ac.out);(obtain⟨ff,fg,fh,fi⟩:=zf4 ac.out)
   go_wp2
   go_loopg [10,36] k1 (fun kq v10 v36 w'=>∃(cj:List Int) (bw:Bool) (aa:Int),v10= .bool bw∧v36= .int .i64 aa∧Za (Zp.l1 kq l1 a2 aw cj bw ab (ab.length:Int) aa af am ak ab=some r)∧Za (kq≤k1)∧Za (Kd.R (Kd.int .u32) 42 w' w.heap.size (fun _=>True) (.slice (some ⟨go11,0,none⟩) eo.length ek) cj)∧Za (w'.heap[ap]? =some (.cells #[.int .i64 af,.int .i64 am,.int .i64 ak,(.slice ei ab.length bi)] 24 (0,0)))∧Za (Below w.heap.size w w'))
   case atStart=>exact⟨(eo),(false),(0),(by first|rfl|(simp;done)|(simp [*];done)),(by first|rfl|(simp;done)|(simp [*];done)),H',⟨Nat.le_refl _⟩,⟨by (try simp only [ai]);(with_reducible repeat(first|apply Kd.R_alloc|apply Kd.R_drewN|apply Kd.R_drew));exact al.out⟩,⟨by (try simp only [ai]);(with_reducible repeat(first|apply zb3|apply zb2|apply zb1));exact ac.out⟩,⟨zH HB⟩⟩
   case round=>
    (clear H');(try clear c1);(try clear p1);(try clear q1);(try clear tc);(try clear c2);(try clear p2);(try clear c3);(try clear io);(try clear ip);(try clear iq);(try clear ir);(try clear iu);(try clear iv);(try clear ix);(try clear fk);(try clear fv);(try clear fw);(try clear ky);(try clear hf11);(try clear ke);(try clear cn co cp cq db dc dd de fb fc fd fe cu cw cy da df dg dh di ff fg fh fi);(try clear dj);(try clear p1);(try clear fv);(try clear p2);(try clear q1);(try clear fw);(obtain⟨cj,bw,aa,rfl,rfl,HA,ch,al,ac,HB⟩:=hrel);(have aj:=(Kd.R_reads' al.out).1);(rw [aj] at al);((try simp only [aj]));((try simp only [aj] at ac))
    cases gk with
    |zero=>exact absurd HA.out (by simp [Zp.l1])
    |succ k2=>
     (have H:=HA.out);(clear HA);(simp only [Zp.l1] at H)
     by_cases kf:aa < (ab.length:Int)
     rotate_left
     ·rw [if_neg kf] at H
      (have fj:decide (aa < (ab.length:Int))=false:=decide_eq_false kf);((try(have es:=fj;simp only [ai,aj] at es)));(clear kf);(have H':=Za.mk H);(clear H)
      go_wp2
      (try simp only [← ai,← aj])
      (first|go_roundg k2|(simp only [← bk];go_roundg k2))
      case measure=>have:=cg.out;have:=ch.out;omega
      case rel=>first|exact⟨(cj),(bw),(by first|rfl|(simp;done)|(simp [*];done)),H',⟨by have:=cg.out;have:=ch.out;omega⟩,⟨by (try simp only [ai]);(try simp only [aj]);(with_reducible repeat(first|apply Kd.R_alloc|apply Kd.R_drewN|apply Kd.R_drew));exact al.out⟩,⟨by (try simp only [ai]);(try simp only [aj]);(with_reducible repeat(first|apply zb3|apply zb2|apply zb1));exact ac.out⟩,⟨zH HB⟩⟩|(subst bk;exact⟨(cj),(bw),(by first|rfl|(simp;done)|(simp [*];done)),H',⟨by have:=cg.out;have:=ch.out;omega⟩,⟨by (try simp only [ai]);(try simp only [aj]);(with_reducible repeat(first|apply Kd.R_alloc|apply Kd.R_drewN|apply Kd.R_drew));exact al.out⟩,⟨by (try simp only [ai]);(try simp only [aj]);(with_reducible repeat(first|apply zb3|apply zb2|apply zb1));exact ac.out⟩,⟨zH HB⟩⟩)
     (rw [if_pos kf] at H);(have fj:decide (aa < (ab.length:Int))=true:=decide_eq_true kf);((try(have es:=fj;simp only [ai,aj] at es)));(clear kf)
     by_cases mn:0≤aa
     rotate_left
     ·rw [if_neg mn] at H
      exact absurd H (by simp)
     (rw [if_pos mn] at H);(have kz:decide (0≤aa)=true:=decide_eq_true mn);(clear mn)
     by_cases mo:aa < (ab.length:Int)
     rotate_left
     ·rw [if_neg mo] at H
      exact absurd H (by simp)
     (rw [if_pos mo] at H);(have ia:decide (aa < (ab.length:Int))=true:=decide_eq_true mo);((try(have iy:=ia;simp only [ai,aj] at iy)));(clear mo)
     by_cases la:0≤((Zb ab aa).f0)
     rotate_left
     ·rw [if_neg la] at H
      exact absurd H (by simp)
     (rw [if_pos la] at H);(have lc:=eq_true la);(have ld:decide (0≤((Zb ab aa).f0))=true:=decide_eq_true la);(clear la);(obtain⟨dx,ay⟩ : ∃j_:Int,(shr .u32 aw ((Zb ab aa).f0))=j_:=⟨_,rfl⟩);(replace H:(if(Go.bits .and .u32 (dx) 1)=0 then(Zp.l1 k2 l1 a2 aw cj bw ab (ab.length:Int) (wrap64 (aa + 1)) af am ak ab) else(Zp.l2 k2 l1 a2 aw cj bw ab (ab.length:Int) aa ((Zb ab aa).f1) (((Zb ab aa).f1).length:Int) 0 af am ak ab ((Zb ab aa).f0) ((Zb ab aa).f1)))=some r:=by first|(rw [ay] at H;exact H)|(simp only [ay] at H ⊢;exact H));(have re:(aw / 2 ^ min ((Zb ab aa).f0).toNat 32)=dx:=ay);(have rf:((Zb ab aa).f0)≤32→(aw / 2 ^ ((Zb ab aa).f0).toNat)=dx:=shr_small ay)
     by_cases iz:(Go.bits .and .u32 (dx) 1)=0
     ·rw [if_pos iz] at H
      (have ib:((Go.bits .and .u32 (dx) 1) == 0)=true:=beq_iff_eq.mpr iz);(have ic:((Go.bits .and .u32 (dx) 1) != 0)=false:=bne_eq_false_iff_eq.mpr iz);(clear iz);(have H':=Za.mk H);(clear H);(have dy:0≤(aa:Int):=zD);(have dz:aa < (ab.length:Int):=zD);(obtain⟨bf,ck,aq,ja,bu,bv,bz,ca⟩:=at_T41 ci.out aa dy dz);(cases ja);(replace bu:=zX HB bu);(replace bv:=zX HB bv);(have bg:=Za.mk ca);(have cb:=Za.mk bz);(clear ca bz);(replace dy:=eq_true dy);(replace dz:=eq_true dz)
      go_wp2_with (first|((with_reducible refine Zs (N:=12) rfl ?_);refine Zx ?hg (N:=12) ?hd (cs:=#[.int .i64 0,.slice none 0 0]) (t:=41) ?hr ?_;(case hd=>rfl);(case hg=>rfl);(case hr=>first|(go_simp;done)|(go_simp;rfl));intro au hg vm hbox hb;replace al:=Za.mk (Kd.R_below (zR al) hb);have ah:=Za.mk (hbox);have lf:=Za.mk ((by rw [hg];exact(Zg (zH HB)):w.heap.size≤au));have lg:=Za.mk ((by rw [hg];exact(Zg (zH HB)):w.heap.size≤au));replace HB:=Za.mk (Zh (zH HB) hb);have ar:=Za.mk ((by rw [hg];exact Nat.ne_of_lt (Zu (g:=ap) (o:= .cells #[.int .i64 af,.int .i64 am,.int .i64 ak,.slice (some bf) ab.length bi] 24 (0,0)) (zK ac)):ap≠au));have bb:=Za.mk ((by rw [hg];exact Nat.ne_of_gt (Zu (g:=ap) (o:= .cells #[.int .i64 af,.int .i64 am,.int .i64 ak,.slice (some bf) ab.length bi] 24 (0,0)) (zK ac)):au≠ap));replace ac:=Za.mk (Zj (g:=ap) (zK ac) hb);clear hb hbox hg;have td:=bb.out;have te:=ar.out;obtain⟨fx,fy⟩:=zq2 ah.out;obtain⟨fz,ga⟩:=zf2 ah.out))
      (try simp only [← aj])
      (first|go_roundg k2|(simp only [← ay];go_roundg k2)|(simp only [← bk,← ay];go_roundg k2))
      case measure=>have:=cg.out;have:=ch.out;omega
      case rel=>first|exact⟨(cj),(bw),(wrap64 (aa + 1)),(by first|rfl|(simp;done)|(simp [*];done)),(by first|rfl|(simp;done)|(simp [*];done)),H',⟨by have:=cg.out;have:=ch.out;omega⟩,⟨by (try simp only [ai]);(try simp only [aj]);(with_reducible repeat(first|apply Kd.R_alloc|apply Kd.R_drewN|apply Kd.R_drew));exact Kd.R_mono (Kd.R_far (p:=⟨au,1,none⟩) (Kd.R_far (p:=⟨au,0,none⟩) (Kd.R_types al.out ah.out (by decide)) (fun _ hk=>hk.2) (.int .i64 ((Zb ab aa).f0))) (fun _ hk=>hk.2) (.slice ck ((Zb ab aa).f1).length aq)) (fun _ hk=>trivial)⟩,⟨by (try simp only [ai]);(try simp only [aj]);(with_reducible repeat(first|refine Zn ?_ _|refine Zi ?_|refine Zm ?_ _));refine Zv ?_ ar.out _;(with_reducible repeat(first|refine Zn ?_ _|refine Zi ?_|refine Zm ?_ _));refine Zv ?_ ar.out _;(with_reducible repeat(first|apply zb3|apply zb2|apply zb1));exact ac.out⟩,⟨zH HB⟩⟩|(subst ay;subst bk;exact⟨(cj),(bw),(wrap64 (aa + 1)),(by first|rfl|(simp;done)|(simp [*];done)),(by first|rfl|(simp;done)|(simp [*];done)),H',⟨by have:=cg.out;have:=ch.out;omega⟩,⟨by (try simp only [ai]);(try simp only [aj]);(with_reducible repeat(first|apply Kd.R_alloc|apply Kd.R_drewN|apply Kd.R_drew));exact Kd.R_mono (Kd.R_far (p:=⟨au,1,none⟩) (Kd.R_far (p:=⟨au,0,none⟩) (Kd.R_types al.out ah.out (by decide)) (fun _ hk=>hk.2) (.int .i64 ((Zb ab aa).f0))) (fun _ hk=>hk.2) (.slice ck ((Zb ab aa).f1).length aq)) (fun _ hk=>trivial)⟩,⟨by (try simp only [ai]);(try simp only [aj]);(with_reducible repeat(first|refine Zn ?_ _|refine Zi ?_|refine Zm ?_ _));refine Zv ?_ ar.out _;(with_reducible repeat(first|refine Zn ?_ _|refine Zi ?_|refine Zm ?_ _));refine Zv ?_ ar.out _;(with_reducible repeat(first|apply zb3|apply zb2|apply zb1));exact ac.out⟩,⟨zH HB⟩⟩)
     (rw [if_neg iz] at H);(have ib:((Go.bits .and .u32 (dx) 1) == 0)=false:=beq_eq_false_iff_ne.mpr iz);(have ic:((Go.bits .and .u32 (dx) 1) != 0)=true:=bne_iff_ne.mpr iz);(have H':=Za.mk H);(clear H);(have dy:0≤(aa:Int):=zD);(have dz:aa < (ab.length:Int):=zD);(obtain⟨bf,ck,aq,ja,bu,bv,bz,ca⟩:=at_T41 ci.out aa dy dz);(cases ja);(replace bu:=zX HB bu);(replace bv:=zX HB bv);(have bg:=Za.mk ca);(have cb:=Za.mk bz);(clear ca bz);(replace dy:=eq_true dy);(replace dz:=eq_true dz)
     go_wp2_with (first|((with_reducible refine Zs (N:=12) rfl ?_);refine Zx ?hg (N:=12) ?hd (cs:=#[.int .i64 0,.slice none 0 0]) (t:=41) ?hr ?_;(case hd=>rfl);(case hg=>rfl);(case hr=>first|(go_simp;done)|(go_simp;rfl));intro au hg vn hbox hb;replace al:=Za.mk (Kd.R_below (zR al) hb);have ah:=Za.mk (hbox);have lf:=Za.mk ((by rw [hg];exact(Zg (zH HB)):w.heap.size≤au));have lg:=Za.mk ((by rw [hg];exact(Zg (zH HB)):w.heap.size≤au));replace HB:=Za.mk (Zh (zH HB) hb);have ar:=Za.mk ((by rw [hg];exact Nat.ne_of_lt (Zu (g:=ap) (o:= .cells #[.int .i64 af,.int .i64 am,.int .i64 ak,.slice (some bf) ab.length bi] 24 (0,0)) (zK ac)):ap≠au));have bb:=Za.mk ((by rw [hg];exact Nat.ne_of_gt (Zu (g:=ap) (o:= .cells #[.int .i64 af,.int .i64 am,.int .i64 ak,.slice (some bf) ab.length bi] 24 (0,0)) (zK ac)):au≠ap));replace ac:=Za.mk (Zj (g:=ap) (zK ac) hb);clear hb hbox hg;have tf:=bb.out;have tg:=ar.out;obtain⟨gc,gh⟩:=zq2 ah.out;obtain⟨gi,gj⟩:=zf2 ah.out))
     go_loopg [10,49] k2 (fun kq v10 v49 w'=>∃(ag:List Int) (bh:Bool) (ae:Int),v10= .bool bh∧v49= .int .i64 ae∧Za (Zp.l2 kq l1 a2 aw ag bh ab (ab.length:Int) aa ((Zb ab aa).f1) (((Zb ab aa).f1).length:Int) ae af am ak ab ((Zb ab aa).f0) ((Zb ab aa).f1)=some r)∧Za (kq≤k2)∧Za (Kd.R (Kd.int .u32) 42 w' w.heap.size (fun _=>True) (.slice (some ⟨go11,0,none⟩) cj.length ek) ag)∧Za (w'.heap[ap]? =some (.cells #[.int .i64 af,.int .i64 am,.int .i64 ak,(.slice (some bf) ab.length bi)] 24 (0,0)))∧Za (w'.heap[au]? =some (.cells #[.int .i64 ((Zb ab aa).f0),(.slice ck ((Zb ab aa).f1).length aq)] 41 (0,0)))∧Za (Below w.heap.size w w'))
     case atStart=>exact⟨(cj),(bw),(0),(by first|rfl|(simp;done)|(simp [*];done)),(by first|rfl|(simp;done)|(simp [*];done)),H',⟨Nat.le_refl _⟩,⟨by (try simp only [ai]);(try simp only [aj]);(with_reducible repeat(first|apply Kd.R_alloc|apply Kd.R_drewN|apply Kd.R_drew));exact Kd.R_mono (Kd.R_far (p:=⟨au,1,none⟩) (Kd.R_far (p:=⟨au,0,none⟩) (Kd.R_types al.out ah.out (by decide)) (fun _ hk=>hk.2) (.int .i64 ((Zb ab aa).f0))) (fun _ hk=>hk.2) (.slice ck ((Zb ab aa).f1).length aq)) (fun _ hk=>trivial)⟩,⟨by (try simp only [ai]);(try simp only [aj]);(with_reducible repeat(first|refine Zn ?_ _|refine Zi ?_|refine Zm ?_ _));refine Zv ?_ ar.out _;(with_reducible repeat(first|refine Zn ?_ _|refine Zi ?_|refine Zm ?_ _));refine Zv ?_ ar.out _;(with_reducible repeat(first|apply zb3|apply zb2|apply zb1));exact ac.out⟩,⟨by (try simp only [ai]);(try simp only [aj]);(with_reducible repeat(first|refine Zn ?_ _|refine Zi ?_|refine Zm ?_ _));refine Zs1 (cs:=#[.int .i64 ((Zb ab aa).f0),.slice none 0 0]) ?_ 1 _ rfl;(with_reducible repeat(first|refine Zn ?_ _|refine Zi ?_|refine Zm ?_ _));refine Zs1 (cs:=#[.int .i64 0,.slice none 0 0]) ?_ 0 _ rfl;(with_reducible repeat(first|apply zb3|apply zb2|apply zb1));exact ah.out⟩,⟨zH HB⟩⟩
     case round=>
      (clear H');(try clear c1);(try clear p1);(try clear q1);(try clear tc);(try clear c2);(try clear p2);(try clear c3);(try clear io);(try clear ip);(try clear iq);(try clear ir);(try clear p6);(try clear iu);(try clear iv);(try clear ix);(try clear fk);(try clear fv);(try clear fw);(try clear ky);(try clear hf11);(try clear vp);(try clear vq);(try clear vr);(try clear ux);(try clear ke);(try clear fj);(try clear kz);(try clear ia);(try clear lc);(try clear ld);(try clear ib);(try clear ic);(try clear vt);(try clear vu);(try clear cn co cp cq db dc dd de fb fc fd fe fx fy gc gh cu cw cy da df dg dh di ff fg fh fi fz ga gi gj);(try clear dj);(try clear bu);(try clear bv);(try clear p1);(try clear fv);(try clear dy);(try clear p2);(try clear q1);(try clear fw);(try clear dz);(obtain⟨ag,bh,ae,rfl,rfl,HA,dt,al,ac,ah,HB⟩:=hrel);(have an:=(Kd.R_reads' al.out).1);(rw [an] at al);((try simp only [an]));((try simp only [an] at ac));((try simp only [an] at ah))
      cases gk with
      |zero=>exact absurd HA.out (by simp [Zp.l2])
      |succ k3=>
       (have H:=HA.out);(clear HA);(simp only [Zp.l2] at H)
       by_cases ki:ae < (((Zb ab aa).f1).length:Int)
       rotate_left
       ·rw [if_neg ki] at H
        (have fm:decide (ae < (((Zb ab aa).f1).length:Int))=false:=decide_eq_false ki);((try(have eu:=fm;simp only [ai,aj,an] at eu)));(clear ki);(have H':=Za.mk H);(clear H)
        go_wp2
        (try simp only [← aj,← an])
        (first|go_roundg k3|(simp only [← ay];go_roundg k3)|(simp only [← bk,← ay];go_roundg k3))
        case measure=>have:=cg.out;have:=ch.out;have:=dt.out;omega
        case rel=>first|exact⟨(ag),(bh),(wrap64 (aa + 1)),(by first|rfl|(simp;done)|(simp [*];done)),(by first|rfl|(simp;done)|(simp [*];done)),H',⟨by have:=cg.out;have:=ch.out;have:=dt.out;omega⟩,⟨by (try simp only [ai]);(try simp only [aj]);(try simp only [an]);(with_reducible repeat(first|apply Kd.R_alloc|apply Kd.R_drewN|apply Kd.R_drew));exact al.out⟩,⟨by (try simp only [ai]);(try simp only [aj]);(try simp only [an]);(with_reducible repeat(first|apply zb3|apply zb2|apply zb1));exact ac.out⟩,⟨zH HB⟩⟩|(subst ay;subst bk;exact⟨(ag),(bh),(wrap64 (aa + 1)),(by first|rfl|(simp;done)|(simp [*];done)),(by first|rfl|(simp;done)|(simp [*];done)),H',⟨by have:=cg.out;have:=ch.out;have:=dt.out;omega⟩,⟨by (try simp only [ai]);(try simp only [aj]);(try simp only [an]);(with_reducible repeat(first|apply Kd.R_alloc|apply Kd.R_drewN|apply Kd.R_drew));exact al.out⟩,⟨by (try simp only [ai]);(try simp only [aj]);(try simp only [an]);(with_reducible repeat(first|apply zb3|apply zb2|apply zb1));exact ac.out⟩,⟨zH HB⟩⟩)
       (rw [if_pos ki] at H);(have fm:decide (ae < (((Zb ab aa).f1).length:Int))=true:=decide_eq_true ki);((try(have eu:=fm;simp only [ai,aj,an] at eu)));(clear ki)
       by_cases mq:0≤ae
       rotate_left
       ·rw [if_neg mq] at H
        exact absurd H (by simp)
       (rw [if_pos mq] at H);(have th:decide (0≤ae)=true:=decide_eq_true mq);(clear mq)
       by_cases mr:ae < (((Zb ab aa).f1).length:Int)
       rotate_left
       ·rw [if_neg mr] at H
        exact absurd H (by simp)
       (rw [if_pos mr] at H);(have lh:decide (ae < (((Zb ab aa).f1).length:Int))=true:=decide_eq_true mr);((try(have jb:=lh;simp only [ai,aj,an] at jb)));(clear mr)
       by_cases kj:(rd ((Zb ab aa).f1) ae) < af
       ·rw [if_pos kj] at H
        (have ll:decide ((rd ((Zb ab aa).f1) ae) < af)=true:=decide_eq_true kj);(clear kj);(have H':=Za.mk H);(clear H);(have bn:0≤(ae:Int):=zD);(have bo:ae < (((Zb ab aa).f1).length:Int):=zD);(obtain⟨az,dk,ba⟩:=Kd.at_int bg.out ae bn bo);(cases dk);(replace ba:=zX HB ba);(replace bn:=eq_true bn);(replace bo:=eq_true bo);(have ti:=ar.out);(have tj:=bb.out);(obtain⟨ms,mt,mu,mv⟩:=zq4 ac.out);(obtain⟨mw,my,mz,na⟩:=zf4 ac.out)
        go_wp2
        (try simp only [← an])
        (first|go_roundg k3|(simp only [← ay];go_roundg k3)|(simp only [← bk,← ay];go_roundg k3))
        case measure=>have:=cg.out;have:=ch.out;have:=dt.out;omega
        case rel=>first|exact⟨(ag),(bh),(wrap64 (ae + 1)),(by first|rfl|(simp;done)|(simp [*];done)),(by first|rfl|(simp;done)|(simp [*];done)),H',⟨by have:=cg.out;have:=ch.out;have:=dt.out;omega⟩,⟨by (try simp only [ai]);(try simp only [aj]);(try simp only [an]);(with_reducible repeat(first|apply Kd.R_alloc|apply Kd.R_drewN|apply Kd.R_drew));exact al.out⟩,⟨by (try simp only [ai]);(try simp only [aj]);(try simp only [an]);(with_reducible repeat(first|apply zb3|apply zb2|apply zb1));exact ac.out⟩,⟨by (try simp only [ai]);(try simp only [aj]);(try simp only [an]);(with_reducible repeat(first|apply zb3|apply zb2|apply zb1));exact ah.out⟩,⟨zH HB⟩⟩|(subst ay;subst bk;exact⟨(ag),(bh),(wrap64 (ae + 1)),(by first|rfl|(simp;done)|(simp [*];done)),(by first|rfl|(simp;done)|(simp [*];done)),H',⟨by have:=cg.out;have:=ch.out;have:=dt.out;omega⟩,⟨by (try simp only [ai]);(try simp only [aj]);(try simp only [an]);(with_reducible repeat(first|apply Kd.R_alloc|apply Kd.R_drewN|apply Kd.R_drew));exact al.out⟩,⟨by (try simp only [ai]);(try simp only [aj]);(try simp only [an]);(with_reducible repeat(first|apply zb3|apply zb2|apply zb1));exact ac.out⟩,⟨by (try simp only [ai]);(try simp only [aj]);(try simp only [an]);(with_reducible repeat(first|apply zb3|apply zb2|apply zb1));exact ah.out⟩,⟨zH HB⟩⟩)
       (rw [if_neg kj] at H);(have ll:decide ((rd ((Zb ab aa).f1) ae) < af)=false:=decide_eq_false kj);(clear kj);(obtain⟨ao,ax⟩ : ∃j_:Int,(wrap64 (ae + 1))=j_:=⟨_,rfl⟩);(replace H:(if 0≤(ao) then(if(ao)≤(((Zb ab aa).f1).length:Int) then((Zm1.f k3 af am ak ab l1 a2 (((Zb ab aa).f1).drop ((ao):Int).toNat)).bind fun bj=>(if bj.2=true then(if 0≤((Zb ab aa).f0) then(if((Zb ab aa).f0) < (ag.length:Int) then(if bh=true then(if 0≤(wrap64 ((rd ((Zb ab aa).f1) ae) - af)) then(if(wrap64 ((rd ((Zb ab aa).f1) ae) - af)) < (ag.length:Int) then(Zp.l2 k3 l1 a2 aw (ag.set ((wrap64 ((rd ((Zb ab aa).f1) ae) - af)):Int).toNat (Go.bits .or .u32 (rd ag (wrap64 ((rd ((Zb ab aa).f1) ae) - af))) (Go.bits .or .u32 bj.1 (rd ag ((Zb ab aa).f0))))) true ab (ab.length:Int) aa ((Zb ab aa).f1) (((Zb ab aa).f1).length:Int) ao af am ak ab ((Zb ab aa).f0) ((Zb ab aa).f1)) else(none)) else(none)) else(if 0≤(wrap64 ((rd ((Zb ab aa).f1) ae) - af)) then(if(wrap64 ((rd ((Zb ab aa).f1) ae) - af)) < (ag.length:Int) then(Zp.l2 k3 l1 a2 aw (ag.set ((wrap64 ((rd ((Zb ab aa).f1) ae) - af)):Int).toNat (Go.bits .or .u32 (rd ag (wrap64 ((rd ((Zb ab aa).f1) ae) - af))) (Go.bits .or .u32 bj.1 (rd ag ((Zb ab aa).f0))))) ((Go.bits .andNot .u32 (Go.bits .or .u32 bj.1 (rd ag ((Zb ab aa).f0))) (rd ag (wrap64 ((rd ((Zb ab aa).f1) ae) - af)))) != 0) ab (ab.length:Int) aa ((Zb ab aa).f1) (((Zb ab aa).f1).length:Int) ao af am ak ab ((Zb ab aa).f0) ((Zb ab aa).f1)) else(none)) else(none))) else(none)) else(none)) else(if bh=true then(if 0≤(wrap64 ((rd ((Zb ab aa).f1) ae) - af)) then(if(wrap64 ((rd ((Zb ab aa).f1) ae) - af)) < (ag.length:Int) then(Zp.l2 k3 l1 a2 aw (ag.set ((wrap64 ((rd ((Zb ab aa).f1) ae) - af)):Int).toNat (Go.bits .or .u32 (rd ag (wrap64 ((rd ((Zb ab aa).f1) ae) - af))) bj.1)) true ab (ab.length:Int) aa ((Zb ab aa).f1) (((Zb ab aa).f1).length:Int) ao af am ak ab ((Zb ab aa).f0) ((Zb ab aa).f1)) else(none)) else(none)) else(if 0≤(wrap64 ((rd ((Zb ab aa).f1) ae) - af)) then(if(wrap64 ((rd ((Zb ab aa).f1) ae) - af)) < (ag.length:Int) then(Zp.l2 k3 l1 a2 aw (ag.set ((wrap64 ((rd ((Zb ab aa).f1) ae) - af)):Int).toNat (Go.bits .or .u32 (rd ag (wrap64 ((rd ((Zb ab aa).f1) ae) - af))) bj.1)) ((Go.bits .andNot .u32 bj.1 (rd ag (wrap64 ((rd ((Zb ab aa).f1) ae) - af)))) != 0) ab (ab.length:Int) aa ((Zb ab aa).f1) (((Zb ab aa).f1).length:Int) ao af am ak ab ((Zb ab aa).f0) ((Zb ab aa).f1)) else(none)) else(none))))) else(none)) else(none))=some r:=by first|(rw [ax] at H;exact H)|(simp only [ax] at H ⊢;exact H))
       have rh:(IntKind.i64.wrap (ae + 1))=ao:=(Zc _).trans ax
       by_cases lm:0≤(ao)
       rotate_left
       ·rw [if_neg lm] at H
        exact absurd H (by simp)
       (rw [if_pos lm] at H);(have tk:=eq_true lm);(have tl:decide (0≤(ao))=true:=decide_eq_true lm);(clear lm)
       by_cases lp:(ao)≤(((Zb ab aa).f1).length:Int)
       rotate_left
       ·rw [if_neg lp] at H
        exact absurd H (by simp)
       (rw [if_pos lp] at H);(have tm:=eq_true lp);(have tn:decide ((ao)≤(((Zb ab aa).f1).length:Int))=true:=decide_eq_true lp);(clear lp);(obtain⟨bc,ea⟩ : ∃y_:List Int,y_=(((Zb ab aa).f1).drop ((ao):Int).toNat):=⟨_,rfl⟩);(replace H:((Zm1.f k3 af am ak ab l1 a2 bc).bind fun bj=>(if bj.2=true then(if 0≤((Zb ab aa).f0) then(if((Zb ab aa).f0) < (ag.length:Int) then(if bh=true then(if 0≤(wrap64 ((rd ((Zb ab aa).f1) ae) - af)) then(if(wrap64 ((rd ((Zb ab aa).f1) ae) - af)) < (ag.length:Int) then(Zp.l2 k3 l1 a2 aw (ag.set ((wrap64 ((rd ((Zb ab aa).f1) ae) - af)):Int).toNat (Go.bits .or .u32 (rd ag (wrap64 ((rd ((Zb ab aa).f1) ae) - af))) (Go.bits .or .u32 bj.1 (rd ag ((Zb ab aa).f0))))) true ab (ab.length:Int) aa ((Zb ab aa).f1) (((Zb ab aa).f1).length:Int) ao af am ak ab ((Zb ab aa).f0) ((Zb ab aa).f1)) else(none)) else(none)) else(if 0≤(wrap64 ((rd ((Zb ab aa).f1) ae) - af)) then(if(wrap64 ((rd ((Zb ab aa).f1) ae) - af)) < (ag.length:Int) then(Zp.l2 k3 l1 a2 aw (ag.set ((wrap64 ((rd ((Zb ab aa).f1) ae) - af)):Int).toNat (Go.bits .or .u32 (rd ag (wrap64 ((rd ((Zb ab aa).f1) ae) - af))) (Go.bits .or .u32 bj.1 (rd ag ((Zb ab aa).f0))))) ((Go.bits .andNot .u32 (Go.bits .or .u32 bj.1 (rd ag ((Zb ab aa).f0))) (rd ag (wrap64 ((rd ((Zb ab aa).f1) ae) - af)))) != 0) ab (ab.length:Int) aa ((Zb ab aa).f1) (((Zb ab aa).f1).length:Int) ao af am ak ab ((Zb ab aa).f0) ((Zb ab aa).f1)) else(none)) else(none))) else(none)) else(none)) else(if bh=true then(if 0≤(wrap64 ((rd ((Zb ab aa).f1) ae) - af)) then(if(wrap64 ((rd ((Zb ab aa).f1) ae) - af)) < (ag.length:Int) then(Zp.l2 k3 l1 a2 aw (ag.set ((wrap64 ((rd ((Zb ab aa).f1) ae) - af)):Int).toNat (Go.bits .or .u32 (rd ag (wrap64 ((rd ((Zb ab aa).f1) ae) - af))) bj.1)) true ab (ab.length:Int) aa ((Zb ab aa).f1) (((Zb ab aa).f1).length:Int) ao af am ak ab ((Zb ab aa).f0) ((Zb ab aa).f1)) else(none)) else(none)) else(if 0≤(wrap64 ((rd ((Zb ab aa).f1) ae) - af)) then(if(wrap64 ((rd ((Zb ab aa).f1) ae) - af)) < (ag.length:Int) then(Zp.l2 k3 l1 a2 aw (ag.set ((wrap64 ((rd ((Zb ab aa).f1) ae) - af)):Int).toNat (Go.bits .or .u32 (rd ag (wrap64 ((rd ((Zb ab aa).f1) ae) - af))) bj.1)) ((Go.bits .andNot .u32 bj.1 (rd ag (wrap64 ((rd ((Zb ab aa).f1) ae) - af)))) != 0) ab (ab.length:Int) aa ((Zb ab aa).f1) (((Zb ab aa).f1).length:Int) ao af am ak ab ((Zb ab aa).f0) ((Zb ab aa).f1)) else(none)) else(none)))))=some r:=by first|(rw [ea];with_reducible exact H)|(have H2_:=(Option.bind_some _ _).symm.trans H;rw [ea];with_reducible exact H2_)|(have H2_:=(Option.bind_some _ _).symm.trans H;with_reducible exact H2_)|with_reducible exact H|(rw [ea];exact H)|exact H)
       (have cf:=Za.mk ea);(clear ea);(replace H:=Option.bind_eq_some_iff.mp H);(obtain⟨⟨av,lq⟩,lr,H⟩:=H);(replace H:(if lq=true then(if 0≤((Zb ab aa).f0) then(if((Zb ab aa).f0) < (ag.length:Int) then(if bh=true then(if 0≤(wrap64 ((rd ((Zb ab aa).f1) ae) - af)) then(if(wrap64 ((rd ((Zb ab aa).f1) ae) - af)) < (ag.length:Int) then(Zp.l2 k3 l1 a2 aw (ag.set ((wrap64 ((rd ((Zb ab aa).f1) ae) - af)):Int).toNat (Go.bits .or .u32 (rd ag (wrap64 ((rd ((Zb ab aa).f1) ae) - af))) (Go.bits .or .u32 av (rd ag ((Zb ab aa).f0))))) true ab (ab.length:Int) aa ((Zb ab aa).f1) (((Zb ab aa).f1).length:Int) ao af am ak ab ((Zb ab aa).f0) ((Zb ab aa).f1)) else(none)) else(none)) else(if 0≤(wrap64 ((rd ((Zb ab aa).f1) ae) - af)) then(if(wrap64 ((rd ((Zb ab aa).f1) ae) - af)) < (ag.length:Int) then(Zp.l2 k3 l1 a2 aw (ag.set ((wrap64 ((rd ((Zb ab aa).f1) ae) - af)):Int).toNat (Go.bits .or .u32 (rd ag (wrap64 ((rd ((Zb ab aa).f1) ae) - af))) (Go.bits .or .u32 av (rd ag ((Zb ab aa).f0))))) ((Go.bits .andNot .u32 (Go.bits .or .u32 av (rd ag ((Zb ab aa).f0))) (rd ag (wrap64 ((rd ((Zb ab aa).f1) ae) - af)))) != 0) ab (ab.length:Int) aa ((Zb ab aa).f1) (((Zb ab aa).f1).length:Int) ao af am ak ab ((Zb ab aa).f0) ((Zb ab aa).f1)) else(none)) else(none))) else(none)) else(none)) else(if bh=true then(if 0≤(wrap64 ((rd ((Zb ab aa).f1) ae) - af)) then(if(wrap64 ((rd ((Zb ab aa).f1) ae) - af)) < (ag.length:Int) then(Zp.l2 k3 l1 a2 aw (ag.set ((wrap64 ((rd ((Zb ab aa).f1) ae) - af)):Int).toNat (Go.bits .or .u32 (rd ag (wrap64 ((rd ((Zb ab aa).f1) ae) - af))) av)) true ab (ab.length:Int) aa ((Zb ab aa).f1) (((Zb ab aa).f1).length:Int) ao af am ak ab ((Zb ab aa).f0) ((Zb ab aa).f1)) else(none)) else(none)) else(if 0≤(wrap64 ((rd ((Zb ab aa).f1) ae) - af)) then(if(wrap64 ((rd ((Zb ab aa).f1) ae) - af)) < (ag.length:Int) then(Zp.l2 k3 l1 a2 aw (ag.set ((wrap64 ((rd ((Zb ab aa).f1) ae) - af)):Int).toNat (Go.bits .or .u32 (rd ag (wrap64 ((rd ((Zb ab aa).f1) ae) - af))) av)) ((Go.bits .andNot .u32 av (rd ag (wrap64 ((rd ((Zb ab aa).f1) ae) - af)))) != 0) ab (ab.length:Int) aa ((Zb ab aa).f1) (((Zb ab aa).f1).length:Int) ao af am ak ab ((Zb ab aa).f0) ((Zb ab aa).f1)) else(none)) else(none))))=some r:=H)
       (have ie:=Za.mk lr);(clear lr)
       by_cases nb:lq=true
       rotate_left
       ·replace nb:=Bool.eq_false_iff.mpr nb
        (subst nb);(have H1:(if bh=true then(if 0≤(wrap64 ((rd ((Zb ab aa).f1) ae) - af)) then(if(wrap64 ((rd ((Zb ab aa).f1) ae) - af)) < (ag.length:Int) then(Zp.l2 k3 l1 a2 aw (ag.set ((wrap64 ((rd ((Zb ab aa).f1) ae) - af)):Int).toNat (Go.bits .or .u32 (rd ag (wrap64 ((rd ((Zb ab aa).f1) ae) - af))) av)) true ab (ab.length:Int) aa ((Zb ab aa).f1) (((Zb ab aa).f1).length:Int) ao af am ak ab ((Zb ab aa).f0) ((Zb ab aa).f1)) else(none)) else(none)) else(if 0≤(wrap64 ((rd ((Zb ab aa).f1) ae) - af)) then(if(wrap64 ((rd ((Zb ab aa).f1) ae) - af)) < (ag.length:Int) then(Zp.l2 k3 l1 a2 aw (ag.set ((wrap64 ((rd ((Zb ab aa).f1) ae) - af)):Int).toNat (Go.bits .or .u32 (rd ag (wrap64 ((rd ((Zb ab aa).f1) ae) - af))) av)) ((Go.bits .andNot .u32 av (rd ag (wrap64 ((rd ((Zb ab aa).f1) ae) - af)))) != 0) ab (ab.length:Int) aa ((Zb ab aa).f1) (((Zb ab aa).f1).length:Int) ao af am ak ab ((Zb ab aa).f0) ((Zb ab aa).f1)) else(none)) else(none)))=some r:=by rw [if_neg (show ¬ (false=true) by decide)] at H;exact H);(clear H);(have H:=H1);(clear H1)
        by_cases nc:bh=true
        ·subst nc
         (have H1:(if 0≤(wrap64 ((rd ((Zb ab aa).f1) ae) - af)) then(if(wrap64 ((rd ((Zb ab aa).f1) ae) - af)) < (ag.length:Int) then(Zp.l2 k3 l1 a2 aw (ag.set ((wrap64 ((rd ((Zb ab aa).f1) ae) - af)):Int).toNat (Go.bits .or .u32 (rd ag (wrap64 ((rd ((Zb ab aa).f1) ae) - af))) av)) true ab (ab.length:Int) aa ((Zb ab aa).f1) (((Zb ab aa).f1).length:Int) ao af am ak ab ((Zb ab aa).f0) ((Zb ab aa).f1)) else(none)) else(none))=some r:=by rw [if_pos rfl] at H;exact H);(clear H);(have H:=H1);(clear H1);(obtain⟨bl,cd⟩ : ∃j_:Int,(wrap64 ((rd ((Zb ab aa).f1) ae) - af))=j_:=⟨_,rfl⟩);(replace H:(if 0≤(bl) then(if(bl) < (ag.length:Int) then(Zp.l2 k3 l1 a2 aw (ag.set ((bl):Int).toNat (Go.bits .or .u32 (rd ag (bl)) av)) true ab (ab.length:Int) aa ((Zb ab aa).f1) (((Zb ab aa).f1).length:Int) ao af am ak ab ((Zb ab aa).f0) ((Zb ab aa).f1)) else(none)) else(none))=some r:=by first|(rw [cd] at H;exact H)|(simp only [cd] at H ⊢;exact H));((try rw [cd] at ie));(have ri:(IntKind.i64.wrap ((rd ((Zb ab aa).f1) ae) - af))=bl:=(Zc _).trans cd)
         by_cases nf:0≤(bl)
         rotate_left
         ·rw [if_neg nf] at H
          exact absurd H (by simp)
         (rw [if_pos nf] at H);(have tp:decide (0≤(bl))=true:=decide_eq_true nf);(clear nf)
         by_cases ng:(bl) < (ag.length:Int)
         rotate_left
         ·rw [if_neg ng] at H
          exact absurd H (by simp)
         (rw [if_pos ng] at H);(have ls:decide ((bl) < (ag.length:Int))=true:=decide_eq_true ng);((try(have jc:=ls;simp only [ai,aj,an] at jc)));(clear ng);(obtain⟨gl,ec⟩ : ∃y_:List Int,y_=(ag.set ((bl):Int).toNat (Go.bits .or .u32 (rd ag (bl)) av)):=⟨_,rfl⟩);(replace H:(Zp.l2 k3 l1 a2 aw gl true ab (ab.length:Int) aa ((Zb ab aa).f1) (((Zb ab aa).f1).length:Int) ao af am ak ab ((Zb ab aa).f0) ((Zb ab aa).f1))=some r:=by first|(rw [ec];with_reducible exact H)|(have H2_:=(Option.bind_some _ _).symm.trans H;rw [ec];with_reducible exact H2_)|(have H2_:=(Option.bind_some _ _).symm.trans H;with_reducible exact H2_)|with_reducible exact H|(rw [ec];exact H)|exact H);(have lu:=Za.mk ec);(clear ec);(have H':=Za.mk H);(clear H);(have bn:0≤(ae:Int):=zD);(have bo:ae < (((Zb ab aa).f1).length:Int):=zD);(obtain⟨az,dk,ba⟩:=Kd.at_int bg.out ae bn bo);(cases dk);(replace ba:=zX HB ba);(replace bn:=eq_true bn);(replace bo:=eq_true bo);(have tq:=ar.out);(have tr:=bb.out);(obtain⟨nh,ni⟩:=zq2 ac.out)
         (have nj:=zj ac 2 (.int .i64 ak));(have nl:=zj ac 3 (.slice (some bf) ab.length bi));(obtain⟨nm,nn,no,np⟩:=zf4 ac.out)
         try go_wp2
         (replace al:=Za.mk (Kd.R_drew al.out));(replace ac:=Za.mk (Zi ac.out));(replace ah:=Za.mk (Zi ah.out));(replace HB:=Za.mk (Zz1 HB.out));(have rj:((ao):Int)≤((((Zb ab aa).f1).length:Int):Int):=zD);(obtain⟨i082,ig,_,hsz82,_⟩:=info_parts info3);(have hroom82:((Zb ab aa).f1).length≤aq:=cb.out);(have hC82:Kd.C (Kd.int .i64) _ (some az) ((Zb ab aa).f1).length ((Zb ab aa).f1):=bg.out);(have rk:(0:Int)≤((ao):Int):=zD);(have jd:=cut_from (P:=Try.prog) 25 3 .i64 Try.underlying25 ig 1 hsz82 (some az) ((Zb ab aa).f1).length aq (ao) rk rj);(have fo:=Kd.C_drop (m:=((ao):Int).toNat) (c:=aq) hC82 (by omega) hroom82);(obtain⟨tt,hA82⟩ : ∃Aq_,Aq_=(if aq=((ao):Int).toNat then(some az) else((some az):Option Addr).map (·.add (((ao):Int).toNat * 1))):=⟨_,rfl⟩);(obtain⟨tu,je⟩ : ∃cq_,cq_=aq - ((ao):Int).toNat:=⟨_,rfl⟩);(have gm:bc.length=((Zb ab aa).f1).length - ((ao):Int).toNat:=(by rw [cf.out,List.length_drop] <;> omega));(rw [show(((Zb ab aa).f1)).drop ((ao):Int).toNat=bc from cf.out.symm] at fo);(replace fo:Kd.C (Kd.int .i64) _ tt bc.length bc:=(by rw [hA82];exact fo));(rw [← gm,← hA82,← je] at jd);(have br:=Za.mk fo);(have cm:=Za.mk (show bc.length≤tu from by rw [gm,je];exact Nat.sub_le_sub_right hroom82 _))
         (clear fo hC82 hroom82 ig hsz82 je);(have KY82:=Za.mk gm);(have KA82:=Za.mk hA82);(clear gm hA82);(replace rj:=eq_true rj)
         refine start_ (n:=14) (S:=fun w'=>w'.cell? ⟨ap,0,none⟩=some (.int .i64 af)∧w'.cell? ⟨ap,1,none⟩=some (.int .i64 am)∧w'.cell? ⟨ap,2,none⟩=some (.int .i64 ak)∧w'.cell? ⟨ap,3,none⟩=some (.slice (some bf) ab.length bi)∧w'.cell? ⟨au,0,none⟩=some (.int .i64 ((Zb ab aa).f0))∧w'.cell? ⟨au,1,none⟩=some (.slice (some az) ((Zb ab aa).f1).length aq)) (ds:=[]) #[false,false,false,false,false,false,false,false,false,false,false,false,false,false] (by kernel_rfl) rfl rfl ⟨(Zf ac.out 0).trans rfl,(Zf ac.out 1).trans rfl,(Zf ac.out 2).trans rfl,(Zf ac.out 3).trans rfl,(Zf ah.out 0).trans rfl,(Zf ah.out 1).trans rfl⟩ (fun hHeld=>?_);refine Zc2 Zp.tab15 Zp.bits15 (fun HT_ HW_=>?_)
         generalize wr.drew=vv at al ac ah HB br hHeld ⊢
         refine zP 1 (some 60) (zt 14 2) (Ze HT_.out (by kernel_rfl)) ?_
         refine zP 2 (some 61) (zt 14 6) (Ze HT_.out (by kernel_rfl)) ?_
         refine zP 3 (some 62) (zt 14 14) (Ze HT_.out (by kernel_rfl)) ?_
         refine zP 5 (some 64) (zt 14 46) (Ze HT_.out (by kernel_rfl)) ?_
         refine zP 6 (some 65) (zt 14 110) (Ze HT_.out (by kernel_rfl)) ?_
         refine take_ (i:=0) (N:=some 59) (v:=?_) (a':=?_) #[true,true,true,true,false,true,true,false,false,false,false,false,false,false] rfl rfl (Zi1 HT_.out HW_.out (by kernel_rfl)) (fun _ _ _ h=>h) (Or.inl ⟨by rfl,?_⟩) hHeld ?_ ?_
         rotate_left
         ·rintro w' ⟨s0,s1,s2,s3,s4,s5⟩
          go_simp
          with_reducible rfl
         rotate_left
         ·simp only [Act.put,zp1,zp2,zp3,Zc,Zd]
          rfl
         refine take_ (i:=4) (N:=some 63) (v:=?_) (a':=?_) #[true,true,true,true,true,true,true,false,false,false,false,false,false,false] rfl rfl (Zi1 HT_.out HW_.out (by kernel_rfl)) (fun _ _ _ h=>h) (Or.inl ⟨by rfl,?_⟩) hHeld ?_ ?_
         rotate_left
         ·rintro w' ⟨s0,s1,s2,s3,s4,s5⟩
          go_simp
          with_reducible rfl
         rotate_left
         ·simp only [Act.put,zp1,zp2,zp3,Zc,Zd]
          rfl
         refine zP 7 (some 66) (zt 14 255) (Ze HT_.out (by kernel_rfl)) ?_
         refine one_ (i:=8) (N:=some 67) #[true,true,true,true,true,true,true,true,true,false,false,false,false,false] rfl rfl (one_of HT_.out (by kernel_rfl)) (by decide) (fun K hK=>?_)
         refine goes_ Try.func23 (by kernel_rfl) rfl #[.agg #[.int .i64 af,.int .i64 am,.int .i64 ak,.slice (some bf) ab.length bi],.slice A1 l1.length c1,.int .u32 a2,.slice tt bc.length tu] (by rfl) rfl rfl (by (try simp only [List.map_toArray,List.map_cons,List.map_nil]);first|done|rfl|(simp only [List.length_drop,List.length_take];rfl)) ?_
         with_reducible refine(Zm1.calls k3 af am ak _ _ ab _ _ l1 a2 _ _ bc av false _ ?side1 ?side2 ?side3 ?side4 ?side5 ?side6 ie.out).mono ?_
         (case side1=>exact zC ci HB)
         (case side2=>exact du.out)
         (case side3=>exact zC ml HB)
         (case side4=>exact mm.out)
         (case side5=>exact zC br HB)
         (case side6=>exact cm.out)
         rintro e tw ⟨rfl,hb⟩
         refine⟨_,rfl,?_⟩
         (replace al:=Za.mk (Kd.R_below (zR al) hb));(replace ac:=Za.mk (Zj (g:=ap) (zK ac) hb));(replace ah:=Za.mk (Zj (g:=au) (zK ah) hb));(replace HB:=Za.mk (Zh (zH HB) hb));((try clear hb));((try clear hb2));((try clear hk));((try clear hi))
         refine hK.out _ _ ⟨(Zf ac.out 0).trans rfl,(Zf ac.out 1).trans rfl,(Zf ac.out 2).trans rfl,(Zf ac.out 3).trans rfl,(Zf ah.out 0).trans rfl,(Zf ah.out 1).trans rfl⟩ (fun hHeld=>?_)
         clear hK K
         refine norm_ (a':=?_) ?_ ?_
         rotate_left
         ·show Act.put _ (some 67) _=_
          simp only [Act.put,zp1,zp2,zp3,Zc,Zd]
          rfl
         refine zP 9 (some 58) (zt 14 1023) (Ze HT_.out (by kernel_rfl)) ?_
         refine zP 10 (some 68) (zt 14 2047) (Ze HT_.out (by kernel_rfl)) ?_
         refine zP 11 (some 69) (zt 14 4095) (Ze HT_.out (by kernel_rfl)) ?_
         refine zP 12 (some 15) (zt 14 8191) (Ze HT_.out (by kernel_rfl)) ?_
         refine zP 13 (some 16) (zt 14 16383) (Ze HT_.out (by kernel_rfl)) ?_
         refine done_ (done_of HT_.out (by kernel_rfl)) ?_
         (obtain⟨nq,nr,nt,nu⟩:=zq4 ac.out);(obtain⟨nv,nw,nx,ny⟩:=zf4 ac.out);(have jf:0≤((bl):Int):=zD);(have jg:(bl) < (ag.length:Int):=zD);(obtain⟨lv,rm,dl⟩:=Kd.at_int (Kd.R_reads' al.out).2.2 (bl) jf jg);(obtain rfl:(⟨go11,0,none⟩ :Addr)=lv:=(by injection rm))
         (first|simp only [add_plain] at dl|simp only [add_at] at dl|simp only [Addr.add,Nat.zero_add] at dl|skip)
         (replace jf:=eq_true jf);(replace jg:=eq_true jg);(have rn:0≤((bl):Int):=zD);(have ro:((bl):Int) < ((ag.length:Int):Int):=zD);(obtain⟨rp,hf78_0⟩:=Kd.R_celln 0 al.out ((bl):Int) rn ro);(replace rn:=eq_true rn);(replace ro:=eq_true ro);(obtain⟨hy85_,hz85_⟩:=Kd.R_celln 0 al.out ((bl):Int) (zD) (zD));(have HP85:=Kd.R_putg al.out ((bl):Int) (Go.bits .or .u32 (rd ag (bl)) av))
         try go_wp2_with (first|((with_reducible refine gate_store (t:=42) (p:=100) rfl ?_);refine store_event (t:=42) (p:=100) (v:=?vo_w86) (w1:=(tw.setCell ⟨go11,((bl):Int).toNat,none⟩ (.int .u32 (Go.bits .or .u32 (rd ag (bl)) av)))) ?hg ?ho ?hn ?hr ?_;(case ho=>rfl);(case hg=>rfl);(case hn=>rfl);(case hr=>first|(go_simp;done)|(go_simp;rfl));intro rq hw;have hg:tw.grownBy rq (some go11):=(by rw [hw];exact HP85.2);have hp_:Kd.R (Kd.int .u32) 42 rq w.heap.size (fun _=>True) (.slice (some ⟨go11,0,none⟩) ag.length ek) gl:=(by rw [hw,lu.out];exact HP85.1);clear HP85;replace ac:=Za.mk (Zv1 (g:=ap) (zK ac) hg (Kd.R_ne al.out ac.out (by decide)));replace ah:=Za.mk (Zv1 (g:=au) (zK ah) hg (Kd.R_ne al.out ah.out (by decide)));replace al:=Za.mk (hp_);replace HB:=Za.mk ((by rw [hw];exact below_set (HB.out) GB11.out:Below w.heap.size w rq));clear hg hw hp_))
         (try simp only [← an])
         (first|go_roundg k3|(simp only [← cd];go_roundg k3)|(simp only [← ax,← cd];go_roundg k3)|(simp only [← ay,← ax,← cd];go_roundg k3)|(simp only [← bk,← ay,← ax,← cd];go_roundg k3))
         case measure=>have:=cg.out;have:=ch.out;have:=dt.out;omega
         case rel=>first|exact⟨(gl),(true),(ao),(by first|rfl|(simp;done)|(simp [*];done)),(by first|rfl|(simp;done)|(simp only [← ax] <;> (first|rfl|simp))|(simp [*];done)),H',⟨by have:=cg.out;have:=ch.out;have:=dt.out;omega⟩,⟨by (try simp only [ai]);(try simp only [aj]);(try simp only [an]);(with_reducible repeat(first|apply Kd.R_alloc|apply Kd.R_drewN|apply Kd.R_drew));exact al.out⟩,⟨by (try simp only [ai]);(try simp only [aj]);(try simp only [an]);(with_reducible repeat(first|apply zb3|apply zb2|apply zb1));exact ac.out⟩,⟨by (try simp only [ai]);(try simp only [aj]);(try simp only [an]);(with_reducible repeat(first|apply zb3|apply zb2|apply zb1));exact ah.out⟩,⟨zH HB⟩⟩|(subst cd;subst ax;subst ay;subst bk;exact⟨(gl),(true),(wrap64 (ae + 1)),(by first|rfl|(simp;done)|(simp [*];done)),(by first|rfl|(simp;done)|(simp only [← ax] <;> (first|rfl|simp))|(simp [*];done)),H',⟨by have:=cg.out;have:=ch.out;have:=dt.out;omega⟩,⟨by (try simp only [ai]);(try simp only [aj]);(try simp only [an]);(with_reducible repeat(first|apply Kd.R_alloc|apply Kd.R_drewN|apply Kd.R_drew));exact al.out⟩,⟨by (try simp only [ai]);(try simp only [aj]);(try simp only [an]);(with_reducible repeat(first|apply zb3|apply zb2|apply zb1));exact ac.out⟩,⟨by (try simp only [ai]);(try simp only [aj]);(try simp only [an]);(with_reducible repeat(first|apply zb3|apply zb2|apply zb1));exact ah.out⟩,⟨zH HB⟩⟩)
        (replace nc:=Bool.eq_false_iff.mpr nc);(subst nc);(have H1:(if 0≤(wrap64 ((rd ((Zb ab aa).f1) ae) - af)) then(if(wrap64 ((rd ((Zb ab aa).f1) ae) - af)) < (ag.length:Int) then(Zp.l2 k3 l1 a2 aw (ag.set ((wrap64 ((rd ((Zb ab aa).f1) ae) - af)):Int).toNat (Go.bits .or .u32 (rd ag (wrap64 ((rd ((Zb ab aa).f1) ae) - af))) av)) ((Go.bits .andNot .u32 av (rd ag (wrap64 ((rd ((Zb ab aa).f1) ae) - af)))) != 0) ab (ab.length:Int) aa ((Zb ab aa).f1) (((Zb ab aa).f1).length:Int) ao af am ak ab ((Zb ab aa).f0) ((Zb ab aa).f1)) else(none)) else(none))=some r:=by rw [if_neg (show ¬ (false=true) by decide)] at H;exact H);(clear H);(have H:=H1);(clear H1);(obtain⟨bd,bs⟩ : ∃j_:Int,(wrap64 ((rd ((Zb ab aa).f1) ae) - af))=j_:=⟨_,rfl⟩);(replace H:(if 0≤(bd) then(if(bd) < (ag.length:Int) then(Zp.l2 k3 l1 a2 aw (ag.set ((bd):Int).toNat (Go.bits .or .u32 (rd ag (bd)) av)) ((Go.bits .andNot .u32 av (rd ag (bd))) != 0) ab (ab.length:Int) aa ((Zb ab aa).f1) (((Zb ab aa).f1).length:Int) ao af am ak ab ((Zb ab aa).f0) ((Zb ab aa).f1)) else(none)) else(none))=some r:=by first|(rw [bs] at H;exact H)|(simp only [bs] at H ⊢;exact H));((try rw [bs] at ie));(have rr:(IntKind.i64.wrap ((rd ((Zb ab aa).f1) ae) - af))=bd:=(Zc _).trans bs)
        by_cases nz:0≤(bd)
        rotate_left
        ·rw [if_neg nz] at H
         exact absurd H (by simp)
        (rw [if_pos nz] at H);(have tx:decide (0≤(bd))=true:=decide_eq_true nz);(clear nz)
        by_cases oa:(bd) < (ag.length:Int)
        rotate_left
        ·rw [if_neg oa] at H
         exact absurd H (by simp)
        (rw [if_pos oa] at H);(have lw:decide ((bd) < (ag.length:Int))=true:=decide_eq_true oa);((try(have jh:=lw;simp only [ai,aj,an] at jh)));(clear oa);(obtain⟨gn,ee⟩ : ∃y_:List Int,y_=(ag.set ((bd):Int).toNat (Go.bits .or .u32 (rd ag (bd)) av)):=⟨_,rfl⟩);(replace H:(Zp.l2 k3 l1 a2 aw gn ((Go.bits .andNot .u32 av (rd ag (bd))) != 0) ab (ab.length:Int) aa ((Zb ab aa).f1) (((Zb ab aa).f1).length:Int) ao af am ak ab ((Zb ab aa).f0) ((Zb ab aa).f1))=some r:=by first|(rw [ee];with_reducible exact H)|(have H2_:=(Option.bind_some _ _).symm.trans H;rw [ee];with_reducible exact H2_)|(have H2_:=(Option.bind_some _ _).symm.trans H;with_reducible exact H2_)|with_reducible exact H|(rw [ee];exact H)|exact H);(have lx:=Za.mk ee);(clear ee);(have H':=Za.mk H);(clear H);(have bn:0≤(ae:Int):=zD);(have bo:ae < (((Zb ab aa).f1).length:Int):=zD);(obtain⟨az,dk,ba⟩:=Kd.at_int bg.out ae bn bo);(cases dk);(replace ba:=zX HB ba);(replace bn:=eq_true bn);(replace bo:=eq_true bo);(have tz:=ar.out);(have ua:=bb.out);(obtain⟨oc,od⟩:=zq2 ac.out)
        (have oe:=zj ac 2 (.int .i64 ak));(have oh:=zj ac 3 (.slice (some bf) ab.length bi));(obtain⟨ol,om,oo,oq⟩:=zf4 ac.out)
        try go_wp2
        (replace al:=Za.mk (Kd.R_drew al.out));(replace ac:=Za.mk (Zi ac.out));(replace ah:=Za.mk (Zi ah.out));(replace HB:=Za.mk (Zz1 HB.out));(have rt:((ao):Int)≤((((Zb ab aa).f1).length:Int):Int):=zD);(obtain⟨i094,ii,_,hsz94,_⟩:=info_parts info3);(have hroom94:((Zb ab aa).f1).length≤aq:=cb.out);(have hC94:Kd.C (Kd.int .i64) _ (some az) ((Zb ab aa).f1).length ((Zb ab aa).f1):=bg.out);(have ru:(0:Int)≤((ao):Int):=zD);(have ji:=cut_from (P:=Try.prog) 25 3 .i64 Try.underlying25 ii 1 hsz94 (some az) ((Zb ab aa).f1).length aq (ao) ru rt);(have fp:=Kd.C_drop (m:=((ao):Int).toNat) (c:=aq) hC94 (by omega) hroom94);(obtain⟨ub,hA94⟩ : ∃Aq_,Aq_=(if aq=((ao):Int).toNat then(some az) else((some az):Option Addr).map (·.add (((ao):Int).toNat * 1))):=⟨_,rfl⟩);(obtain⟨uc,jj⟩ : ∃cq_,cq_=aq - ((ao):Int).toNat:=⟨_,rfl⟩);(have gp:bc.length=((Zb ab aa).f1).length - ((ao):Int).toNat:=(by rw [cf.out,List.length_drop] <;> omega));(rw [show(((Zb ab aa).f1)).drop ((ao):Int).toNat=bc from cf.out.symm] at fp);(replace fp:Kd.C (Kd.int .i64) _ ub bc.length bc:=(by rw [hA94];exact fp));(rw [← gp,← hA94,← jj] at ji);(have br:=Za.mk fp);(have cm:=Za.mk (show bc.length≤uc from by rw [gp,jj];exact Nat.sub_le_sub_right hroom94 _))
        (clear fp hC94 hroom94 ii hsz94 jj);(have KY94:=Za.mk gp);(have KA94:=Za.mk hA94);(clear gp hA94);(replace rt:=eq_true rt)
        refine start_ (n:=14) (S:=fun w'=>w'.cell? ⟨ap,0,none⟩=some (.int .i64 af)∧w'.cell? ⟨ap,1,none⟩=some (.int .i64 am)∧w'.cell? ⟨ap,2,none⟩=some (.int .i64 ak)∧w'.cell? ⟨ap,3,none⟩=some (.slice (some bf) ab.length bi)∧w'.cell? ⟨au,0,none⟩=some (.int .i64 ((Zb ab aa).f0))∧w'.cell? ⟨au,1,none⟩=some (.slice (some az) ((Zb ab aa).f1).length aq)) (ds:=[]) #[false,false,false,false,false,false,false,false,false,false,false,false,false,false] (by kernel_rfl) rfl rfl ⟨(Zf ac.out 0).trans rfl,(Zf ac.out 1).trans rfl,(Zf ac.out 2).trans rfl,(Zf ac.out 3).trans rfl,(Zf ah.out 0).trans rfl,(Zf ah.out 1).trans rfl⟩ (fun hHeld=>?_);refine Zc2 Zp.tab15 Zp.bits15 (fun HT_ HW_=>?_)
        generalize wr.drew=vw at al ac ah HB br hHeld ⊢
        refine zP 1 (some 60) (zt 14 2) (Ze HT_.out (by kernel_rfl)) ?_
        refine zP 2 (some 61) (zt 14 6) (Ze HT_.out (by kernel_rfl)) ?_
        refine zP 3 (some 62) (zt 14 14) (Ze HT_.out (by kernel_rfl)) ?_
        refine zP 5 (some 64) (zt 14 46) (Ze HT_.out (by kernel_rfl)) ?_
        refine zP 6 (some 65) (zt 14 110) (Ze HT_.out (by kernel_rfl)) ?_
        refine take_ (i:=0) (N:=some 59) (v:=?_) (a':=?_) #[true,true,true,true,false,true,true,false,false,false,false,false,false,false] rfl rfl (Zi1 HT_.out HW_.out (by kernel_rfl)) (fun _ _ _ h=>h) (Or.inl ⟨by rfl,?_⟩) hHeld ?_ ?_
        rotate_left
        ·rintro w' ⟨s0,s1,s2,s3,s4,s5⟩
         go_simp
         with_reducible rfl
        rotate_left
        ·simp only [Act.put,zp1,zp2,zp3,Zc,Zd]
         rfl
        refine take_ (i:=4) (N:=some 63) (v:=?_) (a':=?_) #[true,true,true,true,true,true,true,false,false,false,false,false,false,false] rfl rfl (Zi1 HT_.out HW_.out (by kernel_rfl)) (fun _ _ _ h=>h) (Or.inl ⟨by rfl,?_⟩) hHeld ?_ ?_
        rotate_left
        ·rintro w' ⟨s0,s1,s2,s3,s4,s5⟩
         go_simp
         with_reducible rfl
        rotate_left
        ·simp only [Act.put,zp1,zp2,zp3,Zc,Zd]
         rfl
        refine zP 7 (some 66) (zt 14 255) (Ze HT_.out (by kernel_rfl)) ?_
        refine one_ (i:=8) (N:=some 67) #[true,true,true,true,true,true,true,true,true,false,false,false,false,false] rfl rfl (one_of HT_.out (by kernel_rfl)) (by decide) (fun K hK=>?_)
        refine goes_ Try.func23 (by kernel_rfl) rfl #[.agg #[.int .i64 af,.int .i64 am,.int .i64 ak,.slice (some bf) ab.length bi],.slice A1 l1.length c1,.int .u32 a2,.slice ub bc.length uc] (by rfl) rfl rfl (by (try simp only [List.map_toArray,List.map_cons,List.map_nil]);first|done|rfl|(simp only [List.length_drop,List.length_take];rfl)) ?_
        with_reducible refine(Zm1.calls k3 af am ak _ _ ab _ _ l1 a2 _ _ bc av false _ ?side1 ?side2 ?side3 ?side4 ?side5 ?side6 ie.out).mono ?_
        (case side1=>exact zC ci HB)
        (case side2=>exact du.out)
        (case side3=>exact zC ml HB)
        (case side4=>exact mm.out)
        (case side5=>exact zC br HB)
        (case side6=>exact cm.out)
        rintro e ud ⟨rfl,hb⟩
        refine⟨_,rfl,?_⟩
        (replace al:=Za.mk (Kd.R_below (zR al) hb));(replace ac:=Za.mk (Zj (g:=ap) (zK ac) hb));(replace ah:=Za.mk (Zj (g:=au) (zK ah) hb));(replace HB:=Za.mk (Zh (zH HB) hb));((try clear hb));((try clear hb2));((try clear hk));((try clear hi))
        refine hK.out _ _ ⟨(Zf ac.out 0).trans rfl,(Zf ac.out 1).trans rfl,(Zf ac.out 2).trans rfl,(Zf ac.out 3).trans rfl,(Zf ah.out 0).trans rfl,(Zf ah.out 1).trans rfl⟩ (fun hHeld=>?_)
        clear hK K
        refine norm_ (a':=?_) ?_ ?_
        rotate_left
        ·show Act.put _ (some 67) _=_
         simp only [Act.put,zp1,zp2,zp3,Zc,Zd]
         rfl
        refine zP 9 (some 58) (zt 14 1023) (Ze HT_.out (by kernel_rfl)) ?_
        refine zP 10 (some 68) (zt 14 2047) (Ze HT_.out (by kernel_rfl)) ?_
        refine zP 11 (some 69) (zt 14 4095) (Ze HT_.out (by kernel_rfl)) ?_
        refine zP 12 (some 15) (zt 14 8191) (Ze HT_.out (by kernel_rfl)) ?_
        refine zP 13 (some 16) (zt 14 16383) (Ze HT_.out (by kernel_rfl)) ?_
        refine done_ (done_of HT_.out (by kernel_rfl)) ?_
        (obtain⟨ot,ou,ov,ow⟩:=zq4 ac.out);(obtain⟨ox,oy,oz,pa⟩:=zf4 ac.out);(have jk:0≤((bd):Int):=zD);(have jl:(bd) < (ag.length:Int):=zD);(obtain⟨ly,rv,dm⟩:=Kd.at_int (Kd.R_reads' al.out).2.2 (bd) jk jl);(obtain rfl:(⟨go11,0,none⟩ :Addr)=ly:=(by injection rv))
        (first|simp only [add_plain] at dm|simp only [add_at] at dm|simp only [Addr.add,Nat.zero_add] at dm|skip)
        (replace jk:=eq_true jk);(replace jl:=eq_true jl);(have jm:0≤((bd):Int):=zD);(have jn:(bd) < (ag.length:Int):=zD);(obtain⟨lz,rx,dn⟩:=Kd.at_int (Kd.R_reads' al.out).2.2 (bd) jm jn);(obtain rfl:(⟨go11,0,none⟩ :Addr)=lz:=(by injection rx))
        (first|simp only [add_plain] at dn|simp only [add_at] at dn|simp only [Addr.add,Nat.zero_add] at dn|skip)
        (replace jm:=eq_true jm);(replace jn:=eq_true jn);(have ry:0≤((bd):Int):=zD);(have rz:((bd):Int) < ((ag.length:Int):Int):=zD);(obtain⟨sa,hf90_0⟩:=Kd.R_celln 0 al.out ((bd):Int) ry rz);(replace ry:=eq_true ry);(replace rz:=eq_true rz);(obtain⟨hy97_,hz97_⟩:=Kd.R_celln 0 al.out ((bd):Int) (zD) (zD));(have HP97:=Kd.R_putg al.out ((bd):Int) (Go.bits .or .u32 (rd ag (bd)) av))
        try go_wp2_with (first|((with_reducible refine gate_store (t:=42) (p:=100) rfl ?_);refine store_event (t:=42) (p:=100) (v:=?vo_w98) (w1:=(ud.setCell ⟨go11,((bd):Int).toNat,none⟩ (.int .u32 (Go.bits .or .u32 (rd ag (bd)) av)))) ?hg ?ho ?hn ?hr ?_;(case ho=>rfl);(case hg=>rfl);(case hn=>rfl);(case hr=>first|(go_simp;done)|(go_simp;rfl));intro sb hw;have hg:ud.grownBy sb (some go11):=(by rw [hw];exact HP97.2);have hp_:Kd.R (Kd.int .u32) 42 sb w.heap.size (fun _=>True) (.slice (some ⟨go11,0,none⟩) ag.length ek) gn:=(by rw [hw,lx.out];exact HP97.1);clear HP97;replace ac:=Za.mk (Zv1 (g:=ap) (zK ac) hg (Kd.R_ne al.out ac.out (by decide)));replace ah:=Za.mk (Zv1 (g:=au) (zK ah) hg (Kd.R_ne al.out ah.out (by decide)));replace al:=Za.mk (hp_);replace HB:=Za.mk ((by rw [hw];exact below_set (HB.out) GB11.out:Below w.heap.size w sb));clear hg hw hp_))
        (try simp only [← an])
        (first|go_roundg k3|(simp only [← bs];go_roundg k3)|(simp only [← ax,← bs];go_roundg k3)|(simp only [← ay,← ax,← bs];go_roundg k3)|(simp only [← bk,← ay,← ax,← bs];go_roundg k3))
        case measure=>have:=cg.out;have:=ch.out;have:=dt.out;omega
        case rel=>first|exact⟨(gn),(((Go.bits .andNot .u32 av (rd ag (bd))) != 0)),(ao),(by first|rfl|(simp;done)|(simp only [← bs] <;> (first|rfl|simp))|(simp [*];done)),(by first|rfl|(simp;done)|(simp only [← ax] <;> (first|rfl|simp))|(simp [*];done)),H',⟨by have:=cg.out;have:=ch.out;have:=dt.out;omega⟩,⟨by (try simp only [ai]);(try simp only [aj]);(try simp only [an]);(with_reducible repeat(first|apply Kd.R_alloc|apply Kd.R_drewN|apply Kd.R_drew));exact al.out⟩,⟨by (try simp only [ai]);(try simp only [aj]);(try simp only [an]);(with_reducible repeat(first|apply zb3|apply zb2|apply zb1));exact ac.out⟩,⟨by (try simp only [ai]);(try simp only [aj]);(try simp only [an]);(with_reducible repeat(first|apply zb3|apply zb2|apply zb1));exact ah.out⟩,⟨zH HB⟩⟩|(subst bs;subst ax;subst ay;subst bk;exact⟨(gn),(((Go.bits .andNot .u32 av (rd ag (wrap64 ((rd ((Zb ab aa).f1) ae) - af)))) != 0)),(wrap64 (ae + 1)),(by first|rfl|(simp;done)|(simp only [← bs] <;> (first|rfl|simp))|(simp [*];done)),(by first|rfl|(simp;done)|(simp only [← ax] <;> (first|rfl|simp))|(simp [*];done)),H',⟨by have:=cg.out;have:=ch.out;have:=dt.out;omega⟩,⟨by (try simp only [ai]);(try simp only [aj]);(try simp only [an]);(with_reducible repeat(first|apply Kd.R_alloc|apply Kd.R_drewN|apply Kd.R_drew));exact al.out⟩,⟨by (try simp only [ai]);(try simp only [aj]);(try simp only [an]);(with_reducible repeat(first|apply zb3|apply zb2|apply zb1));exact ac.out⟩,⟨by (try simp only [ai]);(try simp only [aj]);(try simp only [an]);(with_reducible repeat(first|apply zb3|apply zb2|apply zb1));exact ah.out⟩,⟨zH HB⟩⟩)
       (subst nb);(have H1:(if 0≤((Zb ab aa).f0) then(if((Zb ab aa).f0) < (ag.length:Int) then(if bh=true then(if 0≤(wrap64 ((rd ((Zb ab aa).f1) ae) - af)) then(if(wrap64 ((rd ((Zb ab aa).f1) ae) - af)) < (ag.length:Int) then(Zp.l2 k3 l1 a2 aw (ag.set ((wrap64 ((rd ((Zb ab aa).f1) ae) - af)):Int).toNat (Go.bits .or .u32 (rd ag (wrap64 ((rd ((Zb ab aa).f1) ae) - af))) (Go.bits .or .u32 av (rd ag ((Zb ab aa).f0))))) true ab (ab.length:Int) aa ((Zb ab aa).f1) (((Zb ab aa).f1).length:Int) ao af am ak ab ((Zb ab aa).f0) ((Zb ab aa).f1)) else(none)) else(none)) else(if 0≤(wrap64 ((rd ((Zb ab aa).f1) ae) - af)) then(if(wrap64 ((rd ((Zb ab aa).f1) ae) - af)) < (ag.length:Int) then(Zp.l2 k3 l1 a2 aw (ag.set ((wrap64 ((rd ((Zb ab aa).f1) ae) - af)):Int).toNat (Go.bits .or .u32 (rd ag (wrap64 ((rd ((Zb ab aa).f1) ae) - af))) (Go.bits .or .u32 av (rd ag ((Zb ab aa).f0))))) ((Go.bits .andNot .u32 (Go.bits .or .u32 av (rd ag ((Zb ab aa).f0))) (rd ag (wrap64 ((rd ((Zb ab aa).f1) ae) - af)))) != 0) ab (ab.length:Int) aa ((Zb ab aa).f1) (((Zb ab aa).f1).length:Int) ao af am ak ab ((Zb ab aa).f0) ((Zb ab aa).f1)) else(none)) else(none))) else(none)) else(none))=some r:=by rw [if_pos rfl] at H;exact H)
       (clear H);(have H:=H1);(clear H1)
       by_cases pb:0≤((Zb ab aa).f0)
       rotate_left
       ·rw [if_neg pb] at H
        exact absurd H (by simp)
       (rw [if_pos pb] at H);(have ue:decide (0≤((Zb ab aa).f0))=true:=decide_eq_true pb);(clear pb)
       by_cases pd:((Zb ab aa).f0) < (ag.length:Int)
       rotate_left
       ·rw [if_neg pd] at H
        exact absurd H (by simp)
       (rw [if_pos pd] at H);(have ma:decide (((Zb ab aa).f0) < (ag.length:Int))=true:=decide_eq_true pd);((try(have jo:=ma;simp only [ai,aj,an] at jo)));(clear pd)
       by_cases pe:bh=true
       ·subst pe
        (have H1:(if 0≤(wrap64 ((rd ((Zb ab aa).f1) ae) - af)) then(if(wrap64 ((rd ((Zb ab aa).f1) ae) - af)) < (ag.length:Int) then(Zp.l2 k3 l1 a2 aw (ag.set ((wrap64 ((rd ((Zb ab aa).f1) ae) - af)):Int).toNat (Go.bits .or .u32 (rd ag (wrap64 ((rd ((Zb ab aa).f1) ae) - af))) (Go.bits .or .u32 av (rd ag ((Zb ab aa).f0))))) true ab (ab.length:Int) aa ((Zb ab aa).f1) (((Zb ab aa).f1).length:Int) ao af am ak ab ((Zb ab aa).f0) ((Zb ab aa).f1)) else(none)) else(none))=some r:=by rw [if_pos rfl] at H;exact H);(clear H);(have H:=H1);(clear H1);(obtain⟨bm,ce⟩ : ∃j_:Int,(wrap64 ((rd ((Zb ab aa).f1) ae) - af))=j_:=⟨_,rfl⟩);(replace H:(if 0≤(bm) then(if(bm) < (ag.length:Int) then(Zp.l2 k3 l1 a2 aw (ag.set ((bm):Int).toNat (Go.bits .or .u32 (rd ag (bm)) (Go.bits .or .u32 av (rd ag ((Zb ab aa).f0))))) true ab (ab.length:Int) aa ((Zb ab aa).f1) (((Zb ab aa).f1).length:Int) ao af am ak ab ((Zb ab aa).f0) ((Zb ab aa).f1)) else(none)) else(none))=some r:=by first|(rw [ce] at H;exact H)|(simp only [ce] at H ⊢;exact H));((try rw [ce] at ie));(have sc:(IntKind.i64.wrap ((rd ((Zb ab aa).f1) ae) - af))=bm:=(Zc _).trans ce)
        by_cases pf:0≤(bm)
        rotate_left
        ·rw [if_neg pf] at H
         exact absurd H (by simp)
        (rw [if_pos pf] at H);(have uf:decide (0≤(bm))=true:=decide_eq_true pf);(clear pf)
        by_cases pg:(bm) < (ag.length:Int)
        rotate_left
        ·rw [if_neg pg] at H
         exact absurd H (by simp)
        (rw [if_pos pg] at H);(have mb:decide ((bm) < (ag.length:Int))=true:=decide_eq_true pg);((try(have jp:=mb;simp only [ai,aj,an] at jp)));(clear pg);(obtain⟨gq,ef⟩ : ∃y_:List Int,y_=(ag.set ((bm):Int).toNat (Go.bits .or .u32 (rd ag (bm)) (Go.bits .or .u32 av (rd ag ((Zb ab aa).f0))))):=⟨_,rfl⟩);(replace H:(Zp.l2 k3 l1 a2 aw gq true ab (ab.length:Int) aa ((Zb ab aa).f1) (((Zb ab aa).f1).length:Int) ao af am ak ab ((Zb ab aa).f0) ((Zb ab aa).f1))=some r:=by first|(rw [ef];with_reducible exact H)|(have H2_:=(Option.bind_some _ _).symm.trans H;rw [ef];with_reducible exact H2_)|(have H2_:=(Option.bind_some _ _).symm.trans H;with_reducible exact H2_)|with_reducible exact H|(rw [ef];exact H)|exact H);(have mc:=Za.mk ef);(clear ef);(have H':=Za.mk H);(clear H);(have bn:0≤(ae:Int):=zD);(have bo:ae < (((Zb ab aa).f1).length:Int):=zD);(obtain⟨az,dk,ba⟩:=Kd.at_int bg.out ae bn bo);(cases dk);(replace ba:=zX HB ba);(replace bn:=eq_true bn);(replace bo:=eq_true bo);(have ug:=ar.out);(have uh:=bb.out);(obtain⟨ph,pi⟩:=zq2 ac.out)
        (have pj:=zj ac 2 (.int .i64 ak));(have pk:=zj ac 3 (.slice (some bf) ab.length bi));(obtain⟨pl,pm,pn,po⟩:=zf4 ac.out)
        try go_wp2
        (replace al:=Za.mk (Kd.R_drew al.out));(replace ac:=Za.mk (Zi ac.out));(replace ah:=Za.mk (Zi ah.out));(replace HB:=Za.mk (Zz1 HB.out));(have sd:((ao):Int)≤((((Zb ab aa).f1).length:Int):Int):=zD);(obtain⟨i055,ik,_,hsz55,_⟩:=info_parts info3);(have hroom55:((Zb ab aa).f1).length≤aq:=cb.out);(have hC55:Kd.C (Kd.int .i64) _ (some az) ((Zb ab aa).f1).length ((Zb ab aa).f1):=bg.out);(have se:(0:Int)≤((ao):Int):=zD);(have jq:=cut_from (P:=Try.prog) 25 3 .i64 Try.underlying25 ik 1 hsz55 (some az) ((Zb ab aa).f1).length aq (ao) se sd);(have fq:=Kd.C_drop (m:=((ao):Int).toNat) (c:=aq) hC55 (by omega) hroom55);(obtain⟨ui,hA55⟩ : ∃Aq_,Aq_=(if aq=((ao):Int).toNat then(some az) else((some az):Option Addr).map (·.add (((ao):Int).toNat * 1))):=⟨_,rfl⟩);(obtain⟨uj,jr⟩ : ∃cq_,cq_=aq - ((ao):Int).toNat:=⟨_,rfl⟩);(have gu:bc.length=((Zb ab aa).f1).length - ((ao):Int).toNat:=(by rw [cf.out,List.length_drop] <;> omega));(rw [show(((Zb ab aa).f1)).drop ((ao):Int).toNat=bc from cf.out.symm] at fq);(replace fq:Kd.C (Kd.int .i64) _ ui bc.length bc:=(by rw [hA55];exact fq));(rw [← gu,← hA55,← jr] at jq);(have br:=Za.mk fq);(have cm:=Za.mk (show bc.length≤uj from by rw [gu,jr];exact Nat.sub_le_sub_right hroom55 _))
        (clear fq hC55 hroom55 ik hsz55 jr);(have KY55:=Za.mk gu);(have KA55:=Za.mk hA55);(clear gu hA55);(replace sd:=eq_true sd)
        refine start_ (n:=14) (S:=fun w'=>w'.cell? ⟨ap,0,none⟩=some (.int .i64 af)∧w'.cell? ⟨ap,1,none⟩=some (.int .i64 am)∧w'.cell? ⟨ap,2,none⟩=some (.int .i64 ak)∧w'.cell? ⟨ap,3,none⟩=some (.slice (some bf) ab.length bi)∧w'.cell? ⟨au,0,none⟩=some (.int .i64 ((Zb ab aa).f0))∧w'.cell? ⟨au,1,none⟩=some (.slice (some az) ((Zb ab aa).f1).length aq)) (ds:=[]) #[false,false,false,false,false,false,false,false,false,false,false,false,false,false] (by kernel_rfl) rfl rfl ⟨(Zf ac.out 0).trans rfl,(Zf ac.out 1).trans rfl,(Zf ac.out 2).trans rfl,(Zf ac.out 3).trans rfl,(Zf ah.out 0).trans rfl,(Zf ah.out 1).trans rfl⟩ (fun hHeld=>?_);refine Zc2 Zp.tab15 Zp.bits15 (fun HT_ HW_=>?_)
        generalize wr.drew=vx at al ac ah HB br hHeld ⊢
        refine zP 1 (some 60) (zt 14 2) (Ze HT_.out (by kernel_rfl)) ?_
        refine zP 2 (some 61) (zt 14 6) (Ze HT_.out (by kernel_rfl)) ?_
        refine zP 3 (some 62) (zt 14 14) (Ze HT_.out (by kernel_rfl)) ?_
        refine zP 5 (some 64) (zt 14 46) (Ze HT_.out (by kernel_rfl)) ?_
        refine zP 6 (some 65) (zt 14 110) (Ze HT_.out (by kernel_rfl)) ?_
        refine take_ (i:=0) (N:=some 59) (v:=?_) (a':=?_) #[true,true,true,true,false,true,true,false,false,false,false,false,false,false] rfl rfl (Zi1 HT_.out HW_.out (by kernel_rfl)) (fun _ _ _ h=>h) (Or.inl ⟨by rfl,?_⟩) hHeld ?_ ?_
        rotate_left
        ·rintro w' ⟨s0,s1,s2,s3,s4,s5⟩
         go_simp
         with_reducible rfl
        rotate_left
        ·simp only [Act.put,zp1,zp2,zp3,Zc,Zd]
         rfl
        refine take_ (i:=4) (N:=some 63) (v:=?_) (a':=?_) #[true,true,true,true,true,true,true,false,false,false,false,false,false,false] rfl rfl (Zi1 HT_.out HW_.out (by kernel_rfl)) (fun _ _ _ h=>h) (Or.inl ⟨by rfl,?_⟩) hHeld ?_ ?_
        rotate_left
        ·rintro w' ⟨s0,s1,s2,s3,s4,s5⟩
         go_simp
         with_reducible rfl
        rotate_left
        ·simp only [Act.put,zp1,zp2,zp3,Zc,Zd]
         rfl
        refine zP 7 (some 66) (zt 14 255) (Ze HT_.out (by kernel_rfl)) ?_
        refine one_ (i:=8) (N:=some 67) #[true,true,true,true,true,true,true,true,true,false,false,false,false,false] rfl rfl (one_of HT_.out (by kernel_rfl)) (by decide) (fun K hK=>?_)
        refine goes_ Try.func23 (by kernel_rfl) rfl #[.agg #[.int .i64 af,.int .i64 am,.int .i64 ak,.slice (some bf) ab.length bi],.slice A1 l1.length c1,.int .u32 a2,.slice ui bc.length uj] (by rfl) rfl rfl (by (try simp only [List.map_toArray,List.map_cons,List.map_nil]);first|done|rfl|(simp only [List.length_drop,List.length_take];rfl)) ?_
        with_reducible refine(Zm1.calls k3 af am ak _ _ ab _ _ l1 a2 _ _ bc av true _ ?side1 ?side2 ?side3 ?side4 ?side5 ?side6 ie.out).mono ?_
        (case side1=>exact zC ci HB)
        (case side2=>exact du.out)
        (case side3=>exact zC ml HB)
        (case side4=>exact mm.out)
        (case side5=>exact zC br HB)
        (case side6=>exact cm.out)
        rintro e uk ⟨rfl,hb⟩
        refine⟨_,rfl,?_⟩
        (replace al:=Za.mk (Kd.R_below (zR al) hb));(replace ac:=Za.mk (Zj (g:=ap) (zK ac) hb));(replace ah:=Za.mk (Zj (g:=au) (zK ah) hb));(replace HB:=Za.mk (Zh (zH HB) hb));((try clear hb));((try clear hb2));((try clear hk));((try clear hi))
        refine hK.out _ _ ⟨(Zf ac.out 0).trans rfl,(Zf ac.out 1).trans rfl,(Zf ac.out 2).trans rfl,(Zf ac.out 3).trans rfl,(Zf ah.out 0).trans rfl,(Zf ah.out 1).trans rfl⟩ (fun hHeld=>?_)
        clear hK K
        refine norm_ (a':=?_) ?_ ?_
        rotate_left
        ·show Act.put _ (some 67) _=_
         simp only [Act.put,zp1,zp2,zp3,Zc,Zd]
         rfl
        refine zP 9 (some 58) (zt 14 1023) (Ze HT_.out (by kernel_rfl)) ?_
        refine zP 10 (some 68) (zt 14 2047) (Ze HT_.out (by kernel_rfl)) ?_
        refine zP 11 (some 69) (zt 14 4095) (Ze HT_.out (by kernel_rfl)) ?_
        refine zP 12 (some 15) (zt 14 8191) (Ze HT_.out (by kernel_rfl)) ?_
        refine zP 13 (some 16) (zt 14 16383) (Ze HT_.out (by kernel_rfl)) ?_
        refine done_ (done_of HT_.out (by kernel_rfl)) ?_
        (obtain⟨pq,pr⟩:=zq2 ah.out);(obtain⟨pt,pu⟩:=zf2 ah.out);(have ey:0≤(((Zb ab aa).f0):Int):=zD);(have ez:((Zb ab aa).f0) < (ag.length:Int):=zD);(obtain⟨ft,js,bp⟩:=Kd.at_int (Kd.R_reads' al.out).2.2 ((Zb ab aa).f0) ey ez);(obtain rfl:(⟨go11,0,none⟩ :Addr)=ft:=(by injection js))
        (first|simp only [add_plain] at bp|simp only [add_at] at bp|simp only [Addr.add,Nat.zero_add] at bp|skip)
        (replace ey:=eq_true ey);(replace ez:=eq_true ez);(obtain⟨pv,pw,px,py⟩:=zq4 ac.out);(obtain⟨pz,qa,qb,qc⟩:=zf4 ac.out);(have jt:0≤((bm):Int):=zD);(have ju:(bm) < (ag.length:Int):=zD);(obtain⟨me,sf,dp⟩:=Kd.at_int (Kd.R_reads' al.out).2.2 (bm) jt ju);(obtain rfl:(⟨go11,0,none⟩ :Addr)=me:=(by injection sf))
        (first|simp only [add_plain] at dp|simp only [add_at] at dp|simp only [Addr.add,Nat.zero_add] at dp|skip)
        (replace jt:=eq_true jt);(replace ju:=eq_true ju);(have sg:0≤((bm):Int):=zD);(have sh:((bm):Int) < ((ag.length:Int):Int):=zD);(obtain⟨si,hf51_0⟩:=Kd.R_celln 0 al.out ((bm):Int) sg sh);(replace sg:=eq_true sg);(replace sh:=eq_true sh);(obtain⟨hy59_,hz59_⟩:=Kd.R_celln 0 al.out ((bm):Int) (zD) (zD));(have HP59:=Kd.R_putg al.out ((bm):Int) (Go.bits .or .u32 (rd ag (bm)) (Go.bits .or .u32 av (rd ag ((Zb ab aa).f0)))))
        try go_wp2_with (first|((with_reducible refine gate_store (t:=42) (p:=100) rfl ?_);refine store_event (t:=42) (p:=100) (v:=?vo_w60) (w1:=(uk.setCell ⟨go11,((bm):Int).toNat,none⟩ (.int .u32 (Go.bits .or .u32 (rd ag (bm)) (Go.bits .or .u32 av (rd ag ((Zb ab aa).f0))))))) ?hg ?ho ?hn ?hr ?_;(case ho=>rfl);(case hg=>rfl);(case hn=>rfl);(case hr=>first|(go_simp;done)|(go_simp;rfl));intro sj hw;have hg:uk.grownBy sj (some go11):=(by rw [hw];exact HP59.2);have hp_:Kd.R (Kd.int .u32) 42 sj w.heap.size (fun _=>True) (.slice (some ⟨go11,0,none⟩) ag.length ek) gq:=(by rw [hw,mc.out];exact HP59.1);clear HP59;replace ac:=Za.mk (Zv1 (g:=ap) (zK ac) hg (Kd.R_ne al.out ac.out (by decide)));replace ah:=Za.mk (Zv1 (g:=au) (zK ah) hg (Kd.R_ne al.out ah.out (by decide)));replace al:=Za.mk (hp_);replace HB:=Za.mk ((by rw [hw];exact below_set (HB.out) GB11.out:Below w.heap.size w sj));clear hg hw hp_))
        (try simp only [← an])
        (first|go_roundg k3|(simp only [← ce];go_roundg k3)|(simp only [← ax,← ce];go_roundg k3)|(simp only [← ay,← ax,← ce];go_roundg k3)|(simp only [← bk,← ay,← ax,← ce];go_roundg k3))
        case measure=>have:=cg.out;have:=ch.out;have:=dt.out;omega
        case rel=>first|exact⟨(gq),(true),(ao),(by first|rfl|(simp;done)|(simp [*];done)),(by first|rfl|(simp;done)|(simp only [← ax] <;> (first|rfl|simp))|(simp [*];done)),H',⟨by have:=cg.out;have:=ch.out;have:=dt.out;omega⟩,⟨by (try simp only [ai]);(try simp only [aj]);(try simp only [an]);(with_reducible repeat(first|apply Kd.R_alloc|apply Kd.R_drewN|apply Kd.R_drew));exact al.out⟩,⟨by (try simp only [ai]);(try simp only [aj]);(try simp only [an]);(with_reducible repeat(first|apply zb3|apply zb2|apply zb1));exact ac.out⟩,⟨by (try simp only [ai]);(try simp only [aj]);(try simp only [an]);(with_reducible repeat(first|apply zb3|apply zb2|apply zb1));exact ah.out⟩,⟨zH HB⟩⟩|(subst ce;subst ax;subst ay;subst bk;exact⟨(gq),(true),(wrap64 (ae + 1)),(by first|rfl|(simp;done)|(simp [*];done)),(by first|rfl|(simp;done)|(simp only [← ax] <;> (first|rfl|simp))|(simp [*];done)),H',⟨by have:=cg.out;have:=ch.out;have:=dt.out;omega⟩,⟨by (try simp only [ai]);(try simp only [aj]);(try simp only [an]);(with_reducible repeat(first|apply Kd.R_alloc|apply Kd.R_drewN|apply Kd.R_drew));exact al.out⟩,⟨by (try simp only [ai]);(try simp only [aj]);(try simp only [an]);(with_reducible repeat(first|apply zb3|apply zb2|apply zb1));exact ac.out⟩,⟨by (try simp only [ai]);(try simp only [aj]);(try simp only [an]);(with_reducible repeat(first|apply zb3|apply zb2|apply zb1));exact ah.out⟩,⟨zH HB⟩⟩)
       (replace pe:=Bool.eq_false_iff.mpr pe);(subst pe);(have H1:(if 0≤(wrap64 ((rd ((Zb ab aa).f1) ae) - af)) then(if(wrap64 ((rd ((Zb ab aa).f1) ae) - af)) < (ag.length:Int) then(Zp.l2 k3 l1 a2 aw (ag.set ((wrap64 ((rd ((Zb ab aa).f1) ae) - af)):Int).toNat (Go.bits .or .u32 (rd ag (wrap64 ((rd ((Zb ab aa).f1) ae) - af))) (Go.bits .or .u32 av (rd ag ((Zb ab aa).f0))))) ((Go.bits .andNot .u32 (Go.bits .or .u32 av (rd ag ((Zb ab aa).f0))) (rd ag (wrap64 ((rd ((Zb ab aa).f1) ae) - af)))) != 0) ab (ab.length:Int) aa ((Zb ab aa).f1) (((Zb ab aa).f1).length:Int) ao af am ak ab ((Zb ab aa).f0) ((Zb ab aa).f1)) else(none)) else(none))=some r:=by rw [if_neg (show ¬ (false=true) by decide)] at H;exact H);(clear H);(have H:=H1);(clear H1);(obtain⟨be,bt⟩ : ∃j_:Int,(wrap64 ((rd ((Zb ab aa).f1) ae) - af))=j_:=⟨_,rfl⟩);(replace H:(if 0≤(be) then(if(be) < (ag.length:Int) then(Zp.l2 k3 l1 a2 aw (ag.set ((be):Int).toNat (Go.bits .or .u32 (rd ag (be)) (Go.bits .or .u32 av (rd ag ((Zb ab aa).f0))))) ((Go.bits .andNot .u32 (Go.bits .or .u32 av (rd ag ((Zb ab aa).f0))) (rd ag (be))) != 0) ab (ab.length:Int) aa ((Zb ab aa).f1) (((Zb ab aa).f1).length:Int) ao af am ak ab ((Zb ab aa).f0) ((Zb ab aa).f1)) else(none)) else(none))=some r:=by first|(rw [bt] at H;exact H)|(simp only [bt] at H ⊢;exact H))
       ((try rw [bt] at ie));(have sk:(IntKind.i64.wrap ((rd ((Zb ab aa).f1) ae) - af))=be:=(Zc _).trans bt)
       by_cases qe:0≤(be)
       rotate_left
       ·rw [if_neg qe] at H
        exact absurd H (by simp)
       (rw [if_pos qe] at H);(have ul:decide (0≤(be))=true:=decide_eq_true qe);(clear qe)
       by_cases qf:(be) < (ag.length:Int)
       rotate_left
       ·rw [if_neg qf] at H
        exact absurd H (by simp)
       (rw [if_pos qf] at H);(have mf:decide ((be) < (ag.length:Int))=true:=decide_eq_true qf);((try(have jv:=mf;simp only [ai,aj,an] at jv)));(clear qf);(obtain⟨gv,eh⟩ : ∃y_:List Int,y_=(ag.set ((be):Int).toNat (Go.bits .or .u32 (rd ag (be)) (Go.bits .or .u32 av (rd ag ((Zb ab aa).f0))))):=⟨_,rfl⟩);(replace H:(Zp.l2 k3 l1 a2 aw gv ((Go.bits .andNot .u32 (Go.bits .or .u32 av (rd ag ((Zb ab aa).f0))) (rd ag (be))) != 0) ab (ab.length:Int) aa ((Zb ab aa).f1) (((Zb ab aa).f1).length:Int) ao af am ak ab ((Zb ab aa).f0) ((Zb ab aa).f1))=some r:=by first|(rw [eh];with_reducible exact H)|(have H2_:=(Option.bind_some _ _).symm.trans H;rw [eh];with_reducible exact H2_)|(have H2_:=(Option.bind_some _ _).symm.trans H;with_reducible exact H2_)|with_reducible exact H|(rw [eh];exact H)|exact H);(have mg:=Za.mk eh);(clear eh);(have H':=Za.mk H);(clear H);(have bn:0≤(ae:Int):=zD);(have bo:ae < (((Zb ab aa).f1).length:Int):=zD);(obtain⟨az,dk,ba⟩:=Kd.at_int bg.out ae bn bo);(cases dk);(replace ba:=zX HB ba);(replace bn:=eq_true bn);(replace bo:=eq_true bo);(have um:=ar.out);(have uo:=bb.out);(have qg:=zj ac 0 (.int .i64 af))
       (have qi:=zj ac 1 (.int .i64 am));(have qj:=zj ac 2 (.int .i64 ak));(have qk:=zj ac 3 (.slice (some bf) ab.length bi));(obtain⟨ql,qm,qn,qo⟩:=zf4 ac.out)
       try go_wp2
       (replace al:=Za.mk (Kd.R_drew al.out));(replace ac:=Za.mk (Zi ac.out));(replace ah:=Za.mk (Zi ah.out));(replace HB:=Za.mk (Zz1 HB.out));(have sl:((ao):Int)≤((((Zb ab aa).f1).length:Int):Int):=zD);(obtain⟨i068,il,_,hsz68,_⟩:=info_parts info3);(have hroom68:((Zb ab aa).f1).length≤aq:=cb.out);(have hC68:Kd.C (Kd.int .i64) _ (some az) ((Zb ab aa).f1).length ((Zb ab aa).f1):=bg.out);(have sm:(0:Int)≤((ao):Int):=zD);(have jw:=cut_from (P:=Try.prog) 25 3 .i64 Try.underlying25 il 1 hsz68 (some az) ((Zb ab aa).f1).length aq (ao) sm sl);(have fu:=Kd.C_drop (m:=((ao):Int).toNat) (c:=aq) hC68 (by omega) hroom68);(obtain⟨uq,hA68⟩ : ∃Aq_,Aq_=(if aq=((ao):Int).toNat then(some az) else((some az):Option Addr).map (·.add (((ao):Int).toNat * 1))):=⟨_,rfl⟩);(obtain⟨ur,jx⟩ : ∃cq_,cq_=aq - ((ao):Int).toNat:=⟨_,rfl⟩);(have gw:bc.length=((Zb ab aa).f1).length - ((ao):Int).toNat:=(by rw [cf.out,List.length_drop] <;> omega));(rw [show(((Zb ab aa).f1)).drop ((ao):Int).toNat=bc from cf.out.symm] at fu);(replace fu:Kd.C (Kd.int .i64) _ uq bc.length bc:=(by rw [hA68];exact fu));(rw [← gw,← hA68,← jx] at jw);(have br:=Za.mk fu);(have cm:=Za.mk (show bc.length≤ur from by rw [gw,jx];exact Nat.sub_le_sub_right hroom68 _))
       (clear fu hC68 hroom68 il hsz68 jx);(have KY68:=Za.mk gw);(have KA68:=Za.mk hA68);(clear gw hA68);(replace sl:=eq_true sl)
       refine start_ (n:=14) (S:=fun w'=>w'.cell? ⟨ap,0,none⟩=some (.int .i64 af)∧w'.cell? ⟨ap,1,none⟩=some (.int .i64 am)∧w'.cell? ⟨ap,2,none⟩=some (.int .i64 ak)∧w'.cell? ⟨ap,3,none⟩=some (.slice (some bf) ab.length bi)∧w'.cell? ⟨au,0,none⟩=some (.int .i64 ((Zb ab aa).f0))∧w'.cell? ⟨au,1,none⟩=some (.slice (some az) ((Zb ab aa).f1).length aq)) (ds:=[]) #[false,false,false,false,false,false,false,false,false,false,false,false,false,false] (by kernel_rfl) rfl rfl ⟨(Zf ac.out 0).trans rfl,(Zf ac.out 1).trans rfl,(Zf ac.out 2).trans rfl,(Zf ac.out 3).trans rfl,(Zf ah.out 0).trans rfl,(Zf ah.out 1).trans rfl⟩ (fun hHeld=>?_);refine Zc2 Zp.tab15 Zp.bits15 (fun HT_ HW_=>?_)
       generalize wr.drew=vy at al ac ah HB br hHeld ⊢
       refine zP 1 (some 60) (zt 14 2) (Ze HT_.out (by kernel_rfl)) ?_
       refine zP 2 (some 61) (zt 14 6) (Ze HT_.out (by kernel_rfl)) ?_
       refine zP 3 (some 62) (zt 14 14) (Ze HT_.out (by kernel_rfl)) ?_
       refine zP 5 (some 64) (zt 14 46) (Ze HT_.out (by kernel_rfl)) ?_
       refine zP 6 (some 65) (zt 14 110) (Ze HT_.out (by kernel_rfl)) ?_
       refine take_ (i:=0) (N:=some 59) (v:=?_) (a':=?_) #[true,true,true,true,false,true,true,false,false,false,false,false,false,false] rfl rfl (Zi1 HT_.out HW_.out (by kernel_rfl)) (fun _ _ _ h=>h) (Or.inl ⟨by rfl,?_⟩) hHeld ?_ ?_
       rotate_left
       ·rintro w' ⟨s0,s1,s2,s3,s4,s5⟩
        go_simp
        with_reducible rfl
       rotate_left
       ·simp only [Act.put,zp1,zp2,zp3,Zc,Zd]
        rfl
       refine take_ (i:=4) (N:=some 63) (v:=?_) (a':=?_) #[true,true,true,true,true,true,true,false,false,false,false,false,false,false] rfl rfl (Zi1 HT_.out HW_.out (by kernel_rfl)) (fun _ _ _ h=>h) (Or.inl ⟨by rfl,?_⟩) hHeld ?_ ?_
       rotate_left
       ·rintro w' ⟨s0,s1,s2,s3,s4,s5⟩
        go_simp
        with_reducible rfl
       rotate_left
       ·simp only [Act.put,zp1,zp2,zp3,Zc,Zd]
        rfl
       refine zP 7 (some 66) (zt 14 255) (Ze HT_.out (by kernel_rfl)) ?_
       refine one_ (i:=8) (N:=some 67) #[true,true,true,true,true,true,true,true,true,false,false,false,false,false] rfl rfl (one_of HT_.out (by kernel_rfl)) (by decide) (fun K hK=>?_)
       refine goes_ Try.func23 (by kernel_rfl) rfl #[.agg #[.int .i64 af,.int .i64 am,.int .i64 ak,.slice (some bf) ab.length bi],.slice A1 l1.length c1,.int .u32 a2,.slice uq bc.length ur] (by rfl) rfl rfl (by (try simp only [List.map_toArray,List.map_cons,List.map_nil]);first|done|rfl|(simp only [List.length_drop,List.length_take];rfl)) ?_
       with_reducible refine(Zm1.calls k3 af am ak _ _ ab _ _ l1 a2 _ _ bc av true _ ?side1 ?side2 ?side3 ?side4 ?side5 ?side6 ie.out).mono ?_
       (case side1=>exact zC ci HB)
       (case side2=>exact du.out)
       (case side3=>exact zC ml HB)
       (case side4=>exact mm.out)
       (case side5=>exact zC br HB)
       (case side6=>exact cm.out)
       rintro e us ⟨rfl,hb⟩
       refine⟨_,rfl,?_⟩
       (replace al:=Za.mk (Kd.R_below (zR al) hb));(replace ac:=Za.mk (Zj (g:=ap) (zK ac) hb));(replace ah:=Za.mk (Zj (g:=au) (zK ah) hb));(replace HB:=Za.mk (Zh (zH HB) hb));((try clear hb));((try clear hb2));((try clear hk));((try clear hi))
       refine hK.out _ _ ⟨(Zf ac.out 0).trans rfl,(Zf ac.out 1).trans rfl,(Zf ac.out 2).trans rfl,(Zf ac.out 3).trans rfl,(Zf ah.out 0).trans rfl,(Zf ah.out 1).trans rfl⟩ (fun hHeld=>?_)
       clear hK K
       refine norm_ (a':=?_) ?_ ?_
       rotate_left
       ·show Act.put _ (some 67) _=_
        simp only [Act.put,zp1,zp2,zp3,Zc,Zd]
        rfl
       refine zP 9 (some 58) (zt 14 1023) (Ze HT_.out (by kernel_rfl)) ?_
       refine zP 10 (some 68) (zt 14 2047) (Ze HT_.out (by kernel_rfl)) ?_
       refine zP 11 (some 69) (zt 14 4095) (Ze HT_.out (by kernel_rfl)) ?_
       refine zP 12 (some 15) (zt 14 8191) (Ze HT_.out (by kernel_rfl)) ?_
       refine zP 13 (some 16) (zt 14 16383) (Ze HT_.out (by kernel_rfl)) ?_
       refine done_ (done_of HT_.out (by kernel_rfl)) ?_
       (obtain⟨qp,qq⟩:=zq2 ah.out);(obtain⟨qr,qt⟩:=zf2 ah.out);(have ey:0≤(((Zb ab aa).f0):Int):=zD);(have ez:((Zb ab aa).f0) < (ag.length:Int):=zD);(obtain⟨ft,js,bp⟩:=Kd.at_int (Kd.R_reads' al.out).2.2 ((Zb ab aa).f0) ey ez);(obtain rfl:(⟨go11,0,none⟩ :Addr)=ft:=(by injection js))
       (first|simp only [add_plain] at bp|simp only [add_at] at bp|simp only [Addr.add,Nat.zero_add] at bp|skip)
       (replace ey:=eq_true ey);(replace ez:=eq_true ez);(obtain⟨qu,qv,qw,qx⟩:=zq4 ac.out);(obtain⟨qy,qz,ra,rb⟩:=zf4 ac.out);(have jy:0≤((be):Int):=zD);(have jz:(be) < (ag.length:Int):=zD);(obtain⟨mh,sn,dq⟩:=Kd.at_int (Kd.R_reads' al.out).2.2 (be) jy jz);(obtain rfl:(⟨go11,0,none⟩ :Addr)=mh:=(by injection sn))
       (first|simp only [add_plain] at dq|simp only [add_at] at dq|simp only [Addr.add,Nat.zero_add] at dq|skip)
       (replace jy:=eq_true jy);(replace jz:=eq_true jz);(have ka:0≤((be):Int):=zD);(have kd:(be) < (ag.length:Int):=zD);(obtain⟨mi,so,dr⟩:=Kd.at_int (Kd.R_reads' al.out).2.2 (be) ka kd);(obtain rfl:(⟨go11,0,none⟩ :Addr)=mi:=(by injection so))
       (first|simp only [add_plain] at dr|simp only [add_at] at dr|simp only [Addr.add,Nat.zero_add] at dr|skip)
       (replace ka:=eq_true ka);(replace kd:=eq_true kd);(have sp:0≤((be):Int):=zD);(have sq:((be):Int) < ((ag.length:Int):Int):=zD);(obtain⟨sr,hf64_0⟩:=Kd.R_celln 0 al.out ((be):Int) sp sq);(replace sp:=eq_true sp);(replace sq:=eq_true sq);(obtain⟨hy72_,hz72_⟩:=Kd.R_celln 0 al.out ((be):Int) (zD) (zD));(have HP72:=Kd.R_putg al.out ((be):Int) (Go.bits .or .u32 (rd ag (be)) (Go.bits .or .u32 av (rd ag ((Zb ab aa).f0)))))
       try go_wp2_with (first|((with_reducible refine gate_store (t:=42) (p:=100) rfl ?_);refine store_event (t:=42) (p:=100) (v:=?vo_w73) (w1:=(us.setCell ⟨go11,((be):Int).toNat,none⟩ (.int .u32 (Go.bits .or .u32 (rd ag (be)) (Go.bits .or .u32 av (rd ag ((Zb ab aa).f0))))))) ?hg ?ho ?hn ?hr ?_;(case ho=>rfl);(case hg=>rfl);(case hn=>rfl);(case hr=>first|(go_simp;done)|(go_simp;rfl));intro ss hw;have hg:us.grownBy ss (some go11):=(by rw [hw];exact HP72.2);have hp_:Kd.R (Kd.int .u32) 42 ss w.heap.size (fun _=>True) (.slice (some ⟨go11,0,none⟩) ag.length ek) gv:=(by rw [hw,mg.out];exact HP72.1);clear HP72;replace ac:=Za.mk (Zv1 (g:=ap) (zK ac) hg (Kd.R_ne al.out ac.out (by decide)));replace ah:=Za.mk (Zv1 (g:=au) (zK ah) hg (Kd.R_ne al.out ah.out (by decide)));replace al:=Za.mk (hp_);replace HB:=Za.mk ((by rw [hw];exact below_set (HB.out) GB11.out:Below w.heap.size w ss));clear hg hw hp_))
       (try simp only [← an])
       (first|go_roundg k3|(simp only [← bt];go_roundg k3)|(simp only [← ax,← bt];go_roundg k3)|(simp only [← ay,← ax,← bt];go_roundg k3)|(simp only [← bk,← ay,← ax,← bt];go_roundg k3))
       case measure=>have:=cg.out;have:=ch.out;have:=dt.out;omega
       case rel=>first|exact⟨(gv),(((Go.bits .andNot .u32 (Go.bits .or .u32 av (rd ag ((Zb ab aa).f0))) (rd ag (be))) != 0)),(ao),(by first|rfl|(simp;done)|(simp only [← bt] <;> (first|rfl|simp))|(simp [*];done)),(by first|rfl|(simp;done)|(simp only [← ax] <;> (first|rfl|simp))|(simp [*];done)),H',⟨by have:=cg.out;have:=ch.out;have:=dt.out;omega⟩,⟨by (try simp only [ai]);(try simp only [aj]);(try simp only [an]);(with_reducible repeat(first|apply Kd.R_alloc|apply Kd.R_drewN|apply Kd.R_drew));exact al.out⟩,⟨by (try simp only [ai]);(try simp only [aj]);(try simp only [an]);(with_reducible repeat(first|apply zb3|apply zb2|apply zb1));exact ac.out⟩,⟨by (try simp only [ai]);(try simp only [aj]);(try simp only [an]);(with_reducible repeat(first|apply zb3|apply zb2|apply zb1));exact ah.out⟩,⟨zH HB⟩⟩|(subst bt;subst ax;subst ay;subst bk;exact⟨(gv),(((Go.bits .andNot .u32 (Go.bits .or .u32 av (rd ag ((Zb ab aa).f0))) (rd ag (wrap64 ((rd ((Zb ab aa).f1) ae) - af)))) != 0)),(wrap64 (ae + 1)),(by first|rfl|(simp;done)|(simp only [← bt] <;> (first|rfl|simp))|(simp [*];done)),(by first|rfl|(simp;done)|(simp only [← ax] <;> (first|rfl|simp))|(simp [*];done)),H',⟨by have:=cg.out;have:=ch.out;have:=dt.out;omega⟩,⟨by (try simp only [ai]);(try simp only [aj]);(try simp only [an]);(with_reducible repeat(first|apply Kd.R_alloc|apply Kd.R_drewN|apply Kd.R_drew));exact al.out⟩,⟨by (try simp only [ai]);(try simp only [aj]);(try simp only [an]);(with_reducible repeat(first|apply zb3|apply zb2|apply zb1));exact ac.out⟩,⟨by (try simp only [ai]);(try simp only [aj]);(try simp only [an]);(with_reducible repeat(first|apply zb3|apply zb2|apply zb1));exact ah.out⟩,⟨zH HB⟩⟩)
end Go.Proofs.Ytbifocddbgleeaa.PAheadParses
