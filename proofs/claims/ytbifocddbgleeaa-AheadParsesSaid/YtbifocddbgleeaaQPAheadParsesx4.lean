-- By a program.
import Derived.Test.YtbifocddbgleeaaQPAheadParsesx0
import Derived.Test.YtbifocddbgleeaaQPAheadParsesx3
namespace Go.Proofs.Ytbifocddbgleeaa.PAheadParses
open Go.RowKit Go.Proofs.YtbifocddbgleeaaW.PrintWords Go.Proofs.YtbifocddbgleeaaW.PrintLast Go.Proofs.YtbifocddbgleeaaW.PrintMore
attribute [local go_sem] max2_int min2_int max_two min_two max_three min_three max_four min_four
set_option linter.unusedVariables false
set_option linter.unusedSimpArgs false
def Zq.aft_ (k:Nat) (v:Value):Nat:=match v.ownBlock with
  |some g=>if g≤k then k + 1 else k
  |none=>k + 1
theorem Zq.S_aft {α:Type} {d:Kd α} {e:Nat} {w:World} {base N:Nat} {v:Value} {xs:List α} (h:Kd.S d e w base (fun k=>k=N) v xs):Kd.S d e w base (fun k_=>k_≠Zq.aft_ k_ v) v xs:=by
  have h0: ∀k,v.ownBlock=some k→k=N:=by obtain⟨f,h⟩:=h;exact h.1
  refine Kd.S_mono h (fun k hk=>?_)
  unfold Zq.aft_
  cases hv:v.ownBlock with
  |none=>dsimp only;omega
  |some g=>have:=h0 g hv;dsimp only;split <;> omega
theorem Zq.R_aftnew {α:Type} {d:Kd α} {e:Nat} {W w1:World} {ok:Nat→Prop} {u v:Value} {xs:List α} (h:Kd.R d e w1 W.heap.size ok v xs) (hlt: ∀k,u.ownBlock=some k→k < W.heap.size):Kd.R d e w1 W.heap.size (fun k_=>ok k_∧k_≠Zq.aft_ k_ u) v xs:=by
  refine Kd.R_mono (Kd.R_bound h) (fun k hk=>⟨hk.1,?_⟩)
  unfold Zq.aft_
  cases hv:u.ownBlock with
  |none=>dsimp only;omega
  |some g=>have:=hlt g hv;have:=hk.2.1;dsimp only;split <;> omega
mutual
def Zq.l0:Nat→List Int→List (List Int)→Int→Int→Int→Int→Int→List (S41)→Option ((List (List Int)))
  |0,_,_,_,_,_,_,_,_=>none
  |k + 1,x1,x5,x16,x17,x120000,x120001,x120002,x120003=>if x17 < x16 then(if 0≤(wrap64 ((x1.length:Int) + 1)) then(if(wrap64 ((x1.length:Int) + 1):Int).toNat≤70368744177664 then(if 0≤x17 then(if x17 < (x5.length:Int) then(Zq.l0 k x1 (x5.set (x17:Int).toNat (List.replicate (wrap64 ((x1.length:Int) + 1):Int).toNat 0)) x16 (wrap64 (x17 + 1)) x120000 x120001 x120002 x120003) else(none)) else(none)) else(none)) else(none)) else(Zq.l1 k x1 x5 true x120000 x120001 x120002 x120003)
def Zq.l1:Nat→List Int→List (List Int)→Bool→Int→Int→Int→List (S41)→Option ((List (List Int)))
  |0,_,_,_,_,_,_,_=>none
  |k + 1,x1,x5,x7,x120000,x120001,x120002,x120003=>if x7=true then(Zq.l2 k x1 x5 false x120003 (x120003.length:Int) 0 x120000 x120001 x120002 x120003) else(some x5)
def Zq.l2:Nat→List Int→List (List Int)→Bool→List (S41)→Int→Int→Int→Int→Int→List (S41)→Option ((List (List Int)))
  |0,_,_,_,_,_,_,_,_,_,_=>none
  |k + 1,x1,x5,x7,x30,x31,x32,x120000,x120001,x120002,x120003=>if x32 < x31 then(if 0≤x32 then(if x32 < (x30.length:Int) then(Zq.l3 k x1 x5 x7 x30 x31 x32 (wrap64 ((x1.length:Int) + 1)) 0 x120000 x120001 x120002 x120003 ((Zb x30 x32).f0) ((Zb x30 x32).f1)) else(none)) else(none)) else(Zq.l1 k x1 x5 x7 x120000 x120001 x120002 x120003)
def Zq.l3:Nat→List Int→List (List Int)→Bool→List (S41)→Int→Int→Int→Int→Int→Int→Int→List (S41)→Int→List Int→Option ((List (List Int)))
  |0,_,_,_,_,_,_,_,_,_,_,_,_,_,_=>none
  |k + 1,x1,x5,x7,x30,x31,x32,x38,x39,x120000,x120001,x120002,x120003,x129000,x129001=>if x39 < x38 then(if 0≤x39 then((Zj1.f k x5 x120000 x120001 x120002 x120003 x1 x129001 (shl .u32 1 x39)).bind fun t129=>(if x7=true then(if 0≤x129000 then(if x129000 < (x5.length:Int) then(if x39 < ((Zt x5 x129000).length:Int) then(Zq.l3 k x1 (x5.set (x129000:Int).toNat ((Zt x5 x129000).set (x39:Int).toNat (Go.bits .or .u32 (rd (Zt x5 x129000) x39) t129))) true x30 x31 x32 x38 (wrap64 (x39 + 1)) x120000 x120001 x120002 x120003 x129000 x129001) else(none)) else(none)) else(none)) else(if 0≤x129000 then(if x129000 < (x5.length:Int) then(if x39 < ((Zt x5 x129000).length:Int) then(Zq.l3 k x1 (x5.set (x129000:Int).toNat ((Zt x5 x129000).set (x39:Int).toNat (Go.bits .or .u32 (rd (Zt x5 x129000) x39) t129))) ((Go.bits .andNot .u32 t129 (rd (Zt x5 x129000) x39)) != 0) x30 x31 x32 x38 (wrap64 (x39 + 1)) x120000 x120001 x120002 x120003 x129000 x129001) else(none)) else(none)) else(none)))) else(none)) else(Zq.l2 k x1 x5 x7 x30 x31 (wrap64 (x32 + 1)) x120000 x120001 x120002 x120003)
end
def Zq.f (k:Nat) (a0_0:Int) (a0_1:Int) (a0_2:Int) (l0_3:List (S41)) (l1:List Int):Option ((List (List Int))):=if 0≤a0_1 then(if(a0_1:Int).toNat≤11728124029610 then((some (List.replicate (a0_1:Int).toNat [] :List (List Int))).bind fun y120=>(Zq.l0 k l1 y120 (y120.length:Int) 0 a0_0 a0_1 a0_2 l0_3)) else(none)) else(none)
theorem Zq.mono_l: ∀k,(∀y0 y1 y2 y3 y4 y5 y6 y7,LeO (Zq.l0 k y0 y1 y2 y3 y4 y5 y6 y7) (Zq.l0 (k + 1) y0 y1 y2 y3 y4 y5 y6 y7))∧(∀y0 y1 y2 y3 y4 y5 y6,LeO (Zq.l1 k y0 y1 y2 y3 y4 y5 y6) (Zq.l1 (k + 1) y0 y1 y2 y3 y4 y5 y6))∧(∀y0 y1 y2 y3 y4 y5 y6 y7 y8 y9,LeO (Zq.l2 k y0 y1 y2 y3 y4 y5 y6 y7 y8 y9) (Zq.l2 (k + 1) y0 y1 y2 y3 y4 y5 y6 y7 y8 y9))∧(∀y0 y1 y2 y3 y4 y5 y6 y7 y8 y9 y10 y11 y12 y13,LeO (Zq.l3 k y0 y1 y2 y3 y4 y5 y6 y7 y8 y9 y10 y11 y12 y13) (Zq.l3 (k + 1) y0 y1 y2 y3 y4 y5 y6 y7 y8 y9 y10 y11 y12 y13))
  |0=>⟨fun _ _ _ _ _ _ _ _ r h=>by simp [Zq.l0] at h,fun _ _ _ _ _ _ _ r h=>by simp [Zq.l1] at h,fun _ _ _ _ _ _ _ _ _ _ r h=>by simp [Zq.l2] at h,fun _ _ _ _ _ _ _ _ _ _ _ _ _ _ r h=>by simp [Zq.l3] at h⟩
  |k + 1=>by
    obtain⟨ih0,ih1,ih2,ih3⟩:=Zq.mono_l k
    refine⟨?_,?_,?_,?_⟩
    · intro y0 y1 y2 y3 y4 y5 y6 y7
      unfold Zq.l0
      repeat' (with_reducible first|apply ih0|apply ih1|apply ih2|apply ih3|apply Zj1.mono|exact LeO.refl _|exact LeO.none _|refine LeO.ite ?_ ?_|refine LeO.bind ?_ (fun _=>?_))
    · intro y0 y1 y2 y3 y4 y5 y6
      unfold Zq.l1
      repeat' (with_reducible first|apply ih0|apply ih1|apply ih2|apply ih3|apply Zj1.mono|exact LeO.refl _|exact LeO.none _|refine LeO.ite ?_ ?_|refine LeO.bind ?_ (fun _=>?_))
    · intro y0 y1 y2 y3 y4 y5 y6 y7 y8 y9
      unfold Zq.l2
      repeat' (with_reducible first|apply ih0|apply ih1|apply ih2|apply ih3|apply Zj1.mono|exact LeO.refl _|exact LeO.none _|refine LeO.ite ?_ ?_|refine LeO.bind ?_ (fun _=>?_))
    · intro y0 y1 y2 y3 y4 y5 y6 y7 y8 y9 y10 y11 y12 y13
      unfold Zq.l3
      repeat' (with_reducible first|apply ih0|apply ih1|apply ih2|apply ih3|apply Zj1.mono|exact LeO.refl _|exact LeO.none _|refine LeO.ite ?_ ?_|refine LeO.bind ?_ (fun _=>?_))
theorem Zq.mono: ∀a0 a1 a2 a3 a4 k,LeO (Zq.f k a0 a1 a2 a3 a4) (Zq.f (k + 1) a0 a1 a2 a3 a4):=by
  intro a0 a1 a2 a3 a4 k
  obtain⟨ih0,ih1,ih2,ih3⟩:=Zq.mono_l k
  unfold Zq.f
  repeat' (with_reducible first|apply ih0|apply ih1|apply ih2|apply ih3|apply Zj1.mono|exact LeO.refl _|exact LeO.none _|refine LeO.ite ?_ ?_|refine LeO.bind ?_ (fun _=>?_))
def Zq.T16:Bool × List (List Nat × List Nat):=(true,[([],[]),([],[]),([],[]),([],[]),([3],[3]),([],[]),([5],[5]),([0,1,2,4,6],[0,1,2,4,6]),([7,7,0,1,2,3,4,5,6,7],[7])])
def Zq.B16:List Nat:=[0,0,0,0,8,0,32,127,255]
theorem Zq.tab16:rtab .any (opsOf Try.f31 16)=Zq.T16:=by kernel_rfl
theorem Zq.bits16:waitsOk Zq.T16.2 Zq.B16=true:=by kernel_rfl
set_option maxHeartbeats 8000000 in
set_option maxRecDepth 100000 in
theorem Zq.calls (k : Nat) (ap : Int) (al : Int) (aq : Int) (du : Option Addr) (az : Nat) (ab : List (S41)) (A1 : Option Addr) (c1 : Nat) (l1 : List Int) (r : List (List Int)) (w : World) (gc : Kd.C k41 w du ab.length ab) (gh : ab.length ≤ az) (mo : Kd.C (Kd.int .i64) w A1 l1.length l1) (mq : l1.length ≤ c1) (h : Zq.f k ap al aq ab l1 = some r) :
    Calls Try.prog 31 #[.agg #[.int .i64 ap,.int .i64 al,.int .i64 aq,.slice du ab.length az],.slice A1 l1.length c1] w fun e w'=>∃v0_:Value,e= .returned (v0_)∧Kd.S (Kd.slice 42 (Kd.int .u32)) 37 w' w.heap.size (fun _=>True) v0_ r∧Below w.heap.size w w':=by
 (have nv:=Try.underlying24);(have od:=Try.underlying3);(have nw:=Try.underlying41);(have dw:=Za.mk gc);(have gi:=Za.mk gh);(clear gc gh);(have mr:=Za.mk mo);(have ms:=Za.mk mq);(clear mo mq);(have HB:=Za.mk (Below.refl w.heap.size w));(have H:(if 0≤al then(if(al:Int).toNat≤11728124029610 then((some (List.replicate (al:Int).toNat [] :List (List Int))).bind fun ay=>(Zq.l0 k l1 ay (ay.length:Int) 0 ap al aq ab)) else(none)) else(none))=some r:=h);(clear h)
 by_cases c3:0≤al
 rotate_left
 ·rw [if_neg c3] at H
  exact absurd H (by simp)
 (rw [if_pos c3] at H);(have es:=eq_true c3);(have eu:decide (0≤al)=true:=decide_eq_true c3);(clear c3)
 by_cases c4:(al:Int).toNat≤11728124029610
 rotate_left
 ·rw [if_neg c4] at H
  exact absurd H (by simp)
 (rw [if_pos c4] at H);(have ey:=eq_true c4);(have ez:decide ((al:Int).toNat≤11728124029610)=true:=decide_eq_true c4);(clear c4);(obtain⟨ay,bz⟩ : ∃y_:List (List Int),y_=(List.replicate (al:Int).toNat []):=⟨_,rfl⟩);(replace H:(Zq.l0 k l1 ay (ay.length:Int) 0 ap al aq ab)=some r:=by first|(rw [bz];with_reducible exact H)|(have H2_:=(Option.bind_some _ _).symm.trans H;rw [bz];with_reducible exact H2_)|(have H2_:=(Option.bind_some _ _).symm.trans H;with_reducible exact H2_)|with_reducible exact H|(rw [bz];exact H)|exact H);(have gj:=Za.mk bz);(clear bz);(have H':=Za.mk H);(clear H)
 go_enter Try.func31,Try.ntmps31
 go_wp2_with (first|((with_reducible refine Zs (N:=2) rfl ?_);refine Zx ?hg (N:=2) ?hd (cs:=#[.int .i64 ap,.int .i64 al,.int .i64 aq,.slice du ab.length az]) (t:=24) ?hr ?_;(case hd=>rfl);(case hg=>rfl);(case hr=>first|(go_simp;done)|(go_simp;rfl));intro ao hg w5 hbox hb;have ae:=Za.mk (hbox);have mt:=Za.mk ((by rw [hg];exact(Zg (zH HB)):w.heap.size≤ao));have mu:=Za.mk ((by rw [hg];exact(Zg (zH HB)):w.heap.size≤ao));replace HB:=Za.mk (Zh (zH HB) hb);clear hb hbox hg;obtain⟨bh,bi,bj,bk⟩:=zq4 ae.out;obtain⟨bl,bm,bn,bo⟩:=zf4 ae.out)|((with_reducible refine Zs (N:=14) rfl ?_);refine Kd.S_make (Kd.slice 42 (Kd.int .u32)) _ 37 rfl (N:=14) rfl 67 _ _ rfl al rfl rfl Try.underlying67 (.slice none 0 0) 24 info37 rfl (by decide) (by omega) [] (ok:=fun k_=>k_=w5.heap.size) (okp:=fun _=>False) ⟨_,rfl,Kd.R_nil _ _ _ _ _⟩ (fun _ hk=>hk.elim) rfl (zD) (Nat.le_trans (Nat.mul_le_mul_right _ (zD:al.toNat≤11728124029610)) (by omega)) (Below.refl _ _) (Nat.le_refl _) ?_;intro v121 w7 ho8 hb hg_ hnew_;clear hg_ hnew_;(first|rw [← gj.out] at ho8|(simp only [Int.reduceToNat] at ho8;rw [← gj.out] at ho8));have gl:=Za.mk (Kd.S_lower (Zq.S_aft ho8) (Zg (zH HB)));replace ae:=Za.mk (Zj (g:=ao) (zK ae) hb);replace HB:=Za.mk (Zh (zH HB) hb);clear hb ho8;obtain⟨ei,bf,nx⟩:=Kd.S_slice gl.out;subst nx))
 go_loopg [17] k (fun kq v17 w'=>∃(ar:List (List Int)) (am:Int),v17= .int .i64 am∧Za (Zq.l0 kq l1 ar (ay.length:Int) am ap al aq ab=some r)∧Za (kq≤k)∧Za (Kd.S (Kd.slice 42 (Kd.int .u32)) 37 w' w.heap.size (fun k_=>k_≠(Zq.aft_ k_ (.slice ei ay.length bf))) (.slice ei ay.length bf) ar)∧Za (w'.heap[ao]? =some (.cells #[.int .i64 ap,.int .i64 al,.int .i64 aq,(.slice du ab.length az)] 24 (0,0)))∧Za (Below w.heap.size w w'))
 case atStart=>exact⟨(ay),(0),(by first|rfl|(simp;done)|(simp [*];done)),H',⟨Nat.le_refl _⟩,⟨by (with_reducible repeat(first|apply Kd.S_alloc|apply Kd.S_drewN|apply Kd.S_drew));exact gl.out⟩,⟨zK ae⟩,⟨zH HB⟩⟩
 case round=>
  (clear H');(try clear c1);(try clear p2);(try clear es);(try clear eu);(try clear ey);(try clear ez);(try clear bh bi bj bk bl bm bn bo);(obtain⟨ar,am,rfl,HA,dv,ag,ae,HB⟩:=hrel);(have ah:=(Kd.S_reads' ag.out).1);(rw [ah] at ag);((try simp only [ah]));((try simp only [ah] at ae))
  cases gk with
  |zero=>exact absurd HA.out (by simp [Zq.l0])
  |succ k1=>
   (have H:=HA.out);(clear HA);(simp only [Zq.l0] at H)
   by_cases c10:am < (ay.length:Int)
   ·rw [if_pos c10] at H
    (have bg:decide (am < (ay.length:Int))=true:=decide_eq_true c10);((try(have cj:=bg;simp only [ah] at cj)));(clear c10);(obtain⟨bd,ca⟩ : ∃j_:Int,(wrap64 ((l1.length:Int) + 1))=j_:=⟨_,rfl⟩);(replace H:(if 0≤(bd) then(if(bd:Int).toNat≤70368744177664 then(if 0≤am then(if am < (ar.length:Int) then(Zq.l0 k1 l1 (ar.set (am:Int).toNat (List.replicate (bd:Int).toNat 0)) (ay.length:Int) (wrap64 (am + 1)) ap al aq ab) else(none)) else(none)) else(none)) else(none))=some r:=by first|(rw [ca] at H;exact H)|(simp only [ca] at H ⊢;exact H));(have ll:(IntKind.i64.wrap ((l1.length:Int) + 1))=bd:=(Zc _).trans ca)
    by_cases iy:0≤(bd)
    rotate_left
    ·rw [if_neg iy] at H
     exact absurd H (by simp)
    (rw [if_pos iy] at H);(have dx:=eq_true iy);(have dy:decide (0≤(bd))=true:=decide_eq_true iy);(clear iy)
    by_cases iz:(bd:Int).toNat≤70368744177664
    rotate_left
    ·rw [if_neg iz] at H
     exact absurd H (by simp)
    (rw [if_pos iz] at H);(have dz:=eq_true iz);(have ea:decide ((bd:Int).toNat≤70368744177664)=true:=decide_eq_true iz);(clear iz);(obtain⟨gu,cb⟩ : ∃y_:List Int,y_=(List.replicate (bd:Int).toNat 0):=⟨_,rfl⟩);(replace H:(if 0≤am then(if am < (ar.length:Int) then(Zq.l0 k1 l1 (ar.set (am:Int).toNat gu) (ay.length:Int) (wrap64 (am + 1)) ap al aq ab) else(none)) else(none))=some r:=by first|(rw [cb];with_reducible exact H)|(have H2_:=(Option.bind_some _ _).symm.trans H;rw [cb];with_reducible exact H2_)|(have H2_:=(Option.bind_some _ _).symm.trans H;with_reducible exact H2_)|with_reducible exact H|(rw [cb];exact H)|exact H);(have gm:=Za.mk cb);(clear cb)
    by_cases jx:0≤am
    rotate_left
    ·rw [if_neg jx] at H
     exact absurd H (by simp)
    (rw [if_pos jx] at H);(have ec:decide (0≤am)=true:=decide_eq_true jx);(clear jx)
    by_cases jy:am < (ar.length:Int)
    rotate_left
    ·rw [if_neg jy] at H
     exact absurd H (by simp)
    (rw [if_pos jy] at H);(have cp:decide (am < (ar.length:Int))=true:=decide_eq_true jy);((try(have gv:=cp;simp only [ah] at gv)));(clear jy);(obtain⟨fa,cd⟩ : ∃y_:List (List Int),y_=(ar.set (am:Int).toNat gu):=⟨_,rfl⟩);(replace H:(Zq.l0 k1 l1 fa (ay.length:Int) (wrap64 (am + 1)) ap al aq ab)=some r:=by first|(rw [cd];with_reducible exact H)|(have H2_:=(Option.bind_some _ _).symm.trans H;rw [cd];with_reducible exact H2_)|(have H2_:=(Option.bind_some _ _).symm.trans H;with_reducible exact H2_)|with_reducible exact H|(rw [cd];exact H)|exact H);(have ja:=Za.mk cd);(clear cd);(have H':=Za.mk H);(clear H)
    go_wp2_with (first|((with_reducible refine Zs (N:=25) rfl ?_);refine Kd.R_make (Kd.int .u32) _ 42 rfl (N:=25) rfl 37 _ _ rfl bd rfl rfl Try.underlying37 (.int .u32 0) 4 info42 rfl (by decide) (by omega) 0 (ok:=fun _=>True) (okp:=fun _=>True) rfl (fun _ hk=>hk) trivial (zD) (Nat.le_trans (Nat.mul_le_mul_right _ (zD:bd.toNat≤70368744177664)) (by omega)) (Below.refl _ _) (Nat.le_refl _) ?_;intro v124 lm ho18 hb hg_ hnew_;clear hg_ hnew_;(first|rw [← gm.out] at ho18|(simp only [Int.reduceToNat] at ho18;rw [← gm.out] at ho18));have cq:=Za.mk (Kd.R_lower (Zq.R_aftnew ho18 (Kd.S_lt (by (with_reducible repeat(first|apply Kd.S_alloc|apply Kd.S_drewN|apply Kd.S_drew));exact ag.out))) (Zg (zH HB)));replace ag:=Za.mk (Kd.S_elder' (by (with_reducible repeat(first|apply Kd.S_alloc|apply Kd.S_drewN|apply Kd.S_drew));exact ag.out) (Kd.R_base ho18) hb);replace ae:=Za.mk (Zj (g:=ao) (zK ae) hb);replace HB:=Za.mk (Zh (zH HB) hb);clear hb ho18;have fb:0≤(am:Int):=zD;have fc:(am:Int) < ((ar.length:Int):Int):=zD;obtain⟨go16,ny,jb,jc,gl16,cl16,HG16⟩:=Kd.S_form ag.out (by omega);(first|cases jb|(injection jb with ea_ en_ ec_;(first|subst ea_|(injection ea_ with ea_;subst ea_));subst ec_;clear en_));have GB16:=Za.mk jc;have GG16:=Za.mk HG16;clear jc gl16 HG16;obtain⟨_,ce16,hcl16,hM16,hcc16,hfr16,_,_⟩:=Kd.S_elem ag.out [] (am:Int) fb fc;obtain⟨ve16_0,rfl,ge16_0⟩:=hM16;have bp:=hcc16 0 _ rfl;have hf16_0:=hfr16 0;(try simp only [show((Kd.slice 42 (Kd.int .u32))).sz=1 from rfl,Nat.mul_one,Nat.add_zero] at bp);(try simp only [show((Kd.slice 42 (Kd.int .u32))).sz=1 from rfl,Nat.mul_one,Nat.add_zero] at hf16_0);(try clear hcl16);(try clear hcc16);(try clear hfr16);(try clear hM16);replace fb:=eq_true fb;replace fc:=eq_true fc;have lp:=Za.mk (show Kd.S (Kd.slice 42 (Kd.int .u32)) 37 lm w.heap.size (fun k_=>((fun k_=>k_≠(Zq.aft_ k_ (.slice (some ⟨go16,0,none⟩) ar.length bf)))) k_∧¬ ((fun k_=>some k_=(v124:Value).ownBlock)) k_) (.slice (some ⟨go16,0,none⟩) ar.length bf) ar from(by (with_reducible repeat(first|apply Kd.S_alloc|apply Kd.S_drewN|apply Kd.S_drew));exact Kd.S_mono ag.out (fun k_ hk=>⟨hk.1,fun e_=>hk.2 e_⟩)));obtain⟨oki19,ce19,hcl19,hM19,hcc19,hfr19,hoki19,hH19⟩:=Kd.S_elem lp.out [] (am:Int) (zD) (by have h_:(am:Int) < ((ar.length:Int):Int):=zD;first|exact h_|(have e_:=(Kd.S_reads' ag.out).1;omega)|simpa using h_);obtain⟨ve19_0,rfl,ge19_0⟩:=hM19;have HP19:=Kd.S_seg hH19 (zD) (by have h_:(am:Int) < ((ar.length:Int):Int):=zD;first|exact h_|(have e_:=(Kd.S_reads' ag.out).1;omega)|simpa using h_) (seg:=[v124]) (j:=0) (show 1≤1 from by decide) (x':=gu) (Kd.M_row (Kd.R_mono (Kd.R_tight rfl (Kd.R_mono (ok':=fun k_=>((fun k_=>k_≠(Zq.aft_ k_ (.slice (some ⟨go16,0,none⟩) ar.length bf)))) k_∧k_≠go16) (Kd.R_apart' (cq.out) (Kd.S_typed ag.out) (by decide)) (fun k_ hk=>⟨hk.1.2,fun e_=>(hk.2) (by rw [e_];rfl)⟩))) (fun _ h_=>Or.inr (h_)))) (fun _ hk=>hk) (fun k_ hk_=>((Kd.R_mono (ok':=fun k_=>((fun k_=>k_≠(Zq.aft_ k_ (.slice (some ⟨go16,0,none⟩) ar.length bf)))) k_∧k_≠go16) (Kd.R_apart' (cq.out) (Kd.S_typed ag.out) (by decide)) (fun k_ hk=>⟨hk.1.2,fun e_=>(hk.2) (by rw [e_];rfl)⟩))).1 k_ hk_.symm);have bq:=hcc19 0 _ rfl;(try simp only [show((Kd.slice 42 (Kd.int .u32))).sz=1 from rfl,Nat.mul_one,Nat.add_zero] at bq);have hf19_0:=hfr19 0;(try simp only [show((Kd.slice 42 (Kd.int .u32))).sz=1 from rfl,Nat.mul_one,Nat.add_zero] at hf19_0);(try clear hcl19);(try clear hcc19);(try clear hfr19);(try clear hM19);(try clear hoki19);(try clear hH19);(try simp only [show((Kd.slice 42 (Kd.int .u32))).sz=1 from rfl,Nat.mul_one,Nat.add_zero] at HP19))|((with_reducible refine gate_store (t:=37) (p:=26) rfl ?_);refine store_event (t:=37) (p:=26) (v:=?vo_w20) (w1:=(lm.setCell ⟨go16,(am:Int).toNat,none⟩ (v124))) ?hg ?ho ?hn ?hr ?_;(case ho=>rfl);(case hg=>rfl);(case hn=>rfl);(case hr=>first|(go_simp;done)|(go_simp;rfl)|(obtain⟨_,_,rfl⟩:=Kd.R_slice cq.out;(first|(go_simp;done)|(go_simp;rfl))));intro lq hw;have hg:lm.grownBy lq (some go16):=(by rw [hw];exact HP19.2);have hp_:Kd.S (Kd.slice 42 (Kd.int .u32)) 37 lq w.heap.size (fun k_=>k_≠(Zq.aft_ k_ (.slice (some ⟨go16,0,none⟩) ar.length bf))) (.slice (some ⟨go16,0,none⟩) ar.length bf) fa:=(by rw [hw,ja.out];exact HP19.1);clear HP19;replace ae:=Za.mk (Zv1 (g:=ao) (zK ae) hg (Kd.S_ne ag.out ae.out (by decide)));replace ag:=Za.mk (hp_);replace HB:=Za.mk ((by rw [hw];exact below_set (HB.out) GB16.out:Below w.heap.size w lq));clear cq;clear hg hw hp_))
    (try simp only [← ah])
    (first|go_roundg k1|(simp only [← ca];go_roundg k1))
    case measure=>have:=dv.out;omega
    case rel=>first|exact⟨(fa),(wrap64 (am + 1)),(by first|rfl|(simp;done)|(simp [*];done)),H',⟨by have:=dv.out;omega⟩,⟨by (try simp only [ah]);(with_reducible repeat(first|apply Kd.S_alloc|apply Kd.S_drewN|apply Kd.S_drew));exact ag.out⟩,⟨by (try simp only [ah]);(with_reducible repeat(first|apply zb3|apply zb2|apply zb1));exact ae.out⟩,⟨zH HB⟩⟩|(subst ca;exact⟨(fa),(wrap64 (am + 1)),(by first|rfl|(simp;done)|(simp [*];done)),H',⟨by have:=dv.out;omega⟩,⟨by (try simp only [ah]);(with_reducible repeat(first|apply Kd.S_alloc|apply Kd.S_drewN|apply Kd.S_drew));exact ag.out⟩,⟨by (try simp only [ah]);(with_reducible repeat(first|apply zb3|apply zb2|apply zb1));exact ae.out⟩,⟨zH HB⟩⟩)
   (rw [if_neg c10] at H);(have bg:decide (am < (ay.length:Int))=false:=decide_eq_false c10);((try(have cj:=bg;simp only [ah] at cj)));(clear c10);(have H':=Za.mk H);(clear H)
   go_wp2
   go_loopg [7] k1 (fun kq v7 w'=>∃(ce:List (List Int)) (fd:Bool),v7= .bool fd∧Za (Zq.l1 kq l1 ce fd ap al aq ab=some r)∧Za (kq≤k1)∧Za (Kd.S (Kd.slice 42 (Kd.int .u32)) 37 w' w.heap.size (fun k_=>k_≠(Zq.aft_ k_ (.slice ei ar.length bf))) (.slice ei ar.length bf) ce)∧Za (w'.heap[ao]? =some (.cells #[.int .i64 ap,.int .i64 al,.int .i64 aq,(.slice du ab.length az)] 24 (0,0)))∧Za (Below w.heap.size w w'))
   case atStart=>exact⟨(ar),(true),(by first|rfl|(simp;done)|(simp [*];done)),H',⟨Nat.le_refl _⟩,⟨by (try simp only [ah]);(with_reducible repeat(first|apply Kd.S_alloc|apply Kd.S_drewN|apply Kd.S_drew));exact ag.out⟩,⟨by (try simp only [ah]);(with_reducible repeat(first|apply zb3|apply zb2|apply zb1));exact ae.out⟩,⟨zH HB⟩⟩
   case round=>
    (clear H');(try clear c1);(try clear p1);(try clear q1);(try clear mv);(try clear p2);(try clear es);(try clear eu);(try clear ey);(try clear ez);(try clear p6);(try clear bg);(try clear dx);(try clear dy);(try clear dz);(try clear ea);(try clear ec);(try clear cp);(try clear mw);(try clear fb);(try clear fc);(try clear jd);(try clear hf16);(try clear my);(try clear je);(try clear hf19);(try clear bh bi bj bk bl bm bn bo);(try clear bp);(try clear bq);(try clear fb);(try clear p2);(try clear fc);(obtain⟨ce,fd,rfl,HA,ek,ag,ae,HB⟩:=hrel);(have aj:=(Kd.S_reads' ag.out).1);(rw [aj] at ag);((try simp only [aj]));((try simp only [aj] at ae))
    cases gk with
    |zero=>exact absurd HA.out (by simp [Zq.l1])
    |succ k2=>
     (have H:=HA.out);(clear HA);(simp only [Zq.l1] at H)
     by_cases iv:fd=true
     rotate_left
     ·replace iv:=Bool.eq_false_iff.mpr iv
      (subst iv);(have H1:(some ce)=some r:=by rw [if_neg (show ¬ (false=true) by decide)] at H;exact H);(clear H);(have H:=H1);(clear H1);(obtain rfl:=Option.some.inj H)
      go_wp2
      go_ret
      exact⟨_,by first|rfl|(simp [Zl,Zk] <;> rfl)|(simp [*,Zl,Zk] <;> rfl),by (with_reducible repeat(first|apply Kd.S_alloc|apply Kd.S_drewN|apply Kd.S_drew));exact Kd.S_mono ag.out (fun _ hk=>trivial),zH HB⟩
     (subst iv);(have H1:(Zq.l2 k2 l1 ce false ab (ab.length:Int) 0 ap al aq ab)=some r:=by rw [if_pos rfl] at H;exact H);(clear H);(have H:=H1);(clear H1);(have H':=Za.mk H);(clear H);(obtain⟨cu,cw,cy,da⟩:=zq4 ae.out);(obtain⟨db,dc,dd,de⟩:=zf4 ae.out)
     go_wp2
     go_loopg [7,32] k2 (fun kq v7 v32 w'=>∃(ck:List (List Int)) (ee:Bool) (aa:Int),v7= .bool ee∧v32= .int .i64 aa∧Za (Zq.l2 kq l1 ck ee ab (ab.length:Int) aa ap al aq ab=some r)∧Za (kq≤k2)∧Za (Kd.S (Kd.slice 42 (Kd.int .u32)) 37 w' w.heap.size (fun k_=>k_≠(Zq.aft_ k_ (.slice ei ce.length bf))) (.slice ei ce.length bf) ck)∧Za (w'.heap[ao]? =some (.cells #[.int .i64 ap,.int .i64 al,.int .i64 aq,(.slice du ab.length az)] 24 (0,0)))∧Za (Below w.heap.size w w'))
     case atStart=>exact⟨(ce),(false),(0),(by first|rfl|(simp;done)|(simp [*];done)),(by first|rfl|(simp;done)|(simp [*];done)),H',⟨Nat.le_refl _⟩,⟨by (try simp only [ah]);(try simp only [aj]);(with_reducible repeat(first|apply Kd.S_alloc|apply Kd.S_drewN|apply Kd.S_drew));exact ag.out⟩,⟨by (try simp only [ah]);(try simp only [aj]);(with_reducible repeat(first|apply zb3|apply zb2|apply zb1));exact ae.out⟩,⟨zH HB⟩⟩
     case round=>
      (clear H');(try clear c1);(try clear p1);(try clear q1);(try clear mv);(try clear c2);(try clear p2);(try clear es);(try clear eu);(try clear ey);(try clear ez);(try clear p6);(try clear bg);(try clear dx);(try clear dy);(try clear dz);(try clear ea);(try clear ec);(try clear cp);(try clear mw);(try clear fb);(try clear fc);(try clear jd);(try clear hf16);(try clear my);(try clear je);(try clear hf19);(try clear iv);(try clear cu cw cy da bh bi bj bk db dc dd de bl bm bn bo);(try clear bp);(try clear bq);(try clear p1);(try clear fb);(try clear p2);(try clear p6);(try clear q1);(try clear fc);(obtain⟨ck,ee,aa,rfl,rfl,HA,eo,ag,ae,HB⟩:=hrel);(have ak:=(Kd.S_reads' ag.out).1);(rw [ak] at ag);((try simp only [ak]));((try simp only [ak] at ae))
      cases gk with
      |zero=>exact absurd HA.out (by simp [Zq.l2])
      |succ k3=>
       (have H:=HA.out);(clear HA);(simp only [Zq.l2] at H)
       by_cases iw:aa < (ab.length:Int)
       rotate_left
       ·rw [if_neg iw] at H
        (have df:decide (aa < (ab.length:Int))=false:=decide_eq_false iw);((try(have cm:=df;simp only [ah,aj,ak] at cm)));(clear iw);(have H':=Za.mk H);(clear H)
        go_wp2
        (try simp only [← aj,← ak])
        go_roundg k3
        case measure=>have:=dv.out;have:=ek.out;have:=eo.out;omega
        case rel=>exact⟨(ck),(ee),(by first|rfl|(simp;done)|(simp [*];done)),H',⟨by have:=dv.out;have:=ek.out;have:=eo.out;omega⟩,⟨by (try simp only [ah]);(try simp only [aj]);(try simp only [ak]);(with_reducible repeat(first|apply Kd.S_alloc|apply Kd.S_drewN|apply Kd.S_drew));exact ag.out⟩,⟨by (try simp only [ah]);(try simp only [aj]);(try simp only [ak]);(with_reducible repeat(first|apply zb3|apply zb2|apply zb1));exact ae.out⟩,⟨zH HB⟩⟩
       (rw [if_pos iw] at H);(have df:decide (aa < (ab.length:Int))=true:=decide_eq_true iw);((try(have cm:=df;simp only [ah,aj,ak] at cm)));(clear iw)
       by_cases jz:0≤aa
       rotate_left
       ·rw [if_neg jz] at H
        exact absurd H (by simp)
       (rw [if_pos jz] at H);(have jf:decide (0≤aa)=true:=decide_eq_true jz);(clear jz)
       by_cases ka:aa < (ab.length:Int)
       rotate_left
       ·rw [if_neg ka] at H
        exact absurd H (by simp)
       (rw [if_pos ka] at H);(have gn:decide (aa < (ab.length:Int))=true:=decide_eq_true ka);((try(have gw:=gn;simp only [ah,aj,ak] at gw)));(clear ka);(have H':=Za.mk H);(clear H);(have fe:0≤(aa:Int):=zD);(have ff:aa < (ab.length:Int):=zD);(obtain⟨be,ba,bb,lr,br,bs,dg,dh⟩:=at_T41 dw.out aa fe ff);(cases lr);(replace br:=zX HB br);(replace bs:=zX HB bs);(have di:=Za.mk dh);(have dj:=Za.mk dg);(clear dh dg);(replace fe:=eq_true fe);(replace ff:=eq_true ff)
       go_wp2_with (first|((with_reducible refine Zs (N:=9) rfl ?_);refine Zx ?hg (N:=9) ?hd (cs:=#[.int .i64 0,.slice none 0 0]) (t:=41) ?hr ?_;(case hd=>rfl);(case hg=>rfl);(case hr=>first|(go_simp;done)|(go_simp;rfl));intro au hg oe hbox hb;replace ag:=Za.mk (Kd.S_below (by (with_reducible repeat(first|apply Kd.S_alloc|apply Kd.S_drewN|apply Kd.S_drew));exact ag.out) hb);have ai:=Za.mk (hbox);have mz:=Za.mk ((by rw [hg];exact(Zg (zH HB)):w.heap.size≤au));have na:=Za.mk ((by rw [hg];exact(Zg (zH HB)):w.heap.size≤au));replace HB:=Za.mk (Zh (zH HB) hb);have aw:=Za.mk ((by rw [hg];exact Nat.ne_of_lt (Zu (g:=ao) (o:= .cells #[.int .i64 ap,.int .i64 al,.int .i64 aq,.slice (some be) ab.length az] 24 (0,0)) (zK ae)):ao≠au));have bc:=Za.mk ((by rw [hg];exact Nat.ne_of_gt (Zu (g:=ao) (o:= .cells #[.int .i64 ap,.int .i64 al,.int .i64 aq,.slice (some be) ab.length az] 24 (0,0)) (zK ae)):au≠ao));replace ae:=Za.mk (Zj (g:=ao) (zK ae) hb);clear hb hbox hg;have nb:=bc.out;have nc:=aw.out;obtain⟨fg,fh⟩:=zq2 ai.out;obtain⟨fi,fj⟩:=zf2 ai.out))
       go_loopg [7,39] k3 (fun kq v7 v39 w'=>∃(af:List (List Int)) (cn:Bool) (ac:Int),v7= .bool cn∧v39= .int .i64 ac∧Za (Zq.l3 kq l1 af cn ab (ab.length:Int) aa (wrap64 ((l1.length:Int) + 1)) ac ap al aq ab ((Zb ab aa).f0) ((Zb ab aa).f1)=some r)∧Za (kq≤k3)∧Za (Kd.S (Kd.slice 42 (Kd.int .u32)) 37 w' w.heap.size (fun k_=>k_≠(Zq.aft_ k_ (.slice ei ck.length bf))) (.slice ei ck.length bf) af)∧Za (w'.heap[ao]? =some (.cells #[.int .i64 ap,.int .i64 al,.int .i64 aq,(.slice (some be) ab.length az)] 24 (0,0)))∧Za (w'.heap[au]? =some (.cells #[.int .i64 ((Zb ab aa).f0),(.slice ba ((Zb ab aa).f1).length bb)] 41 (0,0)))∧Za (Below w.heap.size w w'))
       case atStart=>exact⟨(ck),(ee),(0),(by first|rfl|(simp;done)|(simp [*];done)),(by first|rfl|(simp;done)|(simp [*];done)),H',⟨Nat.le_refl _⟩,⟨by (try simp only [ah]);(try simp only [aj]);(try simp only [ak]);(with_reducible repeat(first|apply Kd.S_alloc|apply Kd.S_drewN|apply Kd.S_drew));exact Kd.S_mono (Kd.S_far (p:=⟨au,1,none⟩) (Kd.S_far (p:=⟨au,0,none⟩) (Kd.S_types ag.out ai.out (by decide)) (fun _ hk=>hk.2) (.int .i64 ((Zb ab aa).f0))) (fun _ hk=>hk.2) (.slice ba ((Zb ab aa).f1).length bb)) (fun _ hk=>hk.1)⟩,⟨by (try simp only [ah]);(try simp only [aj]);(try simp only [ak]);(with_reducible repeat(first|refine Zn ?_ _|refine Zi ?_|refine Zm ?_ _));refine Zv ?_ aw.out _;(with_reducible repeat(first|refine Zn ?_ _|refine Zi ?_|refine Zm ?_ _));refine Zv ?_ aw.out _;(with_reducible repeat(first|apply zb3|apply zb2|apply zb1));exact ae.out⟩,⟨by (try simp only [ah]);(try simp only [aj]);(try simp only [ak]);(with_reducible repeat(first|refine Zn ?_ _|refine Zi ?_|refine Zm ?_ _));refine Zs1 (cs:=#[.int .i64 ((Zb ab aa).f0),.slice none 0 0]) ?_ 1 _ rfl;(with_reducible repeat(first|refine Zn ?_ _|refine Zi ?_|refine Zm ?_ _));refine Zs1 (cs:=#[.int .i64 0,.slice none 0 0]) ?_ 0 _ rfl;(with_reducible repeat(first|apply zb3|apply zb2|apply zb1));exact ai.out⟩,⟨zH HB⟩⟩
       case round=>
        (clear H');(try clear c1);(try clear p1);(try clear q1);(try clear mv);(try clear c2);(try clear p2);(try clear es);(try clear eu);(try clear ey);(try clear ez);(try clear p6);(try clear bg);(try clear dx);(try clear dy);(try clear oh);(try clear ol);(try clear nz);(try clear dz);(try clear ea);(try clear ec);(try clear cp);(try clear mw);(try clear fb);(try clear fc);(try clear jd);(try clear hf16);(try clear my);(try clear je);(try clear hf19);(try clear iv);(try clear df);(try clear jf);(try clear gn);(try clear om);(try clear cu cw cy da fg fh bh bi bj bk db dc dd de fi fj bl bm bn bo);(try clear br);(try clear bs);(try clear bp);(try clear bq);(try clear p1);(try clear fe);(try clear fb);(try clear p2);(try clear p6);(try clear q1);(try clear ff);(try clear fc);(obtain⟨af,cn,ac,rfl,rfl,HA,gp,ag,ae,ai,HB⟩:=hrel);(have an:=(Kd.S_reads' ag.out).1);(rw [an] at ag);((try simp only [an]));((try simp only [an] at ae));((try simp only [an] at ai))
        cases gk with
        |zero=>exact absurd HA.out (by simp [Zq.l3])
        |succ k4=>
         (have H:=HA.out);(clear HA);(simp only [Zq.l3] at H)
         by_cases ix:ac < (wrap64 ((l1.length:Int) + 1))
         rotate_left
         ·rw [if_neg ix] at H
          (have ef:decide (ac < (wrap64 ((l1.length:Int) + 1)))=false:=decide_eq_false ix);((try(have co:=ef;simp only [ah,aj,ak,an] at co)));(clear ix);(have H':=Za.mk H);(clear H)
          go_wp2
          (try simp only [← ak,← an])
          go_roundg k4
          case measure=>have:=dv.out;have:=ek.out;have:=eo.out;have:=gp.out;omega
          case rel=>exact⟨(af),(cn),(wrap64 (aa + 1)),(by first|rfl|(simp;done)|(simp [*];done)),(by first|rfl|(simp;done)|(simp [*];done)),H',⟨by have:=dv.out;have:=ek.out;have:=eo.out;have:=gp.out;omega⟩,⟨by (try simp only [ah]);(try simp only [aj]);(try simp only [ak]);(try simp only [an]);(with_reducible repeat(first|apply Kd.S_alloc|apply Kd.S_drewN|apply Kd.S_drew));exact ag.out⟩,⟨by (try simp only [ah]);(try simp only [aj]);(try simp only [ak]);(try simp only [an]);(with_reducible repeat(first|apply zb3|apply zb2|apply zb1));exact ae.out⟩,⟨zH HB⟩⟩
         (rw [if_pos ix] at H);(have ef:decide (ac < (wrap64 ((l1.length:Int) + 1)))=true:=decide_eq_true ix);((try(have co:=ef;simp only [ah,aj,ak,an] at co)));(clear ix)
         by_cases jg:0≤ac
         rotate_left
         ·rw [if_neg jg] at H
          exact absurd H (by simp)
         (rw [if_pos jg] at H);(have nf:=eq_true jg);(have ng:decide (0≤ac)=true:=decide_eq_true jg);(clear jg);(obtain⟨bt,ax⟩ : ∃j_:Int,(shl .u32 1 ac)=j_:=⟨_,rfl⟩);(replace H:((Zj1.f k4 af ap al aq ab l1 ((Zb ab aa).f1) (bt)).bind fun av=>(if cn=true then(if 0≤((Zb ab aa).f0) then(if((Zb ab aa).f0) < (af.length:Int) then(if ac < ((Zt af ((Zb ab aa).f0)).length:Int) then(Zq.l3 k4 l1 (af.set (((Zb ab aa).f0):Int).toNat ((Zt af ((Zb ab aa).f0)).set (ac:Int).toNat (Go.bits .or .u32 (rd (Zt af ((Zb ab aa).f0)) ac) av))) true ab (ab.length:Int) aa (wrap64 ((l1.length:Int) + 1)) (wrap64 (ac + 1)) ap al aq ab ((Zb ab aa).f0) ((Zb ab aa).f1)) else(none)) else(none)) else(none)) else(if 0≤((Zb ab aa).f0) then(if((Zb ab aa).f0) < (af.length:Int) then(if ac < ((Zt af ((Zb ab aa).f0)).length:Int) then(Zq.l3 k4 l1 (af.set (((Zb ab aa).f0):Int).toNat ((Zt af ((Zb ab aa).f0)).set (ac:Int).toNat (Go.bits .or .u32 (rd (Zt af ((Zb ab aa).f0)) ac) av))) ((Go.bits .andNot .u32 av (rd (Zt af ((Zb ab aa).f0)) ac)) != 0) ab (ab.length:Int) aa (wrap64 ((l1.length:Int) + 1)) (wrap64 (ac + 1)) ap al aq ab ((Zb ab aa).f0) ((Zb ab aa).f1)) else(none)) else(none)) else(none))))=some r:=by first|(rw [ax] at H;exact H)|(simp only [ax] at H ⊢;exact H))
         (have gx:(IntKind.u32.wrap (1 * 2 ^ min ac.toNat 32))=bt:=ax);(have gy:ac≤32→(IntKind.u32.wrap (1 * 2 ^ ac.toNat))=bt:=shl_small ax);(have ls:(IntKind.u32.wrap (2 ^ min ac.toNat 32))=bt:=by have h_:=gx;rw [Int.one_mul] at h_;exact h_);(have lu:ac≤32→(IntKind.u32.wrap (2 ^ ac.toNat))=bt:=fun hle_=>by have h_:=gy hle_;rw [Int.one_mul] at h_;exact h_);(replace H:=Option.bind_eq_some_iff.mp H);(obtain⟨av,jh,H⟩:=H);(replace H:(if cn=true then(if 0≤((Zb ab aa).f0) then(if((Zb ab aa).f0) < (af.length:Int) then(if ac < ((Zt af ((Zb ab aa).f0)).length:Int) then(Zq.l3 k4 l1 (af.set (((Zb ab aa).f0):Int).toNat ((Zt af ((Zb ab aa).f0)).set (ac:Int).toNat (Go.bits .or .u32 (rd (Zt af ((Zb ab aa).f0)) ac) av))) true ab (ab.length:Int) aa (wrap64 ((l1.length:Int) + 1)) (wrap64 (ac + 1)) ap al aq ab ((Zb ab aa).f0) ((Zb ab aa).f1)) else(none)) else(none)) else(none)) else(if 0≤((Zb ab aa).f0) then(if((Zb ab aa).f0) < (af.length:Int) then(if ac < ((Zt af ((Zb ab aa).f0)).length:Int) then(Zq.l3 k4 l1 (af.set (((Zb ab aa).f0):Int).toNat ((Zt af ((Zb ab aa).f0)).set (ac:Int).toNat (Go.bits .or .u32 (rd (Zt af ((Zb ab aa).f0)) ac) av))) ((Go.bits .andNot .u32 av (rd (Zt af ((Zb ab aa).f0)) ac)) != 0) ab (ab.length:Int) aa (wrap64 ((l1.length:Int) + 1)) (wrap64 (ac + 1)) ap al aq ab ((Zb ab aa).f0) ((Zb ab aa).f1)) else(none)) else(none)) else(none)))=some r:=H)
         (have nh:=Za.mk jh);(clear jh)
         by_cases kd:cn=true
         ·subst kd
          (have H1:(if 0≤((Zb ab aa).f0) then(if((Zb ab aa).f0) < (af.length:Int) then(if ac < ((Zt af ((Zb ab aa).f0)).length:Int) then(Zq.l3 k4 l1 (af.set (((Zb ab aa).f0):Int).toNat ((Zt af ((Zb ab aa).f0)).set (ac:Int).toNat (Go.bits .or .u32 (rd (Zt af ((Zb ab aa).f0)) ac) av))) true ab (ab.length:Int) aa (wrap64 ((l1.length:Int) + 1)) (wrap64 (ac + 1)) ap al aq ab ((Zb ab aa).f0) ((Zb ab aa).f1)) else(none)) else(none)) else(none))=some r:=by rw [if_pos rfl] at H;exact H);(clear H);(have H:=H1);(clear H1)
          by_cases ke:0≤((Zb ab aa).f0)
          rotate_left
          ·rw [if_neg ke] at H
           exact absurd H (by simp)
          (rw [if_pos ke] at H);(have ni:decide (0≤((Zb ab aa).f0))=true:=decide_eq_true ke);(clear ke)
          by_cases kf:((Zb ab aa).f0) < (af.length:Int)
          rotate_left
          ·rw [if_neg kf] at H
           exact absurd H (by simp)
          (rw [if_pos kf] at H);(have ji:decide (((Zb ab aa).f0) < (af.length:Int))=true:=decide_eq_true kf);((try(have gz:=ji;simp only [ah,aj,ak,an] at gz)));(clear kf)
          by_cases ki:ac < ((Zt af ((Zb ab aa).f0)).length:Int)
          rotate_left
          ·rw [if_neg ki] at H
           exact absurd H (by simp)
          (rw [if_pos ki] at H);(have jj:decide (ac < ((Zt af ((Zb ab aa).f0)).length:Int))=true:=decide_eq_true ki);((try(have ia:=jj;simp only [ah,aj,ak,an] at ia)));(clear ki);(obtain⟨ib,cf⟩ : ∃y_:List Int,y_=((Zt af ((Zb ab aa).f0)).set (ac:Int).toNat (Go.bits .or .u32 (rd (Zt af ((Zb ab aa).f0)) ac) av)):=⟨_,rfl⟩);(replace H:(Zq.l3 k4 l1 (af.set (((Zb ab aa).f0):Int).toNat ib) true ab (ab.length:Int) aa (wrap64 ((l1.length:Int) + 1)) (wrap64 (ac + 1)) ap al aq ab ((Zb ab aa).f0) ((Zb ab aa).f1))=some r:=by first|(rw [cf];with_reducible exact H)|(have H2_:=(Option.bind_some _ _).symm.trans H;rw [cf];with_reducible exact H2_)|(have H2_:=(Option.bind_some _ _).symm.trans H;with_reducible exact H2_)|with_reducible exact H|(rw [cf];exact H)|exact H);(have jk:=Za.mk cf);(clear cf);(obtain⟨fk,cg⟩ : ∃y_:List (List Int),y_=(af.set (((Zb ab aa).f0):Int).toNat ib):=⟨_,rfl⟩);(replace H:(Zq.l3 k4 l1 fk true ab (ab.length:Int) aa (wrap64 ((l1.length:Int) + 1)) (wrap64 (ac + 1)) ap al aq ab ((Zb ab aa).f0) ((Zb ab aa).f1))=some r:=by first|(rw [cg];with_reducible exact H)|(have H2_:=(Option.bind_some _ _).symm.trans H;rw [cg];with_reducible exact H2_)|(have H2_:=(Option.bind_some _ _).symm.trans H;with_reducible exact H2_)|with_reducible exact H|(rw [cg];exact H)|exact H)
          (have jl:=Za.mk cg);(clear cg);(have H':=Za.mk H);(clear H)
          try go_wp2
          (replace ag:=Za.mk (Kd.S_drew ag.out));(replace ae:=Za.mk (Zi ae.out));(replace ai:=Za.mk (Zi ai.out));(replace HB:=Za.mk (Zz1 HB.out))
          refine start_ (n:=9) (S:=fun w'=>w'.cell? ⟨ao,0,none⟩=some (.int .i64 ap)∧w'.cell? ⟨ao,1,none⟩=some (.int .i64 al)∧w'.cell? ⟨ao,2,none⟩=some (.int .i64 aq)∧w'.cell? ⟨ao,3,none⟩=some (.slice (some be) ab.length az)∧w'.cell? ⟨au,0,none⟩=some (.int .i64 ((Zb ab aa).f0))∧w'.cell? ⟨au,1,none⟩=some (.slice ba ((Zb ab aa).f1).length bb)) (ds:=[]) #[false,false,false,false,false,false,false,false,false] (by kernel_rfl) rfl rfl ⟨(Zf ae.out 0).trans rfl,(Zf ae.out 1).trans rfl,(Zf ae.out 2).trans rfl,(Zf ae.out 3).trans rfl,(Zf ai.out 0).trans rfl,(Zf ai.out 1).trans rfl⟩ (fun hHeld=>?_);refine Zc2 Zq.tab16 Zq.bits16 (fun HT_ HW_=>?_)
          generalize wr.drew=oo at ag ae ai HB hHeld ⊢
          refine zP 0 (some 42) (zt 9 1) (Ze HT_.out (by kernel_rfl)) ?_
          refine zP 2 (some 44) (zt 9 5) (Ze HT_.out (by kernel_rfl)) ?_
          refine zP 3 (some 45) (zt 9 13) (Ze HT_.out (by kernel_rfl)) ?_
          refine zP 5 (some 47) (zt 9 45) (Ze HT_.out (by kernel_rfl)) ?_
          refine zP 6 (some 48) (zt 9 109) (Ze HT_.out (by kernel_rfl)) ?_
          refine take_ (i:=1) (N:=some 43) (v:=?_) (a':=?_) #[true,true,true,true,false,true,true,false,false] rfl rfl (Zi1 HT_.out HW_.out (by kernel_rfl)) (fun _ _ _ h=>h) (Or.inl ⟨by rfl,?_⟩) hHeld ?_ ?_
          rotate_left
          ·rintro w' ⟨s0,s1,s2,s3,s4,s5⟩
           go_simp
           with_reducible rfl
          rotate_left
          ·simp only [Act.put,zp1,zp2,zp3,Zc,Zd]
           rfl
          refine take_ (i:=4) (N:=some 46) (v:=?_) (a':=?_) #[true,true,true,true,true,true,true,false,false] rfl rfl (Zi1 HT_.out HW_.out (by kernel_rfl)) (fun _ _ _ h=>h) (Or.inl ⟨by rfl,?_⟩) hHeld ?_ ?_
          rotate_left
          ·rintro w' ⟨s0,s1,s2,s3,s4,s5⟩
           go_simp
           with_reducible rfl
          rotate_left
          ·simp only [Act.put,zp1,zp2,zp3,Zc,Zd]
           rfl
          refine one_ (i:=7) (N:=some 49) #[true,true,true,true,true,true,true,true,false] rfl rfl (one_of HT_.out (by kernel_rfl)) (by decide) (fun K hK=>?_)
          refine goes_ Try.func42 (by kernel_rfl) rfl #[.slice ei af.length bf,.agg #[.int .i64 ap,.int .i64 al,.int .i64 aq,.slice (some be) ab.length az],.slice A1 l1.length c1,.slice ba ((Zb ab aa).f1).length bb,.int .u32 bt] (by rfl) rfl rfl (by (try simp only [List.map_toArray,List.map_cons,List.map_nil]);first|done|(simp only [ax];rfl)|rfl|(simp only [List.length_drop,List.length_take];rfl)) ?_
          with_reducible refine(Zj1.calls k4 _ _ af ap al aq _ _ ab _ _ l1 _ _ ((Zb ab aa).f1) bt av _ ?side1 ?side2 ?side3 ?side4 ?side5 ?side6 ?side7 ?side8 nh.out).mono ?_
          (case side1=>repeat(first|exact(Kd.S_reads' ag.out).2.2|(with_reducible refine Kd.C_alloc ?_ _)|(with_reducible refine Kd.C_drewN ?_ _)|(with_reducible refine Kd.C_drew ?_)))
          (case side2=>exact(Kd.S_reads' ag.out).2.1)
          (case side3=>exact zC dw HB)
          (case side4=>exact gi.out)
          (case side5=>exact zC mr HB)
          (case side6=>exact ms.out)
          (case side7=>exact zC di HB)
          (case side8=>exact dj.out)
          rintro e nj ⟨rfl,hb⟩
          refine⟨_,rfl,?_⟩
          (replace ag:=Za.mk (Kd.S_below (by (with_reducible repeat(first|apply Kd.S_alloc|apply Kd.S_drewN|apply Kd.S_drew));exact ag.out) hb));(replace ae:=Za.mk (Zj (g:=ao) (zK ae) hb));(replace ai:=Za.mk (Zj (g:=au) (zK ai) hb));(replace HB:=Za.mk (Zh (zH HB) hb));((try clear hb));((try clear hb2));((try clear hk));((try clear hi))
          refine hK.out _ _ ⟨(Zf ae.out 0).trans rfl,(Zf ae.out 1).trans rfl,(Zf ae.out 2).trans rfl,(Zf ae.out 3).trans rfl,(Zf ai.out 0).trans rfl,(Zf ai.out 1).trans rfl⟩ (fun hHeld=>?_)
          clear hK K
          refine norm_ (a':=?_) ?_ ?_
          rotate_left
          ·show Act.put _ (some 49) _=_
           simp only [Act.put,zp1,zp2,zp3,Zc,Zd]
           rfl
          refine zP 8 (some 11) (zt 9 511) (Ze HT_.out (by kernel_rfl)) ?_
          refine done_ (done_of HT_.out (by kernel_rfl)) ?_
          (have nl:=bc.out);(have nm:=aw.out);(obtain⟨kj,kn⟩:=zq2 ai.out);(obtain⟨kp,kr⟩:=zf2 ai.out);(have fm:0≤(((Zb ab aa).f0):Int):=zD);(have fo:((Zb ab aa).f0) < (af.length:Int):=zD);(obtain⟨gq,lv,ic,lw,dk,dl,dm⟩:=at_L4 (Kd.S_reads' ag.out).2.2 ((Zb ab aa).f0) fm fo);(cases lw);(obtain⟨ce130,hce130,hMe130,hcc130⟩:=Kd.S_get ag.out [] ((Zb ab aa).f0) fm (by first|exact fo|exact zD|(have e_:=(Kd.S_reads' ag.out).1;omega)));(obtain⟨ve130_0,rfl,ge130_0⟩:=hMe130);(have hv130_0:=hcc130 0 _ rfl);(rw [Nat.add_zero,show((Kd.slice 42 (Kd.int .u32))).sz=1 from rfl,Nat.mul_one] at hv130_0);(replace hv130_0:=Option.some.inj (hv130_0.symm.trans dk));(rw [hv130_0] at ge130_0);(have HL130_0:=Za.mk (show Kd.R (Kd.int .u32) 42 _ _ _ _ (Zt af ((Zb ab aa).f0)) from ge130_0));(clear hv130_0 ge130_0);(have fp:=Za.mk dk);(clear hcc130 hce130);(have bu:=Za.mk dm);(have kt:=Za.mk dl);(clear dm dl);(replace fm:=eq_true fm);(replace fo:=eq_true fo);(have ie:0≤(ac:Int):=zD)
          (have ig:ac < ((Zt af ((Zb ab aa).f0)).length:Int):=zD);(obtain⟨nn,lx,fq⟩:=Kd.at_int (by repeat(first|(with_reducible exact bu.out)|(with_reducible refine Kd.C_alloc ?_ _)|(with_reducible refine Kd.C_drewN ?_ _)|(with_reducible refine Kd.C_drew ?_)|exact bu.out)) ac ie ig);(cases lx);(replace ie:=eq_true ie);(replace ig:=eq_true ig);(have ly:0≤(ac:Int):=zD);(have lz:(ac:Int) < (((Zt af ((Zb ab aa).f0)).length:Int):Int):=zD);(obtain⟨go37,oa,jm,jn,gl37,cl37,HG37⟩:=Kd.R_form HL130_0.out (by omega))
          (first|cases jm|(injection jm with ea_ en_ ec_;(first|subst ea_|(injection ea_ with ea_;subst ea_));subst ec_;clear en_))
          (have GB37:=Za.mk jn);(have GG37:=Za.mk HG37);(clear jn gl37 HG37)
          (first|simp only [add_plain] at fq|skip)
          (obtain⟨ma,hf37_0⟩:=Kd.R_celln 0 HL130_0.out (ac:Int) ly lz);(replace ly:=eq_true ly);(replace lz:=eq_true lz);(have hq42:(((Zb ab aa).f0):Int) < (af.length:Int):=(by have h_:(((Zb ab aa).f0):Int) < ((af.length:Int):Int):=zD;first|exact h_|(have e_:=(Kd.S_reads' ag.out).1;omega)|simpa only [List.length_set,List.length_set] using h_));(obtain⟨oki42,ce42,hcl42,hM42,hcc42,hok42,hbk42⟩:=Kd.S_borrow ag.out [] (((Zb ab aa).f0):Int) (zD) hq42);(obtain⟨ve42_0,rfl,ge42_0⟩:=hM42);(have hv42:=hcc42 0 _ rfl);(rw [Nat.add_zero,show((Kd.slice 42 (Kd.int .u32))).sz=1 from rfl,Nat.mul_one] at hv42);(replace hv42:=Option.some.inj (hv42.symm.trans fp.out));(subst hv42);(clear hcc42 hcl42);(replace ge42_0:=(show Kd.R (Kd.int .u32) 42 _ _ _ _ (Zt af ((Zb ab aa).f0)) from ge42_0));((try(obtain⟨hy42_,hz42_⟩:=Kd.R_celln 0 ge42_0 (ac:Int) (zD) (by have h_:(ac:Int) < (((Zt af ((Zb ab aa).f0)).length:Int):Int):=zD;first|exact h_|(have e_:=(Kd.R_reads' bu.out).1;omega)|simpa using h_))));(have HP42:=Kd.R_putg ge42_0 (ac:Int) (Go.bits .or .u32 (rd (Zt af ((Zb ab aa).f0)) ac) av))
          try go_wp2_with (first|((with_reducible refine gate_store (t:=42) (p:=74) rfl ?_);refine store_event (t:=42) (p:=74) (v:=?vo_w43) (w1:=(nj.setCell ⟨go37,(ac:Int).toNat,none⟩ (.int .u32 (Go.bits .or .u32 (rd (Zt af ((Zb ab aa).f0)) ac) av)))) ?hg ?ho ?hn ?hr ?_;(case ho=>rfl);(case hg=>rfl);(case hn=>rfl);(case hr=>first|(go_simp;done)|(go_simp;rfl));intro ku hw;have hg:nj.grownBy ku (some go37):=(by rw [hw];exact HP42.2);have hz_:Kd.R (Kd.int .u32) 42 ku w.heap.size oki42 (.slice (some ⟨go37,0,none⟩) (Zt af ((Zb ab aa).f0)).length ic) ib:=(by rw [hw,jk.out];exact HP42.1);have hp_:Kd.S (Kd.slice 42 (Kd.int .u32)) 37 ku w.heap.size (fun k_=>k_≠(Zq.aft_ k_ (.slice (some gq) af.length bf))) (.slice (some gq) af.length bf) fk:=(by rw [jl.out];exact hbk42 hg (fun k_ e_=>by injection e_ with e_;subst e_;exact ge42_0.1 _ rfl) (Kd.M_row hz_));have hm_:=Kd.R_mono hz_ hok42;clear HP42 hbk42;replace ag:=Za.mk (hp_);replace ae:=Za.mk (Zv1 (g:=ao) (zK ae) hg (Kd.R_ne HL130_0.out ae.out (by decide)));replace ai:=Za.mk (Zv1 (g:=au) (zK ai) hg (Kd.R_ne HL130_0.out ai.out (by decide)));replace HB:=Za.mk ((by rw [hw];exact below_set (HB.out) GB37.out:Below w.heap.size w ku));have HL142:=Za.mk (hm_);have no:=Za.mk ((Kd.R_reads' hm_).2.1);clear HL130_0;clear hg hw hp_ hz_ hm_ hok42))
          (try simp only [← an])
          (first|go_roundg k4|(simp only [← ax];go_roundg k4))
          case measure=>have:=dv.out;have:=ek.out;have:=eo.out;have:=gp.out;omega
          case rel=>first|exact⟨(fk),(true),(wrap64 (ac + 1)),(by first|rfl|(simp;done)|(simp [*];done)),(by first|rfl|(simp;done)|(simp [*];done)),H',⟨by have:=dv.out;have:=ek.out;have:=eo.out;have:=gp.out;omega⟩,⟨by (try simp only [ah]);(try simp only [aj]);(try simp only [ak]);(try simp only [an]);(with_reducible repeat(first|apply Kd.S_alloc|apply Kd.S_drewN|apply Kd.S_drew));exact ag.out⟩,⟨by (try simp only [ah]);(try simp only [aj]);(try simp only [ak]);(try simp only [an]);(with_reducible repeat(first|apply zb3|apply zb2|apply zb1));exact ae.out⟩,⟨by (try simp only [ah]);(try simp only [aj]);(try simp only [ak]);(try simp only [an]);(with_reducible repeat(first|apply zb3|apply zb2|apply zb1));exact ai.out⟩,⟨zH HB⟩⟩|(subst ax;exact⟨(fk),(true),(wrap64 (ac + 1)),(by first|rfl|(simp;done)|(simp [*];done)),(by first|rfl|(simp;done)|(simp [*];done)),H',⟨by have:=dv.out;have:=ek.out;have:=eo.out;have:=gp.out;omega⟩,⟨by (try simp only [ah]);(try simp only [aj]);(try simp only [ak]);(try simp only [an]);(with_reducible repeat(first|apply Kd.S_alloc|apply Kd.S_drewN|apply Kd.S_drew));exact ag.out⟩,⟨by (try simp only [ah]);(try simp only [aj]);(try simp only [ak]);(try simp only [an]);(with_reducible repeat(first|apply zb3|apply zb2|apply zb1));exact ae.out⟩,⟨by (try simp only [ah]);(try simp only [aj]);(try simp only [ak]);(try simp only [an]);(with_reducible repeat(first|apply zb3|apply zb2|apply zb1));exact ai.out⟩,⟨zH HB⟩⟩)
         (replace kd:=Bool.eq_false_iff.mpr kd);(subst kd);(have H1:(if 0≤((Zb ab aa).f0) then(if((Zb ab aa).f0) < (af.length:Int) then(if ac < ((Zt af ((Zb ab aa).f0)).length:Int) then(Zq.l3 k4 l1 (af.set (((Zb ab aa).f0):Int).toNat ((Zt af ((Zb ab aa).f0)).set (ac:Int).toNat (Go.bits .or .u32 (rd (Zt af ((Zb ab aa).f0)) ac) av))) ((Go.bits .andNot .u32 av (rd (Zt af ((Zb ab aa).f0)) ac)) != 0) ab (ab.length:Int) aa (wrap64 ((l1.length:Int) + 1)) (wrap64 (ac + 1)) ap al aq ab ((Zb ab aa).f0) ((Zb ab aa).f1)) else(none)) else(none)) else(none))=some r:=by rw [if_neg (show ¬ (false=true) by decide)] at H;exact H);(clear H);(have H:=H1);(clear H1)
         by_cases kv:0≤((Zb ab aa).f0)
         rotate_left
         ·rw [if_neg kv] at H
          exact absurd H (by simp)
         (rw [if_pos kv] at H);(have np:decide (0≤((Zb ab aa).f0))=true:=decide_eq_true kv);(clear kv)
         by_cases kw:((Zb ab aa).f0) < (af.length:Int)
         rotate_left
         ·rw [if_neg kw] at H
          exact absurd H (by simp)
         (rw [if_pos kw] at H);(have jo:decide (((Zb ab aa).f0) < (af.length:Int))=true:=decide_eq_true kw);((try(have ii:=jo;simp only [ah,aj,ak,an] at ii)));(clear kw)
         by_cases kx:ac < ((Zt af ((Zb ab aa).f0)).length:Int)
         rotate_left
         ·rw [if_neg kx] at H
          exact absurd H (by simp)
         (rw [if_pos kx] at H);(have jp:decide (ac < ((Zt af ((Zb ab aa).f0)).length:Int))=true:=decide_eq_true kx);((try(have ik:=jp;simp only [ah,aj,ak,an] at ik)));(clear kx);(obtain⟨il,ch⟩ : ∃y_:List Int,y_=((Zt af ((Zb ab aa).f0)).set (ac:Int).toNat (Go.bits .or .u32 (rd (Zt af ((Zb ab aa).f0)) ac) av)):=⟨_,rfl⟩);(replace H:(Zq.l3 k4 l1 (af.set (((Zb ab aa).f0):Int).toNat il) ((Go.bits .andNot .u32 av (rd (Zt af ((Zb ab aa).f0)) ac)) != 0) ab (ab.length:Int) aa (wrap64 ((l1.length:Int) + 1)) (wrap64 (ac + 1)) ap al aq ab ((Zb ab aa).f0) ((Zb ab aa).f1))=some r:=by first|(rw [ch];with_reducible exact H)|(have H2_:=(Option.bind_some _ _).symm.trans H;rw [ch];with_reducible exact H2_)|(have H2_:=(Option.bind_some _ _).symm.trans H;with_reducible exact H2_)|with_reducible exact H|(rw [ch];exact H)|exact H);(have jq:=Za.mk ch);(clear ch);(obtain⟨ft,ci⟩ : ∃y_:List (List Int),y_=(af.set (((Zb ab aa).f0):Int).toNat il):=⟨_,rfl⟩);(replace H:(Zq.l3 k4 l1 ft ((Go.bits .andNot .u32 av (rd (Zt af ((Zb ab aa).f0)) ac)) != 0) ab (ab.length:Int) aa (wrap64 ((l1.length:Int) + 1)) (wrap64 (ac + 1)) ap al aq ab ((Zb ab aa).f0) ((Zb ab aa).f1))=some r:=by first|(rw [ci];with_reducible exact H)|(have H2_:=(Option.bind_some _ _).symm.trans H;rw [ci];with_reducible exact H2_)|(have H2_:=(Option.bind_some _ _).symm.trans H;with_reducible exact H2_)|with_reducible exact H|(rw [ci];exact H)|exact H)
         (have jr:=Za.mk ci);(clear ci);(have H':=Za.mk H);(clear H)
         try go_wp2
         (replace ag:=Za.mk (Kd.S_drew ag.out));(replace ae:=Za.mk (Zi ae.out));(replace ai:=Za.mk (Zi ai.out));(replace HB:=Za.mk (Zz1 HB.out))
         refine start_ (n:=9) (S:=fun w'=>w'.cell? ⟨ao,0,none⟩=some (.int .i64 ap)∧w'.cell? ⟨ao,1,none⟩=some (.int .i64 al)∧w'.cell? ⟨ao,2,none⟩=some (.int .i64 aq)∧w'.cell? ⟨ao,3,none⟩=some (.slice (some be) ab.length az)∧w'.cell? ⟨au,0,none⟩=some (.int .i64 ((Zb ab aa).f0))∧w'.cell? ⟨au,1,none⟩=some (.slice ba ((Zb ab aa).f1).length bb)) (ds:=[]) #[false,false,false,false,false,false,false,false,false] (by kernel_rfl) rfl rfl ⟨(Zf ae.out 0).trans rfl,(Zf ae.out 1).trans rfl,(Zf ae.out 2).trans rfl,(Zf ae.out 3).trans rfl,(Zf ai.out 0).trans rfl,(Zf ai.out 1).trans rfl⟩ (fun hHeld=>?_);refine Zc2 Zq.tab16 Zq.bits16 (fun HT_ HW_=>?_)
         generalize wr.drew=oq at ag ae ai HB hHeld ⊢
         refine zP 0 (some 42) (zt 9 1) (Ze HT_.out (by kernel_rfl)) ?_
         refine zP 2 (some 44) (zt 9 5) (Ze HT_.out (by kernel_rfl)) ?_
         refine zP 3 (some 45) (zt 9 13) (Ze HT_.out (by kernel_rfl)) ?_
         refine zP 5 (some 47) (zt 9 45) (Ze HT_.out (by kernel_rfl)) ?_
         refine zP 6 (some 48) (zt 9 109) (Ze HT_.out (by kernel_rfl)) ?_
         refine take_ (i:=1) (N:=some 43) (v:=?_) (a':=?_) #[true,true,true,true,false,true,true,false,false] rfl rfl (Zi1 HT_.out HW_.out (by kernel_rfl)) (fun _ _ _ h=>h) (Or.inl ⟨by rfl,?_⟩) hHeld ?_ ?_
         rotate_left
         ·rintro w' ⟨s0,s1,s2,s3,s4,s5⟩
          go_simp
          with_reducible rfl
         rotate_left
         ·simp only [Act.put,zp1,zp2,zp3,Zc,Zd]
          rfl
         refine take_ (i:=4) (N:=some 46) (v:=?_) (a':=?_) #[true,true,true,true,true,true,true,false,false] rfl rfl (Zi1 HT_.out HW_.out (by kernel_rfl)) (fun _ _ _ h=>h) (Or.inl ⟨by rfl,?_⟩) hHeld ?_ ?_
         rotate_left
         ·rintro w' ⟨s0,s1,s2,s3,s4,s5⟩
          go_simp
          with_reducible rfl
         rotate_left
         ·simp only [Act.put,zp1,zp2,zp3,Zc,Zd]
          rfl
         refine one_ (i:=7) (N:=some 49) #[true,true,true,true,true,true,true,true,false] rfl rfl (one_of HT_.out (by kernel_rfl)) (by decide) (fun K hK=>?_)
         refine goes_ Try.func42 (by kernel_rfl) rfl #[.slice ei af.length bf,.agg #[.int .i64 ap,.int .i64 al,.int .i64 aq,.slice (some be) ab.length az],.slice A1 l1.length c1,.slice ba ((Zb ab aa).f1).length bb,.int .u32 bt] (by rfl) rfl rfl (by (try simp only [List.map_toArray,List.map_cons,List.map_nil]);first|done|(simp only [ax];rfl)|rfl|(simp only [List.length_drop,List.length_take];rfl)) ?_
         with_reducible refine(Zj1.calls k4 _ _ af ap al aq _ _ ab _ _ l1 _ _ ((Zb ab aa).f1) bt av _ ?side1 ?side2 ?side3 ?side4 ?side5 ?side6 ?side7 ?side8 nh.out).mono ?_
         (case side1=>repeat(first|exact(Kd.S_reads' ag.out).2.2|(with_reducible refine Kd.C_alloc ?_ _)|(with_reducible refine Kd.C_drewN ?_ _)|(with_reducible refine Kd.C_drew ?_)))
         (case side2=>exact(Kd.S_reads' ag.out).2.1)
         (case side3=>exact zC dw HB)
         (case side4=>exact gi.out)
         (case side5=>exact zC mr HB)
         (case side6=>exact ms.out)
         (case side7=>exact zC di HB)
         (case side8=>exact dj.out)
         rintro e nq ⟨rfl,hb⟩
         refine⟨_,rfl,?_⟩
         (replace ag:=Za.mk (Kd.S_below (by (with_reducible repeat(first|apply Kd.S_alloc|apply Kd.S_drewN|apply Kd.S_drew));exact ag.out) hb));(replace ae:=Za.mk (Zj (g:=ao) (zK ae) hb));(replace ai:=Za.mk (Zj (g:=au) (zK ai) hb));(replace HB:=Za.mk (Zh (zH HB) hb));((try clear hb));((try clear hb2));((try clear hk));((try clear hi))
         refine hK.out _ _ ⟨(Zf ae.out 0).trans rfl,(Zf ae.out 1).trans rfl,(Zf ae.out 2).trans rfl,(Zf ae.out 3).trans rfl,(Zf ai.out 0).trans rfl,(Zf ai.out 1).trans rfl⟩ (fun hHeld=>?_)
         clear hK K
         refine norm_ (a':=?_) ?_ ?_
         rotate_left
         ·show Act.put _ (some 49) _=_
          simp only [Act.put,zp1,zp2,zp3,Zc,Zd]
          rfl
         refine zP 8 (some 11) (zt 9 511) (Ze HT_.out (by kernel_rfl)) ?_
         refine done_ (done_of HT_.out (by kernel_rfl)) ?_
         (have nr:=bc.out);(have nt:=aw.out);(obtain⟨ky,kz⟩:=zq2 ai.out);(obtain⟨la,lc⟩:=zf2 ai.out);(have fu:0≤(((Zb ab aa).f0):Int):=zD);(have fv:((Zb ab aa).f0) < (af.length:Int):=zD);(obtain⟨eh,mb,io,mc,bv,dn,dp⟩:=at_L4 (Kd.S_reads' ag.out).2.2 ((Zb ab aa).f0) fu fv);(cases mc);(obtain⟨ce135,hce135,hMe135,hcc135⟩:=Kd.S_get ag.out [] ((Zb ab aa).f0) fu (by first|exact fv|exact zD|(have e_:=(Kd.S_reads' ag.out).1;omega)));(obtain⟨ve135_0,rfl,ge135_0⟩:=hMe135);(have hv135_0:=hcc135 0 _ rfl);(rw [Nat.add_zero,show((Kd.slice 42 (Kd.int .u32))).sz=1 from rfl,Nat.mul_one] at hv135_0);(replace hv135_0:=Option.some.inj (hv135_0.symm.trans bv));(rw [hv135_0] at ge135_0);(have HL135_0:=Za.mk (show Kd.R (Kd.int .u32) 42 _ _ _ _ (Zt af ((Zb ab aa).f0)) from ge135_0));(clear hv135_0 ge135_0);(have ld:=Za.mk bv);(clear hcc135 hce135);(have dq:=Za.mk dp);(have lf:=Za.mk dn);(clear dp dn);(replace fu:=eq_true fu);(replace fv:=eq_true fv);(have ip:0≤(ac:Int):=zD)
         (have iq:ac < ((Zt af ((Zb ab aa).f0)).length:Int):=zD);(obtain⟨js,me,fw⟩:=Kd.at_int (by repeat(first|(with_reducible exact dq.out)|(with_reducible refine Kd.C_alloc ?_ _)|(with_reducible refine Kd.C_drewN ?_ _)|(with_reducible refine Kd.C_drew ?_)|exact dq.out)) ac ip iq);(cases me);(replace ip:=eq_true ip);(replace iq:=eq_true iq);(have fx:0≤(((Zb ab aa).f0):Int):=zD);(have fy:((Zb ab aa).f0) < (af.length:Int):=zD);(obtain⟨jt,mf,mg,mh,bw,dr,dt⟩:=at_L4 (Kd.S_reads' ag.out).2.2 ((Zb ab aa).f0) fx fy);(obtain rfl:eh=jt:=(by injection mh));(obtain⟨ce137,hce137,hMe137,hcc137⟩:=Kd.S_get ag.out [] ((Zb ab aa).f0) fx (by first|exact fy|exact zD|(have e_:=(Kd.S_reads' ag.out).1;omega)));(obtain⟨ve137_0,rfl,ge137_0⟩:=hMe137);(have hv137_0:=hcc137 0 _ rfl);(rw [Nat.add_zero,show((Kd.slice 42 (Kd.int .u32))).sz=1 from rfl,Nat.mul_one] at hv137_0);(replace hv137_0:=Option.some.inj (hv137_0.symm.trans bw));(rw [hv137_0] at ge137_0);(have HL137_0:=Za.mk (show Kd.R (Kd.int .u32) 42 _ _ _ _ (Zt af ((Zb ab aa).f0)) from ge137_0));(clear hv137_0 ge137_0);(have fz:=Za.mk bw);(clear hcc137 hce137);(have bx:=Za.mk dt);(have lg:=Za.mk dr)
         (clear dt dr);(replace fx:=eq_true fx);(replace fy:=eq_true fy);(have ea_:=Option.some.inj (bv.symm.trans bw));(injection ea_ with ea_ en_ ec_);(subst ea_);(subst ec_);(clear en_);(have ir:0≤(ac:Int):=zD);(have iu:ac < ((Zt af ((Zb ab aa).f0)).length:Int):=zD);(obtain⟨ju,mi,ga⟩:=Kd.at_int (by repeat(first|(with_reducible exact bx.out)|(with_reducible refine Kd.C_alloc ?_ _)|(with_reducible refine Kd.C_drewN ?_ _)|(with_reducible refine Kd.C_drew ?_)|exact bx.out)) ac ir iu);(obtain rfl:js=ju:=(by injection mi));(replace ir:=eq_true ir);(replace iu:=eq_true iu);(have ml:0≤(ac:Int):=zD);(have mm:(ac:Int) < (((Zt af ((Zb ab aa).f0)).length:Int):Int):=zD);(obtain⟨go47,oc,jv,jw,gl47,cl47,HG47⟩:=Kd.R_form HL137_0.out (by omega))
         (first|cases jv|(injection jv with ea_ en_ ec_;(first|subst ea_|(injection ea_ with ea_;subst ea_));subst ec_;clear en_))
         (have GB47:=Za.mk jw);(have GG47:=Za.mk HG47);(clear jw gl47 HG47)
         (first|simp only [add_plain] at fw|skip)
         (first|simp only [add_plain] at ga|skip)
         (obtain⟨mn,hf47_0⟩:=Kd.R_celln 0 HL137_0.out (ac:Int) ml mm);(replace ml:=eq_true ml);(replace mm:=eq_true mm);(have hq52:(((Zb ab aa).f0):Int) < (af.length:Int):=(by have h_:(((Zb ab aa).f0):Int) < ((af.length:Int):Int):=zD;first|exact h_|(have e_:=(Kd.S_reads' ag.out).1;omega)|simpa only [List.length_set,List.length_set] using h_));(obtain⟨oki52,ce52,hcl52,hM52,hcc52,hok52,hbk52⟩:=Kd.S_borrow ag.out [] (((Zb ab aa).f0):Int) (zD) hq52);(obtain⟨ve52_0,rfl,ge52_0⟩:=hM52);(have hv52:=hcc52 0 _ rfl);(rw [Nat.add_zero,show((Kd.slice 42 (Kd.int .u32))).sz=1 from rfl,Nat.mul_one] at hv52);(replace hv52:=Option.some.inj (hv52.symm.trans fz.out));(subst hv52);(clear hcc52 hcl52);(replace ge52_0:=(show Kd.R (Kd.int .u32) 42 _ _ _ _ (Zt af ((Zb ab aa).f0)) from ge52_0));((try(obtain⟨hy52_,hz52_⟩:=Kd.R_celln 0 ge52_0 (ac:Int) (zD) (by have h_:(ac:Int) < (((Zt af ((Zb ab aa).f0)).length:Int):Int):=zD;first|exact h_|(have e_:=(Kd.R_reads' bx.out).1;omega)|simpa using h_))));(have HP52:=Kd.R_putg ge52_0 (ac:Int) (Go.bits .or .u32 (rd (Zt af ((Zb ab aa).f0)) ac) av))
         try go_wp2_with (first|((with_reducible refine gate_store (t:=42) (p:=74) rfl ?_);refine store_event (t:=42) (p:=74) (v:=?vo_w53) (w1:=(nq.setCell ⟨go47,(ac:Int).toNat,none⟩ (.int .u32 (Go.bits .or .u32 (rd (Zt af ((Zb ab aa).f0)) ac) av)))) ?hg ?ho ?hn ?hr ?_;(case ho=>rfl);(case hg=>rfl);(case hn=>rfl);(case hr=>first|(go_simp;done)|(go_simp;rfl));intro lh hw;have hg:nq.grownBy lh (some go47):=(by rw [hw];exact HP52.2);have hz_:Kd.R (Kd.int .u32) 42 lh w.heap.size oki52 (.slice (some ⟨go47,0,none⟩) (Zt af ((Zb ab aa).f0)).length io) il:=(by rw [hw,jq.out];exact HP52.1);have hp_:Kd.S (Kd.slice 42 (Kd.int .u32)) 37 lh w.heap.size (fun k_=>k_≠(Zq.aft_ k_ (.slice (some eh) af.length bf))) (.slice (some eh) af.length bf) ft:=(by rw [jr.out];exact hbk52 hg (fun k_ e_=>by injection e_ with e_;subst e_;exact ge52_0.1 _ rfl) (Kd.M_row hz_));have hm_:=Kd.R_mono hz_ hok52;clear HP52 hbk52;replace ag:=Za.mk (hp_);replace ae:=Za.mk (Zv1 (g:=ao) (zK ae) hg (Kd.R_ne HL137_0.out ae.out (by decide)));replace ai:=Za.mk (Zv1 (g:=au) (zK ai) hg (Kd.R_ne HL137_0.out ai.out (by decide)));replace HB:=Za.mk ((by rw [hw];exact below_set (HB.out) GB47.out:Below w.heap.size w lh));have HL143:=Za.mk (hm_);have nu:=Za.mk ((Kd.R_reads' hm_).2.1);clear HL135_0 HL137_0;clear hg hw hp_ hz_ hm_ hok52))
         (try simp only [← an])
         (first|go_roundg k4|(simp only [← ax];go_roundg k4))
         case measure=>have:=dv.out;have:=ek.out;have:=eo.out;have:=gp.out;omega
         case rel=>first|exact⟨(ft),(((Go.bits .andNot .u32 av (rd (Zt af ((Zb ab aa).f0)) ac)) != 0)),(wrap64 (ac + 1)),(by first|rfl|(simp;done)|(simp [*];done)),(by first|rfl|(simp;done)|(simp [*];done)),H',⟨by have:=dv.out;have:=ek.out;have:=eo.out;have:=gp.out;omega⟩,⟨by (try simp only [ah]);(try simp only [aj]);(try simp only [ak]);(try simp only [an]);(with_reducible repeat(first|apply Kd.S_alloc|apply Kd.S_drewN|apply Kd.S_drew));exact ag.out⟩,⟨by (try simp only [ah]);(try simp only [aj]);(try simp only [ak]);(try simp only [an]);(with_reducible repeat(first|apply zb3|apply zb2|apply zb1));exact ae.out⟩,⟨by (try simp only [ah]);(try simp only [aj]);(try simp only [ak]);(try simp only [an]);(with_reducible repeat(first|apply zb3|apply zb2|apply zb1));exact ai.out⟩,⟨zH HB⟩⟩|(subst ax;exact⟨(ft),(((Go.bits .andNot .u32 av (rd (Zt af ((Zb ab aa).f0)) ac)) != 0)),(wrap64 (ac + 1)),(by first|rfl|(simp;done)|(simp [*];done)),(by first|rfl|(simp;done)|(simp [*];done)),H',⟨by have:=dv.out;have:=ek.out;have:=eo.out;have:=gp.out;omega⟩,⟨by (try simp only [ah]);(try simp only [aj]);(try simp only [ak]);(try simp only [an]);(with_reducible repeat(first|apply Kd.S_alloc|apply Kd.S_drewN|apply Kd.S_drew));exact ag.out⟩,⟨by (try simp only [ah]);(try simp only [aj]);(try simp only [ak]);(try simp only [an]);(with_reducible repeat(first|apply zb3|apply zb2|apply zb1));exact ae.out⟩,⟨by (try simp only [ah]);(try simp only [aj]);(try simp only [ak]);(try simp only [an]);(with_reducible repeat(first|apply zb3|apply zb2|apply zb1));exact ai.out⟩,⟨zH HB⟩⟩)
end Go.Proofs.Ytbifocddbgleeaa.PAheadParses
