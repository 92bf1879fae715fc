-- By a program.
import Derived.Test.YtbifocddbgleeaaQPAheadParsesx0
import Derived.Test.YtbifocddbgleeaaQPAheadParsesx13
namespace Go.Proofs.Ytbifocddbgleeaa.PAheadParses
set_option maxHeartbeats 8000000
set_option maxRecDepth 100000
open Go.RowKit Go.Proofs.YtbifocddbgleeaaW.PrintWords Go.Proofs.YtbifocddbgleeaaW.PrintLast Go.Proofs.YtbifocddbgleeaaW.PrintMore
attribute [local go_sem] max2_int min2_int max_two min_two max_three min_three max_four min_four
set_option linter.unusedVariables false
set_option linter.unusedSimpArgs false
def Ze2.f (a0:Int) (a1:Int):Option (Bool):=if a1≥0 then(if a1 < 32 then(if 0≤(IntKind.u64.wrap (a1)) then(some ((Go.bits .and .u32 a0 (shl .u32 1 (IntKind.u64.wrap (a1)))) != 0)) else(none)) else(some false)) else(some false)
theorem Ze2.calls (a0 : Int) (a1 : Int) (r : Bool) (w : World) (h : Ze2.f a0 a1 = some r) :
    Calls Try.prog 38 #[.int .u32 a0,.int .i64 a1] w fun e w'=>e= .returned (.bool r)∧Zf1 w w':=by
 (have H:(if a1≥0 then(if a1 < 32 then(if 0≤(IntKind.u64.wrap (a1)) then(some ((Go.bits .and .u32 a0 (shl .u32 1 (IntKind.u64.wrap (a1)))) != 0)) else(none)) else(some false)) else(some false))=some r:=h);(clear h)
 by_cases c3:a1≥0
 rotate_left
 ·rw [if_neg c3] at H
  (have ah:decide (0≤a1)=false:=decide_eq_false c3);(clear c3);(obtain rfl:=Option.some.inj H)
  go_enter Try.func38,Try.ntmps38
  go_wp2
  go_ret
  exact⟨by first|rfl|(simp;done)|(simp [*];done),by repeat(first|exact Zf1.refl _|apply Zf1.step)⟩
 (rw [if_pos c3] at H);(have ah:decide (0≤a1)=true:=decide_eq_true c3);(clear c3)
 by_cases c4:a1 < 32
 rotate_left
 ·rw [if_neg c4] at H
  (have ai:decide (a1 < 32)=false:=decide_eq_false c4);(clear c4);(obtain rfl:=Option.some.inj H)
  go_enter Try.func38,Try.ntmps38
  go_wp2
  go_ret
  exact⟨by first|rfl|(simp;done)|(simp [*];done),by repeat(first|exact Zf1.refl _|apply Zf1.step)⟩
 (rw [if_pos c4] at H);(have ai:decide (a1 < 32)=true:=decide_eq_true c4);(clear c4);(obtain⟨aa,ac⟩ : ∃j_:Int,(IntKind.u64.wrap (a1))=j_:=⟨_,rfl⟩);(replace H:(if 0≤(aa) then(some ((Go.bits .and .u32 a0 (shl .u32 1 (aa))) != 0)) else(none))=some r:=by first|(rw [ac] at H;exact H)|(simp only [ac] at H ⊢;exact H))
 by_cases c6:0≤(aa)
 rotate_left
 ·rw [if_neg c6] at H
  exact absurd H (by simp)
 (rw [if_pos c6] at H);(have al:=eq_true c6);(have am:decide (0≤(aa))=true:=decide_eq_true c6);(clear c6);(obtain⟨ae,ab⟩ : ∃j_:Int,(shl .u32 1 (aa))=j_:=⟨_,rfl⟩);(replace H:(some ((Go.bits .and .u32 a0 (ae)) != 0))=some r:=by first|(rw [ab] at H;exact H)|(simp only [ab] at H ⊢;exact H));(have af:(IntKind.u32.wrap (1 * 2 ^ min (aa).toNat 32))=ae:=ab);(have ag:(aa)≤32→(IntKind.u32.wrap (1 * 2 ^ (aa).toNat))=ae:=shl_small ab);(have aj:(IntKind.u32.wrap (2 ^ min (aa).toNat 32))=ae:=by have h_:=af;rw [Int.one_mul] at h_;exact h_);(have ak:(aa)≤32→(IntKind.u32.wrap (2 ^ (aa).toNat))=ae:=fun hle_=>by have h_:=ag hle_;rw [Int.one_mul] at h_;exact h_);(obtain rfl:=Option.some.inj H)
 go_enter Try.func38,Try.ntmps38
 go_wp2
 go_ret
 exact⟨by first|rfl|(simp;done)|(simp only [← ac,← ab] <;> (first|rfl|simp))|(simp [*];done),by repeat(first|exact Zf1.refl _|apply Zf1.step)⟩
def Zp1.l0:Nat→Int→List Int→List Int→Int→Int→Int→Int→Int→List (S41)→Option (List Int)
  |0,_,_,_,_,_,_,_,_,_=>none
  |k + 1,x5,x6,x11,x12,x13,x279000,x279001,x279002,x279003=>if x13 < x12 then(if 0≤x13 then(if x13 < (x11.length:Int) then((Za1.f k x6 (rd x11 x13)).bind fun t281=>(if t281=true then(if(rd x11 x13) < x279000 then(some x6) else((Ze2.f x5 (wrap64 ((rd x11 x13) - x279000))).bind fun t282=>(if t282=true then(Zp1.l0 k x5 x6 x11 x12 (wrap64 (x13 + 1)) x279000 x279001 x279002 x279003) else(some x6)))) else(if x6.length < 17592186044416 then((some (x6++[rd x11 x13] :List Int)).bind fun y283=>(if(rd x11 x13) < x279000 then(some y283) else((Ze2.f x5 (wrap64 ((rd x11 x13) - x279000))).bind fun t286=>(if t286=true then(Zp1.l0 k x5 y283 x11 x12 (wrap64 (x13 + 1)) x279000 x279001 x279002 x279003) else(some y283))))) else(none)))) else(none)) else(none)) else(some x6)
def Zp1.f (k:Nat) (a0_0:Int) (a0_1:Int) (a0_2:Int) (l0_3:List (S41)) (l1:List Int):Option (List Int):=(Zw1.f k a0_0 a0_1 a0_2 l0_3 true).bind fun t279=>(Zp1.l0 k t279 ([] :List Int) l1 (l1.length:Int) 0 a0_0 a0_1 a0_2 l0_3)
theorem Zp1.mono_l: ∀k,(∀y0 y1 y2 y3 y4 y5 y6 y7 y8,LeO (Zp1.l0 k y0 y1 y2 y3 y4 y5 y6 y7 y8) (Zp1.l0 (k + 1) y0 y1 y2 y3 y4 y5 y6 y7 y8))
  |0=>fun _ _ _ _ _ _ _ _ _ r h=>by simp [Zp1.l0] at h
  |k + 1=>by
    have ih0:=Zp1.mono_l k
    · intro y0 y1 y2 y3 y4 y5 y6 y7 y8
      unfold Zp1.l0
      repeat' (with_reducible first|apply ih0|apply Za1.mono|apply Zw1.mono|exact LeO.refl _|exact LeO.none _|refine LeO.ite ?_ ?_|refine LeO.bind ?_ (fun _=>?_))
theorem Zp1.mono: ∀a0 a1 a2 a3 a4 k,LeO (Zp1.f k a0 a1 a2 a3 a4) (Zp1.f (k + 1) a0 a1 a2 a3 a4):=by
  intro a0 a1 a2 a3 a4 k
  have ih0:=Zp1.mono_l k
  unfold Zp1.f
  repeat' (with_reducible first|apply ih0|apply Za1.mono|apply Zw1.mono|exact LeO.refl _|exact LeO.none _|refine LeO.ite ?_ ?_|refine LeO.bind ?_ (fun _=>?_))
theorem Zp1.calls (k : Nat) (ae : Int) (al : Int) (am : Int) (ax : Option Addr) (ay : Nat) (ak : List (S41)) (A1 : Option Addr) (c1 : Nat) (l1 : List Int) (r : List Int) (w : World) (bb : Kd.C k41 w ax ak.length ak) (bc : ak.length ≤ ay) (fu : Kd.C (Kd.int .i64) w A1 l1.length l1) (fv : l1.length ≤ c1) (h : Zp1.f k ae al am ak l1 = some r) :
    Calls Try.prog 35 #[.agg #[.int .i64 ae,.int .i64 al,.int .i64 am,.slice ax ak.length ay],.slice A1 l1.length c1] w fun e w'=>∃v0_:Value,e= .returned (v0_)∧Kd.R (Kd.int .i64) 3 w' w.heap.size (fun _=>True) v0_ r∧Below w.heap.size w w':=by
 (have gc:=Try.underlying24);(have gj:=Try.underlying3);(have bp:=Za.mk bb);(have bq:=Za.mk bc);(clear bb bc);(have bl:=Za.mk fu);(have gl:=Za.mk fv);(clear fu fv);(have HB:=Za.mk (Below.refl w.heap.size w));(have H:((Zw1.f k ae al am ak true).bind fun ah=>(Zp1.l0 k ah ([] :List Int) l1 (l1.length:Int) 0 ae al am ak))=some r:=h);(clear h);(replace H:=Option.bind_eq_some_iff.mp H);(obtain⟨ah,fw,H⟩:=H);(replace H:(Zp1.l0 k ah ([] :List Int) l1 (l1.length:Int) 0 ae al am ak)=some r:=H);(have A3:=Za.mk fw);(clear fw);(have H':=Za.mk H);(clear H)
 go_enter Try.func35,Try.ntmps35
 go_wp2_with (first|((with_reducible refine Zs (N:=2) rfl ?_);refine Zx ?hg (N:=2) ?hd (cs:=#[.int .i64 ae,.int .i64 al,.int .i64 am,.slice ax ak.length ay]) (t:=24) ?hr ?_;(case hd=>rfl);(case hg=>rfl);(case hr=>first|(go_simp;done)|(go_simp;rfl));intro ao hg w4 hbox hb;have ab:=Za.mk (hbox);have fx:=Za.mk ((by rw [hg];exact(Zg (zH HB)):w.heap.size≤ao));have fy:=Za.mk ((by rw [hg];exact(Zg (zH HB)):w.heap.size≤ao));replace HB:=Za.mk (Zh (zH HB) hb);clear hb hbox hg;obtain⟨bd,be,bf,bg⟩:=zq4 ab.out;obtain⟨bh,bi,bj,bk⟩:=zf4 ab.out)|((with_reducible refine Zl1 (f:=37) rfl ?_);refine goesL_ (some 10) rfl rfl Try.func37 (by kernel_rfl) rfl #[.agg #[.int .i64 ae,.int .i64 al,.int .i64 am,.slice ax ak.length ay],.bool true] rfl (by (try simp only [List.map_toArray,List.map_cons,List.map_nil]);first|done|rfl|(simp only [List.length_drop,List.length_take];rfl)) ?_;(with_reducible refine(Zw1.calls k ae al am _ _ ak true ah _ ?side1 ?side2 A3.out).mono ?_);(case side1=>exact zC bp HB);(case side2=>exact bq.out);rintro e w6 ⟨rfl,hb⟩;refine⟨_,rfl,?_⟩;replace ab:=Za.mk (Zj (g:=ao) (zK ab) hb);replace HB:=Za.mk (Zh (zH HB) hb);(try clear hb);(try clear hb2);(try clear hk);(try clear hi)))
 go_loopg [6,13] k (fun kq v6 v13 w'=>∃(af:List Int) (aa:Int),v13= .int .i64 aa∧Za (Zp1.l0 kq ah af l1 (l1.length:Int) aa ae al am ak=some r)∧Za (kq≤k)∧Za (Kd.R (Kd.int .i64) 3 w' w.heap.size (fun _=>True) v6 af)∧Za (w'.heap[ao]? =some (.cells #[.int .i64 ae,.int .i64 al,.int .i64 am,(.slice ax ak.length ay)] 24 (0,0)))∧Za (Below w.heap.size w w'))
 case atStart=>exact⟨(([] :List Int)),(0),(by first|rfl|(simp;done)|(simp [*];done)),H',⟨Nat.le_refl _⟩,⟨by first|exact Kd.R_nil _ _ _ _ _|exact Kd.N_nil _ _ _ _ _|exact Kd.V_nil _ _ _ _ _|exact Kd.Q_nil _ _ _ _ _|exact Kd.S_nil _ _ _ _ _|(go_simp;exact Kd.R_nil _ _ _ _ _)⟩,⟨zK ab⟩,⟨zH HB⟩⟩
 case round=>
  (clear H');(try clear c1);(try clear p2);(try clear c3);(try clear bd be bf bg bh bi bj bk);(obtain⟨af,aa,rfl,HA,cf,ag,ab,HB⟩:=hrel)
  cases gk with
  |zero=>exact absurd HA.out (by simp [Zp1.l0])
  |succ k1=>
   (have H:=HA.out);(clear HA);(simp only [Zp1.l0] at H)
   by_cases c7:aa < (l1.length:Int)
   rotate_left
   ·rw [if_neg c7] at H
    (have fd:decide (aa < (l1.length:Int))=false:=decide_eq_false c7);(clear c7);(obtain rfl:=Option.some.inj H)
    go_wp2
    go_ret
    exact⟨_,by first|rfl|(simp [Zl,Zk] <;> rfl)|(simp [*,Zl,Zk] <;> rfl),by (with_reducible repeat(first|apply Kd.R_alloc|apply Kd.R_drewN|apply Kd.R_drew));exact ag.out,zH HB⟩
   (rw [if_pos c7] at H);(have fd:decide (aa < (l1.length:Int))=true:=decide_eq_true c7);(clear c7)
   by_cases c8:0≤aa
   rotate_left
   ·rw [if_neg c8] at H
    exact absurd H (by simp)
   (rw [if_pos c8] at H);(have gh:decide (0≤aa)=true:=decide_eq_true c8);(clear c8)
   by_cases c9:aa < (l1.length:Int)
   rotate_left
   ·rw [if_neg c9] at H
    exact absurd H (by simp)
   (rw [if_pos c9] at H);(have gi:decide (aa < (l1.length:Int))=true:=decide_eq_true c9);(clear c9);(replace H:=Option.bind_eq_some_iff.mp H);(obtain⟨br,bs,H⟩:=H);(replace H:(if br=true then(if(rd l1 aa) < ae then(some af) else((Ze2.f ah (wrap64 ((rd l1 aa) - ae))).bind fun aw=>(if aw=true then(Zp1.l0 k1 ah af l1 (l1.length:Int) (wrap64 (aa + 1)) ae al am ak) else(some af)))) else(if af.length < 17592186044416 then((some (af++[rd l1 aa] :List Int)).bind fun an=>(if(rd l1 aa) < ae then(some an) else((Ze2.f ah (wrap64 ((rd l1 aa) - ae))).bind fun aq=>(if aq=true then(Zp1.l0 k1 ah an l1 (l1.length:Int) (wrap64 (aa + 1)) ae al am ak) else(some an))))) else(none)))=some r:=H);(have bm:=Za.mk bs);(clear bs)
   by_cases cg:br=true
   ·subst cg
    (have H1:(if(rd l1 aa) < ae then(some af) else((Ze2.f ah (wrap64 ((rd l1 aa) - ae))).bind fun aw=>(if aw=true then(Zp1.l0 k1 ah af l1 (l1.length:Int) (wrap64 (aa + 1)) ae al am ak) else(some af))))=some r:=by rw [if_pos rfl] at H;exact H);(clear H);(have H:=H1);(clear H1)
    by_cases bn:(rd l1 aa) < ae
    ·rw [if_pos bn] at H
     (have bt:decide ((rd l1 aa) < ae)=true:=decide_eq_true bn);(clear bn);(obtain rfl:=Option.some.inj H);(have ai:0≤(aa:Int):=zD);(have aj:aa < (l1.length:Int):=zD);(obtain⟨ar,ap,ac⟩:=Kd.at_int bl.out aa ai aj);(cases ap);(replace ac:=zX HB ac);(replace ai:=eq_true ai);(replace aj:=eq_true aj);(obtain⟨fe,ff,fg⟩:=Kd.R_slice ag.out);(subst fg)
     go_wp2_with (first|((with_reducible refine Zl1 (f:=36) rfl ?_);refine goesL_ (some 19) rfl rfl Try.func36 (by kernel_rfl) rfl #[.slice fe af.length ff,.int .i64 (rd l1 aa)] rfl (by (try simp only [List.map_toArray,List.map_cons,List.map_nil]);first|done|rfl|(simp only [List.length_drop,List.length_take];rfl)) ?_;(with_reducible refine(Za1.calls k1 _ _ af (rd l1 aa) true _ ?side1 ?side2 bm.out).mono ?_);(case side1=>repeat(first|exact(Kd.R_reads' ag.out).2.2|(with_reducible refine Kd.C_alloc ?_ _)|(with_reducible refine Kd.C_drewN ?_ _)|(with_reducible refine Kd.C_drew ?_)));(case side2=>exact(Kd.R_reads' ag.out).2.1);rintro e w' ⟨rfl,⟨nd,rfl⟩⟩;refine⟨_,rfl,?_⟩;obtain⟨ch,ci,cj,ck⟩:=zq4 ab.out;obtain⟨cm,cn,co,cp⟩:=zf4 ab.out))
     go_ret
     exact⟨_,by first|rfl|(simp [Zl,Zk] <;> rfl)|(simp [*,Zl,Zk] <;> rfl),by (with_reducible repeat(first|apply Kd.R_alloc|apply Kd.R_drewN|apply Kd.R_drew));exact ag.out,zH HB⟩
    (rw [if_neg bn] at H);(have bt:decide ((rd l1 aa) < ae)=false:=decide_eq_false bn);(clear bn);(replace H:=Option.bind_eq_some_iff.mp H);(obtain⟨aw,bu,H⟩:=H);(replace H:(if aw=true then(Zp1.l0 k1 ah af l1 (l1.length:Int) (wrap64 (aa + 1)) ae al am ak) else(some af))=some r:=H);(have fz:=Za.mk bu);(clear bu)
    by_cases cq:aw=true
    rotate_left
    ·replace cq:=Bool.eq_false_iff.mpr cq
     (subst cq);(have H1:(some af)=some r:=by rw [if_neg (show ¬ (false=true) by decide)] at H;exact H);(clear H);(have H:=H1);(clear H1);(obtain rfl:=Option.some.inj H);(have ai:0≤(aa:Int):=zD);(have aj:aa < (l1.length:Int):=zD);(obtain⟨ar,ap,ac⟩:=Kd.at_int bl.out aa ai aj);(cases ap);(replace ac:=zX HB ac);(replace ai:=eq_true ai);(replace aj:=eq_true aj);(obtain⟨fh,fi,fj⟩:=Kd.R_slice ag.out);(subst fj)
     go_wp2_with (first|((with_reducible refine Zl1 (f:=36) rfl ?_);refine goesL_ (some 19) rfl rfl Try.func36 (by kernel_rfl) rfl #[.slice fh af.length fi,.int .i64 (rd l1 aa)] rfl (by (try simp only [List.map_toArray,List.map_cons,List.map_nil]);first|done|rfl|(simp only [List.length_drop,List.length_take];rfl)) ?_;(with_reducible refine(Za1.calls k1 _ _ af (rd l1 aa) true _ ?side1 ?side2 bm.out).mono ?_);(case side1=>repeat(first|exact(Kd.R_reads' ag.out).2.2|(with_reducible refine Kd.C_alloc ?_ _)|(with_reducible refine Kd.C_drewN ?_ _)|(with_reducible refine Kd.C_drew ?_)));(case side2=>exact(Kd.R_reads' ag.out).2.1);rintro e w' ⟨rfl,⟨nd,rfl⟩⟩;refine⟨_,rfl,?_⟩;obtain⟨cu,cw,cy,da⟩:=zq4 ab.out;obtain⟨db,dc,dd,de⟩:=zf4 ab.out)|(go_at_call 38;(with_reducible refine(Ze2.calls ah (wrap64 ((rd l1 aa) - ae)) false _ fz.out).mono ?_);rintro e w' ⟨rfl,⟨nd,rfl⟩⟩))
     go_ret
     exact⟨_,by first|rfl|(simp [Zl,Zk] <;> rfl)|(simp [*,Zl,Zk] <;> rfl),by (with_reducible repeat(first|apply Kd.R_alloc|apply Kd.R_drewN|apply Kd.R_drew));exact ag.out,zH HB⟩
    (subst cq);(have H1:(Zp1.l0 k1 ah af l1 (l1.length:Int) (wrap64 (aa + 1)) ae al am ak)=some r:=by rw [if_pos rfl] at H;exact H);(clear H);(have H:=H1);(clear H1);(have H':=Za.mk H);(clear H);(have ai:0≤(aa:Int):=zD);(have aj:aa < (l1.length:Int):=zD);(obtain⟨ar,ap,ac⟩:=Kd.at_int bl.out aa ai aj);(cases ap);(replace ac:=zX HB ac);(replace ai:=eq_true ai);(replace aj:=eq_true aj);(obtain⟨fk,fm,fo⟩:=Kd.R_slice ag.out);(subst fo)
    go_wp2_with (first|((with_reducible refine Zl1 (f:=36) rfl ?_);refine goesL_ (some 19) rfl rfl Try.func36 (by kernel_rfl) rfl #[.slice fk af.length fm,.int .i64 (rd l1 aa)] rfl (by (try simp only [List.map_toArray,List.map_cons,List.map_nil]);first|done|rfl|(simp only [List.length_drop,List.length_take];rfl)) ?_;(with_reducible refine(Za1.calls k1 _ _ af (rd l1 aa) true _ ?side1 ?side2 bm.out).mono ?_);(case side1=>repeat(first|exact(Kd.R_reads' ag.out).2.2|(with_reducible refine Kd.C_alloc ?_ _)|(with_reducible refine Kd.C_drewN ?_ _)|(with_reducible refine Kd.C_drew ?_)));(case side2=>exact(Kd.R_reads' ag.out).2.1);rintro e w' ⟨rfl,⟨nd,rfl⟩⟩;refine⟨_,rfl,?_⟩;obtain⟨df,dg,dh,di⟩:=zq4 ab.out;obtain⟨dj,dk,dl,dm⟩:=zf4 ab.out)|(go_at_call 38;(with_reducible refine(Ze2.calls ah (wrap64 ((rd l1 aa) - ae)) true _ fz.out).mono ?_);rintro e w' ⟨rfl,⟨nd,rfl⟩⟩))
    go_roundg k1
    case measure=>have:=cf.out;omega
    case rel=>exact⟨(af),(wrap64 (aa + 1)),(by first|rfl|(simp;done)|(simp [*];done)),H',⟨by have:=cf.out;omega⟩,⟨zR ag⟩,⟨zK ab⟩,⟨zH HB⟩⟩
   (replace cg:=Bool.eq_false_iff.mpr cg);(subst cg);(have H1:(if af.length < 17592186044416 then((some (af++[rd l1 aa] :List Int)).bind fun an=>(if(rd l1 aa) < ae then(some an) else((Ze2.f ah (wrap64 ((rd l1 aa) - ae))).bind fun aq=>(if aq=true then(Zp1.l0 k1 ah an l1 (l1.length:Int) (wrap64 (aa + 1)) ae al am ak) else(some an))))) else(none))=some r:=by rw [if_neg (show ¬ (false=true) by decide)] at H;exact H);(clear H);(have H:=H1);(clear H1)
   by_cases dn:af.length < 17592186044416
   rotate_left
   ·rw [if_neg dn] at H
    exact absurd H (by simp)
   (rw [if_pos dn] at H);(have az:=Za.mk dn);(clear dn);(obtain⟨an,au⟩ : ∃y_:List Int,y_=(af++[rd l1 aa]):=⟨_,rfl⟩);(replace H:(if(rd l1 aa) < ae then(some an) else((Ze2.f ah (wrap64 ((rd l1 aa) - ae))).bind fun aq=>(if aq=true then(Zp1.l0 k1 ah an l1 (l1.length:Int) (wrap64 (aa + 1)) ae al am ak) else(some an))))=some r:=by first|(rw [au];with_reducible exact H)|(have H2_:=(Option.bind_some _ _).symm.trans H;rw [au];with_reducible exact H2_)|(have H2_:=(Option.bind_some _ _).symm.trans H;with_reducible exact H2_)|with_reducible exact H|(rw [au];exact H)|exact H);(have ba:=Za.mk au);(clear au)
   by_cases bo:(rd l1 aa) < ae
   ·rw [if_pos bo] at H
    (have bv:decide ((rd l1 aa) < ae)=true:=decide_eq_true bo);(clear bo);(obtain rfl:=Option.some.inj H);(have ai:0≤(aa:Int):=zD);(have aj:aa < (l1.length:Int):=zD);(obtain⟨ar,ap,ac⟩:=Kd.at_int bl.out aa ai aj);(cases ap);(replace ac:=zX HB ac);(replace ai:=eq_true ai);(replace aj:=eq_true aj);(obtain⟨bw,bx,fp⟩:=Kd.R_slice ag.out);(subst fp)
    go_wp2_with (first|((with_reducible refine Zl1 (f:=36) rfl ?_);refine goesL_ (some 19) rfl rfl Try.func36 (by kernel_rfl) rfl #[.slice bw af.length bx,.int .i64 (rd l1 aa)] rfl (by (try simp only [List.map_toArray,List.map_cons,List.map_nil]);first|done|rfl|(simp only [List.length_drop,List.length_take];rfl)) ?_;(with_reducible refine(Za1.calls k1 _ _ af (rd l1 aa) false _ ?side1 ?side2 bm.out).mono ?_);(case side1=>repeat(first|exact(Kd.R_reads' ag.out).2.2|(with_reducible refine Kd.C_alloc ?_ _)|(with_reducible refine Kd.C_drewN ?_ _)|(with_reducible refine Kd.C_drew ?_)));(case side2=>exact(Kd.R_reads' ag.out).2.1);rintro e w' ⟨rfl,⟨nd,rfl⟩⟩;refine⟨_,rfl,?_⟩)|((with_reducible refine gate_builtin (b:= .append) (xs:=#[.tmp 21,.tmp 23]) rfl ?_);at_builtin;refine Kd.R_append (Kd.int .i64) (w0:=w) w.heap.size rfl (.tmp 21) (.tmp 23) 25 3 (.int .i64 0) 8 rfl Try.underlying25 info3 rfl (by decide) (by omega) (.slice bw af.length bx) af (rd l1 aa) [.int .i64 (rd l1 aa)] (fun _=>True) (fun _=>False) rfl rfl ?aP (fun _ hk=>hk.elim) ?aF ?aO ?aB ?aS ?aL ?_;(case aP=>exact rfl);(case aB=>exact(zH HB));(case aF=>exact(fun _ _=>trivial));(case aO=>exact(zR ag));(case aS=>exact(Zg (zH HB)));(case aL=>have:=az.out;omega);intro v284 gm ho hb hg hat;rw [← ba.out] at ho;replace ab:=Za.mk (Zv1 (g:=ao) (zK ab) hg (Kd.R_ne ag.out ab.out (by decide)));replace HB:=Za.mk (hb);have av:=Za.mk (ho);clear ag;clear ho hb hg hat;obtain⟨dp,dq,dr,dt⟩:=zq4 ab.out;obtain⟨du,dv,dw,dx⟩:=zf4 ab.out))
    go_ret
    exact⟨_,by first|rfl|(simp [Zl,Zk] <;> rfl)|(simp [*,Zl,Zk] <;> rfl),by (with_reducible repeat(first|apply Kd.R_alloc|apply Kd.R_drewN|apply Kd.R_drew));exact av.out,zH HB⟩
   (rw [if_neg bo] at H);(have bv:decide ((rd l1 aa) < ae)=false:=decide_eq_false bo);(clear bo);(replace H:=Option.bind_eq_some_iff.mp H);(obtain⟨aq,bz,H⟩:=H);(replace H:(if aq=true then(Zp1.l0 k1 ah an l1 (l1.length:Int) (wrap64 (aa + 1)) ae al am ak) else(some an))=some r:=H);(have ga:=Za.mk bz);(clear bz)
   by_cases dy:aq=true
   rotate_left
   ·replace dy:=Bool.eq_false_iff.mpr dy
    (subst dy);(have H1:(some an)=some r:=by rw [if_neg (show ¬ (false=true) by decide)] at H;exact H);(clear H);(have H:=H1);(clear H1);(obtain rfl:=Option.some.inj H);(have ai:0≤(aa:Int):=zD);(have aj:aa < (l1.length:Int):=zD);(obtain⟨ar,ap,ac⟩:=Kd.at_int bl.out aa ai aj);(cases ap);(replace ac:=zX HB ac);(replace ai:=eq_true ai);(replace aj:=eq_true aj);(obtain⟨ca,cb,fq⟩:=Kd.R_slice ag.out);(subst fq)
    go_wp2_with (first|((with_reducible refine Zl1 (f:=36) rfl ?_);refine goesL_ (some 19) rfl rfl Try.func36 (by kernel_rfl) rfl #[.slice ca af.length cb,.int .i64 (rd l1 aa)] rfl (by (try simp only [List.map_toArray,List.map_cons,List.map_nil]);first|done|rfl|(simp only [List.length_drop,List.length_take];rfl)) ?_;(with_reducible refine(Za1.calls k1 _ _ af (rd l1 aa) false _ ?side1 ?side2 bm.out).mono ?_);(case side1=>repeat(first|exact(Kd.R_reads' ag.out).2.2|(with_reducible refine Kd.C_alloc ?_ _)|(with_reducible refine Kd.C_drewN ?_ _)|(with_reducible refine Kd.C_drew ?_)));(case side2=>exact(Kd.R_reads' ag.out).2.1);rintro e w' ⟨rfl,⟨nd,rfl⟩⟩;refine⟨_,rfl,?_⟩)|((with_reducible refine gate_builtin (b:= .append) (xs:=#[.tmp 21,.tmp 23]) rfl ?_);at_builtin;refine Kd.R_append (Kd.int .i64) (w0:=w) w.heap.size rfl (.tmp 21) (.tmp 23) 25 3 (.int .i64 0) 8 rfl Try.underlying25 info3 rfl (by decide) (by omega) (.slice ca af.length cb) af (rd l1 aa) [.int .i64 (rd l1 aa)] (fun _=>True) (fun _=>False) rfl rfl ?aP (fun _ hk=>hk.elim) ?aF ?aO ?aB ?aS ?aL ?_;(case aP=>exact rfl);(case aB=>exact(zH HB));(case aF=>exact(fun _ _=>trivial));(case aO=>exact(zR ag));(case aS=>exact(Zg (zH HB)));(case aL=>have:=az.out;omega);intro v284 gn ho hb hg hat;rw [← ba.out] at ho;replace ab:=Za.mk (Zv1 (g:=ao) (zK ab) hg (Kd.R_ne ag.out ab.out (by decide)));replace HB:=Za.mk (hb);have av:=Za.mk (ho);clear ag;clear ho hb hg hat;obtain⟨dz,ea,ec,ee⟩:=zq4 ab.out;obtain⟨ef,eh,ei,ek⟩:=zf4 ab.out)|(go_at_call 38;(with_reducible refine(Ze2.calls ah (wrap64 ((rd l1 aa) - ae)) false _ ga.out).mono ?_);rintro e w' ⟨rfl,⟨nd,rfl⟩⟩))
    go_ret
    exact⟨_,by first|rfl|(simp [Zl,Zk] <;> rfl)|(simp [*,Zl,Zk] <;> rfl),by (with_reducible repeat(first|apply Kd.R_alloc|apply Kd.R_drewN|apply Kd.R_drew));exact av.out,zH HB⟩
   (subst dy);(have H1:(Zp1.l0 k1 ah an l1 (l1.length:Int) (wrap64 (aa + 1)) ae al am ak)=some r:=by rw [if_pos rfl] at H;exact H);(clear H);(have H:=H1);(clear H1);(have H':=Za.mk H);(clear H);(have ai:0≤(aa:Int):=zD);(have aj:aa < (l1.length:Int):=zD);(obtain⟨ar,ap,ac⟩:=Kd.at_int bl.out aa ai aj);(cases ap);(replace ac:=zX HB ac);(replace ai:=eq_true ai);(replace aj:=eq_true aj);(obtain⟨cd,ce,ft⟩:=Kd.R_slice ag.out);(subst ft)
   go_wp2_with (first|((with_reducible refine Zl1 (f:=36) rfl ?_);refine goesL_ (some 19) rfl rfl Try.func36 (by kernel_rfl) rfl #[.slice cd af.length ce,.int .i64 (rd l1 aa)] rfl (by (try simp only [List.map_toArray,List.map_cons,List.map_nil]);first|done|rfl|(simp only [List.length_drop,List.length_take];rfl)) ?_;(with_reducible refine(Za1.calls k1 _ _ af (rd l1 aa) false _ ?side1 ?side2 bm.out).mono ?_);(case side1=>repeat(first|exact(Kd.R_reads' ag.out).2.2|(with_reducible refine Kd.C_alloc ?_ _)|(with_reducible refine Kd.C_drewN ?_ _)|(with_reducible refine Kd.C_drew ?_)));(case side2=>exact(Kd.R_reads' ag.out).2.1);rintro e w' ⟨rfl,⟨nd,rfl⟩⟩;refine⟨_,rfl,?_⟩)|((with_reducible refine gate_builtin (b:= .append) (xs:=#[.tmp 21,.tmp 23]) rfl ?_);at_builtin;refine Kd.R_append (Kd.int .i64) (w0:=w) w.heap.size rfl (.tmp 21) (.tmp 23) 25 3 (.int .i64 0) 8 rfl Try.underlying25 info3 rfl (by decide) (by omega) (.slice cd af.length ce) af (rd l1 aa) [.int .i64 (rd l1 aa)] (fun _=>True) (fun _=>False) rfl rfl ?aP (fun _ hk=>hk.elim) ?aF ?aO ?aB ?aS ?aL ?_;(case aP=>exact rfl);(case aB=>exact(zH HB));(case aF=>exact(fun _ _=>trivial));(case aO=>exact(zR ag));(case aS=>exact(Zg (zH HB)));(case aL=>have:=az.out;omega);intro v284 gp ho hb hg hat;rw [← ba.out] at ho;replace ab:=Za.mk (Zv1 (g:=ao) (zK ab) hg (Kd.R_ne ag.out ab.out (by decide)));replace HB:=Za.mk (hb);have av:=Za.mk (ho);clear ag;clear ho hb hg hat;obtain⟨eo,es,eu,ey⟩:=zq4 ab.out;obtain⟨ez,fa,fb,fc⟩:=zf4 ab.out)|(go_at_call 38;(with_reducible refine(Ze2.calls ah (wrap64 ((rd l1 aa) - ae)) true _ ga.out).mono ?_);rintro e w' ⟨rfl,⟨nd,rfl⟩⟩))
   go_roundg k1
   case measure=>have:=cf.out;omega
   case rel=>exact⟨(an),(wrap64 (aa + 1)),(by first|rfl|(simp;done)|(simp [*];done)),H',⟨by have:=cf.out;omega⟩,⟨zR av⟩,⟨zK ab⟩,⟨zH HB⟩⟩
end Go.Proofs.Ytbifocddbgleeaa.PAheadParses
