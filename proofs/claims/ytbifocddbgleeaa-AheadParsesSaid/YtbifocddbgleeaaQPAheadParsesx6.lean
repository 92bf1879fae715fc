-- By a program.
import Derived.Test.YtbifocddbgleeaaQPAheadParsesx0
namespace Go.Proofs.Ytbifocddbgleeaa.PAheadParses
set_option maxHeartbeats 8000000
set_option maxRecDepth 100000
open Go.RowKit Go.Proofs.YtbifocddbgleeaaW.PrintWords Go.Proofs.YtbifocddbgleeaaW.PrintLast Go.Proofs.YtbifocddbgleeaaW.PrintMore
attribute [local go_sem] max2_int min2_int max_two min_two max_three min_three max_four min_four
set_option linter.unusedVariables false
set_option linter.unusedSimpArgs false
def Zm1.l0:Nat→List Int→Int→Int→List Int→Int→Int→Int→Int→Int→List (S41)→Option (Int × Bool)
  |0,_,_,_,_,_,_,_,_,_,_=>none
  |k + 1,x1,x2,x10,x13,x14,x15,x161000,x161001,x161002,x161003=>if x15 < x14 then(if 0≤x15 then(if x15 < (x13.length:Int) then(if(rd x13 x15) < x161000 then(if 0≤(rd x13 x15) then(some (Go.bits .or .u32 x10 (shl .u32 1 (rd x13 x15)),false)) else(none)) else(if 0≤(wrap64 ((rd x13 x15) - x161000)) then(if(wrap64 ((rd x13 x15) - x161000)) < (x1.length:Int) then(if(Go.bits .and .u32 (shr .u32 x2 (wrap64 ((rd x13 x15) - x161000))) 1)=0 then(some (Go.bits .or .u32 x10 (rd x1 (wrap64 ((rd x13 x15) - x161000))),false)) else(Zm1.l0 k x1 x2 (Go.bits .or .u32 x10 (rd x1 (wrap64 ((rd x13 x15) - x161000)))) x13 x14 (wrap64 (x15 + 1)) x161000 x161001 x161002 x161003)) else(none)) else(none))) else(none)) else(none)) else(some (x10,true))
def Zm1.f (k:Nat) (a0_0:Int) (a0_1:Int) (a0_2:Int) (l0_3:List (S41)) (l1:List Int) (a2:Int) (l3:List Int):Option (Int × Bool):=Zm1.l0 k l1 a2 0 l3 (l3.length:Int) 0 a0_0 a0_1 a0_2 l0_3
theorem Zm1.mono_l: ∀k,(∀y0 y1 y2 y3 y4 y5 y6 y7 y8 y9,LeO (Zm1.l0 k y0 y1 y2 y3 y4 y5 y6 y7 y8 y9) (Zm1.l0 (k + 1) y0 y1 y2 y3 y4 y5 y6 y7 y8 y9))
  |0=>fun _ _ _ _ _ _ _ _ _ _ r h=>by simp [Zm1.l0] at h
  |k + 1=>by
    have ih0:=Zm1.mono_l k
    · intro y0 y1 y2 y3 y4 y5 y6 y7 y8 y9
      unfold Zm1.l0
      repeat' (with_reducible first|apply ih0|exact LeO.refl _|exact LeO.none _|refine LeO.ite ?_ ?_|refine LeO.bind ?_ (fun _=>?_))
theorem Zm1.mono: ∀a0 a1 a2 a3 a4 a5 a6 k,LeO (Zm1.f k a0 a1 a2 a3 a4 a5 a6) (Zm1.f (k + 1) a0 a1 a2 a3 a4 a5 a6):=by
  intro a0 a1 a2 a3 a4 a5 a6 k
  have ih0:=Zm1.mono_l k
  unfold Zm1.f
  repeat' (with_reducible first|apply ih0|exact LeO.refl _|exact LeO.none _|refine LeO.ite ?_ ?_|refine LeO.bind ?_ (fun _=>?_))
theorem Zm1.calls (k : Nat) (ag : Int) (an : Int) (ao : Int) (av : Option Addr) (aw : Nat) (ak : List (S41)) (A1 : Option Addr) (c1 : Nat) (l1 : List Int) (a2 : Int) (A3 : Option Addr) (c3 : Nat) (l3 : List Int) (r1 : Int) (r2 : Bool) (w : World) (ba : Kd.C k41 w av ak.length ak) (bb : ak.length ≤ aw) (dc : Kd.C (Kd.int .u32) w A1 l1.length l1) (dd : l1.length ≤ c1) (de : Kd.C (Kd.int .i64) w A3 l3.length l3) (df : l3.length ≤ c3) (h : Zm1.f k ag an ao ak l1 a2 l3 = some (r1, r2)) :
    Calls Try.prog 23 #[.agg #[.int .i64 ag,.int .i64 an,.int .i64 ao,.slice av ak.length aw],.slice A1 l1.length c1,.int .u32 a2,.slice A3 l3.length c3] w fun e w'=>e= .returned (.tuple #[.int .u32 r1,.bool r2])∧Below w.heap.size w w':=by
 (have dr:=Try.underlying24);(have dw:=Try.underlying3);(have dt:=Try.underlying42);(have dg:=Za.mk ba);(have dh:=Za.mk bb);(clear ba bb);(have di:=Za.mk dc);(have dx:=Za.mk dd);(clear dc dd);(have cn:=Za.mk de);(have dy:=Za.mk df);(clear de df);(have HB:=Za.mk (Below.refl w.heap.size w));(have H:(Zm1.l0 k l1 a2 0 l3 (l3.length:Int) 0 ag an ao ak)=some (r1,r2):=h);(clear h);(have H':=Za.mk H);(clear H)
 go_enter Try.func23,Try.ntmps23
 go_wp2_with (first|((with_reducible refine Zs (N:=4) rfl ?_);refine Zx ?hg (N:=4) ?hd (cs:=#[.int .i64 ag,.int .i64 an,.int .i64 ao,.slice av ak.length aw]) (t:=24) ?hr ?_;(case hd=>rfl);(case hg=>rfl);(case hr=>first|(go_simp;done)|(go_simp;rfl));intro ax hg w5 hbox hb;have ae:=Za.mk (hbox);have dj:=Za.mk ((by rw [hg];exact(Zg (zH HB)):w.heap.size≤ax));have dk:=Za.mk ((by rw [hg];exact(Zg (zH HB)):w.heap.size≤ax));replace HB:=Za.mk (Zh (zH HB) hb);clear hb hbox hg))
 go_loopg [10,15] k (fun kq v10 v15 w'=>∃(af:Int) (aa:Int),v10= .int .u32 af∧v15= .int .i64 aa∧Za (Zm1.l0 kq l1 a2 af l3 (l3.length:Int) aa ag an ao ak=some (r1,r2))∧Za (kq≤k)∧Za (w'.heap[ax]? =some (.cells #[.int .i64 ag,.int .i64 an,.int .i64 ao,(.slice av ak.length aw)] 24 (0,0)))∧Za (Below w.heap.size w w'))
 case atStart=>exact⟨(0),(0),(by first|rfl|(simp;done)|(simp [*];done)),(by first|rfl|(simp;done)|(simp [*];done)),H',⟨Nat.le_refl _⟩,⟨zK ae⟩,⟨zH HB⟩⟩
 case round=>
  (clear H');(try clear c1);(try clear c2);(try clear p2);(try clear c3);(obtain⟨af,aa,rfl,rfl,HA,co,ae,HB⟩:=hrel)
  cases gk with
  |zero=>exact absurd HA.out (by simp [Zm1.l0])
  |succ k1=>
   (have H:=HA.out);(clear HA);(simp only [Zm1.l0] at H)
   by_cases c6:aa < (l3.length:Int)
   rotate_left
   ·rw [if_neg c6] at H
    (have cp:decide (aa < (l3.length:Int))=false:=decide_eq_false c6);(clear c6);(simp only [Option.some.injEq,Prod.mk.injEq] at H);(obtain⟨rfl,rfl⟩:=H)
    go_wp2
    go_ret2
    exact⟨by first|rfl|(simp [Zl,Zk] <;> rfl)|(simp [*,Zl,Zk] <;> rfl),zH HB⟩
   (rw [if_pos c6] at H);(have cp:decide (aa < (l3.length:Int))=true:=decide_eq_true c6);(clear c6)
   by_cases c7:0≤aa
   rotate_left
   ·rw [if_neg c7] at H
    exact absurd H (by simp)
   (rw [if_pos c7] at H);(have du:decide (0≤aa)=true:=decide_eq_true c7);(clear c7)
   by_cases c8:aa < (l3.length:Int)
   rotate_left
   ·rw [if_neg c8] at H
    exact absurd H (by simp)
   (rw [if_pos c8] at H);(have dv:decide (aa < (l3.length:Int))=true:=decide_eq_true c8);(clear c8)
   by_cases c9:(rd l3 aa) < ag
   ·rw [if_pos c9] at H
    (have cq:decide ((rd l3 aa) < ag)=true:=decide_eq_true c9);(clear c9)
    by_cases c10:0≤(rd l3 aa)
    rotate_left
    ·rw [if_neg c10] at H
     exact absurd H (by simp)
    (rw [if_pos c10] at H);(have dl:=eq_true c10);(have dm:decide (0≤(rd l3 aa))=true:=decide_eq_true c10);(clear c10);(obtain⟨ay,ap⟩ : ∃j_:Int,(shl .u32 1 (rd l3 aa))=j_:=⟨_,rfl⟩);(replace H:(some (Go.bits .or .u32 af (ay),false))=some (r1,r2):=by first|(rw [ap] at H;exact H)|(simp only [ap] at H ⊢;exact H));(have bd:(IntKind.u32.wrap (1 * 2 ^ min (rd l3 aa).toNat 32))=ay:=ap);(have be:(rd l3 aa)≤32→(IntKind.u32.wrap (1 * 2 ^ (rd l3 aa).toNat))=ay:=shl_small ap);(have cu:(IntKind.u32.wrap (2 ^ min (rd l3 aa).toNat 32))=ay:=by have h_:=bd;rw [Int.one_mul] at h_;exact h_);(have cw:(rd l3 aa)≤32→(IntKind.u32.wrap (2 ^ (rd l3 aa).toNat))=ay:=fun hle_=>by have h_:=be hle_;rw [Int.one_mul] at h_;exact h_);(simp only [Option.some.injEq,Prod.mk.injEq] at H);(obtain⟨rfl,rfl⟩:=H);(have al:0≤(aa:Int):=zD);(have am:aa < (l3.length:Int):=zD);(obtain⟨bc,az,ac⟩:=Kd.at_int cn.out aa al am);(cases az);(replace ac:=zX HB ac);(replace al:=eq_true al);(replace am:=eq_true am);(obtain⟨bk,bl,bm⟩:=zq3 ae.out)
    (have bn:=zj ae 3 (.slice av ak.length aw));(obtain⟨bo,bp,bq,br⟩:=zf4 ae.out)
    go_wp2
    go_ret2
    exact⟨by first|rfl|(simp [Zl,Zk] <;> rfl)|(simp only [← ap];first|rfl|(simp [Zl,Zk] <;> rfl))|(simp [*,Zl,Zk] <;> rfl),zH HB⟩
   (rw [if_neg c9] at H);(have cq:decide ((rd l3 aa) < ag)=false:=decide_eq_false c9);(clear c9);(obtain⟨ab,ai⟩ : ∃j_:Int,(wrap64 ((rd l3 aa) - ag))=j_:=⟨_,rfl⟩);(replace H:(if 0≤(ab) then(if(ab) < (l1.length:Int) then(if(Go.bits .and .u32 (shr .u32 a2 (ab)) 1)=0 then(some (Go.bits .or .u32 af (rd l1 (ab)),false)) else(Zm1.l0 k1 l1 a2 (Go.bits .or .u32 af (rd l1 (ab))) l3 (l3.length:Int) (wrap64 (aa + 1)) ag an ao ak)) else(none)) else(none))=some (r1,r2):=by first|(rw [ai] at H;exact H)|(simp only [ai] at H ⊢;exact H));(have cy:(IntKind.i64.wrap ((rd l3 aa) - ag))=ab:=(Zc _).trans ai)
   by_cases bs:0≤(ab)
   rotate_left
   ·rw [if_neg bs] at H
    exact absurd H (by simp)
   (rw [if_pos bs] at H);(have dn:decide (0≤(ab))=true:=decide_eq_true bs);(clear bs)
   by_cases bt:(ab) < (l1.length:Int)
   rotate_left
   ·rw [if_neg bt] at H
    exact absurd H (by simp)
   (rw [if_pos bt] at H);(have dp:decide ((ab) < (l1.length:Int))=true:=decide_eq_true bt);(clear bt);(have dq:=eq_true (zD:0≤(ab)));(obtain⟨aq,aj⟩ : ∃j_:Int,(shr .u32 a2 (ab))=j_:=⟨_,rfl⟩);(replace H:(if(Go.bits .and .u32 (aq) 1)=0 then(some (Go.bits .or .u32 af (rd l1 (ab)),false)) else(Zm1.l0 k1 l1 a2 (Go.bits .or .u32 af (rd l1 (ab))) l3 (l3.length:Int) (wrap64 (aa + 1)) ag an ao ak))=some (r1,r2):=by first|(rw [aj] at H;exact H)|(simp only [aj] at H ⊢;exact H));(have da:(a2 / 2 ^ min (ab).toNat 32)=aq:=aj);(have db:(ab)≤32→(a2 / 2 ^ (ab).toNat)=aq:=shr_small aj)
   by_cases bf:(Go.bits .and .u32 (aq) 1)=0
   ·rw [if_pos bf] at H
    (have bh:((Go.bits .and .u32 (aq) 1) == 0)=true:=beq_iff_eq.mpr bf);(have bi:((Go.bits .and .u32 (aq) 1) != 0)=false:=bne_eq_false_iff_eq.mpr bf);(clear bf);(simp only [Option.some.injEq,Prod.mk.injEq] at H);(obtain⟨rfl,rfl⟩:=H);(have al:0≤(aa:Int):=zD);(have am:aa < (l3.length:Int):=zD);(obtain⟨bc,az,ac⟩:=Kd.at_int cn.out aa al am);(cases az);(replace ac:=zX HB ac);(replace al:=eq_true al);(replace am:=eq_true am);(obtain⟨bu,bv,bw,bx⟩:=zq4 ae.out);(obtain⟨bz,ca,cb,cd⟩:=zf4 ae.out);(have ar:0≤((ab):Int):=zD);(have au:(ab) < (l1.length:Int):=zD);(obtain⟨bj,bg,ah⟩:=Kd.at_int di.out (ab) ar au);(cases bg);(replace ah:=zX HB ah);(replace ar:=eq_true ar);(replace au:=eq_true au)
    go_wp2
    go_ret2
    exact⟨by first|rfl|(simp [Zl,Zk] <;> rfl)|(simp only [← ai,← aj];first|rfl|(simp [Zl,Zk] <;> rfl))|(simp [*,Zl,Zk] <;> rfl),zH HB⟩
   (rw [if_neg bf] at H);(have bh:((Go.bits .and .u32 (aq) 1) == 0)=false:=beq_eq_false_iff_ne.mpr bf);(have bi:((Go.bits .and .u32 (aq) 1) != 0)=true:=bne_iff_ne.mpr bf);(have H':=Za.mk H);(clear H);(have al:0≤(aa:Int):=zD);(have am:aa < (l3.length:Int):=zD);(obtain⟨bc,az,ac⟩:=Kd.at_int cn.out aa al am);(cases az);(replace ac:=zX HB ac);(replace al:=eq_true al);(replace am:=eq_true am);(obtain⟨ce,cf,cg,ch⟩:=zq4 ae.out);(obtain⟨ci,cj,ck,cm⟩:=zf4 ae.out);(have ar:0≤((ab):Int):=zD);(have au:(ab) < (l1.length:Int):=zD);(obtain⟨bj,bg,ah⟩:=Kd.at_int di.out (ab) ar au);(cases bg);(replace ah:=zX HB ah);(replace ar:=eq_true ar);(replace au:=eq_true au)
   go_wp2
   (first|go_roundg k1|(simp only [← aj];go_roundg k1)|(simp only [← ai,← aj];go_roundg k1))
   case measure=>have:=co.out;omega
   case rel=>first|exact⟨(Go.bits .or .u32 af (rd l1 (ab))),(wrap64 (aa + 1)),(by first|rfl|(simp;done)|(simp only [← ai] <;> (first|rfl|simp))|(simp [*];done)),(by first|rfl|(simp;done)|(simp [*];done)),H',⟨by have:=co.out;omega⟩,⟨zK ae⟩,⟨zH HB⟩⟩|(subst aj;subst ai;exact⟨(Go.bits .or .u32 af (rd l1 (wrap64 ((rd l3 aa) - ag)))),(wrap64 (aa + 1)),(by first|rfl|(simp;done)|(simp only [← ai] <;> (first|rfl|simp))|(simp [*];done)),(by first|rfl|(simp;done)|(simp [*];done)),H',⟨by have:=co.out;omega⟩,⟨zK ae⟩,⟨zH HB⟩⟩)
mutual
def Zn1.l0:Nat→Int→List Int→Bool→Int→Int→Int→List (S41)→Option (List Int)
  |0,_,_,_,_,_,_,_=>none
  |k + 1,x1,x5,x6,x164000,x164001,x164002,x164003=>if x6=true then(Zn1.l1 k x1 x5 false x164003 (x164003.length:Int) 0 x164000 x164001 x164002 x164003) else(some x5)
def Zn1.l1:Nat→Int→List Int→Bool→List (S41)→Int→Int→Int→Int→Int→List (S41)→Option (List Int)
  |0,_,_,_,_,_,_,_,_,_,_=>none
  |k + 1,x1,x5,x6,x16,x17,x18,x164000,x164001,x164002,x164003=>if x18 < x17 then(if 0≤x18 then(if x18 < (x16.length:Int) then((Zm1.f k x164000 x164001 x164002 x164003 x5 x1 ((Zb x16 x18).f1)).bind fun bt169=>(if x6=true then(if 0≤((Zb x16 x18).f0) then(if((Zb x16 x18).f0) < (x5.length:Int) then(Zn1.l1 k x1 (x5.set (((Zb x16 x18).f0):Int).toNat (Go.bits .or .u32 (rd x5 ((Zb x16 x18).f0)) bt169.1)) true x16 x17 (wrap64 (x18 + 1)) x164000 x164001 x164002 x164003) else(none)) else(none)) else(if 0≤((Zb x16 x18).f0) then(if((Zb x16 x18).f0) < (x5.length:Int) then(Zn1.l1 k x1 (x5.set (((Zb x16 x18).f0):Int).toNat (Go.bits .or .u32 (rd x5 ((Zb x16 x18).f0)) bt169.1)) ((Go.bits .andNot .u32 bt169.1 (rd x5 ((Zb x16 x18).f0))) != 0) x16 x17 (wrap64 (x18 + 1)) x164000 x164001 x164002 x164003) else(none)) else(none)))) else(none)) else(none)) else(Zn1.l0 k x1 x5 x6 x164000 x164001 x164002 x164003)
end
def Zn1.f (k:Nat) (a0_0:Int) (a0_1:Int) (a0_2:Int) (l0_3:List (S41)) (a1:Int):Option (List Int):=if 0≤a0_1 then(if(a0_1:Int).toNat≤70368744177664 then(Zn1.l0 k a1 (List.replicate (a0_1:Int).toNat 0) true a0_0 a0_1 a0_2 l0_3) else(none)) else(none)
theorem Zn1.mono_l: ∀k,(∀y0 y1 y2 y3 y4 y5 y6,LeO (Zn1.l0 k y0 y1 y2 y3 y4 y5 y6) (Zn1.l0 (k + 1) y0 y1 y2 y3 y4 y5 y6))∧(∀y0 y1 y2 y3 y4 y5 y6 y7 y8 y9,LeO (Zn1.l1 k y0 y1 y2 y3 y4 y5 y6 y7 y8 y9) (Zn1.l1 (k + 1) y0 y1 y2 y3 y4 y5 y6 y7 y8 y9))
  |0=>⟨fun _ _ _ _ _ _ _ r h=>by simp [Zn1.l0] at h,fun _ _ _ _ _ _ _ _ _ _ r h=>by simp [Zn1.l1] at h⟩
  |k + 1=>by
    obtain⟨ih0,ih1⟩:=Zn1.mono_l k
    refine⟨?_,?_⟩
    · intro y0 y1 y2 y3 y4 y5 y6
      unfold Zn1.l0
      repeat' (with_reducible first|apply ih0|apply ih1|apply Zm1.mono|exact LeO.refl _|exact LeO.none _|refine LeO.ite ?_ ?_|refine LeO.bind ?_ (fun _=>?_))
    · intro y0 y1 y2 y3 y4 y5 y6 y7 y8 y9
      unfold Zn1.l1
      repeat' (with_reducible first|apply ih0|apply ih1|apply Zm1.mono|exact LeO.refl _|exact LeO.none _|refine LeO.ite ?_ ?_|refine LeO.bind ?_ (fun _=>?_))
theorem Zn1.mono: ∀a0 a1 a2 a3 a4 k,LeO (Zn1.f k a0 a1 a2 a3 a4) (Zn1.f (k + 1) a0 a1 a2 a3 a4):=by
  intro a0 a1 a2 a3 a4 k
  obtain⟨ih0,ih1⟩:=Zn1.mono_l k
  unfold Zn1.f
  repeat' (with_reducible first|apply ih0|apply ih1|apply Zm1.mono|exact LeO.refl _|exact LeO.none _|refine LeO.ite ?_ ?_|refine LeO.bind ?_ (fun _=>?_))
theorem Zn1.calls (k : Nat) (al : Int) (ag : Int) (am : Int) (bj : Option Addr) (ax : Nat) (ab : List (S41)) (a1 : Int) (r : List Int) (w : World) (cg : Kd.C k41 w bj ab.length ab) (ch : ab.length ≤ ax) (h : Zn1.f k al ag am ab a1 = some r) :
    Calls Try.prog 21 #[.agg #[.int .i64 al,.int .i64 ag,.int .i64 am,.slice bj ab.length ax],.int .u32 a1] w fun e w'=>∃v0_:Value,e= .returned (v0_)∧Kd.R (Kd.int .u32) 42 w' w.heap.size (fun _=>True) v0_ r∧Below w.heap.size w w':=by
 (have jc:=Try.underlying24);(have jh:=Try.underlying3);(have jd:=Try.underlying41);(have je:=Try.underlying42);(have bg:=Za.mk cg);(have ci:=Za.mk ch);(clear cg ch);(have HB:=Za.mk (Below.refl w.heap.size w));(have H:(if 0≤ag then(if(ag:Int).toNat≤70368744177664 then(Zn1.l0 k a1 (List.replicate (ag:Int).toNat 0) true al ag am ab) else(none)) else(none))=some r:=h);(clear h)
 by_cases c3:0≤ag
 rotate_left
 ·rw [if_neg c3] at H
  exact absurd H (by simp)
 (rw [if_pos c3] at H);(have df:=eq_true c3);(have dg:decide (0≤ag)=true:=decide_eq_true c3);(clear c3)
 by_cases c4:(ag:Int).toNat≤70368744177664
 rotate_left
 ·rw [if_neg c4] at H
  exact absurd H (by simp)
 (rw [if_pos c4] at H);(have dh:=eq_true c4);(have di:decide ((ag:Int).toNat≤70368744177664)=true:=decide_eq_true c4);(clear c4);(obtain⟨dj,bb⟩ : ∃y_:List Int,y_=(List.replicate (ag:Int).toNat 0):=⟨_,rfl⟩);(replace H:(Zn1.l0 k a1 dj true al ag am ab)=some r:=by first|(rw [bb];with_reducible exact H)|(have H2_:=(Option.bind_some _ _).symm.trans H;rw [bb];with_reducible exact H2_)|(have H2_:=(Option.bind_some _ _).symm.trans H;with_reducible exact H2_)|with_reducible exact H|(rw [bb];exact H)|exact H);(have cj:=Za.mk bb);(clear bb);(have H':=Za.mk H);(clear H)
 go_enter Try.func21,Try.ntmps21
 go_wp2_with (first|((with_reducible refine Zs (N:=2) rfl ?_);refine Zx ?hg (N:=2) ?hd (cs:=#[.int .i64 al,.int .i64 ag,.int .i64 am,.slice bj ab.length ax]) (t:=24) ?hr ?_;(case hd=>rfl);(case hg=>rfl);(case hr=>first|(go_simp;done)|(go_simp;rfl));intro aj hg w5 hbox hb;have ac:=Za.mk (hbox);have ig:=Za.mk ((by rw [hg];exact(Zg (zH HB)):w.heap.size≤aj));have ii:=Za.mk ((by rw [hg];exact(Zg (zH HB)):w.heap.size≤aj));replace HB:=Za.mk (Zh (zH HB) hb);clear hb hbox hg;obtain⟨bk,bl,bm,bn⟩:=zq4 ac.out;obtain⟨bo,bp,bq,br⟩:=zf4 ac.out)|((with_reducible refine Zs (N:=13) rfl ?_);refine Kd.R_make (Kd.int .u32) _ 42 rfl (N:=13) rfl 37 _ _ rfl ag rfl rfl Try.underlying37 (.int .u32 0) 4 info42 rfl (by decide) (by omega) 0 (ok:=fun _=>True) (okp:=fun _=>True) rfl (fun _ hk=>hk) trivial (zD) (Nat.le_trans (Nat.mul_le_mul_right _ (zD:ag.toNat≤70368744177664)) (by omega)) (Below.refl _ _) (Nat.le_refl _) ?_;intro v165 w7 ho8 hb hg_ hnew_;clear hg_ hnew_;(first|rw [← cj.out] at ho8|(simp only [Int.reduceToNat] at ho8;rw [← cj.out] at ho8));have dk:=Za.mk (Kd.R_lower ho8 (Zg (zH HB)));replace ac:=Za.mk (Zj (g:=aj) (zK ac) hb);replace HB:=Za.mk (Zh (zH HB) hb);clear hb ho8))
 go_loopg [6] k (fun kq v6 w'=>∃(bh:List Int) (bs:Bool),v6= .bool bs∧Za (Zn1.l0 kq a1 bh bs al ag am ab=some r)∧Za (kq≤k)∧Za (Kd.R (Kd.int .u32) 42 w' w.heap.size (fun _=>True) v165 bh)∧Za (w'.heap[aj]? =some (.cells #[.int .i64 al,.int .i64 ag,.int .i64 am,(.slice bj ab.length ax)] 24 (0,0)))∧Za (Below w.heap.size w w'))
 case atStart=>exact⟨(dj),(true),(by first|rfl|(simp;done)|(simp [*];done)),H',⟨Nat.le_refl _⟩,⟨zR dk⟩,⟨zK ac⟩,⟨zH HB⟩⟩
 case round=>
  (clear H');(try clear c2);(try clear p2);(try clear df);(try clear dg);(try clear dh);(try clear di);(try clear bk bl bm bn bo bp bq br);(obtain⟨bh,bs,rfl,HA,dc,af,ac,HB⟩:=hrel)
  cases gk with
  |zero=>exact absurd HA.out (by simp [Zn1.l0])
  |succ k1=>
   (have H:=HA.out);(clear HA);(simp only [Zn1.l0] at H)
   by_cases c9:bs=true
   rotate_left
   ·replace c9:=Bool.eq_false_iff.mpr c9
    (subst c9);(have H1:(some bh)=some r:=by rw [if_neg (show ¬ (false=true) by decide)] at H;exact H);(clear H);(have H:=H1);(clear H1);(obtain rfl:=Option.some.inj H)
    go_wp2
    go_ret
    exact⟨_,by first|rfl|(simp [Zl,Zk] <;> rfl)|(simp [*,Zl,Zk] <;> rfl),by (with_reducible repeat(first|apply Kd.R_alloc|apply Kd.R_drewN|apply Kd.R_drew));exact af.out,zH HB⟩
   (subst c9);(have H1:(Zn1.l1 k1 a1 bh false ab (ab.length:Int) 0 al ag am ab)=some r:=by rw [if_pos rfl] at H;exact H);(clear H);(have H:=H1);(clear H1);(have H':=Za.mk H);(clear H);(obtain⟨bt,bu,bv,bw⟩:=zq4 ac.out);(obtain⟨bx,bz,ca,cb⟩:=zf4 ac.out)
   go_wp2
   go_loopg [6,18] k1 (fun kq v6 v18 w'=>∃(ae:List Int) (bi:Bool) (aa:Int),v6= .bool bi∧v18= .int .i64 aa∧Za (Zn1.l1 kq a1 ae bi ab (ab.length:Int) aa al ag am ab=some r)∧Za (kq≤k1)∧Za (Kd.R (Kd.int .u32) 42 w' w.heap.size (fun _=>True) v165 ae)∧Za (w'.heap[aj]? =some (.cells #[.int .i64 al,.int .i64 ag,.int .i64 am,(.slice bj ab.length ax)] 24 (0,0)))∧Za (Below w.heap.size w w'))
   case atStart=>exact⟨(bh),(false),(0),(by first|rfl|(simp;done)|(simp [*];done)),(by first|rfl|(simp;done)|(simp [*];done)),H',⟨Nat.le_refl _⟩,⟨zR af⟩,⟨zK ac⟩,⟨zH HB⟩⟩
   case round=>
    (clear H');(try clear c2);(try clear p2);(try clear df);(try clear dg);(try clear dh);(try clear di);(try clear c9);(try clear bt bu bv bw bk bl bm bn bx bz ca cb bo bp bq br);(try clear p2);(obtain⟨ae,bi,aa,rfl,rfl,HA,dd,af,ac,HB⟩:=hrel)
    cases gk with
    |zero=>exact absurd HA.out (by simp [Zn1.l1])
    |succ k2=>
     (have H:=HA.out);(clear HA);(simp only [Zn1.l1] at H)
     by_cases de:aa < (ab.length:Int)
     rotate_left
     ·rw [if_neg de] at H
      (have dl:decide (aa < (ab.length:Int))=false:=decide_eq_false de);(clear de);(have H':=Za.mk H);(clear H)
      go_wp2
      go_roundg k2
      case measure=>have:=dc.out;have:=dd.out;omega
      case rel=>exact⟨(ae),(bi),(by first|rfl|(simp;done)|(simp [*];done)),H',⟨by have:=dc.out;have:=dd.out;omega⟩,⟨zR af⟩,⟨zK ac⟩,⟨zH HB⟩⟩
     (rw [if_pos de] at H);(have dl:decide (aa < (ab.length:Int))=true:=decide_eq_true de);(clear de)
     by_cases ea:0≤aa
     rotate_left
     ·rw [if_neg ea] at H
      exact absurd H (by simp)
     (rw [if_pos ea] at H);(have ik:decide (0≤aa)=true:=decide_eq_true ea);(clear ea)
     by_cases ec:aa < (ab.length:Int)
     rotate_left
     ·rw [if_neg ec] at H
      exact absurd H (by simp)
     (rw [if_pos ec] at H);(have il:decide (aa < (ab.length:Int))=true:=decide_eq_true ec);(clear ec);(replace H:=Option.bind_eq_some_iff.mp H);(obtain⟨⟨ap,dm⟩,dn,H⟩:=H);(replace H:(if bi=true then(if 0≤((Zb ab aa).f0) then(if((Zb ab aa).f0) < (ae.length:Int) then(Zn1.l1 k2 a1 (ae.set (((Zb ab aa).f0):Int).toNat (Go.bits .or .u32 (rd ae ((Zb ab aa).f0)) ap)) true ab (ab.length:Int) (wrap64 (aa + 1)) al ag am ab) else(none)) else(none)) else(if 0≤((Zb ab aa).f0) then(if((Zb ab aa).f0) < (ae.length:Int) then(Zn1.l1 k2 a1 (ae.set (((Zb ab aa).f0):Int).toNat (Go.bits .or .u32 (rd ae ((Zb ab aa).f0)) ap)) ((Go.bits .andNot .u32 ap (rd ae ((Zb ab aa).f0))) != 0) ab (ab.length:Int) (wrap64 (aa + 1)) al ag am ab) else(none)) else(none)))=some r:=H);(have io:=Za.mk dn);(clear dn)
     by_cases ee:bi=true
     ·subst ee
      (have H1:(if 0≤((Zb ab aa).f0) then(if((Zb ab aa).f0) < (ae.length:Int) then(Zn1.l1 k2 a1 (ae.set (((Zb ab aa).f0):Int).toNat (Go.bits .or .u32 (rd ae ((Zb ab aa).f0)) ap)) true ab (ab.length:Int) (wrap64 (aa + 1)) al ag am ab) else(none)) else(none))=some r:=by rw [if_pos rfl] at H;exact H);(clear H);(have H:=H1);(clear H1)
      by_cases ef:0≤((Zb ab aa).f0)
      rotate_left
      ·rw [if_neg ef] at H
       exact absurd H (by simp)
      (rw [if_pos ef] at H);(have ip:decide (0≤((Zb ab aa).f0))=true:=decide_eq_true ef);(clear ef)
      by_cases eh:((Zb ab aa).f0) < (ae.length:Int)
      rotate_left
      ·rw [if_neg eh] at H
       exact absurd H (by simp)
      (rw [if_pos eh] at H);(have iq:decide (((Zb ab aa).f0) < (ae.length:Int))=true:=decide_eq_true eh);(clear eh);(obtain⟨ck,bc⟩ : ∃y_:List Int,y_=(ae.set (((Zb ab aa).f0):Int).toNat (Go.bits .or .u32 (rd ae ((Zb ab aa).f0)) ap)):=⟨_,rfl⟩);(replace H:(Zn1.l1 k2 a1 ck true ab (ab.length:Int) (wrap64 (aa + 1)) al ag am ab)=some r:=by first|(rw [bc];with_reducible exact H)|(have H2_:=(Option.bind_some _ _).symm.trans H;rw [bc];with_reducible exact H2_)|(have H2_:=(Option.bind_some _ _).symm.trans H;with_reducible exact H2_)|with_reducible exact H|(rw [bc];exact H)|exact H);(have dp:=Za.mk bc);(clear bc);(have H':=Za.mk H);(clear H);(have be:0≤(aa:Int):=zD);(have bf:aa < (ab.length:Int):=zD);(obtain⟨aq,an,ao,cm,ar,au,av,aw⟩:=at_T41 bg.out aa be bf);(cases cm);(replace ar:=zX HB ar);(replace au:=zX HB au);(have az:=Za.mk aw);(have ba:=Za.mk av);(clear aw av);(replace be:=eq_true be);(replace bf:=eq_true bf)
      go_wp2_with (first|((with_reducible refine Zs (N:=8) rfl ?_);refine Zx ?hg (N:=8) ?hd (cs:=#[.int .i64 0,.slice none 0 0]) (t:=41) ?hr ?_;(case hd=>rfl);(case hg=>rfl);(case hr=>first|(go_simp;done)|(go_simp;rfl));intro ai hg ji hbox hb;replace af:=Za.mk (Kd.R_below (zR af) hb);have ah:=Za.mk (hbox);have dq:=Za.mk ((by rw [hg];exact(Zg (zH HB)):w.heap.size≤ai));have dr:=Za.mk ((by rw [hg];exact(Zg (zH HB)):w.heap.size≤ai));replace HB:=Za.mk (Zh (zH HB) hb);have ak:=Za.mk ((by rw [hg];exact Nat.ne_of_lt (Zu (g:=aj) (o:= .cells #[.int .i64 al,.int .i64 ag,.int .i64 am,.slice (some aq) ab.length ax] 24 (0,0)) (zK ac)):aj≠ai));have ay:=Za.mk ((by rw [hg];exact Nat.ne_of_gt (Zu (g:=aj) (o:= .cells #[.int .i64 al,.int .i64 ag,.int .i64 am,.slice (some aq) ab.length ax] 24 (0,0)) (zK ac)):ai≠aj));replace ac:=Za.mk (Zj (g:=aj) (zK ac) hb);clear hb hbox hg;have ir:=ay.out;have iu:=ak.out;obtain⟨ei,ek⟩:=zq2 ah.out;obtain⟨eo,es⟩:=zf2 ah.out;obtain⟨eu,ey,ez,fa⟩:=zq4 ac.out;obtain⟨fb,fc,fd,fe⟩:=zf4 ac.out;obtain⟨gl,cn,gm⟩:=Kd.R_slice af.out;subst gm)|((with_reducible refine Zl1 (f:=23) rfl ?_);refine goesL_ (some 28) rfl rfl Try.func23 (by kernel_rfl) rfl #[.agg #[.int .i64 al,.int .i64 ag,.int .i64 am,.slice (some aq) ab.length ax],.slice gl ae.length cn,.int .u32 a1,.slice an ((Zb ab aa).f1).length ao] rfl (by (try simp only [List.map_toArray,List.map_cons,List.map_nil]);first|done|rfl|(simp only [List.length_drop,List.length_take];rfl)) ?_;(with_reducible refine(Zm1.calls k2 al ag am _ _ ab _ _ ae a1 _ _ ((Zb ab aa).f1) ap dm _ ?side1 ?side2 ?side3 ?side4 ?side5 ?side6 io.out).mono ?_);(case side1=>exact Kd.C_below bg.out (zH HB));(case side2=>exact ci.out);(case side3=>refine(Kd.R_reads' (e:=42) (base:=w.heap.size) (ok:=fun k_=>True) (n:=ae.length) (c:=cn) ?_).2.2;exact(by (with_reducible repeat(first|apply Kd.R_alloc|apply Kd.R_drewN|apply Kd.R_drew));exact(Kd.R_mono (Kd.R_far (p:=⟨ai,1,none⟩) (Kd.R_far (p:=⟨ai,0,none⟩) (Kd.R_types af.out ah.out (by decide)) (fun _ hk=>hk.2) (.int .i64 ((Zb ab aa).f0))) (fun _ hk=>hk.2) (.slice an ((Zb ab aa).f1).length ao)) (fun _ h_=>h_.1))));(case side4=>exact(Kd.R_reads' af.out).2.1);(case side5=>exact Kd.C_below az.out (zH HB));(case side6=>exact ba.out);rintro e iv ⟨rfl,hb⟩;refine⟨_,rfl,?_⟩;replace af:=Za.mk (Kd.R_below (by (with_reducible repeat(first|apply Kd.R_alloc|apply Kd.R_drewN|apply Kd.R_drew));exact(Kd.R_mono (Kd.R_far (p:=⟨ai,1,none⟩) (Kd.R_far (p:=⟨ai,0,none⟩) (Kd.R_types af.out ah.out (by decide)) (fun _ hk=>hk.2) (.int .i64 ((Zb ab aa).f0))) (fun _ hk=>hk.2) (.slice an ((Zb ab aa).f1).length ao)) (fun _ h_=>h_.1))) hb);replace ac:=Za.mk (Zj (g:=aj) (o:= .cells #[.int .i64 al,.int .i64 ag,.int .i64 am,.slice (some aq) ab.length ax] 24 (0,0)) (by (with_reducible repeat(first|refine Zn ?_ _|refine Zi ?_|refine Zm ?_ _));refine Zv ?_ ak.out _;(with_reducible repeat(first|refine Zn ?_ _|refine Zi ?_|refine Zm ?_ _));refine Zv ?_ ak.out _;(with_reducible repeat(first|apply zb3|apply zb2|apply zb1));exact ac.out) hb);replace ah:=Za.mk (Zj (g:=ai) (o:= .cells #[.int .i64 ((Zb ab aa).f0),.slice an ((Zb ab aa).f1).length ao] 41 (0,0)) (by (with_reducible repeat(first|refine Zn ?_ _|refine Zi ?_|refine Zm ?_ _));refine Zs1 (cs:=#[.int .i64 ((Zb ab aa).f0),.slice none 0 0]) ?_ 1 _ rfl;(with_reducible repeat(first|refine Zn ?_ _|refine Zi ?_|refine Zm ?_ _));refine Zs1 (cs:=#[.int .i64 0,.slice none 0 0]) ?_ 0 _ rfl;(with_reducible repeat(first|apply zb3|apply zb2|apply zb1));exact ah.out) hb);replace HB:=Za.mk (Zh (zH HB) hb);(try clear hb);(try clear hb2);(try clear hk);(try clear hi);obtain⟨ff,fg⟩:=zq2 ah.out;obtain⟨fh,fi⟩:=zf2 ah.out;have co:0≤(((Zb ab aa).f0):Int):=zD;have cp:((Zb ab aa).f0) < (ae.length:Int):=zD;obtain⟨iw,gn,cd⟩:=Kd.at_int (Kd.R_reads' af.out).2.2 ((Zb ab aa).f0) co cp;cases gn;replace co:=eq_true co;replace cp:=eq_true cp;have gp:0≤(((Zb ab aa).f0):Int):=zD;have gq:(((Zb ab aa).f0):Int) < ((ae.length:Int):Int):=zD;obtain⟨go18,jf,dt,du,gl18,cl18,HG18⟩:=Kd.R_form af.out (by omega);(first|cases dt|(injection dt with ea_ en_ ec_;(first|subst ea_|(injection ea_ with ea_;subst ea_));subst ec_;clear en_));have GB18:=Za.mk du;have GG18:=Za.mk HG18;clear du gl18 HG18;(first|simp only [add_plain] at cd|skip);obtain⟨gu,hf18_0⟩:=Kd.R_celln 0 af.out (((Zb ab aa).f0):Int) gp gq;replace gp:=eq_true gp;replace gq:=eq_true gq;obtain⟨hy26_,hz26_⟩:=Kd.R_celln 0 af.out (((Zb ab aa).f0):Int) (zD) (zD);have HP26:=Kd.R_putg af.out (((Zb ab aa).f0):Int) (Go.bits .or .u32 (rd ae ((Zb ab aa).f0)) ap))|((with_reducible refine gate_store (t:=42) (p:=49) rfl ?_);refine store_event (t:=42) (p:=49) (v:=?vo_w27) (w1:=(iv.setCell ⟨go18,(((Zb ab aa).f0):Int).toNat,none⟩ (.int .u32 (Go.bits .or .u32 (rd ae ((Zb ab aa).f0)) ap)))) ?hg ?ho ?hn ?hr ?_;(case ho=>rfl);(case hg=>rfl);(case hn=>rfl);(case hr=>first|(go_simp;done)|(go_simp;rfl));intro gv hw;have hg:iv.grownBy gv (some go18):=(by rw [hw];exact HP26.2);have hp_:Kd.R (Kd.int .u32) 42 gv w.heap.size (fun _=>True) (.slice (some ⟨go18,0,none⟩) ae.length cn) ck:=(by rw [hw,dp.out];exact HP26.1);clear HP26;replace ac:=Za.mk (Zv1 (g:=aj) (zK ac) hg (Kd.R_ne af.out ac.out (by decide)));replace ah:=Za.mk (Zv1 (g:=ai) (zK ah) hg (Kd.R_ne af.out ah.out (by decide)));replace af:=Za.mk (hp_);replace HB:=Za.mk ((by rw [hw];exact below_set (HB.out) GB18.out:Below w.heap.size w gv));clear hg hw hp_))
      go_roundg k2
      case measure=>have:=dc.out;have:=dd.out;omega
      case rel=>exact⟨(ck),(true),(wrap64 (aa + 1)),(by first|rfl|(simp;done)|(simp [*];done)),(by first|rfl|(simp;done)|(simp [*];done)),H',⟨by have:=dc.out;have:=dd.out;omega⟩,⟨zR af⟩,⟨zK ac⟩,⟨zH HB⟩⟩
     (replace ee:=Bool.eq_false_iff.mpr ee);(subst ee);(have H1:(if 0≤((Zb ab aa).f0) then(if((Zb ab aa).f0) < (ae.length:Int) then(Zn1.l1 k2 a1 (ae.set (((Zb ab aa).f0):Int).toNat (Go.bits .or .u32 (rd ae ((Zb ab aa).f0)) ap)) ((Go.bits .andNot .u32 ap (rd ae ((Zb ab aa).f0))) != 0) ab (ab.length:Int) (wrap64 (aa + 1)) al ag am ab) else(none)) else(none))=some r:=by rw [if_neg (show ¬ (false=true) by decide)] at H;exact H);(clear H);(have H:=H1);(clear H1)
     by_cases fj:0≤((Zb ab aa).f0)
     rotate_left
     ·rw [if_neg fj] at H
      exact absurd H (by simp)
     (rw [if_pos fj] at H);(have ix:decide (0≤((Zb ab aa).f0))=true:=decide_eq_true fj);(clear fj)
     by_cases fk:((Zb ab aa).f0) < (ae.length:Int)
     rotate_left
     ·rw [if_neg fk] at H
      exact absurd H (by simp)
     (rw [if_pos fk] at H);(have iy:decide (((Zb ab aa).f0) < (ae.length:Int))=true:=decide_eq_true fk);(clear fk);(obtain⟨cq,bd⟩ : ∃y_:List Int,y_=(ae.set (((Zb ab aa).f0):Int).toNat (Go.bits .or .u32 (rd ae ((Zb ab aa).f0)) ap)):=⟨_,rfl⟩);(replace H:(Zn1.l1 k2 a1 cq ((Go.bits .andNot .u32 ap (rd ae ((Zb ab aa).f0))) != 0) ab (ab.length:Int) (wrap64 (aa + 1)) al ag am ab)=some r:=by first|(rw [bd];with_reducible exact H)|(have H2_:=(Option.bind_some _ _).symm.trans H;rw [bd];with_reducible exact H2_)|(have H2_:=(Option.bind_some _ _).symm.trans H;with_reducible exact H2_)|with_reducible exact H|(rw [bd];exact H)|exact H);(have dv:=Za.mk bd);(clear bd);(have H':=Za.mk H);(clear H);(have be:0≤(aa:Int):=zD);(have bf:aa < (ab.length:Int):=zD);(obtain⟨aq,an,ao,cm,ar,au,av,aw⟩:=at_T41 bg.out aa be bf);(cases cm);(replace ar:=zX HB ar);(replace au:=zX HB au);(have az:=Za.mk aw);(have ba:=Za.mk av);(clear aw av);(replace be:=eq_true be);(replace bf:=eq_true bf)
     go_wp2_with (first|((with_reducible refine Zs (N:=8) rfl ?_);refine Zx ?hg (N:=8) ?hd (cs:=#[.int .i64 0,.slice none 0 0]) (t:=41) ?hr ?_;(case hd=>rfl);(case hg=>rfl);(case hr=>first|(go_simp;done)|(go_simp;rfl));intro ai hg jj hbox hb;replace af:=Za.mk (Kd.R_below (zR af) hb);have ah:=Za.mk (hbox);have dq:=Za.mk ((by rw [hg];exact(Zg (zH HB)):w.heap.size≤ai));have dr:=Za.mk ((by rw [hg];exact(Zg (zH HB)):w.heap.size≤ai));replace HB:=Za.mk (Zh (zH HB) hb);have ak:=Za.mk ((by rw [hg];exact Nat.ne_of_lt (Zu (g:=aj) (o:= .cells #[.int .i64 al,.int .i64 ag,.int .i64 am,.slice (some aq) ab.length ax] 24 (0,0)) (zK ac)):aj≠ai));have ay:=Za.mk ((by rw [hg];exact Nat.ne_of_gt (Zu (g:=aj) (o:= .cells #[.int .i64 al,.int .i64 ag,.int .i64 am,.slice (some aq) ab.length ax] 24 (0,0)) (zK ac)):ai≠aj));replace ac:=Za.mk (Zj (g:=aj) (zK ac) hb);clear hb hbox hg;have iz:=ay.out;have ja:=ak.out;obtain⟨fm,fo⟩:=zq2 ah.out;obtain⟨fp,fq⟩:=zf2 ah.out;obtain⟨ft,fu,fv,fw⟩:=zq4 ac.out;obtain⟨fx,fy,fz,ga⟩:=zf4 ac.out;obtain⟨gw,cu,gx⟩:=Kd.R_slice af.out;subst gx)|((with_reducible refine Zl1 (f:=23) rfl ?_);refine goesL_ (some 28) rfl rfl Try.func23 (by kernel_rfl) rfl #[.agg #[.int .i64 al,.int .i64 ag,.int .i64 am,.slice (some aq) ab.length ax],.slice gw ae.length cu,.int .u32 a1,.slice an ((Zb ab aa).f1).length ao] rfl (by (try simp only [List.map_toArray,List.map_cons,List.map_nil]);first|done|rfl|(simp only [List.length_drop,List.length_take];rfl)) ?_;(with_reducible refine(Zm1.calls k2 al ag am _ _ ab _ _ ae a1 _ _ ((Zb ab aa).f1) ap dm _ ?side1 ?side2 ?side3 ?side4 ?side5 ?side6 io.out).mono ?_);(case side1=>exact Kd.C_below bg.out (zH HB));(case side2=>exact ci.out);(case side3=>refine(Kd.R_reads' (e:=42) (base:=w.heap.size) (ok:=fun k_=>True) (n:=ae.length) (c:=cu) ?_).2.2;exact(by (with_reducible repeat(first|apply Kd.R_alloc|apply Kd.R_drewN|apply Kd.R_drew));exact(Kd.R_mono (Kd.R_far (p:=⟨ai,1,none⟩) (Kd.R_far (p:=⟨ai,0,none⟩) (Kd.R_types af.out ah.out (by decide)) (fun _ hk=>hk.2) (.int .i64 ((Zb ab aa).f0))) (fun _ hk=>hk.2) (.slice an ((Zb ab aa).f1).length ao)) (fun _ h_=>h_.1))));(case side4=>exact(Kd.R_reads' af.out).2.1);(case side5=>exact Kd.C_below az.out (zH HB));(case side6=>exact ba.out);rintro e jb ⟨rfl,hb⟩;refine⟨_,rfl,?_⟩;replace af:=Za.mk (Kd.R_below (by (with_reducible repeat(first|apply Kd.R_alloc|apply Kd.R_drewN|apply Kd.R_drew));exact(Kd.R_mono (Kd.R_far (p:=⟨ai,1,none⟩) (Kd.R_far (p:=⟨ai,0,none⟩) (Kd.R_types af.out ah.out (by decide)) (fun _ hk=>hk.2) (.int .i64 ((Zb ab aa).f0))) (fun _ hk=>hk.2) (.slice an ((Zb ab aa).f1).length ao)) (fun _ h_=>h_.1))) hb);replace ac:=Za.mk (Zj (g:=aj) (o:= .cells #[.int .i64 al,.int .i64 ag,.int .i64 am,.slice (some aq) ab.length ax] 24 (0,0)) (by (with_reducible repeat(first|refine Zn ?_ _|refine Zi ?_|refine Zm ?_ _));refine Zv ?_ ak.out _;(with_reducible repeat(first|refine Zn ?_ _|refine Zi ?_|refine Zm ?_ _));refine Zv ?_ ak.out _;(with_reducible repeat(first|apply zb3|apply zb2|apply zb1));exact ac.out) hb);replace ah:=Za.mk (Zj (g:=ai) (o:= .cells #[.int .i64 ((Zb ab aa).f0),.slice an ((Zb ab aa).f1).length ao] 41 (0,0)) (by (with_reducible repeat(first|refine Zn ?_ _|refine Zi ?_|refine Zm ?_ _));refine Zs1 (cs:=#[.int .i64 ((Zb ab aa).f0),.slice none 0 0]) ?_ 1 _ rfl;(with_reducible repeat(first|refine Zn ?_ _|refine Zi ?_|refine Zm ?_ _));refine Zs1 (cs:=#[.int .i64 0,.slice none 0 0]) ?_ 0 _ rfl;(with_reducible repeat(first|apply zb3|apply zb2|apply zb1));exact ah.out) hb);replace HB:=Za.mk (Zh (zH HB) hb);(try clear hb);(try clear hb2);(try clear hk);(try clear hi);obtain⟨gc,gh⟩:=zq2 ah.out;obtain⟨gi,gj⟩:=zf2 ah.out;have cw:0≤(((Zb ab aa).f0):Int):=zD;have cy:((Zb ab aa).f0) < (ae.length:Int):=zD;obtain⟨dw,gy,ce⟩:=Kd.at_int (Kd.R_reads' af.out).2.2 ((Zb ab aa).f0) cw cy;cases gy;replace cw:=eq_true cw;replace cy:=eq_true cy;have da:0≤(((Zb ab aa).f0):Int):=zD;have db:((Zb ab aa).f0) < (ae.length:Int):=zD;obtain⟨dx,gz,cf⟩:=Kd.at_int (Kd.R_reads' af.out).2.2 ((Zb ab aa).f0) da db;obtain rfl:dw=dx:=(by injection gz);replace da:=eq_true da;replace db:=eq_true db;have ia:0≤(((Zb ab aa).f0):Int):=zD;have ib:(((Zb ab aa).f0):Int) < ((ae.length:Int):Int):=zD;obtain⟨go30,jg,dy,dz,gl30,cl30,HG30⟩:=Kd.R_form af.out (by omega);(first|cases dy|(injection dy with ea_ en_ ec_;(first|subst ea_|(injection ea_ with ea_;subst ea_));subst ec_;clear en_));have GB30:=Za.mk dz;have GG30:=Za.mk HG30;clear dz gl30 HG30;(first|simp only [add_plain] at ce|skip);(first|simp only [add_plain] at cf|skip);obtain⟨ic,hf30_0⟩:=Kd.R_celln 0 af.out (((Zb ab aa).f0):Int) ia ib;replace ia:=eq_true ia;replace ib:=eq_true ib;obtain⟨hy38_,hz38_⟩:=Kd.R_celln 0 af.out (((Zb ab aa).f0):Int) (zD) (zD);have HP38:=Kd.R_putg af.out (((Zb ab aa).f0):Int) (Go.bits .or .u32 (rd ae ((Zb ab aa).f0)) ap))|((with_reducible refine gate_store (t:=42) (p:=49) rfl ?_);refine store_event (t:=42) (p:=49) (v:=?vo_w39) (w1:=(jb.setCell ⟨go30,(((Zb ab aa).f0):Int).toNat,none⟩ (.int .u32 (Go.bits .or .u32 (rd ae ((Zb ab aa).f0)) ap)))) ?hg ?ho ?hn ?hr ?_;(case ho=>rfl);(case hg=>rfl);(case hn=>rfl);(case hr=>first|(go_simp;done)|(go_simp;rfl));intro ie hw;have hg:jb.grownBy ie (some go30):=(by rw [hw];exact HP38.2);have hp_:Kd.R (Kd.int .u32) 42 ie w.heap.size (fun _=>True) (.slice (some ⟨go30,0,none⟩) ae.length cu) cq:=(by rw [hw,dv.out];exact HP38.1);clear HP38;replace ac:=Za.mk (Zv1 (g:=aj) (zK ac) hg (Kd.R_ne af.out ac.out (by decide)));replace ah:=Za.mk (Zv1 (g:=ai) (zK ah) hg (Kd.R_ne af.out ah.out (by decide)));replace af:=Za.mk (hp_);replace HB:=Za.mk ((by rw [hw];exact below_set (HB.out) GB30.out:Below w.heap.size w ie));clear hg hw hp_))
     go_roundg k2
     case measure=>have:=dc.out;have:=dd.out;omega
     case rel=>exact⟨(cq),(((Go.bits .andNot .u32 ap (rd ae ((Zb ab aa).f0))) != 0)),(wrap64 (aa + 1)),(by first|rfl|(simp;done)|(simp [*];done)),(by first|rfl|(simp;done)|(simp [*];done)),H',⟨by have:=dc.out;have:=dd.out;omega⟩,⟨zR af⟩,⟨zK ac⟩,⟨zH HB⟩⟩
end Go.Proofs.Ytbifocddbgleeaa.PAheadParses
