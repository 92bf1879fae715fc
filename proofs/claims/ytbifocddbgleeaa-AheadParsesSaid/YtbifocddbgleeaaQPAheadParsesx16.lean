-- By a program.
import Derived.Test.YtbifocddbgleeaaQPAheadParsesx0
import Derived.Test.YtbifocddbgleeaaQPAheadParsesx13
namespace Go.Proofs.Ytbifocddbgleeaa.PAheadParses
open Go.RowKit Go.Proofs.YtbifocddbgleeaaW.PrintWords Go.Proofs.YtbifocddbgleeaaW.PrintLast Go.Proofs.YtbifocddbgleeaaW.PrintMore
attribute [local go_sem] max2_int min2_int max_two min_two max_three min_three max_four min_four
set_option linter.unusedVariables false
set_option linter.unusedSimpArgs false
mutual
def Zz.l0:Nat→List Int→Int→Int→Int→Int→List (S41)→Option (Int)
  |0,_,_,_,_,_,_=>none
  |k + 1,x3,x4,x308000,x308001,x308002,x308003=>if x4 < (x3.length:Int) then(Zz.l1 k x3 x4 x308003 (x308003.length:Int) 0 x308000 x308001 x308002 x308003) else(Zz.l3 k x3 0 (x3.length:Int) 0)
def Zz.l1:Nat→List Int→Int→List (S41)→Int→Int→Int→Int→Int→List (S41)→Option (Int)
  |0,_,_,_,_,_,_,_,_,_=>none
  |k + 1,x3,x4,x22,x23,x24,x308000,x308001,x308002,x308003=>if x24 < x23 then(if 0≤x24 then(if x24 < (x22.length:Int) then(Zz.l2 k x3 x4 x22 x23 x24 ((Zb x22 x24).f1) (((Zb x22 x24).f1).length:Int) 0 x308000 x308001 x308002 x308003 ((Zb x22 x24).f0) ((Zb x22 x24).f1)) else(none)) else(none)) else(Zz.l0 k x3 (wrap64 (x4 + 1)) x308000 x308001 x308002 x308003)
def Zz.l2:Nat→List Int→Int→List (S41)→Int→Int→List Int→Int→Int→Int→Int→Int→List (S41)→Int→List Int→Option (Int)
  |0,_,_,_,_,_,_,_,_,_,_,_,_,_,_=>none
  |k + 1,x3,x4,x22,x23,x24,x29,x30,x31,x308000,x308001,x308002,x308003,x313000,x313001=>if x31 < x30 then(if 0≤x31 then(if x31 < (x29.length:Int) then(if 0≤x4 then(if x4 < (x3.length:Int) then(if x313000=(rd x3 x4) then(if(rd x29 x31)≥x308000 then((Za1.f k x3 (wrap64 ((rd x29 x31) - x308000))).bind fun t315=>(if t315=true then(Zz.l2 k x3 x4 x22 x23 x24 x29 x30 (wrap64 (x31 + 1)) x308000 x308001 x308002 x308003 x313000 x313001) else(if x3.length < 17592186044416 then(Zz.l2 k (x3++[wrap64 ((rd x29 x31) - x308000)]) x4 x22 x23 x24 x29 x30 (wrap64 (x31 + 1)) x308000 x308001 x308002 x308003 x313000 x313001) else(none)))) else(Zz.l2 k x3 x4 x22 x23 x24 x29 x30 (wrap64 (x31 + 1)) x308000 x308001 x308002 x308003 x313000 x313001)) else(Zz.l2 k x3 x4 x22 x23 x24 x29 x30 (wrap64 (x31 + 1)) x308000 x308001 x308002 x308003 x313000 x313001)) else(none)) else(none)) else(none)) else(none)) else(Zz.l1 k x3 x4 x22 x23 (wrap64 (x24 + 1)) x308000 x308001 x308002 x308003)
def Zz.l3:Nat→List Int→Int→Int→Int→Option (Int)
  |0,_,_,_,_=>none
  |k + 1,x3,x9,x67,x68=>if x68 < x67 then(if 0≤x68 then(if x68 < (x3.length:Int) then(if 0≤(IntKind.u64.wrap (rd x3 x68)) then(Zz.l3 k x3 ((x9 + (shl .u32 1 (IntKind.u64.wrap (rd x3 x68)))) % 4294967296) x67 (wrap64 (x68 + 1))) else(none)) else(none)) else(none)) else(some x9)
end
def Zz.f (k:Nat) (a0_0:Int) (a0_1:Int) (a0_2:Int) (l0_3:List (S41)):Option (Int):=Zz.l0 k (([a0_2] :List Int)) 0 a0_0 a0_1 a0_2 l0_3
theorem Zz.mono_l: ∀k,(∀y0 y1 y2 y3 y4 y5,LeO (Zz.l0 k y0 y1 y2 y3 y4 y5) (Zz.l0 (k + 1) y0 y1 y2 y3 y4 y5))∧(∀y0 y1 y2 y3 y4 y5 y6 y7 y8,LeO (Zz.l1 k y0 y1 y2 y3 y4 y5 y6 y7 y8) (Zz.l1 (k + 1) y0 y1 y2 y3 y4 y5 y6 y7 y8))∧(∀y0 y1 y2 y3 y4 y5 y6 y7 y8 y9 y10 y11 y12 y13,LeO (Zz.l2 k y0 y1 y2 y3 y4 y5 y6 y7 y8 y9 y10 y11 y12 y13) (Zz.l2 (k + 1) y0 y1 y2 y3 y4 y5 y6 y7 y8 y9 y10 y11 y12 y13))∧(∀y0 y1 y2 y3,LeO (Zz.l3 k y0 y1 y2 y3) (Zz.l3 (k + 1) y0 y1 y2 y3))
  |0=>⟨fun _ _ _ _ _ _ r h=>by simp [Zz.l0] at h,fun _ _ _ _ _ _ _ _ _ r h=>by simp [Zz.l1] at h,fun _ _ _ _ _ _ _ _ _ _ _ _ _ _ r h=>by simp [Zz.l2] at h,fun _ _ _ _ r h=>by simp [Zz.l3] at h⟩
  |k + 1=>by
    obtain⟨ih0,ih1,ih2,ih3⟩:=Zz.mono_l k
    refine⟨?_,?_,?_,?_⟩
    · intro y0 y1 y2 y3 y4 y5
      unfold Zz.l0
      repeat' (with_reducible first|apply ih0|apply ih1|apply ih2|apply ih3|apply Za1.mono|exact LeO.refl _|exact LeO.none _|refine LeO.ite ?_ ?_|refine LeO.bind ?_ (fun _=>?_))
    · intro y0 y1 y2 y3 y4 y5 y6 y7 y8
      unfold Zz.l1
      repeat' (with_reducible first|apply ih0|apply ih1|apply ih2|apply ih3|apply Za1.mono|exact LeO.refl _|exact LeO.none _|refine LeO.ite ?_ ?_|refine LeO.bind ?_ (fun _=>?_))
    · intro y0 y1 y2 y3 y4 y5 y6 y7 y8 y9 y10 y11 y12 y13
      unfold Zz.l2
      repeat' (with_reducible first|apply ih0|apply ih1|apply ih2|apply ih3|apply Za1.mono|exact LeO.refl _|exact LeO.none _|refine LeO.ite ?_ ?_|refine LeO.bind ?_ (fun _=>?_))
    · intro y0 y1 y2 y3
      unfold Zz.l3
      repeat' (with_reducible first|apply ih0|apply ih1|apply ih2|apply ih3|apply Za1.mono|exact LeO.refl _|exact LeO.none _|refine LeO.ite ?_ ?_|refine LeO.bind ?_ (fun _=>?_))
theorem Zz.mono: ∀a0 a1 a2 a3 k,LeO (Zz.f k a0 a1 a2 a3) (Zz.f (k + 1) a0 a1 a2 a3):=by
  intro a0 a1 a2 a3 k
  obtain⟨ih0,ih1,ih2,ih3⟩:=Zz.mono_l k
  unfold Zz.f
  repeat' (with_reducible first|apply ih0|apply ih1|apply ih2|apply ih3|apply Za1.mono|exact LeO.refl _|exact LeO.none _|refine LeO.ite ?_ ?_|refine LeO.bind ?_ (fun _=>?_))
set_option maxHeartbeats 8000000 in
set_option maxRecDepth 100000 in
theorem Zz.calls (k : Nat) (ai : Int) (ar : Int) (ak : Int) (bv : Option Addr) (av : Nat) (ab : List (S41)) (r : Int) (w : World) (fq : Kd.C k41 w bv ab.length ab) (ft : ab.length ≤ av) (h : Zz.f k ai ar ak ab = some r) :
    Calls Try.prog 39 #[.agg #[.int .i64 ai,.int .i64 ar,.int .i64 ak,.slice bv ab.length av]] w fun e w'=>e= .returned (.int .u32 r)∧Below w.heap.size w w':=by
 (have kn:=Try.underlying24);(have lg:=Try.underlying3);(have kp:=Try.underlying41);(have kr:=Try.underlying25);(have ib:=Za.mk fq);(have jq:=Za.mk ft);(clear fq ft);(have HB:=Za.mk (Below.refl w.heap.size w));(have H:(Zz.l0 k (([ak] :List Int)) 0 ai ar ak ab)=some r:=h);(clear h);(obtain⟨ic,bw⟩ : ∃y_:List Int,y_=(([ak] :List Int)):=⟨_,rfl⟩);(replace H:(Zz.l0 k ic 0 ai ar ak ab)=some r:=by first|(rw [bw];with_reducible exact H)|(have H2_:=(Option.bind_some _ _).symm.trans H;rw [bw];with_reducible exact H2_)|(have H2_:=(Option.bind_some _ _).symm.trans H;with_reducible exact H2_)|with_reducible exact H|(rw [bw];exact H)|exact H);(have bt:=Za.mk bw);(clear bw);(have H':=Za.mk H);(clear H)
 go_enter Try.func39,Try.ntmps39
 go_wp2_with (first|((with_reducible refine Zs (N:=1) rfl ?_);refine Zx ?hg (N:=1) ?hd (cs:=#[.int .i64 ai,.int .i64 ar,.int .i64 ak,.slice bv ab.length av]) (t:=24) ?hr ?_;(case hd=>rfl);(case hg=>rfl);(case hr=>first|(go_simp;done)|(go_simp;rfl));intro ah hg w2 hbox hb;have ac:=Za.mk (hbox);have fu:=Za.mk ((by rw [hg];exact(Zg (zH HB)):w.heap.size≤ah));have fv:=Za.mk ((by rw [hg];exact(Zg (zH HB)):w.heap.size≤ah));replace HB:=Za.mk (Zh (zH HB) hb);clear hb hbox hg;obtain⟨bc,bd,be,bf⟩:=zq4 ac.out;obtain⟨bg,bh,bi,bj⟩:=zf4 ac.out)|((with_reducible refine Zs (N:=14) rfl ?_);refine Kd.R_lit (Kd.int .i64) _ 3 ?hg (N:=14) ?hd (xs:=([ak] :List Int)) (inner:=[.int .i64 ak]) (ok:=fun _=>True) (okp:=fun _=>True) ?hr ?hp (fun _ hk=>hk) trivial (Below.refl _ _) (Nat.le_refl _) (by simp) ?_;(case hd=>rfl);(case hg=>rfl);(case hr=>first|(go_simp;done)|(go_simp;rfl));(case hp=>exact(Reps.one (show Kd.M (Kd.int .i64) _ _ _ ak [.int .i64 ak] from rfl) (Reps.none _ _)));intro v309 w4 ho5 hb hg_ hnew_;clear hg_ hnew_;(first|rw [← bt.out] at ho5|(simp only [Int.reduceToNat] at ho5;rw [← bt.out] at ho5));have cw:=Za.mk (Kd.R_lower ho5 (Zg (zH HB)));replace ac:=Za.mk (Zj (g:=ah) (zK ac) hb);replace HB:=Za.mk (Zh (zH HB) hb);clear hb ho5))
 repeat(go_quiet (first|((with_reducible refine Zs (N:=1) rfl ?_);refine Zx ?hg (N:=1) ?hd (cs:=#[.int .i64 ai,.int .i64 ar,.int .i64 ak,.slice bv ab.length av]) (t:=24) ?hr ?_;(case hd=>rfl);(case hg=>rfl);(case hr=>first|(go_simp;done)|(go_simp;rfl));intro ah hg w2 hbox hb;have ac:=Za.mk (hbox);have fu:=Za.mk ((by rw [hg];exact(Zg (zH HB)):w.heap.size≤ah));have fv:=Za.mk ((by rw [hg];exact(Zg (zH HB)):w.heap.size≤ah));replace HB:=Za.mk (Zh (zH HB) hb);clear hb hbox hg;obtain⟨bc,bd,be,bf⟩:=zq4 ac.out;obtain⟨bg,bh,bi,bj⟩:=zf4 ac.out)|((with_reducible refine Zs (N:=14) rfl ?_);refine Kd.R_lit (Kd.int .i64) _ 3 ?hg (N:=14) ?hd (xs:=([ak] :List Int)) (inner:=[.int .i64 ak]) (ok:=fun _=>True) (okp:=fun _=>True) ?hr ?hp (fun _ hk=>hk) trivial (Below.refl _ _) (Nat.le_refl _) (by simp) ?_;(case hd=>rfl);(case hg=>rfl);(case hr=>first|(go_simp;done)|(go_simp;rfl));(case hp=>exact(Reps.one (show Kd.M (Kd.int .i64) _ _ _ ak [.int .i64 ak] from rfl) (Reps.none _ _)));intro v309 w4 ho5 hb hg_ hnew_;clear hg_ hnew_;(first|rw [← bt.out] at ho5|(simp only [Int.reduceToNat] at ho5;rw [← bt.out] at ho5));have cw:=Za.mk (Kd.R_lower ho5 (Zg (zH HB)));replace ac:=Za.mk (Zj (g:=ah) (zK ac) hb);replace HB:=Za.mk (Zh (zH HB) hb);clear hb ho5));try go_wp2_with (first|((with_reducible refine Zs (N:=1) rfl ?_);refine Zx ?hg (N:=1) ?hd (cs:=#[.int .i64 ai,.int .i64 ar,.int .i64 ak,.slice bv ab.length av]) (t:=24) ?hr ?_;(case hd=>rfl);(case hg=>rfl);(case hr=>first|(go_simp;done)|(go_simp;rfl));intro ah hg w2 hbox hb;have n0_:=Za.mk (Zh (zH HB) hb);have n1_:=Za.mk (hbox);have n2_:=Za.mk ((by rw [hg];exact(Zg (zH HB)):w.heap.size≤ah));have n3_:=Za.mk ((by rw [hg];exact(Zg (zH HB)):w.heap.size≤ah));clear HB;have HB:=n0_;have ac:=n1_;have fu:=n2_;have fv:=n3_;clear n0_ n1_ n2_ n3_;clear hb hbox hg;obtain⟨bc,bd,be,bf⟩:=zq4 ac.out;obtain⟨bg,bh,bi,bj⟩:=zf4 ac.out)|((with_reducible refine Zs (N:=14) rfl ?_);refine Kd.R_lit (Kd.int .i64) _ 3 ?hg (N:=14) ?hd (xs:=([ak] :List Int)) (inner:=[.int .i64 ak]) (ok:=fun _=>True) (okp:=fun _=>True) ?hr ?hp (fun _ hk=>hk) trivial (Below.refl _ _) (Nat.le_refl _) (by simp) ?_;(case hd=>rfl);(case hg=>rfl);(case hr=>first|(go_simp;done)|(go_simp;rfl));(case hp=>exact(Reps.one (show Kd.M (Kd.int .i64) _ _ _ ak [.int .i64 ak] from rfl) (Reps.none _ _)));intro v309 w4 ho5 hb hg_ hnew_;clear hg_ hnew_;(first|rw [← bt.out] at ho5|(simp only [Int.reduceToNat] at ho5;rw [← bt.out] at ho5));have n0_:=Za.mk (Kd.R_lower ho5 (Zg (zH HB)));have n1_:=Za.mk (Zj (g:=ah) (zK ac) hb);have n2_:=Za.mk (Zh (zH HB) hb);clear ac;clear HB;have cw:=n0_;have ac:=n1_;have HB:=n2_;clear n0_ n1_ n2_;clear hb ho5)))
 go_loopg [3,4] k (fun kq v3 v4 w'=>∃(au:List Int) (am:Int),v4= .int .i64 am∧Za (Zz.l0 kq au am ai ar ak ab=some r)∧Za (kq≤k)∧Za (Kd.R (Kd.int .i64) 3 w' w.heap.size (fun _=>True) v3 au)∧Za (w'.heap[ah]? =some (.cells #[.int .i64 ai,.int .i64 ar,.int .i64 ak,(.slice bv ab.length av)] 24 (0,0)))∧Za (Below w.heap.size w w'))
 case atStart=>exact⟨(ic),(0),(by first|rfl|(simp;done)|(simp [*];done)),H',⟨Nat.le_refl _⟩,⟨zR cw⟩,⟨zK ac⟩,⟨zH HB⟩⟩
 case round=>
  (clear H');(try clear p2);(try clear c3);(try clear bc bd be bf bg bh bi bj);(obtain⟨au,am,rfl,HA,ca,af,ac,HB⟩:=hrel)
  cases gk with
  |zero=>exact absurd HA.out (by simp [Zz.l0])
  |succ k1=>
   (have H:=HA.out);(clear HA);(simp only [Zz.l0] at H)
   by_cases c6:am < (au.length:Int)
   rotate_left
   ·rw [if_neg c6] at H
    (have dj:decide (am < (au.length:Int))=false:=decide_eq_false c6);(clear c6);(have H':=Za.mk H);(clear H);(obtain⟨jf,jg,jh⟩:=Kd.R_slice af.out);(subst jh)
    go_wp2
    repeat(go_quiet (fail);try go_wp2)
    go_loopg [9,68] k1 (fun kq v9 v68 w'=>∃(cb:Int) (aq:Int),v9= .int .u32 cb∧v68= .int .i64 aq∧Za (Zz.l3 kq au cb (au.length:Int) aq=some r)∧Za (kq≤k1)∧Za (Kd.R (Kd.int .i64) 3 w' w.heap.size (fun _=>True) (.slice jf au.length jg) au)∧Za (w'.heap[ah]? =some (.cells #[.int .i64 ai,.int .i64 ar,.int .i64 ak,(.slice bv ab.length av)] 24 (0,0)))∧Za (Below w.heap.size w w'))
    case atStart=>exact⟨(0),(0),(by first|rfl|(simp;done)|(simp [*];done)),(by first|rfl|(simp;done)|(simp [*];done)),H',⟨Nat.le_refl _⟩,⟨zR af⟩,⟨zK ac⟩,⟨zH HB⟩⟩
    case round=>
     (clear H');(try clear c1);(try clear c2);(try clear p2);(try clear c3);(try clear p3);(try clear q3);(try clear kt);(try clear dj);(try clear p6);(try clear gm);(try clear fw);(try clear fx);(try clear ku);(try clear fy);(try clear ie);(try clear ig);(try clear ii);(try clear ik);(try clear fz);(try clear ga);(try clear gc);(try clear il);(try clear lh);(try clear ll);(try clear lm);(try clear lp);(try clear lq);(try clear kv);(try clear lr);(try clear ls);(try clear lu);(try clear bk bl dk dl dm dn dp dq dr dt du dv dw dx dy dz ea ec ee ef eh ei bc bd be bf cd ce cf cg bm bn ek eo es eu ey ez fa fb fc fd fe ff fg fh fi fj fk fm fo fp bg bh bi bj ch ci cj ck);(try clear bo);(try clear bp);(try clear ao);(try clear bq);(try clear p2);(try clear p3);(try clear cy);(try clear aw);(try clear ax);(try clear q3);(try clear da);(try clear ay);(try clear az);(obtain⟨cb,aq,rfl,rfl,HA,bz,af,ac,HB⟩:=hrel)
     cases gk with
     |zero=>exact absurd HA.out (by simp [Zz.l3])
     |succ k2=>
      (have H:=HA.out);(clear HA);(simp only [Zz.l3] at H)
      by_cases gx:aq < (au.length:Int)
      rotate_left
      ·rw [if_neg gx] at H
       (have io:decide (aq < (au.length:Int))=false:=decide_eq_false gx);(clear gx);(obtain rfl:=Option.some.inj H)
       go_wp2
       repeat(go_quiet (fail);try go_wp2)
       go_ret
       exact⟨by first|rfl|(simp [Zl,Zk] <;> rfl)|(simp [*,Zl,Zk] <;> rfl),zH HB⟩
      (rw [if_pos gx] at H);(have io:decide (aq < (au.length:Int))=true:=decide_eq_true gx);(clear gx)
      by_cases iv:0≤aq
      rotate_left
      ·rw [if_neg iv] at H
       exact absurd H (by simp)
      (rw [if_pos iv] at H);(have jr:decide (0≤aq)=true:=decide_eq_true iv);(clear iv)
      by_cases iw:aq < (au.length:Int)
      rotate_left
      ·rw [if_neg iw] at H
       exact absurd H (by simp)
      (rw [if_pos iw] at H);(have js:decide (aq < (au.length:Int))=true:=decide_eq_true iw);(clear iw);(obtain⟨bs,co⟩ : ∃j_:Int,(IntKind.u64.wrap (rd au aq))=j_:=⟨_,rfl⟩);(replace H:(if 0≤(bs) then(Zz.l3 k2 au ((cb + (shl .u32 1 (bs))) % 4294967296) (au.length:Int) (wrap64 (aq + 1))) else(none))=some r:=by first|(rw [co] at H;exact H)|(simp only [co] at H ⊢;exact H))
      by_cases ip:0≤(bs)
      rotate_left
      ·rw [if_neg ip] at H
       exact absurd H (by simp)
      (rw [if_pos ip] at H);(have jt:=eq_true ip);(have ju:decide (0≤(bs))=true:=decide_eq_true ip);(clear ip);(obtain⟨cu,ba⟩ : ∃j_:Int,(shl .u32 1 (bs))=j_:=⟨_,rfl⟩);(replace H:(Zz.l3 k2 au ((cb + (cu)) % 4294967296) (au.length:Int) (wrap64 (aq + 1)))=some r:=by first|(rw [ba] at H;exact H)|(simp only [ba] at H ⊢;exact H));(have gn:(IntKind.u32.wrap (1 * 2 ^ min (bs).toNat 32))=cu:=ba);(have gp:(bs)≤32→(IntKind.u32.wrap (1 * 2 ^ (bs).toNat))=cu:=shl_small ba);(have ji:(IntKind.u32.wrap (2 ^ min (bs).toNat 32))=cu:=by have h_:=gn;rw [Int.one_mul] at h_;exact h_);(have jj:(bs)≤32→(IntKind.u32.wrap (2 ^ (bs).toNat))=cu:=fun hle_=>by have h_:=gp hle_;rw [Int.one_mul] at h_;exact h_);(have H':=Za.mk H);(clear H);(have gq:0≤(aq:Int):=zD);(have gu:aq < (au.length:Int):=zD);(obtain⟨jv,jk,ix⟩:=Kd.at_int (Kd.R_reads' af.out).2.2 aq gq gu);(cases jk);(replace gq:=eq_true gq);(replace gu:=eq_true gu)
      go_wp2
      repeat(go_quiet (fail);try go_wp2)
      (first|go_roundg k2|(simp only [← ba];go_roundg k2)|(simp only [← co,← ba];go_roundg k2))
      case measure=>have:=ca.out;have:=bz.out;omega
      case rel=>first|exact⟨((cb + (cu)) % 4294967296),(wrap64 (aq + 1)),(by first|rfl|(simp;done)|(simp only [← ba] <;> (first|rfl|simp))|(simp [*];done)),(by first|rfl|(simp;done)|(simp [*];done)),H',⟨by have:=ca.out;have:=bz.out;omega⟩,⟨zR af⟩,⟨zK ac⟩,⟨zH HB⟩⟩|(subst ba;subst co;exact⟨((cb + (shl .u32 1 (IntKind.u64.wrap (rd au aq)))) % 4294967296),(wrap64 (aq + 1)),(by first|rfl|(simp;done)|(simp only [← ba] <;> (first|rfl|simp))|(simp [*];done)),(by first|rfl|(simp;done)|(simp [*];done)),H',⟨by have:=ca.out;have:=bz.out;omega⟩,⟨zR af⟩,⟨zK ac⟩,⟨zH HB⟩⟩)
   (rw [if_pos c6] at H);(have dj:decide (am < (au.length:Int))=true:=decide_eq_true c6);(clear c6);(have H':=Za.mk H);(clear H);(obtain⟨lv,lw,kw⟩:=Kd.R_slice af.out);(subst kw);(obtain⟨cd,ce,cf,cg⟩:=zq4 ac.out);(obtain⟨ch,ci,cj,ck⟩:=zf4 ac.out)
   go_wp2
   repeat(go_quiet (fail);try go_wp2)
   go_loopg [3,24] k1 (fun kq v3 v24 w'=>∃(db:List Int) (aa:Int),v24= .int .i64 aa∧Za (Zz.l1 kq db am ab (ab.length:Int) aa ai ar ak ab=some r)∧Za (kq≤k1)∧Za (Kd.R (Kd.int .i64) 3 w' w.heap.size (fun _=>True) v3 db)∧Za (w'.heap[ah]? =some (.cells #[.int .i64 ai,.int .i64 ar,.int .i64 ak,(.slice bv ab.length av)] 24 (0,0)))∧Za (Below w.heap.size w w'))
   case atStart=>exact⟨(au),(0),(by first|rfl|(simp;done)|(simp [*];done)),H',⟨Nat.le_refl _⟩,⟨zR af⟩,⟨zK ac⟩,⟨zH HB⟩⟩
   case round=>
    (clear H');(try clear p2);(try clear c3);(try clear dj);(try clear bc bd be bf cd ce cf cg bg bh bi bj ch ci cj ck);(try clear p2);(obtain⟨db,aa,rfl,HA,bz,af,ac,HB⟩:=hrel)
    cases gk with
    |zero=>exact absurd HA.out (by simp [Zz.l1])
    |succ k2=>
     (have H:=HA.out);(clear HA);(simp only [Zz.l1] at H)
     by_cases c9:aa < (ab.length:Int)
     rotate_left
     ·rw [if_neg c9] at H
      (have gm:decide (aa < (ab.length:Int))=false:=decide_eq_false c9);(clear c9);(have H':=Za.mk H);(clear H)
      go_wp2
      repeat(go_quiet (fail);try go_wp2)
      go_roundg k2
      case measure=>have:=ca.out;have:=bz.out;omega
      case rel=>exact⟨(db),(wrap64 (am + 1)),(by first|rfl|(simp;done)|(simp [*];done)),H',⟨by have:=ca.out;have:=bz.out;omega⟩,⟨zR af⟩,⟨zK ac⟩,⟨zH HB⟩⟩
     (rw [if_pos c9] at H);(have gm:decide (aa < (ab.length:Int))=true:=decide_eq_true c9);(clear c9)
     by_cases c10:0≤aa
     rotate_left
     ·rw [if_neg c10] at H
      exact absurd H (by simp)
     (rw [if_pos c10] at H);(have fw:decide (0≤aa)=true:=decide_eq_true c10);(clear c10)
     by_cases iy:aa < (ab.length:Int)
     rotate_left
     ·rw [if_neg iy] at H
      exact absurd H (by simp)
     (rw [if_pos iy] at H);(have fx:decide (aa < (ab.length:Int))=true:=decide_eq_true iy);(clear iy);(have H':=Za.mk H);(clear H);(have cy:0≤(aa:Int):=zD);(have da:aa < (ab.length:Int):=zD);(obtain⟨bb,dc,dd,jl,bo,bp,cp,cq⟩:=at_T41 ib.out aa cy da);(cases jl);(replace bo:=zX HB bo);(replace bp:=zX HB bp);(have br:=Za.mk cq);(have iz:=Za.mk cp);(clear cq cp);(replace cy:=eq_true cy);(replace da:=eq_true da)
     go_wp2_with (first|((with_reducible refine Zs (N:=6) rfl ?_);refine Zx ?hg (N:=6) ?hd (cs:=#[.int .i64 0,.slice none 0 0]) (t:=41) ?hr ?_;(case hd=>rfl);(case hg=>rfl);(case hr=>first|(go_simp;done)|(go_simp;rfl));intro ap hg jw hbox hb;replace af:=Za.mk (Kd.R_below (zR af) hb);have ag:=Za.mk (hbox);have gh:=Za.mk ((by rw [hg];exact(Zg (zH HB)):w.heap.size≤ap));have gi:=Za.mk ((by rw [hg];exact(Zg (zH HB)):w.heap.size≤ap));replace HB:=Za.mk (Zh (zH HB) hb);have aj:=Za.mk ((by rw [hg];exact Nat.ne_of_lt (Zu (g:=ah) (o:= .cells #[.int .i64 ai,.int .i64 ar,.int .i64 ak,.slice (some bb) ab.length av] 24 (0,0)) (zK ac)):ah≠ap));have an:=Za.mk ((by rw [hg];exact Nat.ne_of_gt (Zu (g:=ah) (o:= .cells #[.int .i64 ai,.int .i64 ar,.int .i64 ak,.slice (some bb) ab.length av] 24 (0,0)) (zK ac)):ap≠ah));replace ac:=Za.mk (Zj (g:=ah) (zK ac) hb);clear hb hbox hg;have gj:=an.out;have gl:=aj.out;obtain⟨bk,bl⟩:=zq2 ag.out;obtain⟨bm,bn⟩:=zf2 ag.out))
     repeat(go_quiet (first|((with_reducible refine Zs (N:=6) rfl ?_);refine Zx ?hg (N:=6) ?hd (cs:=#[.int .i64 0,.slice none 0 0]) (t:=41) ?hr ?_;(case hd=>rfl);(case hg=>rfl);(case hr=>first|(go_simp;done)|(go_simp;rfl));intro ap hg jw hbox hb;replace af:=Za.mk (Kd.R_below (zR af) hb);have ag:=Za.mk (hbox);have gh:=Za.mk ((by rw [hg];exact(Zg (zH HB)):w.heap.size≤ap));have gi:=Za.mk ((by rw [hg];exact(Zg (zH HB)):w.heap.size≤ap));replace HB:=Za.mk (Zh (zH HB) hb);have aj:=Za.mk ((by rw [hg];exact Nat.ne_of_lt (Zu (g:=ah) (o:= .cells #[.int .i64 ai,.int .i64 ar,.int .i64 ak,.slice (some bb) ab.length av] 24 (0,0)) (zK ac)):ah≠ap));have an:=Za.mk ((by rw [hg];exact Nat.ne_of_gt (Zu (g:=ah) (o:= .cells #[.int .i64 ai,.int .i64 ar,.int .i64 ak,.slice (some bb) ab.length av] 24 (0,0)) (zK ac)):ap≠ah));replace ac:=Za.mk (Zj (g:=ah) (zK ac) hb);clear hb hbox hg;have gj:=an.out;have gl:=aj.out;obtain⟨bk,bl⟩:=zq2 ag.out;obtain⟨bm,bn⟩:=zf2 ag.out));try go_wp2_with (first|((with_reducible refine Zs (N:=6) rfl ?_);refine Zx ?hg (N:=6) ?hd (cs:=#[.int .i64 0,.slice none 0 0]) (t:=41) ?hr ?_;(case hd=>rfl);(case hg=>rfl);(case hr=>first|(go_simp;done)|(go_simp;rfl));intro ap hg jw hbox hb;have n0_:=Za.mk (Kd.R_below (zR af) hb);have n1_:=Za.mk (Zj (g:=ah) (zK ac) hb);have n2_:=Za.mk (Zh (zH HB) hb);have n3_:=Za.mk (hbox);have n4_:=Za.mk ((by rw [hg];exact(Zg (zH HB)):w.heap.size≤ap));have n5_:=Za.mk ((by rw [hg];exact(Zg (zH HB)):w.heap.size≤ap));have n6_:=Za.mk ((by rw [hg];exact Nat.ne_of_lt (Zu (g:=ah) (o:= .cells #[.int .i64 ai,.int .i64 ar,.int .i64 ak,.slice (some bb) ab.length av] 24 (0,0)) (zK ac)):ah≠ap));have n7_:=Za.mk ((by rw [hg];exact Nat.ne_of_gt (Zu (g:=ah) (o:= .cells #[.int .i64 ai,.int .i64 ar,.int .i64 ak,.slice (some bb) ab.length av] 24 (0,0)) (zK ac)):ap≠ah));clear af;clear ac;clear HB;have af:=n0_;have ac:=n1_;have HB:=n2_;have ag:=n3_;have gh:=n4_;have gi:=n5_;have aj:=n6_;have an:=n7_;clear n0_ n1_ n2_ n3_ n4_ n5_ n6_ n7_;clear hb hbox hg;have gj:=an.out;have gl:=aj.out;obtain⟨bk,bl⟩:=zq2 ag.out;obtain⟨bm,bn⟩:=zf2 ag.out)))
     go_loopg [3,31] k2 (fun kq v3 v31 w'=>∃(al:List Int) (ae:Int),v31= .int .i64 ae∧Za (Zz.l2 kq al am ab (ab.length:Int) aa ((Zb ab aa).f1) (((Zb ab aa).f1).length:Int) ae ai ar ak ab ((Zb ab aa).f0) ((Zb ab aa).f1)=some r)∧Za (kq≤k2)∧Za (Kd.R (Kd.int .i64) 3 w' w.heap.size (fun _=>True) v3 al)∧Za (w'.heap[ah]? =some (.cells #[.int .i64 ai,.int .i64 ar,.int .i64 ak,(.slice (some bb) ab.length av)] 24 (0,0)))∧Za (w'.heap[ap]? =some (.cells #[.int .i64 ((Zb ab aa).f0),(.slice dc ((Zb ab aa).f1).length dd)] 41 (0,0)))∧Za (Below w.heap.size w w'))
     case atStart=>exact⟨(db),(0),(by first|rfl|(simp;done)|(simp [*];done)),H',⟨Nat.le_refl _⟩,⟨by (with_reducible repeat(first|apply Kd.R_alloc|apply Kd.R_drewN|apply Kd.R_drew));exact Kd.R_mono (Kd.R_far (p:=⟨ap,1,none⟩) (Kd.R_far (p:=⟨ap,0,none⟩) (Kd.R_types af.out ag.out (by decide)) (fun _ hk=>hk.2) (.int .i64 ((Zb ab aa).f0))) (fun _ hk=>hk.2) (.slice dc ((Zb ab aa).f1).length dd)) (fun _ hk=>trivial)⟩,⟨by (with_reducible repeat(first|refine Zn ?_ _|refine Zi ?_|refine Zm ?_ _));refine Zv ?_ aj.out _;(with_reducible repeat(first|refine Zn ?_ _|refine Zi ?_|refine Zm ?_ _));refine Zv ?_ aj.out _;(with_reducible repeat(first|apply zb3|apply zb2|apply zb1));exact ac.out⟩,⟨by (with_reducible repeat(first|refine Zn ?_ _|refine Zi ?_|refine Zm ?_ _));refine Zs1 (cs:=#[.int .i64 ((Zb ab aa).f0),.slice none 0 0]) ?_ 1 _ rfl;(with_reducible repeat(first|refine Zn ?_ _|refine Zi ?_|refine Zm ?_ _));refine Zs1 (cs:=#[.int .i64 0,.slice none 0 0]) ?_ 0 _ rfl;(with_reducible repeat(first|apply zb3|apply zb2|apply zb1));exact ag.out⟩,⟨zH HB⟩⟩
     case round=>
      (clear H');(try clear c1);(try clear p2);(try clear c3);(try clear p3);(try clear q3);(try clear kt);(try clear dj);(try clear gm);(try clear fw);(try clear fx);(try clear ku);(try clear bk bl bc bd be bf cd ce cf cg bm bn bg bh bi bj ch ci cj ck);(try clear bo);(try clear bp);(try clear p2);(try clear cy);(try clear da);(obtain⟨al,ae,rfl,HA,di,af,ac,ag,HB⟩:=hrel)
      cases gk with
      |zero=>exact absurd HA.out (by simp [Zz.l2])
      |succ k3=>
       (have H:=HA.out);(clear HA);(simp only [Zz.l2] at H)
       by_cases gy:ae < (((Zb ab aa).f1).length:Int)
       rotate_left
       ·rw [if_neg gy] at H
        (have fy:decide (ae < (((Zb ab aa).f1).length:Int))=false:=decide_eq_false gy);(clear gy);(have H':=Za.mk H);(clear H)
        go_wp2
        repeat(go_quiet (fail);try go_wp2)
        go_roundg k3
        case measure=>have:=ca.out;have:=bz.out;have:=di.out;omega
        case rel=>exact⟨(al),(wrap64 (aa + 1)),(by first|rfl|(simp;done)|(simp [*];done)),H',⟨by have:=ca.out;have:=bz.out;have:=di.out;omega⟩,⟨zR af⟩,⟨zK ac⟩,⟨zH HB⟩⟩
       (rw [if_pos gy] at H);(have fy:decide (ae < (((Zb ab aa).f1).length:Int))=true:=decide_eq_true gy);(clear gy)
       by_cases ja:0≤ae
       rotate_left
       ·rw [if_neg ja] at H
        exact absurd H (by simp)
       (rw [if_pos ja] at H);(have ie:decide (0≤ae)=true:=decide_eq_true ja);(clear ja)
       by_cases jb:ae < (((Zb ab aa).f1).length:Int)
       rotate_left
       ·rw [if_neg jb] at H
        exact absurd H (by simp)
       (rw [if_pos jb] at H);(have ig:decide (ae < (((Zb ab aa).f1).length:Int))=true:=decide_eq_true jb);(clear jb)
       by_cases jc:0≤am
       rotate_left
       ·rw [if_neg jc] at H
        exact absurd H (by simp)
       (rw [if_pos jc] at H);(have ii:decide (0≤am)=true:=decide_eq_true jc);(clear jc)
       by_cases jd:am < (al.length:Int)
       rotate_left
       ·rw [if_neg jd] at H
        exact absurd H (by simp)
       (rw [if_pos jd] at H);(have ik:decide (am < (al.length:Int))=true:=decide_eq_true jd);(clear jd)
       by_cases gv:((Zb ab aa).f0)=(rd al am)
       rotate_left
       ·rw [if_neg gv] at H
        (have fz:(((Zb ab aa).f0) == (rd al am))=false:=beq_eq_false_iff_ne.mpr gv);(have ga:(((Zb ab aa).f0) != (rd al am))=true:=bne_iff_ne.mpr gv);(have H':=Za.mk H);(clear H);(have aw:0≤(ae:Int):=zD);(have ay:ae < (((Zb ab aa).f1).length:Int):=zD);(obtain⟨de,cm,ao⟩:=Kd.at_int br.out ae aw ay);(cases cm);(replace ao:=zX HB ao);(replace aw:=eq_true aw);(replace ay:=eq_true ay);(have jx:=an.out);(have jy:=aj.out);(obtain⟨eh,ei⟩:=zq2 ag.out);(obtain⟨fo,fp⟩:=zf2 ag.out);(obtain⟨kx,ky,jm⟩:=Kd.R_slice af.out);(subst jm);(have ax:0≤(am:Int):=zD);(have az:am < (al.length:Int):=zD);(obtain⟨bu,cn,bq⟩:=Kd.at_int (Kd.R_reads' af.out).2.2 am ax az);(cases cn);(replace ax:=eq_true ax);(replace az:=eq_true az)
        go_wp2
        repeat(go_quiet (fail);try go_wp2)
        go_roundg k3
        case measure=>have:=ca.out;have:=bz.out;have:=di.out;omega
        case rel=>exact⟨(al),(wrap64 (ae + 1)),(by first|rfl|(simp;done)|(simp [*];done)),H',⟨by have:=ca.out;have:=bz.out;have:=di.out;omega⟩,⟨zR af⟩,⟨zK ac⟩,⟨zK ag⟩,⟨zH HB⟩⟩
       (rw [if_pos gv] at H);(have fz:(((Zb ab aa).f0) == (rd al am))=true:=beq_iff_eq.mpr gv);(have ga:(((Zb ab aa).f0) != (rd al am))=false:=bne_eq_false_iff_eq.mpr gv);(clear gv)
       by_cases gz:(rd ((Zb ab aa).f1) ae)≥ai
       rotate_left
       ·rw [if_neg gz] at H
        (have gc:decide (ai≤(rd ((Zb ab aa).f1) ae))=false:=decide_eq_false gz);(clear gz);(have H':=Za.mk H);(clear H);(have aw:0≤(ae:Int):=zD);(have ay:ae < (((Zb ab aa).f1).length:Int):=zD);(obtain⟨de,cm,ao⟩:=Kd.at_int br.out ae aw ay);(cases cm);(replace ao:=zX HB ao);(replace aw:=eq_true aw);(replace ay:=eq_true ay);(have jz:=an.out);(have ka:=aj.out);(obtain⟨dy,dz⟩:=zq2 ag.out);(obtain⟨fg,fh⟩:=zf2 ag.out);(obtain⟨kz,la,jn⟩:=Kd.R_slice af.out);(subst jn);(have ax:0≤(am:Int):=zD);(have az:am < (al.length:Int):=zD);(obtain⟨bu,cn,bq⟩:=Kd.at_int (Kd.R_reads' af.out).2.2 am ax az);(cases cn);(replace ax:=eq_true ax);(replace az:=eq_true az);(obtain⟨ea,ec,ee⟩:=zq3 ac.out)
        (have ef:=zj ac 3 (.slice (some bb) ab.length av));(obtain⟨fi,fj,fk,fm⟩:=zf4 ac.out)
        go_wp2
        repeat(go_quiet (fail);try go_wp2)
        go_roundg k3
        case measure=>have:=ca.out;have:=bz.out;have:=di.out;omega
        case rel=>exact⟨(al),(wrap64 (ae + 1)),(by first|rfl|(simp;done)|(simp [*];done)),H',⟨by have:=ca.out;have:=bz.out;have:=di.out;omega⟩,⟨zR af⟩,⟨zK ac⟩,⟨zK ag⟩,⟨zH HB⟩⟩
       (rw [if_pos gz] at H);(have gc:decide (ai≤(rd ((Zb ab aa).f1) ae))=true:=decide_eq_true gz);(clear gz);(replace H:=Option.bind_eq_some_iff.mp H);(obtain⟨iq,ir,H⟩:=H);(replace H:(if iq=true then(Zz.l2 k3 al am ab (ab.length:Int) aa ((Zb ab aa).f1) (((Zb ab aa).f1).length:Int) (wrap64 (ae + 1)) ai ar ak ab ((Zb ab aa).f0) ((Zb ab aa).f1)) else(if al.length < 17592186044416 then(Zz.l2 k3 (al++[wrap64 ((rd ((Zb ab aa).f1) ae) - ai)]) am ab (ab.length:Int) aa ((Zb ab aa).f1) (((Zb ab aa).f1).length:Int) (wrap64 (ae + 1)) ai ar ak ab ((Zb ab aa).f0) ((Zb ab aa).f1)) else(none)))=some r:=H);(have ia:=Za.mk ir);(clear ir)
       by_cases il:iq=true
       ·subst il
        (have H1:(Zz.l2 k3 al am ab (ab.length:Int) aa ((Zb ab aa).f1) (((Zb ab aa).f1).length:Int) (wrap64 (ae + 1)) ai ar ak ab ((Zb ab aa).f0) ((Zb ab aa).f1))=some r:=by rw [if_pos rfl] at H;exact H);(clear H);(have H:=H1);(clear H1);(have H':=Za.mk H);(clear H);(have aw:0≤(ae:Int):=zD);(have ay:ae < (((Zb ab aa).f1).length:Int):=zD);(obtain⟨de,cm,ao⟩:=Kd.at_int br.out ae aw ay);(cases cm);(replace ao:=zX HB ao);(replace aw:=eq_true aw);(replace ay:=eq_true ay);(have kd:=an.out);(have ke:=aj.out);(obtain⟨dk,dl⟩:=zq2 ag.out);(obtain⟨ek,eo⟩:=zf2 ag.out);(obtain⟨lc,ld,jo⟩:=Kd.R_slice af.out);(subst jo);(have ax:0≤(am:Int):=zD);(have az:am < (al.length:Int):=zD);(obtain⟨bu,cn,bq⟩:=Kd.at_int (Kd.R_reads' af.out).2.2 am ax az);(cases cn);(replace ax:=eq_true ax);(replace az:=eq_true az);(have dm:=zj ac 0 (.int .i64 ai))
        (have dn:=zj ac 1 (.int .i64 ar));(have dp:=zj ac 2 (.int .i64 ak));(have dq:=zj ac 3 (.slice (some bb) ab.length av));(obtain⟨es,eu,ey,ez⟩:=zf4 ac.out)
        go_wp2_with (first|(go_at_call 36;(with_reducible refine(Za1.calls k3 _ _ al (wrap64 ((rd ((Zb ab aa).f1) ae) - ai)) true _ ?side1 ?side2 ia.out).mono ?_);(case side1=>repeat(first|exact(Kd.R_reads' af.out).2.2|(with_reducible refine Kd.C_alloc ?_ _)|(with_reducible refine Kd.C_drewN ?_ _)|(with_reducible refine Kd.C_drew ?_)));(case side2=>exact(Kd.R_reads' af.out).2.1);rintro e w' ⟨rfl,⟨nd,rfl⟩⟩;(try first|exact⟨rfl,_,World.drewN_drewN _ _ _⟩|exact⟨rfl,_,Eq.trans (World.drewN_drewN _ _ _) (congrArg (World.drewN _) (Nat.add_assoc _ _ _))⟩)))
        repeat(go_quiet (first|(go_at_call 36;(with_reducible refine(Za1.calls k3 _ _ al (wrap64 ((rd ((Zb ab aa).f1) ae) - ai)) true _ ?side1 ?side2 ia.out).mono ?_);(case side1=>repeat(first|exact(Kd.R_reads' af.out).2.2|(with_reducible refine Kd.C_alloc ?_ _)|(with_reducible refine Kd.C_drewN ?_ _)|(with_reducible refine Kd.C_drew ?_)));(case side2=>exact(Kd.R_reads' af.out).2.1);rintro e w' ⟨rfl,⟨nd,rfl⟩⟩;(try first|exact⟨rfl,_,World.drewN_drewN _ _ _⟩|exact⟨rfl,_,Eq.trans (World.drewN_drewN _ _ _) (congrArg (World.drewN _) (Nat.add_assoc _ _ _))⟩)));try go_wp2_with (first|(go_at_call 36;(with_reducible refine(Za1.calls k3 _ _ al (wrap64 ((rd ((Zb ab aa).f1) ae) - ai)) true _ ?side1 ?side2 ia.out).mono ?_);(case side1=>repeat(first|exact(Kd.R_reads' af.out).2.2|(with_reducible refine Kd.C_alloc ?_ _)|(with_reducible refine Kd.C_drewN ?_ _)|(with_reducible refine Kd.C_drew ?_)));(case side2=>exact(Kd.R_reads' af.out).2.1);rintro e w' ⟨rfl,⟨nd,rfl⟩⟩;(try first|exact⟨rfl,_,World.drewN_drewN _ _ _⟩|exact⟨rfl,_,Eq.trans (World.drewN_drewN _ _ _) (congrArg (World.drewN _) (Nat.add_assoc _ _ _))⟩))))
        go_roundg k3
        case measure=>have:=ca.out;have:=bz.out;have:=di.out;omega
        case rel=>exact⟨(al),(wrap64 (ae + 1)),(by first|rfl|(simp;done)|(simp [*];done)),H',⟨by have:=ca.out;have:=bz.out;have:=di.out;omega⟩,⟨zR af⟩,⟨zK ac⟩,⟨zK ag⟩,⟨zH HB⟩⟩
       (replace il:=Bool.eq_false_iff.mpr il);(subst il);(have H1:(if al.length < 17592186044416 then(Zz.l2 k3 (al++[wrap64 ((rd ((Zb ab aa).f1) ae) - ai)]) am ab (ab.length:Int) aa ((Zb ab aa).f1) (((Zb ab aa).f1).length:Int) (wrap64 (ae + 1)) ai ar ak ab ((Zb ab aa).f0) ((Zb ab aa).f1)) else(none))=some r:=by rw [if_neg (show ¬ (false=true) by decide)] at H;exact H);(clear H);(have H:=H1);(clear H1)
       by_cases je:al.length < 17592186044416
       rotate_left
       ·rw [if_neg je] at H
        exact absurd H (by simp)
       (rw [if_pos je] at H);(have df:=Za.mk je);(clear je);(obtain⟨iu,bx⟩ : ∃y_:List Int,y_=(al++[wrap64 ((rd ((Zb ab aa).f1) ae) - ai)]):=⟨_,rfl⟩);(replace H:(Zz.l2 k3 iu am ab (ab.length:Int) aa ((Zb ab aa).f1) (((Zb ab aa).f1).length:Int) (wrap64 (ae + 1)) ai ar ak ab ((Zb ab aa).f0) ((Zb ab aa).f1))=some r:=by first|(rw [bx];with_reducible exact H)|(have H2_:=(Option.bind_some _ _).symm.trans H;rw [bx];with_reducible exact H2_)|(have H2_:=(Option.bind_some _ _).symm.trans H;with_reducible exact H2_)|with_reducible exact H|(rw [bx];exact H)|exact H);(have dg:=Za.mk bx);(clear bx);(have H':=Za.mk H);(clear H);(have aw:0≤(ae:Int):=zD);(have ay:ae < (((Zb ab aa).f1).length:Int):=zD);(obtain⟨de,cm,ao⟩:=Kd.at_int br.out ae aw ay);(cases cm);(replace ao:=zX HB ao);(replace aw:=eq_true aw);(replace ay:=eq_true ay);(have kf:=an.out);(have ki:=aj.out);(obtain⟨dr,dt⟩:=zq2 ag.out);(have fa:=blk_frozen ag.out 0)
       (have fb:=blk_frozen ag.out 1);(obtain⟨lf,gw,jp⟩:=Kd.R_slice af.out);(subst jp);(have ax:0≤(am:Int):=zD);(have az:am < (al.length:Int):=zD);(obtain⟨bu,cn,bq⟩:=Kd.at_int (Kd.R_reads' af.out).2.2 am ax az);(cases cn);(replace ax:=eq_true ax);(replace az:=eq_true az);(obtain⟨du,dv,dw,dx⟩:=zq4 ac.out);(obtain⟨fc,fd,fe,ff⟩:=zf4 ac.out)
       go_wp2_with (first|(go_at_call 36;(with_reducible refine(Za1.calls k3 _ _ al (wrap64 ((rd ((Zb ab aa).f1) ae) - ai)) false _ ?side1 ?side2 ia.out).mono ?_);(case side1=>repeat(first|exact(Kd.R_reads' af.out).2.2|(with_reducible refine Kd.C_alloc ?_ _)|(with_reducible refine Kd.C_drewN ?_ _)|(with_reducible refine Kd.C_drew ?_)));(case side2=>exact(Kd.R_reads' af.out).2.1);rintro e w' ⟨rfl,⟨nd,rfl⟩⟩;(try first|exact⟨rfl,_,World.drewN_drewN _ _ _⟩|exact⟨rfl,_,Eq.trans (World.drewN_drewN _ _ _) (congrArg (World.drewN _) (Nat.add_assoc _ _ _))⟩))|((with_reducible refine gate_builtin (b:= .append) (xs:=#[.tmp 57,.tmp 62]) rfl ?_);at_builtin;refine Kd.R_append (Kd.int .i64) (w0:=w) w.heap.size rfl (.tmp 57) (.tmp 62) 25 3 (.int .i64 0) 8 rfl Try.underlying25 info3 rfl (by decide) (by omega) (.slice (some bu) al.length gw) al (wrap64 ((rd ((Zb ab aa).f1) ae) - ai)) [.int .i64 (wrap64 ((rd ((Zb ab aa).f1) ae) - ai))] (fun _=>True) (fun _=>False) rfl rfl ?aP (fun _ hk=>hk.elim) ?aF ?aO ?aB ?aS ?aL ?_;(case aP=>exact rfl);(case aB=>exact(zH HB));(case aF=>exact(fun _ _=>trivial));(case aO=>exact(zR af));(case aS=>exact(Zg (zH HB)));(case aL=>have:=df.out;omega);intro v317 kj ho hb hg hat;rw [← dg.out] at ho;replace ac:=Za.mk (Zv1 (g:=ah) (zK ac) hg (Kd.R_ne af.out ac.out (by decide)));replace ag:=Za.mk (Zv1 (g:=ap) (zK ag) hg (Kd.R_ne af.out ag.out (by decide)));replace HB:=Za.mk (hb);have dh:=Za.mk (ho);clear af;clear ho hb hg hat))
       repeat(go_quiet (first|(go_at_call 36;(with_reducible refine(Za1.calls k3 _ _ al (wrap64 ((rd ((Zb ab aa).f1) ae) - ai)) false _ ?side1 ?side2 ia.out).mono ?_);(case side1=>repeat(first|exact(Kd.R_reads' af.out).2.2|(with_reducible refine Kd.C_alloc ?_ _)|(with_reducible refine Kd.C_drewN ?_ _)|(with_reducible refine Kd.C_drew ?_)));(case side2=>exact(Kd.R_reads' af.out).2.1);rintro e w' ⟨rfl,⟨nd,rfl⟩⟩;(try first|exact⟨rfl,_,World.drewN_drewN _ _ _⟩|exact⟨rfl,_,Eq.trans (World.drewN_drewN _ _ _) (congrArg (World.drewN _) (Nat.add_assoc _ _ _))⟩))|((with_reducible refine gate_builtin (b:= .append) (xs:=#[.tmp 57,.tmp 62]) rfl ?_);at_builtin;refine Kd.R_append (Kd.int .i64) (w0:=w) w.heap.size rfl (.tmp 57) (.tmp 62) 25 3 (.int .i64 0) 8 rfl Try.underlying25 info3 rfl (by decide) (by omega) (.slice (some bu) al.length gw) al (wrap64 ((rd ((Zb ab aa).f1) ae) - ai)) [.int .i64 (wrap64 ((rd ((Zb ab aa).f1) ae) - ai))] (fun _=>True) (fun _=>False) rfl rfl ?aP (fun _ hk=>hk.elim) ?aF ?aO ?aB ?aS ?aL ?_;(case aP=>exact rfl);(case aB=>exact(zH HB));(case aF=>exact(fun _ _=>trivial));(case aO=>exact(zR af));(case aS=>exact(Zg (zH HB)));(case aL=>have:=df.out;omega);intro v317 kj ho hb hg hat;rw [← dg.out] at ho;replace ac:=Za.mk (Zv1 (g:=ah) (zK ac) hg (Kd.R_ne af.out ac.out (by decide)));replace ag:=Za.mk (Zv1 (g:=ap) (zK ag) hg (Kd.R_ne af.out ag.out (by decide)));replace HB:=Za.mk (hb);have dh:=Za.mk (ho);clear af;clear ho hb hg hat));try go_wp2_with (first|(go_at_call 36;(with_reducible refine(Za1.calls k3 _ _ al (wrap64 ((rd ((Zb ab aa).f1) ae) - ai)) false _ ?side1 ?side2 ia.out).mono ?_);(case side1=>repeat(first|exact(Kd.R_reads' af.out).2.2|(with_reducible refine Kd.C_alloc ?_ _)|(with_reducible refine Kd.C_drewN ?_ _)|(with_reducible refine Kd.C_drew ?_)));(case side2=>exact(Kd.R_reads' af.out).2.1);rintro e w' ⟨rfl,⟨nd,rfl⟩⟩;(try first|exact⟨rfl,_,World.drewN_drewN _ _ _⟩|exact⟨rfl,_,Eq.trans (World.drewN_drewN _ _ _) (congrArg (World.drewN _) (Nat.add_assoc _ _ _))⟩))|((with_reducible refine gate_builtin (b:= .append) (xs:=#[.tmp 57,.tmp 62]) rfl ?_);at_builtin;refine Kd.R_append (Kd.int .i64) (w0:=w) w.heap.size rfl (.tmp 57) (.tmp 62) 25 3 (.int .i64 0) 8 rfl Try.underlying25 info3 rfl (by decide) (by omega) (.slice (some bu) al.length gw) al (wrap64 ((rd ((Zb ab aa).f1) ae) - ai)) [.int .i64 (wrap64 ((rd ((Zb ab aa).f1) ae) - ai))] (fun _=>True) (fun _=>False) rfl rfl ?aP (fun _ hk=>hk.elim) ?aF ?aO ?aB ?aS ?aL ?_;(case aP=>exact rfl);(case aB=>exact(zH HB));(case aF=>exact(fun _ _=>trivial));(case aO=>exact(zR af));(case aS=>exact(Zg (zH HB)));(case aL=>have:=df.out;omega);intro v317 kj ho hb hg hat;rw [← dg.out] at ho;have n0_:=Za.mk (Zv1 (g:=ah) (zK ac) hg (Kd.R_ne af.out ac.out (by decide)));have n1_:=Za.mk (Zv1 (g:=ap) (zK ag) hg (Kd.R_ne af.out ag.out (by decide)));have n2_:=Za.mk (hb);have n3_:=Za.mk (ho);clear ac;clear ag;clear HB;clear af;have ac:=n0_;have ag:=n1_;have HB:=n2_;have dh:=n3_;clear n0_ n1_ n2_ n3_;clear ho hb hg hat)))
       go_roundg k3
       case measure=>have:=ca.out;have:=bz.out;have:=di.out;omega
       case rel=>exact⟨(iu),(wrap64 (ae + 1)),(by first|rfl|(simp;done)|(simp [*];done)),H',⟨by have:=ca.out;have:=bz.out;have:=di.out;omega⟩,⟨zR dh⟩,⟨zK ac⟩,⟨zK ag⟩,⟨zH HB⟩⟩
end Go.Proofs.Ytbifocddbgleeaa.PAheadParses
