-- By a program.
import Derived.Test.YtbifocddbgleeaaQPAheadParsesx0
namespace Go.Proofs.Ytbifocddbgleeaa.PAheadParses
open Go.RowKit Go.Proofs.YtbifocddbgleeaaW.PrintWords Go.Proofs.YtbifocddbgleeaaW.PrintLast Go.Proofs.YtbifocddbgleeaaW.PrintMore
attribute [local go_sem] max2_int min2_int max_two min_two max_three min_three max_four min_four
set_option linter.unusedVariables false
set_option linter.unusedSimpArgs false
mutual
def Zj1.l0:Nat→List (List Int)→List Int→Int→List Int→Int→Int→Int→Int→Int→List (S41)→Option (Int)
  |0,_,_,_,_,_,_,_,_,_,_=>none
  |k + 1,x0,x2,x4,x15,x16,x17,x115000,x115001,x115002,x115003=>if x17 < x16 then(if 0≤x17 then(if x17 < (x15.length:Int) then(Zj1.l1 k x0 x2 x4 (rd x15 x17) 0 x15 x16 x17 (wrap64 ((x2.length:Int) + 1)) 0 x115000 x115001 x115002 x115003) else(none)) else(none)) else(some x4)
def Zj1.l1:Nat→List (List Int)→List Int→Int→Int→Int→List Int→Int→Int→Int→Int→Int→Int→Int→List (S41)→Option (Int)
  |0,_,_,_,_,_,_,_,_,_,_,_,_,_,_=>none
  |k + 1,x0,x2,x4,x12,x13,x15,x16,x17,x23,x24,x115000,x115001,x115002,x115003=>if x24 < x23 then(if 0≤x24 then(if(Go.bits .and .u32 (shr .u32 x4 x24) 1)=0 then(Zj1.l1 k x0 x2 x4 x12 x13 x15 x16 x17 x23 (wrap64 (x24 + 1)) x115000 x115001 x115002 x115003) else(if x12≥x115000 then(if 0≤(wrap64 (x12 - x115000)) then(if(wrap64 (x12 - x115000)) < (x0.length:Int) then(if x24 < ((Zt x0 (wrap64 (x12 - x115000))).length:Int) then(Zj1.l1 k x0 x2 x4 x12 (Go.bits .or .u32 x13 (rd (Zt x0 (wrap64 (x12 - x115000))) x24)) x15 x16 x17 x23 (wrap64 (x24 + 1)) x115000 x115001 x115002 x115003) else(none)) else(none)) else(none)) else(if x24 < (x2.length:Int) then(if(rd x2 x24)=x12 then(if 0≤(wrap64 (x24 + 1)) then(Zj1.l1 k x0 x2 x4 x12 (Go.bits .or .u32 x13 (shl .u32 1 (wrap64 (x24 + 1)))) x15 x16 x17 x23 (wrap64 (x24 + 1)) x115000 x115001 x115002 x115003) else(none)) else(Zj1.l1 k x0 x2 x4 x12 x13 x15 x16 x17 x23 (wrap64 (x24 + 1)) x115000 x115001 x115002 x115003)) else(Zj1.l1 k x0 x2 x4 x12 x13 x15 x16 x17 x23 (wrap64 (x24 + 1)) x115000 x115001 x115002 x115003)))) else(none)) else(Zj1.l0 k x0 x2 x13 x15 x16 (wrap64 (x17 + 1)) x115000 x115001 x115002 x115003)
end
def Zj1.f (k:Nat) (l0:List (List Int)) (a1_0:Int) (a1_1:Int) (a1_2:Int) (l1_3:List (S41)) (l2:List Int) (l3:List Int) (a4:Int):Option (Int):=Zj1.l0 k l0 l2 a4 l3 (l3.length:Int) 0 a1_0 a1_1 a1_2 l1_3
theorem Zj1.mono_l: ∀k,(∀y0 y1 y2 y3 y4 y5 y6 y7 y8 y9,LeO (Zj1.l0 k y0 y1 y2 y3 y4 y5 y6 y7 y8 y9) (Zj1.l0 (k + 1) y0 y1 y2 y3 y4 y5 y6 y7 y8 y9))∧(∀y0 y1 y2 y3 y4 y5 y6 y7 y8 y9 y10 y11 y12 y13,LeO (Zj1.l1 k y0 y1 y2 y3 y4 y5 y6 y7 y8 y9 y10 y11 y12 y13) (Zj1.l1 (k + 1) y0 y1 y2 y3 y4 y5 y6 y7 y8 y9 y10 y11 y12 y13))
  |0=>⟨fun _ _ _ _ _ _ _ _ _ _ r h=>by simp [Zj1.l0] at h,fun _ _ _ _ _ _ _ _ _ _ _ _ _ _ r h=>by simp [Zj1.l1] at h⟩
  |k + 1=>by
    obtain⟨ih0,ih1⟩:=Zj1.mono_l k
    refine⟨?_,?_⟩
    · intro y0 y1 y2 y3 y4 y5 y6 y7 y8 y9
      unfold Zj1.l0
      repeat' (with_reducible first|apply ih0|apply ih1|exact LeO.refl _|exact LeO.none _|refine LeO.ite ?_ ?_|refine LeO.bind ?_ (fun _=>?_))
    · intro y0 y1 y2 y3 y4 y5 y6 y7 y8 y9 y10 y11 y12 y13
      unfold Zj1.l1
      repeat' (with_reducible first|apply ih0|apply ih1|exact LeO.refl _|exact LeO.none _|refine LeO.ite ?_ ?_|refine LeO.bind ?_ (fun _=>?_))
theorem Zj1.mono: ∀a0 a1 a2 a3 a4 a5 a6 a7 k,LeO (Zj1.f k a0 a1 a2 a3 a4 a5 a6 a7) (Zj1.f (k + 1) a0 a1 a2 a3 a4 a5 a6 a7):=by
  intro a0 a1 a2 a3 a4 a5 a6 a7 k
  obtain⟨ih0,ih1⟩:=Zj1.mono_l k
  unfold Zj1.f
  repeat' (with_reducible first|apply ih0|apply ih1|exact LeO.refl _|exact LeO.none _|refine LeO.ite ?_ ?_|refine LeO.bind ?_ (fun _=>?_))
set_option maxHeartbeats 8000000 in
set_option maxRecDepth 100000 in
theorem Zj1.calls (k : Nat) (A0 : Option Addr) (c0 : Nat) (l0 : List (List Int)) (af : Int) (ai : Int) (aj : Int) (bf : Option Addr) (bg : Nat) (ah : List (S41)) (A2 : Option Addr) (c2 : Nat) (l2 : List Int) (A3 : Option Addr) (c3 : Nat) (l3 : List Int) (a4 : Int) (r : Int) (w : World) (fe : Kd.C (Kd.slice 42 (Kd.int .u32)) w A0 l0.length l0) (ff : l0.length ≤ c0) (bk : Kd.C k41 w bf ah.length ah) (bl : ah.length ≤ bg) (fg : Kd.C (Kd.int .i64) w A2 l2.length l2) (fh : l2.length ≤ c2) (fi : Kd.C (Kd.int .i64) w A3 l3.length l3) (fj : l3.length ≤ c3) (h : Zj1.f k l0 af ai aj ah l2 l3 a4 = some r) :
    Calls Try.prog 42 #[.slice A0 l0.length c0,.agg #[.int .i64 af,.int .i64 ai,.int .i64 aj,.slice bf ah.length bg],.slice A2 l2.length c2,.slice A3 l3.length c3,.int .u32 a4] w fun e w'=>e= .returned (.int .u32 r)∧Below w.heap.size w w':=by
 (have gi:=Try.underlying24);(have gm:=Try.underlying3);(have gj:=Za.mk fe);(have gn:=Za.mk ff);(clear fe ff);(have fk:=Za.mk bk);(have fm:=Za.mk bl);(clear bk bl);(have fo:=Za.mk fg);(have gp:=Za.mk fh);(clear fg fh);(have gl:=Za.mk fi);(have gq:=Za.mk fj);(clear fi fj);(have HB:=Za.mk (Below.refl w.heap.size w));(have H:(Zj1.l0 k l0 l2 a4 l3 (l3.length:Int) 0 af ai aj ah)=some r:=h);(clear h);(have H':=Za.mk H);(clear H)
 go_enter Try.func42,Try.ntmps42
 go_wp2_with (first|((with_reducible refine Zs (N:=6) rfl ?_);refine Zx ?hg (N:=6) ?hd (cs:=#[.int .i64 af,.int .i64 ai,.int .i64 aj,.slice bf ah.length bg]) (t:=24) ?hr ?_;(case hd=>rfl);(case hg=>rfl);(case hr=>first|(go_simp;done)|(go_simp;rfl));intro az hg w6 hbox hb;have ac:=Za.mk (hbox);have fp:=Za.mk ((by rw [hg];exact(Zg (zH HB)):w.heap.size≤az));have fq:=Za.mk ((by rw [hg];exact(Zg (zH HB)):w.heap.size≤az));replace HB:=Za.mk (Zh (zH HB) hb);clear hb hbox hg))
 go_loopg [4,17] k (fun kq v4 v17 w'=>∃(am:Int) (ab:Int),v4= .int .u32 am∧v17= .int .i64 ab∧Za (Zj1.l0 kq l0 l2 am l3 (l3.length:Int) ab af ai aj ah=some r)∧Za (kq≤k)∧Za (w'.heap[az]? =some (.cells #[.int .i64 af,.int .i64 ai,.int .i64 aj,(.slice bf ah.length bg)] 24 (0,0)))∧Za (Below w.heap.size w w'))
 case atStart=>exact⟨(a4),(0),(by first|rfl|(simp;done)|(simp [*];done)),(by first|rfl|(simp;done)|(simp [*];done)),H',⟨Nat.le_refl _⟩,⟨zK ac⟩,⟨zH HB⟩⟩
 case round=>
  (clear H');(try clear c1);(try clear c2);(try clear p2);(try clear c3);(try clear c4);(obtain⟨am,ab,rfl,rfl,HA,au,ac,HB⟩:=hrel)
  cases gk with
  |zero=>exact absurd HA.out (by simp [Zj1.l0])
  |succ k1=>
   (have H:=HA.out);(clear HA);(simp only [Zj1.l0] at H)
   by_cases c7:ab < (l3.length:Int)
   rotate_left
   ·rw [if_neg c7] at H
    (have bx:decide (ab < (l3.length:Int))=false:=decide_eq_false c7);(clear c7);(obtain rfl:=Option.some.inj H)
    go_wp2
    go_ret
    exact⟨by first|rfl|(simp [Zl,Zk] <;> rfl)|(simp [*,Zl,Zk] <;> rfl),zH HB⟩
   (rw [if_pos c7] at H);(have bx:decide (ab < (l3.length:Int))=true:=decide_eq_true c7);(clear c7)
   by_cases c8:0≤ab
   rotate_left
   ·rw [if_neg c8] at H
    exact absurd H (by simp)
   (rw [if_pos c8] at H);(have ef:decide (0≤ab)=true:=decide_eq_true c8);(clear c8)
   by_cases c9:ab < (l3.length:Int)
   rotate_left
   ·rw [if_neg c9] at H
    exact absurd H (by simp)
   (rw [if_pos c9] at H);(have eh:decide (ab < (l3.length:Int))=true:=decide_eq_true c9);(clear c9);(have H':=Za.mk H);(clear H);(have bh:0≤(ab:Int):=zD);(have bi:ab < (l3.length:Int):=zD);(obtain⟨ft,ei,ar⟩:=Kd.at_int gl.out ab bh bi);(cases ei);(replace ar:=zX HB ar);(replace bh:=eq_true bh);(replace bi:=eq_true bi)
   go_wp2
   go_loopg [13,24] k1 (fun kq v13 v24 w'=>∃(ae:Int) (aa:Int),v13= .int .u32 ae∧v24= .int .i64 aa∧Za (Zj1.l1 kq l0 l2 am (rd l3 ab) ae l3 (l3.length:Int) ab (wrap64 ((l2.length:Int) + 1)) aa af ai aj ah=some r)∧Za (kq≤k1)∧Za (w'.heap[az]? =some (.cells #[.int .i64 af,.int .i64 ai,.int .i64 aj,(.slice bf ah.length bg)] 24 (0,0)))∧Za (Below w.heap.size w w'))
   case atStart=>exact⟨(0),(0),(by first|rfl|(simp;done)|(simp [*];done)),(by first|rfl|(simp;done)|(simp [*];done)),H',⟨Nat.le_refl _⟩,⟨zK ac⟩,⟨zH HB⟩⟩
   case round=>
    (clear H');(try clear c1);(try clear p1);(try clear q1);(try clear gu);(try clear c2);(try clear p2);(try clear c3);(try clear c4);(try clear p6);(try clear bx);(try clear ef);(try clear eh);(try clear ar);(try clear bh);(try clear p2);(try clear bi);(obtain⟨ae,aa,rfl,rfl,HA,av,ac,HB⟩:=hrel)
    cases gk with
    |zero=>exact absurd HA.out (by simp [Zj1.l1])
    |succ k2=>
     (have H:=HA.out);(clear HA);(simp only [Zj1.l1] at H)
     by_cases c10:aa < (wrap64 ((l2.length:Int) + 1))
     rotate_left
     ·rw [if_neg c10] at H
      (have bz:decide (aa < (wrap64 ((l2.length:Int) + 1)))=false:=decide_eq_false c10);(clear c10);(have H':=Za.mk H);(clear H)
      go_wp2
      go_roundg k2
      case measure=>have:=au.out;have:=av.out;omega
      case rel=>exact⟨(ae),(wrap64 (ab + 1)),(by first|rfl|(simp;done)|(simp [*];done)),(by first|rfl|(simp;done)|(simp [*];done)),H',⟨by have:=au.out;have:=av.out;omega⟩,⟨zK ac⟩,⟨zH HB⟩⟩
     (rw [if_pos c10] at H);(have bz:decide (aa < (wrap64 ((l2.length:Int) + 1)))=true:=decide_eq_true c10);(clear c10)
     by_cases ca:0≤aa
     rotate_left
     ·rw [if_neg ca] at H
      exact absurd H (by simp)
     (rw [if_pos ca] at H);(have fu:=eq_true ca);(have fv:decide (0≤aa)=true:=decide_eq_true ca);(clear ca);(obtain⟨aw,ag⟩ : ∃j_:Int,(shr .u32 am aa)=j_:=⟨_,rfl⟩);(replace H:(if(Go.bits .and .u32 (aw) 1)=0 then(Zj1.l1 k2 l0 l2 am (rd l3 ab) ae l3 (l3.length:Int) ab (wrap64 ((l2.length:Int) + 1)) (wrap64 (aa + 1)) af ai aj ah) else(if(rd l3 ab)≥af then(if 0≤(wrap64 ((rd l3 ab) - af)) then(if(wrap64 ((rd l3 ab) - af)) < (l0.length:Int) then(if aa < ((Zt l0 (wrap64 ((rd l3 ab) - af))).length:Int) then(Zj1.l1 k2 l0 l2 am (rd l3 ab) (Go.bits .or .u32 ae (rd (Zt l0 (wrap64 ((rd l3 ab) - af))) aa)) l3 (l3.length:Int) ab (wrap64 ((l2.length:Int) + 1)) (wrap64 (aa + 1)) af ai aj ah) else(none)) else(none)) else(none)) else(if aa < (l2.length:Int) then(if(rd l2 aa)=(rd l3 ab) then(if 0≤(wrap64 (aa + 1)) then(Zj1.l1 k2 l0 l2 am (rd l3 ab) (Go.bits .or .u32 ae (shl .u32 1 (wrap64 (aa + 1)))) l3 (l3.length:Int) ab (wrap64 ((l2.length:Int) + 1)) (wrap64 (aa + 1)) af ai aj ah) else(none)) else(Zj1.l1 k2 l0 l2 am (rd l3 ab) ae l3 (l3.length:Int) ab (wrap64 ((l2.length:Int) + 1)) (wrap64 (aa + 1)) af ai aj ah)) else(Zj1.l1 k2 l0 l2 am (rd l3 ab) ae l3 (l3.length:Int) ab (wrap64 ((l2.length:Int) + 1)) (wrap64 (aa + 1)) af ai aj ah))))=some r:=by first|(rw [ag] at H;exact H)|(simp only [ag] at H ⊢;exact H))
     (have ek:(am / 2 ^ min aa.toNat 32)=aw:=ag);(have eo:aa≤32→(am / 2 ^ aa.toNat)=aw:=shr_small ag)
     by_cases bm:(Go.bits .and .u32 (aw) 1)=0
     ·rw [if_pos bm] at H
      (have cb:((Go.bits .and .u32 (aw) 1) == 0)=true:=beq_iff_eq.mpr bm);(have cd:((Go.bits .and .u32 (aw) 1) != 0)=false:=bne_eq_false_iff_eq.mpr bm);(clear bm);(have H':=Za.mk H);(clear H)
      go_wp2
      (first|go_roundg k2|(simp only [← ag];go_roundg k2))
      case measure=>have:=au.out;have:=av.out;omega
      case rel=>first|exact⟨(ae),(wrap64 (aa + 1)),(by first|rfl|(simp;done)|(simp [*];done)),(by first|rfl|(simp;done)|(simp [*];done)),H',⟨by have:=au.out;have:=av.out;omega⟩,⟨zK ac⟩,⟨zH HB⟩⟩|(subst ag;exact⟨(ae),(wrap64 (aa + 1)),(by first|rfl|(simp;done)|(simp [*];done)),(by first|rfl|(simp;done)|(simp [*];done)),H',⟨by have:=au.out;have:=av.out;omega⟩,⟨zK ac⟩,⟨zH HB⟩⟩)
     (rw [if_neg bm] at H);(have cb:((Go.bits .and .u32 (aw) 1) == 0)=false:=beq_eq_false_iff_ne.mpr bm);(have cd:((Go.bits .and .u32 (aw) 1) != 0)=true:=bne_iff_ne.mpr bm)
     by_cases bv:(rd l3 ab)≥af
     ·rw [if_pos bv] at H
      (have ce:decide (af≤(rd l3 ab))=true:=decide_eq_true bv);(clear bv);(obtain⟨ak,ap⟩ : ∃j_:Int,(wrap64 ((rd l3 ab) - af))=j_:=⟨_,rfl⟩);(replace H:(if 0≤(ak) then(if(ak) < (l0.length:Int) then(if aa < ((Zt l0 (ak)).length:Int) then(Zj1.l1 k2 l0 l2 am (rd l3 ab) (Go.bits .or .u32 ae (rd (Zt l0 (ak)) aa)) l3 (l3.length:Int) ab (wrap64 ((l2.length:Int) + 1)) (wrap64 (aa + 1)) af ai aj ah) else(none)) else(none)) else(none))=some r:=by first|(rw [ap] at H;exact H)|(simp only [ap] at H ⊢;exact H));(have es:(IntKind.i64.wrap ((rd l3 ab) - af))=ak:=(Zc _).trans ap)
      by_cases ck:0≤(ak)
      rotate_left
      ·rw [if_neg ck] at H
       exact absurd H (by simp)
      (rw [if_pos ck] at H);(have fw:decide (0≤(ak))=true:=decide_eq_true ck);(clear ck)
      by_cases cm:(ak) < (l0.length:Int)
      rotate_left
      ·rw [if_neg cm] at H
       exact absurd H (by simp)
      (rw [if_pos cm] at H);(have fx:decide ((ak) < (l0.length:Int))=true:=decide_eq_true cm);(clear cm)
      by_cases cn:aa < ((Zt l0 (ak)).length:Int)
      rotate_left
      ·rw [if_neg cn] at H
       exact absurd H (by simp)
      (rw [if_pos cn] at H);(have fy:decide (aa < ((Zt l0 (ak)).length:Int))=true:=decide_eq_true cn);(clear cn);(have H':=Za.mk H);(clear H);(obtain⟨co,cp,cq,cu⟩:=zq4 ac.out);(obtain⟨cw,cy,da,db⟩:=zf4 ac.out);(have bn:0≤((ak):Int):=zD);(have bo:(ak) < (l0.length:Int):=zD);(obtain⟨fz,eu,ey,ez,ba,bb,bc⟩:=at_L4 gj.out (ak) bn bo);(cases ez);(replace ba:=zX HB ba);(have bj:=Za.mk bc);(have dc:=Za.mk bb);(clear bc bb);(replace bn:=eq_true bn);(replace bo:=eq_true bo);(have bp:0≤(aa:Int):=zD);(have bq:aa < ((Zt l0 (ak)).length:Int):=zD);(obtain⟨ga,fa,bd⟩:=Kd.at_int bj.out aa bp bq);(cases fa);(replace bd:=zX HB bd)
      (replace bp:=eq_true bp);(replace bq:=eq_true bq)
      go_wp2
      (first|go_roundg k2|(simp only [← ap];go_roundg k2)|(simp only [← ag,← ap];go_roundg k2))
      case measure=>have:=au.out;have:=av.out;omega
      case rel=>first|exact⟨(Go.bits .or .u32 ae (rd (Zt l0 (ak)) aa)),(wrap64 (aa + 1)),(by first|rfl|(simp;done)|(simp only [← ap] <;> (first|rfl|simp))|(simp [*];done)),(by first|rfl|(simp;done)|(simp [*];done)),H',⟨by have:=au.out;have:=av.out;omega⟩,⟨zK ac⟩,⟨zH HB⟩⟩|(subst ap;subst ag;exact⟨(Go.bits .or .u32 ae (rd (Zt l0 (wrap64 ((rd l3 ab) - af))) aa)),(wrap64 (aa + 1)),(by first|rfl|(simp;done)|(simp only [← ap] <;> (first|rfl|simp))|(simp [*];done)),(by first|rfl|(simp;done)|(simp [*];done)),H',⟨by have:=au.out;have:=av.out;omega⟩,⟨zK ac⟩,⟨zH HB⟩⟩)
     (rw [if_neg bv] at H);(have ce:decide (af≤(rd l3 ab))=false:=decide_eq_false bv);(clear bv)
     by_cases bw:aa < (l2.length:Int)
     rotate_left
     ·rw [if_neg bw] at H
      (have cf:decide (aa < (l2.length:Int))=false:=decide_eq_false bw);(clear bw);(have H':=Za.mk H);(clear H);(obtain⟨dd,de,df,dg⟩:=zq4 ac.out);(obtain⟨dh,di,dj,dk⟩:=zf4 ac.out)
      go_wp2
      (first|go_roundg k2|(simp only [← ag];go_roundg k2))
      case measure=>have:=au.out;have:=av.out;omega
      case rel=>first|exact⟨(ae),(wrap64 (aa + 1)),(by first|rfl|(simp;done)|(simp [*];done)),(by first|rfl|(simp;done)|(simp [*];done)),H',⟨by have:=au.out;have:=av.out;omega⟩,⟨zK ac⟩,⟨zH HB⟩⟩|(subst ag;exact⟨(ae),(wrap64 (aa + 1)),(by first|rfl|(simp;done)|(simp [*];done)),(by first|rfl|(simp;done)|(simp [*];done)),H',⟨by have:=au.out;have:=av.out;omega⟩,⟨zK ac⟩,⟨zH HB⟩⟩)
     (rw [if_pos bw] at H);(have cf:decide (aa < (l2.length:Int))=true:=decide_eq_true bw);(clear bw)
     by_cases br:(rd l2 aa)=(rd l3 ab)
     rotate_left
     ·rw [if_neg br] at H
      (have cg:((rd l2 aa) == (rd l3 ab))=false:=beq_eq_false_iff_ne.mpr br);(have ch:((rd l2 aa) != (rd l3 ab))=true:=bne_iff_ne.mpr br);(have H':=Za.mk H);(clear H);(obtain⟨dl,dm,dn,dp⟩:=zq4 ac.out);(obtain⟨dq,dr,dt,du⟩:=zf4 ac.out);(have ax:0≤(aa:Int):=zD);(have ay:aa < (l2.length:Int):=zD);(obtain⟨ci,bs,ao⟩:=Kd.at_int fo.out aa ax ay);(cases bs);(replace ao:=zX HB ao);(replace ax:=eq_true ax);(replace ay:=eq_true ay)
      go_wp2
      (first|go_roundg k2|(simp only [← ag];go_roundg k2))
      case measure=>have:=au.out;have:=av.out;omega
      case rel=>first|exact⟨(ae),(wrap64 (aa + 1)),(by first|rfl|(simp;done)|(simp [*];done)),(by first|rfl|(simp;done)|(simp [*];done)),H',⟨by have:=au.out;have:=av.out;omega⟩,⟨zK ac⟩,⟨zH HB⟩⟩|(subst ag;exact⟨(ae),(wrap64 (aa + 1)),(by first|rfl|(simp;done)|(simp [*];done)),(by first|rfl|(simp;done)|(simp [*];done)),H',⟨by have:=au.out;have:=av.out;omega⟩,⟨zK ac⟩,⟨zH HB⟩⟩)
     (rw [if_pos br] at H);(have cg:((rd l2 aa) == (rd l3 ab))=true:=beq_iff_eq.mpr br);(have ch:((rd l2 aa) != (rd l3 ab))=false:=bne_eq_false_iff_eq.mpr br);(clear br);(obtain⟨an,aq⟩ : ∃j_:Int,(wrap64 (aa + 1))=j_:=⟨_,rfl⟩);(replace H:(if 0≤(an) then(Zj1.l1 k2 l0 l2 am (rd l3 ab) (Go.bits .or .u32 ae (shl .u32 1 (an))) l3 (l3.length:Int) ab (wrap64 ((l2.length:Int) + 1)) an af ai aj ah) else(none))=some r:=by first|(rw [aq] at H;exact H)|(simp only [aq] at H ⊢;exact H));(have fb:(IntKind.i64.wrap (aa + 1))=an:=(Zc _).trans aq)
     by_cases cj:0≤(an)
     rotate_left
     ·rw [if_neg cj] at H
      exact absurd H (by simp)
     (rw [if_pos cj] at H);(have gc:=eq_true cj);(have gh:decide (0≤(an))=true:=decide_eq_true cj);(clear cj);(obtain⟨be,al⟩ : ∃j_:Int,(shl .u32 1 (an))=j_:=⟨_,rfl⟩);(replace H:(Zj1.l1 k2 l0 l2 am (rd l3 ab) (Go.bits .or .u32 ae (be)) l3 (l3.length:Int) ab (wrap64 ((l2.length:Int) + 1)) an af ai aj ah)=some r:=by first|(rw [al] at H;exact H)|(simp only [al] at H ⊢;exact H));(have bt:(IntKind.u32.wrap (1 * 2 ^ min (an).toNat 32))=be:=al);(have bu:(an)≤32→(IntKind.u32.wrap (1 * 2 ^ (an).toNat))=be:=shl_small al);(have fc:(IntKind.u32.wrap (2 ^ min (an).toNat 32))=be:=by have h_:=bt;rw [Int.one_mul] at h_;exact h_);(have fd:(an)≤32→(IntKind.u32.wrap (2 ^ (an).toNat))=be:=fun hle_=>by have h_:=bu hle_;rw [Int.one_mul] at h_;exact h_);(have H':=Za.mk H);(clear H);(obtain⟨dv,dw,dx,dy⟩:=zq4 ac.out);(obtain⟨dz,ea,ec,ee⟩:=zf4 ac.out);(have ax:0≤(aa:Int):=zD)
     (have ay:aa < (l2.length:Int):=zD);(obtain⟨ci,bs,ao⟩:=Kd.at_int fo.out aa ax ay);(cases bs);(replace ao:=zX HB ao);(replace ax:=eq_true ax);(replace ay:=eq_true ay)
     go_wp2
     (first|go_roundg k2|(simp only [← al];go_roundg k2)|(simp only [← aq,← al];go_roundg k2)|(simp only [← ag,← aq,← al];go_roundg k2))
     case measure=>have:=au.out;have:=av.out;omega
     case rel=>first|exact⟨(Go.bits .or .u32 ae (be)),(an),(by first|rfl|(simp;done)|(simp only [← al] <;> (first|rfl|simp))|(simp [*];done)),(by first|rfl|(simp;done)|(simp only [← aq] <;> (first|rfl|simp))|(simp [*];done)),H',⟨by have:=au.out;have:=av.out;omega⟩,⟨zK ac⟩,⟨zH HB⟩⟩|(subst al;subst aq;subst ag;exact⟨(Go.bits .or .u32 ae (shl .u32 1 (wrap64 (aa + 1)))),(wrap64 (aa + 1)),(by first|rfl|(simp;done)|(simp only [← al] <;> (first|rfl|simp))|(simp [*];done)),(by first|rfl|(simp;done)|(simp only [← aq] <;> (first|rfl|simp))|(simp [*];done)),H',⟨by have:=au.out;have:=av.out;omega⟩,⟨zK ac⟩,⟨zH HB⟩⟩)
end Go.Proofs.Ytbifocddbgleeaa.PAheadParses
