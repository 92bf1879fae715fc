-- By a program.
import Derived.Test.YtbifocddbgleeaaQPAheadParsesx0
import Derived.Test.YtbifocddbgleeaaQPAheadParsesx18
namespace Go.Proofs.Ytbifocddbgleeaa.PAheadParses
open Go.RowKit Go.Proofs.YtbifocddbgleeaaW.PrintWords Go.Proofs.YtbifocddbgleeaaW.PrintLast Go.Proofs.YtbifocddbgleeaaW.PrintMore
attribute [local go_sem] max2_int min2_int max_two min_two max_three min_three max_four min_four
set_option linter.unusedVariables false
set_option linter.unusedSimpArgs false
mutual
def Zg1.l0:Nat→Int→Int→Int→Int→List (S41)→Option (Bool)
  |0,_,_,_,_,_=>none
  |k + 1,x3,x348000,x348001,x348002,x348003=>if x3 < (x348003.length:Int) then(Zg1.l1 k x3 0 x348000 x348001 x348002 x348003) else(some true)
def Zg1.l1:Nat→Int→Int→Int→Int→Int→List (S41)→Option (Bool)
  |0,_,_,_,_,_,_=>none
  |k + 1,x3,x4,x348000,x348001,x348002,x348003=>if x4 < x3 then(if 0≤x3 then(if x3 < (x348003.length:Int) then(if 0≤x4 then(if x4 < (x348003.length:Int) then(if((Zb x348003 x3).f0)=((Zb x348003 x4).f0) then((Zf2.f k x348000 x348001 x348002 x348003 ((Zb x348003 x3).f0) ((Zb x348003 x3).f1)).bind fun t351=>((Zf2.f k x348000 x348001 x348002 x348003 ((Zb x348003 x4).f0) ((Zb x348003 x4).f1)).bind fun t353=>(if(Go.bits .and .u32 t351 t353)=0 then(Zg1.l1 k x3 (wrap64 (x4 + 1)) x348000 x348001 x348002 x348003) else(some false)))) else(Zg1.l1 k x3 (wrap64 (x4 + 1)) x348000 x348001 x348002 x348003)) else(none)) else(none)) else(none)) else(none)) else(Zg1.l0 k (wrap64 (x3 + 1)) x348000 x348001 x348002 x348003)
end
def Zg1.f (k:Nat) (a0_0:Int) (a0_1:Int) (a0_2:Int) (l0_3:List (S41)):Option (Bool):=Zg1.l0 k 0 a0_0 a0_1 a0_2 l0_3
theorem Zg1.mono_l: ∀k,(∀y0 y1 y2 y3 y4,LeO (Zg1.l0 k y0 y1 y2 y3 y4) (Zg1.l0 (k + 1) y0 y1 y2 y3 y4))∧(∀y0 y1 y2 y3 y4 y5,LeO (Zg1.l1 k y0 y1 y2 y3 y4 y5) (Zg1.l1 (k + 1) y0 y1 y2 y3 y4 y5))
  |0=>⟨fun _ _ _ _ _ r h=>by simp [Zg1.l0] at h,fun _ _ _ _ _ _ r h=>by simp [Zg1.l1] at h⟩
  |k + 1=>by
    obtain⟨ih0,ih1⟩:=Zg1.mono_l k
    refine⟨?_,?_⟩
    · intro y0 y1 y2 y3 y4
      unfold Zg1.l0
      repeat' (with_reducible first|apply ih0|apply ih1|apply Zf2.mono|exact LeO.refl _|exact LeO.none _|refine LeO.ite ?_ ?_|refine LeO.bind ?_ (fun _=>?_))
    · intro y0 y1 y2 y3 y4 y5
      unfold Zg1.l1
      repeat' (with_reducible first|apply ih0|apply ih1|apply Zf2.mono|exact LeO.refl _|exact LeO.none _|refine LeO.ite ?_ ?_|refine LeO.bind ?_ (fun _=>?_))
theorem Zg1.mono: ∀a0 a1 a2 a3 k,LeO (Zg1.f k a0 a1 a2 a3) (Zg1.f (k + 1) a0 a1 a2 a3):=by
  intro a0 a1 a2 a3 k
  obtain⟨ih0,ih1⟩:=Zg1.mono_l k
  unfold Zg1.f
  repeat' (with_reducible first|apply ih0|apply ih1|apply Zf2.mono|exact LeO.refl _|exact LeO.none _|refine LeO.ite ?_ ?_|refine LeO.bind ?_ (fun _=>?_))
def Zg1.T7:Bool × List (List Nat × List Nat):=(true,[([],[]),([0],[0]),([],[]),([1,2],[1,2]),([3],[3]),([4],[4]),([],[]),([6],[6]),([],[]),([7,8],[7,8]),([9],[9]),([10],[10]),([5,11],[5,11]),([12],[12]),([13],[13]),([13],[13]),([15,13],[13,15]),([13],[13]),([16,17,13],[13,16,17]),([18,13],[13,18]),([14,19,13,13],[13,14,19]),([13],[13]),([13],[13]),([22,13],[13,22]),([13],[13]),([23,24,13],[13,23,24]),([25,13],[13,25]),([21,26,20,13],[13,21,26]),([20,27,13],[13,20,27]),([28,13],[13,28]),([13,29],[13,29])])
def Zg1.B7:List Nat:=[0,1,0,7,15,31,0,64,0,448,960,1984,4095,8191,16383,16383,49151,16383,245759,507903,1048575,16383,16383,4210687,16383,29376511,62930943,134217727,268435455,536870911,1073741823]
theorem Zg1.tab7:rtab .any (opsOf Try.f6 7)=Zg1.T7:=by kernel_rfl
theorem Zg1.bits7:waitsOk Zg1.T7.2 Zg1.B7=true:=by kernel_rfl
set_option maxHeartbeats 8000000 in
set_option maxRecDepth 100000 in
theorem Zg1.calls (k : Nat) (ap : Int) (aq : Int) (ar : Int) (ce : Option Addr) (bl : Nat) (aa : List (S41)) (r : Bool) (w : World) (cj : Kd.C k41 w ce aa.length aa) (ck : aa.length ≤ bl) (h : Zg1.f k ap aq ar aa = some r) :
    Calls Try.prog 6 #[.agg #[.int .i64 ap,.int .i64 aq,.int .i64 ar,.slice ce aa.length bl]] w fun e w'=>e= .returned (.bool r)∧Below w.heap.size w w':=by
 (have ei:=Try.underlying24);(have ez:=Try.underlying3);(have ek:=Try.underlying41);(have au:=Za.mk cj);(have ca:=Za.mk ck);(clear cj ck);(have HB:=Za.mk (Below.refl w.heap.size w));(have H:(Zg1.l0 k 0 ap aq ar aa)=some r:=h);(clear h);(have H':=Za.mk H);(clear H)
 go_enter Try.func6,Try.ntmps6
 go_wp2_with (first|((with_reducible refine Zs (N:=1) rfl ?_);refine Zx ?hg (N:=1) ?hd (cs:=#[.int .i64 ap,.int .i64 aq,.int .i64 ar,.slice ce aa.length bl]) (t:=24) ?hr ?_;(case hd=>rfl);(case hg=>rfl);(case hr=>first|(go_simp;done)|(go_simp;rfl));intro ak hg w2 hbox hb;have ab:=Za.mk (hbox);have ec:=Za.mk ((by rw [hg];exact(Zg (zH HB)):w.heap.size≤ak));have ee:=Za.mk ((by rw [hg];exact(Zg (zH HB)):w.heap.size≤ak));replace HB:=Za.mk (Zh (zH HB) hb);clear hb hbox hg))
 go_loopg [3] k (fun kq v3 w'=>∃(ac:Int),v3= .int .i64 ac∧Za (Zg1.l0 kq ac ap aq ar aa=some r)∧Za (kq≤k)∧Za (w'.heap[ak]? =some (.cells #[.int .i64 ap,.int .i64 aq,.int .i64 ar,(.slice ce aa.length bl)] 24 (0,0)))∧Za (Below w.heap.size w w'))
 case atStart=>exact⟨(0),(by first|rfl|(simp;done)|(simp [*];done)),H',⟨Nat.le_refl _⟩,⟨zK ab⟩,⟨zH HB⟩⟩
 case round=>
  (clear H');(try clear p2);(obtain⟨ac,rfl,HA,dh,ab,HB⟩:=hrel)
  cases gk with
  |zero=>exact absurd HA.out (by simp [Zg1.l0])
  |succ k1=>
   (have H:=HA.out);(clear HA);(simp only [Zg1.l0] at H)
   by_cases c3:ac < (aa.length:Int)
   rotate_left
   ·rw [if_neg c3] at H
    (have dj:decide (ac < (aa.length:Int))=false:=decide_eq_false c3);(clear c3);(obtain rfl:=Option.some.inj H);(obtain⟨dr,dt,du,dv⟩:=zq4 ab.out);(obtain⟨dw,dx,dy,dz⟩:=zf4 ab.out)
    go_wp2
    go_ret
    exact⟨by first|rfl|(simp [Zl,Zk] <;> rfl)|(simp [*,Zl,Zk] <;> rfl),zH HB⟩
   (rw [if_pos c3] at H);(have dj:decide (ac < (aa.length:Int))=true:=decide_eq_true c3);(clear c3);(have H':=Za.mk H);(clear H);(obtain⟨cm,cn,co,cp⟩:=zq4 ab.out);(obtain⟨cq,cu,cw,cy⟩:=zf4 ab.out)
   go_wp2
   go_loopg [4] k1 (fun kq v4 w'=>∃(af:Int),v4= .int .i64 af∧Za (Zg1.l1 kq ac af ap aq ar aa=some r)∧Za (kq≤k1)∧Za (w'.heap[ak]? =some (.cells #[.int .i64 ap,.int .i64 aq,.int .i64 ar,(.slice ce aa.length bl)] 24 (0,0)))∧Za (Below w.heap.size w w'))
   case atStart=>exact⟨(0),(by first|rfl|(simp;done)|(simp [*];done)),H',⟨Nat.le_refl _⟩,⟨zK ab⟩,⟨zH HB⟩⟩
   case round=>
    (clear H');(try clear p2);(try clear dj);(try clear cm cn co cp cq cu cw cy);(try clear p2);(obtain⟨af,rfl,HA,di,ab,HB⟩:=hrel)
    cases gk with
    |zero=>exact absurd HA.out (by simp [Zg1.l1])
    |succ k2=>
     (have H:=HA.out);(clear HA);(simp only [Zg1.l1] at H)
     by_cases c5:af < ac
     rotate_left
     ·rw [if_neg c5] at H
      (have ea:decide (af < ac)=false:=decide_eq_false c5);(clear c5);(have H':=Za.mk H);(clear H)
      go_wp2
      go_roundg k2
      case measure=>have:=dh.out;have:=di.out;omega
      case rel=>exact⟨(wrap64 (ac + 1)),(by first|rfl|(simp;done)|(simp [*];done)),H',⟨by have:=dh.out;have:=di.out;omega⟩,⟨zK ab⟩,⟨zH HB⟩⟩
     (rw [if_pos c5] at H);(have ea:decide (af < ac)=true:=decide_eq_true c5);(clear c5)
     by_cases c6:0≤ac
     rotate_left
     ·rw [if_neg c6] at H
      exact absurd H (by simp)
     (rw [if_pos c6] at H);(have eo:decide (0≤ac)=true:=decide_eq_true c6);(clear c6)
     by_cases c7:ac < (aa.length:Int)
     rotate_left
     ·rw [if_neg c7] at H
      exact absurd H (by simp)
     (rw [if_pos c7] at H);(have es:decide (ac < (aa.length:Int))=true:=decide_eq_true c7);(clear c7)
     by_cases c8:0≤af
     rotate_left
     ·rw [if_neg c8] at H
      exact absurd H (by simp)
     (rw [if_pos c8] at H);(have eu:decide (0≤af)=true:=decide_eq_true c8);(clear c8)
     by_cases c9:af < (aa.length:Int)
     rotate_left
     ·rw [if_neg c9] at H
      exact absurd H (by simp)
     (rw [if_pos c9] at H);(have ey:decide (af < (aa.length:Int))=true:=decide_eq_true c9);(clear c9)
     by_cases c10:((Zb aa ac).f0)=((Zb aa af).f0)
     rotate_left
     ·rw [if_neg c10] at H
      (have dk:(((Zb aa ac).f0) == ((Zb aa af).f0))=false:=beq_eq_false_iff_ne.mpr c10);(have dl:(((Zb aa ac).f0) != ((Zb aa af).f0))=true:=bne_iff_ne.mpr c10);(have H':=Za.mk H);(clear H)
      try go_wp2
      (replace ab:=Za.mk (Zi ab.out));(replace HB:=Za.mk (Zz1 HB.out));(have bm:0≤(ac:Int):=zD);(have bn:ac < (aa.length:Int):=zD);(obtain⟨ae,az,ba,cf,ai,ag,av,aw⟩:=at_T41 au.out ac bm bn);(have hw348_1:=ag);(have hw348_0:=ai);(cases cf);(replace ai:=zX HB ai);(replace ag:=zX HB ag);(have bd:=Za.mk aw);(have cb:=Za.mk av);(clear aw av);(replace bm:=eq_true bm);(replace bn:=eq_true bn);(have bo:0≤(af:Int):=zD);(have bp:af < (aa.length:Int):=zD);(obtain⟨bu,bb,bc,cg,aj,ah,ax,ay⟩:=at_T41 au.out af bo bp);(have hw349_1:=ah);(have hw349_0:=aj);(obtain rfl:ae=bu:=(by injection cg));(replace aj:=zX HB aj);(replace ah:=zX HB ah);(have be:=Za.mk ay);(have cd:=Za.mk ax);(clear ay ax);(replace bo:=eq_true bo);(replace bp:=eq_true bp)
      refine start_ (n:=31) (S:=fun w'=>w'.cell? ⟨ak,0,none⟩=some (.int .i64 ap)∧w'.cell? ⟨ak,1,none⟩=some (.int .i64 aq)∧w'.cell? ⟨ak,2,none⟩=some (.int .i64 ar)∧w'.cell? ⟨ak,3,none⟩=some (.slice (some ae) aa.length bl)∧w'.cell? (ae.add ((ac).toNat * 2))=some (.int .i64 ((Zb aa ac).f0))∧w'.cell? ⟨(ae.add ((ac).toNat * 2)).block,(ae.add ((ac).toNat * 2)).off + 1,none⟩=some (.slice az ((Zb aa ac).f1).length ba)∧w'.cell? (ae.add ((af).toNat * 2))=some (.int .i64 ((Zb aa af).f0))∧w'.cell? ⟨(ae.add ((af).toNat * 2)).block,(ae.add ((af).toNat * 2)).off + 1,none⟩=some (.slice bb ((Zb aa af).f1).length bc)) (ds:=[]) #[false,false,false,false,false,false,false,false,false,false,false,false,false,false,false,false,false,false,false,false,false,false,false,false,false,false,false,false,false,false,false] (by kernel_rfl) rfl rfl ⟨(Zf ab.out 0).trans rfl,(Zf ab.out 1).trans rfl,(Zf ab.out 2).trans rfl,(Zf ab.out 3).trans rfl,(zX HB hw348_0),(zX HB hw348_1),(zX HB hw349_0),(zX HB hw349_1)⟩ (fun hHeld=>?_);refine Zc2 Zg1.tab7 Zg1.bits7 (fun HT_ HW_=>?_)
      generalize wr.drew=fa at ab HB bd be ai ag aj ah hHeld ⊢
      refine zP 0 (some 17) (zt 31 1) (Ze HT_.out (by kernel_rfl)) ?_
      refine zP 2 (some 19) (zt 31 5) (Ze HT_.out (by kernel_rfl)) ?_
      refine zP 6 (some 23) (zt 31 69) (Ze HT_.out (by kernel_rfl)) ?_
      refine zP 8 (some 25) (zt 31 325) (Ze HT_.out (by kernel_rfl)) ?_
      refine take_ (i:=1) (N:=some 18) (v:=?_) (a':=?_) #[true,true,true,false,false,false,true,false,true,false,false,false,false,false,false,false,false,false,false,false,false,false,false,false,false,false,false,false,false,false,false] rfl rfl (Zi1 HT_.out HW_.out (by kernel_rfl)) (fun _ _ _ h=>h) (Or.inl ⟨by rfl,?_⟩) hHeld ?_ ?_
      rotate_left
      ·rintro w' ⟨s0,s1,s2,s3,s4,s5,s6,s7⟩
       go_simp
       with_reducible rfl
      rotate_left
      ·simp only [Act.put,zp1,zp2,zp3,Zc,Zd]
       rfl
      refine zP 3 (some 20) (zt 31 335) (Ze HT_.out (by kernel_rfl)) ?_
      refine zP 4 (some 21) (zt 31 351) (Ze HT_.out (by kernel_rfl)) ?_
      refine take_ (i:=5) (N:=some 22) (v:=?_) (a':=?_) #[true,true,true,true,true,true,true,false,true,false,false,false,false,false,false,false,false,false,false,false,false,false,false,false,false,false,false,false,false,false,false] rfl rfl (Zi1 HT_.out HW_.out (by kernel_rfl)) (fun _ _ _ h=>h) (Or.inl ⟨by rfl,?_⟩) hHeld ?_ ?_
      rotate_left
      ·rintro w' ⟨s0,s1,s2,s3,s4,s5,s6,s7⟩
       go_simp
       with_reducible rfl
      rotate_left
      ·simp only [Act.put,zp1,zp2,zp3,Zc,Zd]
       rfl
      refine take_ (i:=7) (N:=some 24) (v:=?_) (a':=?_) #[true,true,true,true,true,true,true,true,true,false,false,false,false,false,false,false,false,false,false,false,false,false,false,false,false,false,false,false,false,false,false] rfl rfl (Zi1 HT_.out HW_.out (by kernel_rfl)) (fun _ _ _ h=>h) (Or.inl ⟨by rfl,?_⟩) hHeld ?_ ?_
      rotate_left
      ·rintro w' ⟨s0,s1,s2,s3,s4,s5,s6,s7⟩
       go_simp
       with_reducible rfl
      rotate_left
      ·simp only [Act.put,zp1,zp2,zp3,Zc,Zd]
       rfl
      refine zP 9 (some 26) (zt 31 1023) (Ze HT_.out (by kernel_rfl)) ?_
      refine zP 10 (some 27) (zt 31 2047) (Ze HT_.out (by kernel_rfl)) ?_
      refine take_ (i:=11) (N:=some 28) (v:=?_) (a':=?_) #[true,true,true,true,true,true,true,true,true,true,true,true,false,false,false,false,false,false,false,false,false,false,false,false,false,false,false,false,false,false,false] rfl rfl (Zi1 HT_.out HW_.out (by kernel_rfl)) (fun _ _ _ h=>h) (Or.inl ⟨by rfl,?_⟩) hHeld ?_ ?_
      rotate_left
      ·rintro w' ⟨s0,s1,s2,s3,s4,s5,s6,s7⟩
       go_simp
       with_reducible rfl
      rotate_left
      ·simp only [Act.put,zp1,zp2,zp3,Zc,Zd]
       rfl
      refine zP 12 (some 29) (zt 31 8191) (Ze HT_.out (by kernel_rfl)) ?_
      refine zP 13 (some 30) (zt 31 16383) (Ze HT_.out (by kernel_rfl)) ?_
      refine pure_ (i:=14) (N:=some 31) (v:=undef) (a':=?_) #[true,true,true,true,true,true,true,true,true,true,true,true,true,true,true,false,false,false,false,false,false,false,false,false,false,false,false,false,false,false,false] rfl rfl (Ze HT_.out (by kernel_rfl)) (fun _ _ _ h=>h) (Or.inr ⟨by rfl,rfl⟩) ?_ ?_
      rotate_left
      ·simp only [Act.put,zp1,zp2,zp3,Zc,Zd]
       rfl
      refine pure_ (i:=15) (N:=some 32) (v:=undef) (a':=?_) #[true,true,true,true,true,true,true,true,true,true,true,true,true,true,true,true,false,false,false,false,false,false,false,false,false,false,false,false,false,false,false] rfl rfl (Ze HT_.out (by kernel_rfl)) (fun _ _ _ h=>h) (Or.inr ⟨by rfl,rfl⟩) ?_ ?_
      rotate_left
      ·simp only [Act.put,zp1,zp2,zp3,Zc,Zd]
       rfl
      refine pure_ (i:=16) (N:=some 33) (v:=undef) (a':=?_) #[true,true,true,true,true,true,true,true,true,true,true,true,true,true,true,true,true,false,false,false,false,false,false,false,false,false,false,false,false,false,false] rfl rfl (Ze HT_.out (by kernel_rfl)) (fun _ _ _ h=>h) (Or.inr ⟨by rfl,rfl⟩) ?_ ?_
      rotate_left
      ·simp only [Act.put,zp1,zp2,zp3,Zc,Zd]
       rfl
      refine pure_ (i:=17) (N:=some 34) (v:=undef) (a':=?_) #[true,true,true,true,true,true,true,true,true,true,true,true,true,true,true,true,true,true,false,false,false,false,false,false,false,false,false,false,false,false,false] rfl rfl (Ze HT_.out (by kernel_rfl)) (fun _ _ _ h=>h) (Or.inr ⟨by rfl,rfl⟩) ?_ ?_
      rotate_left
      ·simp only [Act.put,zp1,zp2,zp3,Zc,Zd]
       rfl
      refine pure_ (i:=18) (N:=some 35) (v:=undef) (a':=?_) #[true,true,true,true,true,true,true,true,true,true,true,true,true,true,true,true,true,true,true,false,false,false,false,false,false,false,false,false,false,false,false] rfl rfl (Ze HT_.out (by kernel_rfl)) (fun _ _ _ h=>h) (Or.inr ⟨by rfl,rfl⟩) ?_ ?_
      rotate_left
      ·simp only [Act.put,zp1,zp2,zp3,Zc,Zd]
       rfl
      refine pure_ (i:=19) (N:=some 36) (v:=undef) (a':=?_) #[true,true,true,true,true,true,true,true,true,true,true,true,true,true,true,true,true,true,true,true,false,false,false,false,false,false,false,false,false,false,false] rfl rfl (Ze HT_.out (by kernel_rfl)) (fun _ _ _ h=>h) (Or.inr ⟨by rfl,rfl⟩) ?_ ?_
      rotate_left
      ·simp only [Act.put,zp1,zp2,zp3,Zc,Zd]
       rfl
      refine pure_ (i:=20) (N:=some 37) (v:=undef) (a':=?_) #[true,true,true,true,true,true,true,true,true,true,true,true,true,true,true,true,true,true,true,true,true,false,false,false,false,false,false,false,false,false,false] rfl rfl (Ze HT_.out (by kernel_rfl)) (fun _ _ _ h=>h) (Or.inr ⟨by rfl,rfl⟩) ?_ ?_
      rotate_left
      ·simp only [Act.put,zp1,zp2,zp3,Zc,Zd]
       rfl
      refine pure_ (i:=21) (N:=some 38) (v:=undef) (a':=?_) #[true,true,true,true,true,true,true,true,true,true,true,true,true,true,true,true,true,true,true,true,true,true,false,false,false,false,false,false,false,false,false] rfl rfl (Ze HT_.out (by kernel_rfl)) (fun _ _ _ h=>h) (Or.inr ⟨by rfl,rfl⟩) ?_ ?_
      rotate_left
      ·simp only [Act.put,zp1,zp2,zp3,Zc,Zd]
       rfl
      refine pure_ (i:=22) (N:=some 39) (v:=undef) (a':=?_) #[true,true,true,true,true,true,true,true,true,true,true,true,true,true,true,true,true,true,true,true,true,true,true,false,false,false,false,false,false,false,false] rfl rfl (Ze HT_.out (by kernel_rfl)) (fun _ _ _ h=>h) (Or.inr ⟨by rfl,rfl⟩) ?_ ?_
      rotate_left
      ·simp only [Act.put,zp1,zp2,zp3,Zc,Zd]
       rfl
      refine pure_ (i:=23) (N:=some 40) (v:=undef) (a':=?_) #[true,true,true,true,true,true,true,true,true,true,true,true,true,true,true,true,true,true,true,true,true,true,true,true,false,false,false,false,false,false,false] rfl rfl (Ze HT_.out (by kernel_rfl)) (fun _ _ _ h=>h) (Or.inr ⟨by rfl,rfl⟩) ?_ ?_
      rotate_left
      ·simp only [Act.put,zp1,zp2,zp3,Zc,Zd]
       rfl
      refine pure_ (i:=24) (N:=some 41) (v:=undef) (a':=?_) #[true,true,true,true,true,true,true,true,true,true,true,true,true,true,true,true,true,true,true,true,true,true,true,true,true,false,false,false,false,false,false] rfl rfl (Ze HT_.out (by kernel_rfl)) (fun _ _ _ h=>h) (Or.inr ⟨by rfl,rfl⟩) ?_ ?_
      rotate_left
      ·simp only [Act.put,zp1,zp2,zp3,Zc,Zd]
       rfl
      refine pure_ (i:=25) (N:=some 42) (v:=undef) (a':=?_) #[true,true,true,true,true,true,true,true,true,true,true,true,true,true,true,true,true,true,true,true,true,true,true,true,true,true,false,false,false,false,false] rfl rfl (Ze HT_.out (by kernel_rfl)) (fun _ _ _ h=>h) (Or.inr ⟨by rfl,rfl⟩) ?_ ?_
      rotate_left
      ·simp only [Act.put,zp1,zp2,zp3,Zc,Zd]
       rfl
      refine pure_ (i:=26) (N:=some 43) (v:=undef) (a':=?_) #[true,true,true,true,true,true,true,true,true,true,true,true,true,true,true,true,true,true,true,true,true,true,true,true,true,true,true,false,false,false,false] rfl rfl (Ze HT_.out (by kernel_rfl)) (fun _ _ _ h=>h) (Or.inr ⟨by rfl,rfl⟩) ?_ ?_
      rotate_left
      ·simp only [Act.put,zp1,zp2,zp3,Zc,Zd]
       rfl
      refine pure_ (i:=27) (N:=some 44) (v:=undef) (a':=?_) #[true,true,true,true,true,true,true,true,true,true,true,true,true,true,true,true,true,true,true,true,true,true,true,true,true,true,true,true,false,false,false] rfl rfl (Ze HT_.out (by kernel_rfl)) (fun _ _ _ h=>h) (Or.inr ⟨by rfl,rfl⟩) ?_ ?_
      rotate_left
      ·simp only [Act.put,zp1,zp2,zp3,Zc,Zd]
       rfl
      refine pure_ (i:=28) (N:=some 45) (v:=undef) (a':=?_) #[true,true,true,true,true,true,true,true,true,true,true,true,true,true,true,true,true,true,true,true,true,true,true,true,true,true,true,true,true,false,false] rfl rfl (Ze HT_.out (by kernel_rfl)) (fun _ _ _ h=>h) (Or.inr ⟨by rfl,rfl⟩) ?_ ?_
      rotate_left
      ·simp only [Act.put,zp1,zp2,zp3,Zc,Zd]
       rfl
      refine pure_ (i:=29) (N:=some 46) (v:=undef) (a':=?_) #[true,true,true,true,true,true,true,true,true,true,true,true,true,true,true,true,true,true,true,true,true,true,true,true,true,true,true,true,true,true,false] rfl rfl (Ze HT_.out (by kernel_rfl)) (fun _ _ _ h=>h) (Or.inr ⟨by rfl,rfl⟩) ?_ ?_
      rotate_left
      ·simp only [Act.put,zp1,zp2,zp3,Zc,Zd]
       rfl
      refine zP 30 (some 47) (zt 31 2147483647) (Ze HT_.out (by kernel_rfl)) ?_
      refine done_ (done_of HT_.out (by kernel_rfl)) ?_
      try go_wp2
      go_roundg k2
      case measure=>have:=dh.out;have:=di.out;omega
      case rel=>exact⟨(wrap64 (af + 1)),(by first|rfl|(simp;done)|(simp [*];done)),H',⟨by have:=dh.out;have:=di.out;omega⟩,⟨zK ab⟩,⟨zH HB⟩⟩
     (rw [if_pos c10] at H);(have dk:(((Zb aa ac).f0) == ((Zb aa af).f0))=true:=beq_iff_eq.mpr c10);(have dl:(((Zb aa ac).f0) != ((Zb aa af).f0))=false:=bne_eq_false_iff_eq.mpr c10);(clear c10);(replace H:=Option.bind_eq_some_iff.mp H);(obtain⟨br,dm,H⟩:=H);(replace H:((Zf2.f k2 ap aq ar aa ((Zb aa af).f0) ((Zb aa af).f1)).bind fun bq=>(if(Go.bits .and .u32 br bq)=0 then(Zg1.l1 k2 ac (wrap64 (af + 1)) ap aq ar aa) else(some false)))=some r:=H);(have ef:=Za.mk dm);(clear dm);(replace H:=Option.bind_eq_some_iff.mp H);(obtain⟨bq,dn,H⟩:=H);(replace H:(if(Go.bits .and .u32 br bq)=0 then(Zg1.l1 k2 ac (wrap64 (af + 1)) ap aq ar aa) else(some false))=some r:=H);(have eh:=Za.mk dn);(clear dn)
     by_cases da:(Go.bits .and .u32 br bq)=0
     rotate_left
     ·rw [if_neg da] at H
      (have dp:((Go.bits .and .u32 br bq) == 0)=false:=beq_eq_false_iff_ne.mpr da);(have dq:((Go.bits .and .u32 br bq) != 0)=true:=bne_iff_ne.mpr da);(obtain rfl:=Option.some.inj H)
      try go_wp2
      (replace ab:=Za.mk (Zi ab.out));(replace HB:=Za.mk (Zz1 HB.out));(have bm:0≤(ac:Int):=zD);(have bn:ac < (aa.length:Int):=zD);(obtain⟨ae,az,ba,cf,ai,ag,av,aw⟩:=at_T41 au.out ac bm bn);(have hw348_1:=ag);(have hw348_0:=ai);(cases cf);(replace ai:=zX HB ai);(replace ag:=zX HB ag);(have bd:=Za.mk aw);(have cb:=Za.mk av);(clear aw av);(replace bm:=eq_true bm);(replace bn:=eq_true bn);(have bo:0≤(af:Int):=zD);(have bp:af < (aa.length:Int):=zD);(obtain⟨bu,bb,bc,cg,aj,ah,ax,ay⟩:=at_T41 au.out af bo bp);(have hw349_1:=ah);(have hw349_0:=aj);(obtain rfl:ae=bu:=(by injection cg));(replace aj:=zX HB aj);(replace ah:=zX HB ah);(have be:=Za.mk ay);(have cd:=Za.mk ax);(clear ay ax);(replace bo:=eq_true bo);(replace bp:=eq_true bp);(have bv:0≤(ac:Int):=zD);(have bw:ac < (aa.length:Int):=zD);(obtain⟨ch,db,dc,dd,an,al,bf,bg⟩:=at_T41 au.out ac bv bw)
      (have hw350_1:=al);(have hw350_0:=an);(obtain rfl:ae=ch:=(by injection dd));(replace an:=zX HB an);(replace al:=zX HB al);(have bh:=Za.mk bg);(have bs:=Za.mk bf);(clear bg bf);(replace bv:=eq_true bv);(replace bw:=eq_true bw);(have ea_:=Option.some.inj (ag.symm.trans al));(injection ea_ with ea_ en_ ec_);(subst ea_);(subst ec_);(clear en_);(have bx:0≤(af:Int):=zD);(have bz:af < (aa.length:Int):=zD);(obtain⟨ci,de,df,dg,ao,am,bi,bj⟩:=at_T41 au.out af bx bz);(have hw352_1:=am);(have hw352_0:=ao);(obtain rfl:ae=ci:=(by injection dg));(replace ao:=zX HB ao);(replace am:=zX HB am);(have bk:=Za.mk bj);(have bt:=Za.mk bi);(clear bj bi);(replace bx:=eq_true bx);(replace bz:=eq_true bz);(have ea_:=Option.some.inj (ah.symm.trans am));(injection ea_ with ea_ en_ ec_);(subst ea_);(subst ec_);(clear en_)
      refine start_ (n:=31) (S:=fun w'=>w'.cell? ⟨ak,0,none⟩=some (.int .i64 ap)∧w'.cell? ⟨ak,1,none⟩=some (.int .i64 aq)∧w'.cell? ⟨ak,2,none⟩=some (.int .i64 ar)∧w'.cell? ⟨ak,3,none⟩=some (.slice (some ae) aa.length bl)∧w'.cell? (ae.add ((ac).toNat * 2))=some (.int .i64 ((Zb aa ac).f0))∧w'.cell? ⟨(ae.add ((ac).toNat * 2)).block,(ae.add ((ac).toNat * 2)).off + 1,none⟩=some (.slice az ((Zb aa ac).f1).length ba)∧w'.cell? (ae.add ((af).toNat * 2))=some (.int .i64 ((Zb aa af).f0))∧w'.cell? ⟨(ae.add ((af).toNat * 2)).block,(ae.add ((af).toNat * 2)).off + 1,none⟩=some (.slice bb ((Zb aa af).f1).length bc)∧w'.cell? (ae.add ((ac).toNat * 2))=some (.int .i64 ((Zb aa ac).f0))∧w'.cell? ⟨(ae.add ((ac).toNat * 2)).block,(ae.add ((ac).toNat * 2)).off + 1,none⟩=some (.slice az ((Zb aa ac).f1).length ba)∧w'.cell? (ae.add ((af).toNat * 2))=some (.int .i64 ((Zb aa af).f0))∧w'.cell? ⟨(ae.add ((af).toNat * 2)).block,(ae.add ((af).toNat * 2)).off + 1,none⟩=some (.slice bb ((Zb aa af).f1).length bc)) (ds:=[]) #[false,false,false,false,false,false,false,false,false,false,false,false,false,false,false,false,false,false,false,false,false,false,false,false,false,false,false,false,false,false,false] (by kernel_rfl) rfl rfl ⟨(Zf ab.out 0).trans rfl,(Zf ab.out 1).trans rfl,(Zf ab.out 2).trans rfl,(Zf ab.out 3).trans rfl,(zX HB hw348_0),(zX HB hw348_1),(zX HB hw349_0),(zX HB hw349_1),(zX HB hw350_0),(zX HB hw350_1),(zX HB hw352_0),(zX HB hw352_1)⟩ (fun hHeld=>?_);refine Zc2 Zg1.tab7 Zg1.bits7 (fun HT_ HW_=>?_)
      generalize wr.drew=fb at ab HB bd be bh bk ai ag aj ah an al ao am hHeld ⊢
      refine zP 0 (some 17) (zt 31 1) (Ze HT_.out (by kernel_rfl)) ?_
      refine zP 2 (some 19) (zt 31 5) (Ze HT_.out (by kernel_rfl)) ?_
      refine zP 6 (some 23) (zt 31 69) (Ze HT_.out (by kernel_rfl)) ?_
      refine zP 8 (some 25) (zt 31 325) (Ze HT_.out (by kernel_rfl)) ?_
      refine take_ (i:=1) (N:=some 18) (v:=?_) (a':=?_) #[true,true,true,false,false,false,true,false,true,false,false,false,false,false,false,false,false,false,false,false,false,false,false,false,false,false,false,false,false,false,false] rfl rfl (Zi1 HT_.out HW_.out (by kernel_rfl)) (fun _ _ _ h=>h) (Or.inl ⟨by rfl,?_⟩) hHeld ?_ ?_
      rotate_left
      ·rintro w' ⟨s0,s1,s2,s3,s4,s5,s6,s7,s8,s9,s10,s11⟩
       go_simp
       with_reducible rfl
      rotate_left
      ·simp only [Act.put,zp1,zp2,zp3,Zc,Zd]
       rfl
      refine zP 3 (some 20) (zt 31 335) (Ze HT_.out (by kernel_rfl)) ?_
      refine zP 4 (some 21) (zt 31 351) (Ze HT_.out (by kernel_rfl)) ?_
      refine take_ (i:=5) (N:=some 22) (v:=?_) (a':=?_) #[true,true,true,true,true,true,true,false,true,false,false,false,false,false,false,false,false,false,false,false,false,false,false,false,false,false,false,false,false,false,false] rfl rfl (Zi1 HT_.out HW_.out (by kernel_rfl)) (fun _ _ _ h=>h) (Or.inl ⟨by rfl,?_⟩) hHeld ?_ ?_
      rotate_left
      ·rintro w' ⟨s0,s1,s2,s3,s4,s5,s6,s7,s8,s9,s10,s11⟩
       go_simp
       with_reducible rfl
      rotate_left
      ·simp only [Act.put,zp1,zp2,zp3,Zc,Zd]
       rfl
      refine take_ (i:=7) (N:=some 24) (v:=?_) (a':=?_) #[true,true,true,true,true,true,true,true,true,false,false,false,false,false,false,false,false,false,false,false,false,false,false,false,false,false,false,false,false,false,false] rfl rfl (Zi1 HT_.out HW_.out (by kernel_rfl)) (fun _ _ _ h=>h) (Or.inl ⟨by rfl,?_⟩) hHeld ?_ ?_
      rotate_left
      ·rintro w' ⟨s0,s1,s2,s3,s4,s5,s6,s7,s8,s9,s10,s11⟩
       go_simp
       with_reducible rfl
      rotate_left
      ·simp only [Act.put,zp1,zp2,zp3,Zc,Zd]
       rfl
      refine zP 9 (some 26) (zt 31 1023) (Ze HT_.out (by kernel_rfl)) ?_
      refine zP 10 (some 27) (zt 31 2047) (Ze HT_.out (by kernel_rfl)) ?_
      refine take_ (i:=11) (N:=some 28) (v:=?_) (a':=?_) #[true,true,true,true,true,true,true,true,true,true,true,true,false,false,false,false,false,false,false,false,false,false,false,false,false,false,false,false,false,false,false] rfl rfl (Zi1 HT_.out HW_.out (by kernel_rfl)) (fun _ _ _ h=>h) (Or.inl ⟨by rfl,?_⟩) hHeld ?_ ?_
      rotate_left
      ·rintro w' ⟨s0,s1,s2,s3,s4,s5,s6,s7,s8,s9,s10,s11⟩
       go_simp
       with_reducible rfl
      rotate_left
      ·simp only [Act.put,zp1,zp2,zp3,Zc,Zd]
       rfl
      refine zP 12 (some 29) (zt 31 8191) (Ze HT_.out (by kernel_rfl)) ?_
      refine zP 13 (some 30) (zt 31 16383) (Ze HT_.out (by kernel_rfl)) ?_
      refine zP 15 (some 32) (zt 31 49151) (Ze HT_.out (by kernel_rfl)) ?_
      refine zP 17 (some 34) (zt 31 180223) (Ze HT_.out (by kernel_rfl)) ?_
      refine zP 22 (some 39) (zt 31 4374527) (Ze HT_.out (by kernel_rfl)) ?_
      refine zP 24 (some 41) (zt 31 21151743) (Ze HT_.out (by kernel_rfl)) ?_
      refine take_ (i:=14) (N:=some 31) (v:=?_) (a':=?_) #[true,true,true,true,true,true,true,true,true,true,true,true,true,true,true,true,false,true,false,false,false,false,true,false,true,false,false,false,false,false,false] rfl rfl (Zi1 HT_.out HW_.out (by kernel_rfl)) (fun _ _ _ h=>h) (Or.inl ⟨by rfl,?_⟩) hHeld ?_ ?_
      rotate_left
      ·rintro w' ⟨s0,s1,s2,s3,s4,s5,s6,s7,s8,s9,s10,s11⟩
       go_simp
       with_reducible rfl
      rotate_left
      ·simp only [Act.put,zp1,zp2,zp3,Zc,Zd]
       rfl
      refine take_ (i:=16) (N:=some 33) (v:=?_) (a':=?_) #[true,true,true,true,true,true,true,true,true,true,true,true,true,true,true,true,true,true,false,false,false,false,true,false,true,false,false,false,false,false,false] rfl rfl (Zi1 HT_.out HW_.out (by kernel_rfl)) (fun _ _ _ h=>h) (Or.inl ⟨by rfl,?_⟩) hHeld ?_ ?_
      rotate_left
      ·rintro w' ⟨s0,s1,s2,s3,s4,s5,s6,s7,s8,s9,s10,s11⟩
       go_simp
       with_reducible rfl
      rotate_left
      ·simp only [Act.put,zp1,zp2,zp3,Zc,Zd]
       rfl
      refine zP 18 (some 35) (zt 31 21495807) (Ze HT_.out (by kernel_rfl)) ?_
      refine take_ (i:=19) (N:=some 36) (v:=?_) (a':=?_) #[true,true,true,true,true,true,true,true,true,true,true,true,true,true,true,true,true,true,true,true,false,false,true,false,true,false,false,false,false,false,false] rfl rfl (Zi1 HT_.out HW_.out (by kernel_rfl)) (fun _ _ _ h=>h) (Or.inl ⟨by rfl,?_⟩) hHeld ?_ ?_
      rotate_left
      ·rintro w' ⟨s0,s1,s2,s3,s4,s5,s6,s7,s8,s9,s10,s11⟩
       go_simp
       with_reducible rfl
      rotate_left
      ·simp only [Act.put,zp1,zp2,zp3,Zc,Zd]
       rfl
      refine take_ (i:=21) (N:=some 38) (v:=?_) (a':=?_) #[true,true,true,true,true,true,true,true,true,true,true,true,true,true,true,true,true,true,true,true,false,true,true,false,true,false,false,false,false,false,false] rfl rfl (Zi1 HT_.out HW_.out (by kernel_rfl)) (fun _ _ _ h=>h) (Or.inl ⟨by rfl,?_⟩) hHeld ?_ ?_
      rotate_left
      ·rintro w' ⟨s0,s1,s2,s3,s4,s5,s6,s7,s8,s9,s10,s11⟩
       go_simp
       with_reducible rfl
      rotate_left
      ·simp only [Act.put,zp1,zp2,zp3,Zc,Zd]
       rfl
      refine take_ (i:=23) (N:=some 40) (v:=?_) (a':=?_) #[true,true,true,true,true,true,true,true,true,true,true,true,true,true,true,true,true,true,true,true,false,true,true,true,true,false,false,false,false,false,false] rfl rfl (Zi1 HT_.out HW_.out (by kernel_rfl)) (fun _ _ _ h=>h) (Or.inl ⟨by rfl,?_⟩) hHeld ?_ ?_
      rotate_left
      ·rintro w' ⟨s0,s1,s2,s3,s4,s5,s6,s7,s8,s9,s10,s11⟩
       go_simp
       with_reducible rfl
      rotate_left
      ·simp only [Act.put,zp1,zp2,zp3,Zc,Zd]
       rfl
      refine zP 25 (some 42) (zt 31 66060287) (Ze HT_.out (by kernel_rfl)) ?_
      refine take_ (i:=26) (N:=some 43) (v:=?_) (a':=?_) #[true,true,true,true,true,true,true,true,true,true,true,true,true,true,true,true,true,true,true,true,false,true,true,true,true,true,true,false,false,false,false] rfl rfl (Zi1 HT_.out HW_.out (by kernel_rfl)) (fun _ _ _ h=>h) (Or.inl ⟨by rfl,?_⟩) hHeld ?_ ?_
      rotate_left
      ·rintro w' ⟨s0,s1,s2,s3,s4,s5,s6,s7,s8,s9,s10,s11⟩
       go_simp
       with_reducible rfl
      rotate_left
      ·simp only [Act.put,zp1,zp2,zp3,Zc,Zd]
       rfl
      refine one_ (i:=20) (N:=some 37) #[true,true,true,true,true,true,true,true,true,true,true,true,true,true,true,true,true,true,true,true,true,true,true,true,true,true,true,false,false,false,false] rfl rfl (one_of HT_.out (by kernel_rfl)) (by decide) (fun K hK=>?_)
      refine goes_ Try.func16 (by kernel_rfl) rfl #[.agg #[.int .i64 ap,.int .i64 aq,.int .i64 ar,.slice (some ae) aa.length bl],.agg #[.int .i64 ((Zb aa ac).f0),.slice az ((Zb aa ac).f1).length ba]] (by rfl) rfl rfl (by (try simp only [List.map_toArray,List.map_cons,List.map_nil]);first|done|rfl|(simp only [List.length_drop,List.length_take];rfl)) ?_
      with_reducible refine(Zf2.calls k2 ap aq ar _ _ aa ((Zb aa ac).f0) _ _ ((Zb aa ac).f1) br _ ?side1 ?side2 ?side3 ?side4 ef.out).mono ?_
      (case side1=>exact zC au HB)
      (case side2=>exact ca.out)
      (case side3=>exact zC bh HB)
      (case side4=>exact bs.out)
      rintro e fc ⟨rfl,hb⟩
      refine⟨_,rfl,?_⟩
      (replace ab:=Za.mk (Zj (g:=ak) (zK ab) hb));(replace HB:=Za.mk (Zh (zH HB) hb));((try clear hb));((try clear hb2));((try clear hk));((try clear hi))
      refine hK.out _ _ ⟨(Zf ab.out 0).trans rfl,(Zf ab.out 1).trans rfl,(Zf ab.out 2).trans rfl,(Zf ab.out 3).trans rfl,(zX HB hw348_0),(zX HB hw348_1),(zX HB hw349_0),(zX HB hw349_1),(zX HB hw350_0),(zX HB hw350_1),(zX HB hw352_0),(zX HB hw352_1)⟩ (fun hHeld=>?_)
      clear hK K
      refine norm_ (a':=?_) ?_ ?_
      rotate_left
      ·show Act.put _ (some 37) _=_
       simp only [Act.put,zp1,zp2,zp3,Zc,Zd]
       rfl
      refine one_ (i:=27) (N:=some 44) #[true,true,true,true,true,true,true,true,true,true,true,true,true,true,true,true,true,true,true,true,true,true,true,true,true,true,true,true,false,false,false] rfl rfl (one_of HT_.out (by kernel_rfl)) (by decide) (fun K hK=>?_)
      refine goes_ Try.func16 (by kernel_rfl) rfl #[.agg #[.int .i64 ap,.int .i64 aq,.int .i64 ar,.slice (some ae) aa.length bl],.agg #[.int .i64 ((Zb aa af).f0),.slice bb ((Zb aa af).f1).length bc]] (by rfl) rfl rfl (by (try simp only [List.map_toArray,List.map_cons,List.map_nil]);first|done|rfl|(simp only [List.length_drop,List.length_take];rfl)) ?_
      with_reducible refine(Zf2.calls k2 ap aq ar _ _ aa ((Zb aa af).f0) _ _ ((Zb aa af).f1) bq _ ?side1 ?side2 ?side3 ?side4 eh.out).mono ?_
      (case side1=>exact zC au HB)
      (case side2=>exact ca.out)
      (case side3=>exact zC bk HB)
      (case side4=>exact bt.out)
      rintro e fd ⟨rfl,hb⟩
      refine⟨_,rfl,?_⟩
      (replace ab:=Za.mk (Zj (g:=ak) (zK ab) hb));(replace HB:=Za.mk (Zh (zH HB) hb));((try clear hb));((try clear hb2));((try clear hk));((try clear hi))
      refine hK.out _ _ ⟨(Zf ab.out 0).trans rfl,(Zf ab.out 1).trans rfl,(Zf ab.out 2).trans rfl,(Zf ab.out 3).trans rfl,(zX HB hw348_0),(zX HB hw348_1),(zX HB hw349_0),(zX HB hw349_1),(zX HB hw350_0),(zX HB hw350_1),(zX HB hw352_0),(zX HB hw352_1)⟩ (fun hHeld=>?_)
      clear hK K
      refine norm_ (a':=?_) ?_ ?_
      rotate_left
      ·show Act.put _ (some 44) _=_
       simp only [Act.put,zp1,zp2,zp3,Zc,Zd]
       rfl
      refine zP 28 (some 45) (zt 31 536870911) (Ze HT_.out (by kernel_rfl)) ?_
      refine zP 29 (some 46) (zt 31 1073741823) (Ze HT_.out (by kernel_rfl)) ?_
      refine zP 30 (some 47) (zt 31 2147483647) (Ze HT_.out (by kernel_rfl)) ?_
      refine done_ (done_of HT_.out (by kernel_rfl)) ?_
      try go_wp2
      go_ret
      exact⟨by first|rfl|(simp [Zl,Zk] <;> rfl)|(simp [*,Zl,Zk] <;> rfl),zH HB⟩
     (rw [if_pos da] at H);(have dp:((Go.bits .and .u32 br bq) == 0)=true:=beq_iff_eq.mpr da);(have dq:((Go.bits .and .u32 br bq) != 0)=false:=bne_eq_false_iff_eq.mpr da);(clear da);(have H':=Za.mk H);(clear H)
     try go_wp2
     (replace ab:=Za.mk (Zi ab.out));(replace HB:=Za.mk (Zz1 HB.out));(have bm:0≤(ac:Int):=zD);(have bn:ac < (aa.length:Int):=zD);(obtain⟨ae,az,ba,cf,ai,ag,av,aw⟩:=at_T41 au.out ac bm bn);(have hw348_1:=ag);(have hw348_0:=ai);(cases cf);(replace ai:=zX HB ai);(replace ag:=zX HB ag);(have bd:=Za.mk aw);(have cb:=Za.mk av);(clear aw av);(replace bm:=eq_true bm);(replace bn:=eq_true bn);(have bo:0≤(af:Int):=zD);(have bp:af < (aa.length:Int):=zD);(obtain⟨bu,bb,bc,cg,aj,ah,ax,ay⟩:=at_T41 au.out af bo bp);(have hw349_1:=ah);(have hw349_0:=aj);(obtain rfl:ae=bu:=(by injection cg));(replace aj:=zX HB aj);(replace ah:=zX HB ah);(have be:=Za.mk ay);(have cd:=Za.mk ax);(clear ay ax);(replace bo:=eq_true bo);(replace bp:=eq_true bp);(have bv:0≤(ac:Int):=zD);(have bw:ac < (aa.length:Int):=zD);(obtain⟨ch,db,dc,dd,an,al,bf,bg⟩:=at_T41 au.out ac bv bw)
     (have hw350_1:=al);(have hw350_0:=an);(obtain rfl:ae=ch:=(by injection dd));(replace an:=zX HB an);(replace al:=zX HB al);(have bh:=Za.mk bg);(have bs:=Za.mk bf);(clear bg bf);(replace bv:=eq_true bv);(replace bw:=eq_true bw);(have ea_:=Option.some.inj (ag.symm.trans al));(injection ea_ with ea_ en_ ec_);(subst ea_);(subst ec_);(clear en_);(have bx:0≤(af:Int):=zD);(have bz:af < (aa.length:Int):=zD);(obtain⟨ci,de,df,dg,ao,am,bi,bj⟩:=at_T41 au.out af bx bz);(have hw352_1:=am);(have hw352_0:=ao);(obtain rfl:ae=ci:=(by injection dg));(replace ao:=zX HB ao);(replace am:=zX HB am);(have bk:=Za.mk bj);(have bt:=Za.mk bi);(clear bj bi);(replace bx:=eq_true bx);(replace bz:=eq_true bz);(have ea_:=Option.some.inj (ah.symm.trans am));(injection ea_ with ea_ en_ ec_);(subst ea_);(subst ec_);(clear en_)
     refine start_ (n:=31) (S:=fun w'=>w'.cell? ⟨ak,0,none⟩=some (.int .i64 ap)∧w'.cell? ⟨ak,1,none⟩=some (.int .i64 aq)∧w'.cell? ⟨ak,2,none⟩=some (.int .i64 ar)∧w'.cell? ⟨ak,3,none⟩=some (.slice (some ae) aa.length bl)∧w'.cell? (ae.add ((ac).toNat * 2))=some (.int .i64 ((Zb aa ac).f0))∧w'.cell? ⟨(ae.add ((ac).toNat * 2)).block,(ae.add ((ac).toNat * 2)).off + 1,none⟩=some (.slice az ((Zb aa ac).f1).length ba)∧w'.cell? (ae.add ((af).toNat * 2))=some (.int .i64 ((Zb aa af).f0))∧w'.cell? ⟨(ae.add ((af).toNat * 2)).block,(ae.add ((af).toNat * 2)).off + 1,none⟩=some (.slice bb ((Zb aa af).f1).length bc)∧w'.cell? (ae.add ((ac).toNat * 2))=some (.int .i64 ((Zb aa ac).f0))∧w'.cell? ⟨(ae.add ((ac).toNat * 2)).block,(ae.add ((ac).toNat * 2)).off + 1,none⟩=some (.slice az ((Zb aa ac).f1).length ba)∧w'.cell? (ae.add ((af).toNat * 2))=some (.int .i64 ((Zb aa af).f0))∧w'.cell? ⟨(ae.add ((af).toNat * 2)).block,(ae.add ((af).toNat * 2)).off + 1,none⟩=some (.slice bb ((Zb aa af).f1).length bc)) (ds:=[]) #[false,false,false,false,false,false,false,false,false,false,false,false,false,false,false,false,false,false,false,false,false,false,false,false,false,false,false,false,false,false,false] (by kernel_rfl) rfl rfl ⟨(Zf ab.out 0).trans rfl,(Zf ab.out 1).trans rfl,(Zf ab.out 2).trans rfl,(Zf ab.out 3).trans rfl,(zX HB hw348_0),(zX HB hw348_1),(zX HB hw349_0),(zX HB hw349_1),(zX HB hw350_0),(zX HB hw350_1),(zX HB hw352_0),(zX HB hw352_1)⟩ (fun hHeld=>?_);refine Zc2 Zg1.tab7 Zg1.bits7 (fun HT_ HW_=>?_)
     generalize wr.drew=fe at ab HB bd be bh bk ai ag aj ah an al ao am hHeld ⊢
     refine zP 0 (some 17) (zt 31 1) (Ze HT_.out (by kernel_rfl)) ?_
     refine zP 2 (some 19) (zt 31 5) (Ze HT_.out (by kernel_rfl)) ?_
     refine zP 6 (some 23) (zt 31 69) (Ze HT_.out (by kernel_rfl)) ?_
     refine zP 8 (some 25) (zt 31 325) (Ze HT_.out (by kernel_rfl)) ?_
     refine take_ (i:=1) (N:=some 18) (v:=?_) (a':=?_) #[true,true,true,false,false,false,true,false,true,false,false,false,false,false,false,false,false,false,false,false,false,false,false,false,false,false,false,false,false,false,false] rfl rfl (Zi1 HT_.out HW_.out (by kernel_rfl)) (fun _ _ _ h=>h) (Or.inl ⟨by rfl,?_⟩) hHeld ?_ ?_
     rotate_left
     ·rintro w' ⟨s0,s1,s2,s3,s4,s5,s6,s7,s8,s9,s10,s11⟩
      go_simp
      with_reducible rfl
     rotate_left
     ·simp only [Act.put,zp1,zp2,zp3,Zc,Zd]
      rfl
     refine zP 3 (some 20) (zt 31 335) (Ze HT_.out (by kernel_rfl)) ?_
     refine zP 4 (some 21) (zt 31 351) (Ze HT_.out (by kernel_rfl)) ?_
     refine take_ (i:=5) (N:=some 22) (v:=?_) (a':=?_) #[true,true,true,true,true,true,true,false,true,false,false,false,false,false,false,false,false,false,false,false,false,false,false,false,false,false,false,false,false,false,false] rfl rfl (Zi1 HT_.out HW_.out (by kernel_rfl)) (fun _ _ _ h=>h) (Or.inl ⟨by rfl,?_⟩) hHeld ?_ ?_
     rotate_left
     ·rintro w' ⟨s0,s1,s2,s3,s4,s5,s6,s7,s8,s9,s10,s11⟩
      go_simp
      with_reducible rfl
     rotate_left
     ·simp only [Act.put,zp1,zp2,zp3,Zc,Zd]
      rfl
     refine take_ (i:=7) (N:=some 24) (v:=?_) (a':=?_) #[true,true,true,true,true,true,true,true,true,false,false,false,false,false,false,false,false,false,false,false,false,false,false,false,false,false,false,false,false,false,false] rfl rfl (Zi1 HT_.out HW_.out (by kernel_rfl)) (fun _ _ _ h=>h) (Or.inl ⟨by rfl,?_⟩) hHeld ?_ ?_
     rotate_left
     ·rintro w' ⟨s0,s1,s2,s3,s4,s5,s6,s7,s8,s9,s10,s11⟩
      go_simp
      with_reducible rfl
     rotate_left
     ·simp only [Act.put,zp1,zp2,zp3,Zc,Zd]
      rfl
     refine zP 9 (some 26) (zt 31 1023) (Ze HT_.out (by kernel_rfl)) ?_
     refine zP 10 (some 27) (zt 31 2047) (Ze HT_.out (by kernel_rfl)) ?_
     refine take_ (i:=11) (N:=some 28) (v:=?_) (a':=?_) #[true,true,true,true,true,true,true,true,true,true,true,true,false,false,false,false,false,false,false,false,false,false,false,false,false,false,false,false,false,false,false] rfl rfl (Zi1 HT_.out HW_.out (by kernel_rfl)) (fun _ _ _ h=>h) (Or.inl ⟨by rfl,?_⟩) hHeld ?_ ?_
     rotate_left
     ·rintro w' ⟨s0,s1,s2,s3,s4,s5,s6,s7,s8,s9,s10,s11⟩
      go_simp
      with_reducible rfl
     rotate_left
     ·simp only [Act.put,zp1,zp2,zp3,Zc,Zd]
      rfl
     refine zP 12 (some 29) (zt 31 8191) (Ze HT_.out (by kernel_rfl)) ?_
     refine zP 13 (some 30) (zt 31 16383) (Ze HT_.out (by kernel_rfl)) ?_
     refine zP 15 (some 32) (zt 31 49151) (Ze HT_.out (by kernel_rfl)) ?_
     refine zP 17 (some 34) (zt 31 180223) (Ze HT_.out (by kernel_rfl)) ?_
     refine zP 22 (some 39) (zt 31 4374527) (Ze HT_.out (by kernel_rfl)) ?_
     refine zP 24 (some 41) (zt 31 21151743) (Ze HT_.out (by kernel_rfl)) ?_
     refine take_ (i:=14) (N:=some 31) (v:=?_) (a':=?_) #[true,true,true,true,true,true,true,true,true,true,true,true,true,true,true,true,false,true,false,false,false,false,true,false,true,false,false,false,false,false,false] rfl rfl (Zi1 HT_.out HW_.out (by kernel_rfl)) (fun _ _ _ h=>h) (Or.inl ⟨by rfl,?_⟩) hHeld ?_ ?_
     rotate_left
     ·rintro w' ⟨s0,s1,s2,s3,s4,s5,s6,s7,s8,s9,s10,s11⟩
      go_simp
      with_reducible rfl
     rotate_left
     ·simp only [Act.put,zp1,zp2,zp3,Zc,Zd]
      rfl
     refine take_ (i:=16) (N:=some 33) (v:=?_) (a':=?_) #[true,true,true,true,true,true,true,true,true,true,true,true,true,true,true,true,true,true,false,false,false,false,true,false,true,false,false,false,false,false,false] rfl rfl (Zi1 HT_.out HW_.out (by kernel_rfl)) (fun _ _ _ h=>h) (Or.inl ⟨by rfl,?_⟩) hHeld ?_ ?_
     rotate_left
     ·rintro w' ⟨s0,s1,s2,s3,s4,s5,s6,s7,s8,s9,s10,s11⟩
      go_simp
      with_reducible rfl
     rotate_left
     ·simp only [Act.put,zp1,zp2,zp3,Zc,Zd]
      rfl
     refine zP 18 (some 35) (zt 31 21495807) (Ze HT_.out (by kernel_rfl)) ?_
     refine take_ (i:=19) (N:=some 36) (v:=?_) (a':=?_) #[true,true,true,true,true,true,true,true,true,true,true,true,true,true,true,true,true,true,true,true,false,false,true,false,true,false,false,false,false,false,false] rfl rfl (Zi1 HT_.out HW_.out (by kernel_rfl)) (fun _ _ _ h=>h) (Or.inl ⟨by rfl,?_⟩) hHeld ?_ ?_
     rotate_left
     ·rintro w' ⟨s0,s1,s2,s3,s4,s5,s6,s7,s8,s9,s10,s11⟩
      go_simp
      with_reducible rfl
     rotate_left
     ·simp only [Act.put,zp1,zp2,zp3,Zc,Zd]
      rfl
     refine take_ (i:=21) (N:=some 38) (v:=?_) (a':=?_) #[true,true,true,true,true,true,true,true,true,true,true,true,true,true,true,true,true,true,true,true,false,true,true,false,true,false,false,false,false,false,false] rfl rfl (Zi1 HT_.out HW_.out (by kernel_rfl)) (fun _ _ _ h=>h) (Or.inl ⟨by rfl,?_⟩) hHeld ?_ ?_
     rotate_left
     ·rintro w' ⟨s0,s1,s2,s3,s4,s5,s6,s7,s8,s9,s10,s11⟩
      go_simp
      with_reducible rfl
     rotate_left
     ·simp only [Act.put,zp1,zp2,zp3,Zc,Zd]
      rfl
     refine take_ (i:=23) (N:=some 40) (v:=?_) (a':=?_) #[true,true,true,true,true,true,true,true,true,true,true,true,true,true,true,true,true,true,true,true,false,true,true,true,true,false,false,false,false,false,false] rfl rfl (Zi1 HT_.out HW_.out (by kernel_rfl)) (fun _ _ _ h=>h) (Or.inl ⟨by rfl,?_⟩) hHeld ?_ ?_
     rotate_left
     ·rintro w' ⟨s0,s1,s2,s3,s4,s5,s6,s7,s8,s9,s10,s11⟩
      go_simp
      with_reducible rfl
     rotate_left
     ·simp only [Act.put,zp1,zp2,zp3,Zc,Zd]
      rfl
     refine zP 25 (some 42) (zt 31 66060287) (Ze HT_.out (by kernel_rfl)) ?_
     refine take_ (i:=26) (N:=some 43) (v:=?_) (a':=?_) #[true,true,true,true,true,true,true,true,true,true,true,true,true,true,true,true,true,true,true,true,false,true,true,true,true,true,true,false,false,false,false] rfl rfl (Zi1 HT_.out HW_.out (by kernel_rfl)) (fun _ _ _ h=>h) (Or.inl ⟨by rfl,?_⟩) hHeld ?_ ?_
     rotate_left
     ·rintro w' ⟨s0,s1,s2,s3,s4,s5,s6,s7,s8,s9,s10,s11⟩
      go_simp
      with_reducible rfl
     rotate_left
     ·simp only [Act.put,zp1,zp2,zp3,Zc,Zd]
      rfl
     refine one_ (i:=20) (N:=some 37) #[true,true,true,true,true,true,true,true,true,true,true,true,true,true,true,true,true,true,true,true,true,true,true,true,true,true,true,false,false,false,false] rfl rfl (one_of HT_.out (by kernel_rfl)) (by decide) (fun K hK=>?_)
     refine goes_ Try.func16 (by kernel_rfl) rfl #[.agg #[.int .i64 ap,.int .i64 aq,.int .i64 ar,.slice (some ae) aa.length bl],.agg #[.int .i64 ((Zb aa ac).f0),.slice az ((Zb aa ac).f1).length ba]] (by rfl) rfl rfl (by (try simp only [List.map_toArray,List.map_cons,List.map_nil]);first|done|rfl|(simp only [List.length_drop,List.length_take];rfl)) ?_
     with_reducible refine(Zf2.calls k2 ap aq ar _ _ aa ((Zb aa ac).f0) _ _ ((Zb aa ac).f1) br _ ?side1 ?side2 ?side3 ?side4 ef.out).mono ?_
     (case side1=>exact zC au HB)
     (case side2=>exact ca.out)
     (case side3=>exact zC bh HB)
     (case side4=>exact bs.out)
     rintro e ff ⟨rfl,hb⟩
     refine⟨_,rfl,?_⟩
     (replace ab:=Za.mk (Zj (g:=ak) (zK ab) hb));(replace HB:=Za.mk (Zh (zH HB) hb));((try clear hb));((try clear hb2));((try clear hk));((try clear hi))
     refine hK.out _ _ ⟨(Zf ab.out 0).trans rfl,(Zf ab.out 1).trans rfl,(Zf ab.out 2).trans rfl,(Zf ab.out 3).trans rfl,(zX HB hw348_0),(zX HB hw348_1),(zX HB hw349_0),(zX HB hw349_1),(zX HB hw350_0),(zX HB hw350_1),(zX HB hw352_0),(zX HB hw352_1)⟩ (fun hHeld=>?_)
     clear hK K
     refine norm_ (a':=?_) ?_ ?_
     rotate_left
     ·show Act.put _ (some 37) _=_
      simp only [Act.put,zp1,zp2,zp3,Zc,Zd]
      rfl
     refine one_ (i:=27) (N:=some 44) #[true,true,true,true,true,true,true,true,true,true,true,true,true,true,true,true,true,true,true,true,true,true,true,true,true,true,true,true,false,false,false] rfl rfl (one_of HT_.out (by kernel_rfl)) (by decide) (fun K hK=>?_)
     refine goes_ Try.func16 (by kernel_rfl) rfl #[.agg #[.int .i64 ap,.int .i64 aq,.int .i64 ar,.slice (some ae) aa.length bl],.agg #[.int .i64 ((Zb aa af).f0),.slice bb ((Zb aa af).f1).length bc]] (by rfl) rfl rfl (by (try simp only [List.map_toArray,List.map_cons,List.map_nil]);first|done|rfl|(simp only [List.length_drop,List.length_take];rfl)) ?_
     with_reducible refine(Zf2.calls k2 ap aq ar _ _ aa ((Zb aa af).f0) _ _ ((Zb aa af).f1) bq _ ?side1 ?side2 ?side3 ?side4 eh.out).mono ?_
     (case side1=>exact zC au HB)
     (case side2=>exact ca.out)
     (case side3=>exact zC bk HB)
     (case side4=>exact bt.out)
     rintro e fg ⟨rfl,hb⟩
     refine⟨_,rfl,?_⟩
     (replace ab:=Za.mk (Zj (g:=ak) (zK ab) hb));(replace HB:=Za.mk (Zh (zH HB) hb));((try clear hb));((try clear hb2));((try clear hk));((try clear hi))
     refine hK.out _ _ ⟨(Zf ab.out 0).trans rfl,(Zf ab.out 1).trans rfl,(Zf ab.out 2).trans rfl,(Zf ab.out 3).trans rfl,(zX HB hw348_0),(zX HB hw348_1),(zX HB hw349_0),(zX HB hw349_1),(zX HB hw350_0),(zX HB hw350_1),(zX HB hw352_0),(zX HB hw352_1)⟩ (fun hHeld=>?_)
     clear hK K
     refine norm_ (a':=?_) ?_ ?_
     rotate_left
     ·show Act.put _ (some 44) _=_
      simp only [Act.put,zp1,zp2,zp3,Zc,Zd]
      rfl
     refine zP 28 (some 45) (zt 31 536870911) (Ze HT_.out (by kernel_rfl)) ?_
     refine zP 29 (some 46) (zt 31 1073741823) (Ze HT_.out (by kernel_rfl)) ?_
     refine zP 30 (some 47) (zt 31 2147483647) (Ze HT_.out (by kernel_rfl)) ?_
     refine done_ (done_of HT_.out (by kernel_rfl)) ?_
     try go_wp2
     go_roundg k2
     case measure=>have:=dh.out;have:=di.out;omega
     case rel=>exact⟨(wrap64 (af + 1)),(by first|rfl|(simp;done)|(simp [*];done)),H',⟨by have:=dh.out;have:=di.out;omega⟩,⟨zK ab⟩,⟨zH HB⟩⟩
end Go.Proofs.Ytbifocddbgleeaa.PAheadParses
