-- By a program.
import Derived.Test.YtbifocddbgleeaaQPAheadParsesx0
namespace Go.Proofs.Ytbifocddbgleeaa.PAheadParses
open Go.RowKit Go.Proofs.YtbifocddbgleeaaW.PrintWords Go.Proofs.YtbifocddbgleeaaW.PrintLast Go.Proofs.YtbifocddbgleeaaW.PrintMore
attribute [local go_sem] max2_int min2_int max_two min_two max_three min_three max_four min_four
set_option linter.unusedVariables false
set_option linter.unusedSimpArgs false
mutual
def Zr.l0:Nat→List Int→List (List (List Bool))→List Int→Int→Int→Int→Int→Int→Int→Int→List (S41)→Option (Bool)
  |0,_,_,_,_,_,_,_,_,_,_,_=>none
  |k + 1,x1,x2,x3,x4,x5,x13,x14,x355000,x355001,x355002,x355003=>if x14≤x5 then(if x13≥x355000 then(if 0≤(wrap64 (x13 - x355000)) then(if(wrap64 (x13 - x355000)) < (x2.length:Int) then(if 0≤x4 then(if x4 < ((rd_L7 x2 (wrap64 (x13 - x355000))).length:Int) then(if 0≤x14 then(if x14 < ((rd_L6 (rd_L7 x2 (wrap64 (x13 - x355000))) x4).length:Int) then(if rdOf false (rd_L6 (rd_L7 x2 (wrap64 (x13 - x355000))) x4) x14=true then(if 1≤(x3.length:Int) then((Zr.f k x355000 x355001 x355002 x355003 x1 x2 (x3.drop 1) x14 x5).bind fun t363=>(if t363=true then(some true) else(Zr.l0 k x1 x2 x3 x4 x5 x13 (wrap64 (x14 + 1)) x355000 x355001 x355002 x355003))) else(none)) else(if x13 < x355000 then(if x14=(wrap64 (x4 + 1)) then(if x4 < (x1.length:Int) then(if(rd x1 x4)=x13 then(if 1≤(x3.length:Int) then((Zr.f k x355000 x355001 x355002 x355003 x1 x2 (x3.drop 1) x14 x5).bind fun t369=>(if t369=true then(some true) else(Zr.l0 k x1 x2 x3 x4 x5 x13 (wrap64 (x14 + 1)) x355000 x355001 x355002 x355003))) else(none)) else(Zr.l0 k x1 x2 x3 x4 x5 x13 (wrap64 (x14 + 1)) x355000 x355001 x355002 x355003)) else(none)) else(Zr.l0 k x1 x2 x3 x4 x5 x13 (wrap64 (x14 + 1)) x355000 x355001 x355002 x355003)) else(Zr.l0 k x1 x2 x3 x4 x5 x13 (wrap64 (x14 + 1)) x355000 x355001 x355002 x355003))) else(none)) else(none)) else(none)) else(none)) else(none)) else(none)) else(if x13 < x355000 then(if x14=(wrap64 (x4 + 1)) then(if 0≤x4 then(if x4 < (x1.length:Int) then(if(rd x1 x4)=x13 then(if 1≤(x3.length:Int) then((Zr.f k x355000 x355001 x355002 x355003 x1 x2 (x3.drop 1) x14 x5).bind fun t375=>(if t375=true then(some true) else(Zr.l0 k x1 x2 x3 x4 x5 x13 (wrap64 (x14 + 1)) x355000 x355001 x355002 x355003))) else(none)) else(Zr.l0 k x1 x2 x3 x4 x5 x13 (wrap64 (x14 + 1)) x355000 x355001 x355002 x355003)) else(none)) else(none)) else(Zr.l0 k x1 x2 x3 x4 x5 x13 (wrap64 (x14 + 1)) x355000 x355001 x355002 x355003)) else(Zr.l0 k x1 x2 x3 x4 x5 x13 (wrap64 (x14 + 1)) x355000 x355001 x355002 x355003))) else(some false)
def Zr.f:Nat→Int→Int→Int→List (S41)→List Int→List (List (List Bool))→List Int→Int→Int→Option (Bool)
  |0,_,_,_,_,_,_,_,_,_=>none
  |k + 1,a0_0,a0_1,a0_2,l0_3,l1,l2,l3,a4,a5=>if(l3.length:Int)=0 then(some (a4 == a5)) else(if 0 < (l3.length:Int) then(Zr.l0 k l1 l2 l3 a4 a5 (rd l3 0) a4 a0_0 a0_1 a0_2 l0_3) else(none))
end
theorem Zr.mono_l: ∀k,(∀y0 y1 y2 y3 y4 y5 y6 y7 y8,LeO (Zr.f k y0 y1 y2 y3 y4 y5 y6 y7 y8) (Zr.f (k + 1) y0 y1 y2 y3 y4 y5 y6 y7 y8))∧(∀y0 y1 y2 y3 y4 y5 y6 y7 y8 y9 y10,LeO (Zr.l0 k y0 y1 y2 y3 y4 y5 y6 y7 y8 y9 y10) (Zr.l0 (k + 1) y0 y1 y2 y3 y4 y5 y6 y7 y8 y9 y10))
  |0=>⟨fun _ _ _ _ _ _ _ _ _ r h=>by simp [Zr.f] at h,fun _ _ _ _ _ _ _ _ _ _ _ r h=>by simp [Zr.l0] at h⟩
  |k + 1=>by
    obtain⟨ih0,ih1⟩:=Zr.mono_l k
    refine⟨?_,?_⟩
    · intro y0 y1 y2 y3 y4 y5 y6 y7 y8
      unfold Zr.f
      repeat' (with_reducible first|apply ih0|apply ih1|exact LeO.refl _|exact LeO.none _|refine LeO.ite ?_ ?_|refine LeO.bind ?_ (fun _=>?_))
    · intro y0 y1 y2 y3 y4 y5 y6 y7 y8 y9 y10
      unfold Zr.l0
      repeat' (with_reducible first|apply ih0|apply ih1|exact LeO.refl _|exact LeO.none _|refine LeO.ite ?_ ?_|refine LeO.bind ?_ (fun _=>?_))
theorem Zr.mono: ∀a0 a1 a2 a3 a4 a5 a6 a7 a8 k,LeO (Zr.f k a0 a1 a2 a3 a4 a5 a6 a7 a8) (Zr.f (k + 1) a0 a1 a2 a3 a4 a5 a6 a7 a8):=by
  intro a0 a1 a2 a3 a4 a5 a6 a7 a8 k
  obtain⟨ih0,ih1⟩:=Zr.mono_l k
  exact ih0 a0 a1 a2 a3 a4 a5 a6 a7 a8
def Zr.T8:Bool × List (List Nat × List Nat):=(true,[([],[]),([0],[0]),([1],[1]),([1],[1]),([1],[1]),([1],[1]),([5,1],[1,5]),([1],[1]),([1],[1]),([2,3,4,6,7,8,1,1],[1,2,3,4,6,7,8]),([1,9],[1,9])])
def Zr.B8:List Nat:=[0,1,3,3,3,3,35,3,3,511,1023]
theorem Zr.tab8:rtab .any (opsOf Try.f29 8)=Zr.T8:=by kernel_rfl
theorem Zr.bits8:waitsOk Zr.T8.2 Zr.B8=true:=by kernel_rfl
set_option maxHeartbeats 8000000 in
set_option maxRecDepth 100000 in
theorem Zr.calls (k : Nat) : ∀ (ac : Int) (ag : Int) (ah : Int) (be : Option Addr) (bf : Nat) (af : List (S41)) (A1 : Option Addr) (c1 : Nat) (l1 : List Int) (A2 : Option Addr) (c2 : Nat) (l2 : List (List (List Bool))) (A3 : Option Addr) (c3 : Nat) (l3 : List Int) (a4 : Int) (a5 : Int) (r : Bool) (w : World) (db : Kd.C k41 w be af.length af) (dc : af.length ≤ bf) (no : Kd.C (Kd.int .i64) w A1 l1.length l1) (np : l1.length ≤ c1) (nq : Kd.C (Kd.slice 49 (Kd.slice 4 Kd.bool)) w A2 l2.length l2) (nr : l2.length ≤ c2) (nt : Kd.C (Kd.int .i64) w A3 l3.length l3) (nu : l3.length ≤ c3) (h : Zr.f k ac ag ah af l1 l2 l3 a4 a5 = some r),
    Calls Try.prog 29 #[.agg #[.int .i64 ac,.int .i64 ag,.int .i64 ah,.slice be af.length bf],.slice A1 l1.length c1,.slice A2 l2.length c2,.slice A3 l3.length c3,.int .i64 a4,.int .i64 a5] w fun e w'=>e= .returned (.bool r)∧Below w.heap.size w w':=by
 induction k using Nat.strongRecOn with
 |_ k ih=>
 intro ac ag ah be bf af A1 c1 l1 A2 c2 l2 A3 c3 l3 a4 a5 r w db dc no np nq nr nt nu h
 cases k with
 |zero=>exact absurd h (by simp [Zr.f])
 |succ k=>
 (simp only [Zr.f] at h);(have px:=Try.underlying24);(have py:=Try.underlying3);(have pz:=Try.underlying4);(have cd:=Za.mk db);(have ce:=Za.mk dc);(clear db dc);(have da:=Za.mk no);(have fk:=Za.mk np);(clear no np);(have cy:=Za.mk nq);(have fm:=Za.mk nr);(clear nq nr);(have ei:=Za.mk nt);(have fo:=Za.mk nu);(clear nt nu);(have HB:=Za.mk (Below.refl w.heap.size w));(have H:(if(l3.length:Int)=0 then(some (a4 == a5)) else(if 0 < (l3.length:Int) then(Zr.l0 k l1 l2 l3 a4 a5 (rd l3 0) a4 ac ag ah af) else(none)))=some r:=h);(clear h)
 by_cases c7:(l3.length:Int)=0
 ·rw [if_pos c7] at H
  (have fv:((l3.length:Int) == 0)=true:=beq_iff_eq.mpr c7);(have fw:((l3.length:Int) != 0)=false:=bne_eq_false_iff_eq.mpr c7);(clear c7);(obtain rfl:=Option.some.inj H)
  go_enter Try.func29,Try.ntmps29
  go_wp2_with (first|((with_reducible refine Zs (N:=6) rfl ?_);refine Zx ?hg (N:=6) ?hd (cs:=#[.int .i64 ac,.int .i64 ag,.int .i64 ah,.slice be af.length bf]) (t:=24) ?hr ?_;(case hd=>rfl);(case hg=>rfl);(case hr=>first|(go_simp;done)|(go_simp;rfl));intro ai hg w8 hbox hb;have aa:=Za.mk (hbox);have fx:=Za.mk ((by rw [hg];exact(Zg (zH HB)):w.heap.size≤ai));have fy:=Za.mk ((by rw [hg];exact(Zg (zH HB)):w.heap.size≤ai));replace HB:=Za.mk (Zh (zH HB) hb);clear hb hbox hg))
  go_ret
  exact⟨by first|rfl|(simp [Zl,Zk] <;> rfl)|(simp [*,Zl,Zk] <;> rfl),zH HB⟩
 (rw [if_neg c7] at H);(have fv:((l3.length:Int) == 0)=false:=beq_eq_false_iff_ne.mpr c7);(have fw:((l3.length:Int) != 0)=true:=bne_iff_ne.mpr c7);(have nv:¬ (l3= []):=fun h_=>c7 (by rw [h_];rfl))
 by_cases c9:0 < (l3.length:Int)
 rotate_left
 ·rw [if_neg c9] at H
  exact absurd H (by simp)
 (rw [if_pos c9] at H);(have nw:decide (0 < (l3.length:Int))=true:=decide_eq_true c9);(have nx:decide (0 < l3.length)=true:=decide_eq_true (by omega));(clear c9);(have H':=Za.mk H);(clear H)
 go_enter Try.func29,Try.ntmps29
 go_wp2_with (first|((with_reducible refine Zs (N:=6) rfl ?_);refine Zx ?hg (N:=6) ?hd (cs:=#[.int .i64 ac,.int .i64 ag,.int .i64 ah,.slice be af.length bf]) (t:=24) ?hr ?_;(case hd=>rfl);(case hg=>rfl);(case hr=>first|(go_simp;done)|(go_simp;rfl));intro ai hg qa hbox hb;have aa:=Za.mk (hbox);have fx:=Za.mk ((by rw [hg];exact(Zg (zH HB)):w.heap.size≤ai));have fy:=Za.mk ((by rw [hg];exact(Zg (zH HB)):w.heap.size≤ai));replace HB:=Za.mk (Zh (zH HB) hb);clear hb hbox hg;have dp:0≤(0:Int):=(by omega);have dq:0 < (l3.length:Int):=zD;obtain⟨aq,ny,bm⟩:=Kd.at_int ei.out 0 dp dq;cases ny;have qi355:(0 < l3.length)=True:=eq_true (by omega);(try rw [show((0:Int)).toNat=0 from rfl] at bm);(try rw [Addr.add_zero'] at bm);replace bm:=zX HB bm;replace dp:=eq_true dp;replace dq:=eq_true dq))
 go_loopg [14] k (fun kq v14 w'=>∃(ab:Int),v14= .int .i64 ab∧Za (Zr.l0 kq l1 l2 l3 a4 a5 (rd l3 0) ab ac ag ah af=some r)∧Za (kq≤k)∧Za (w'.heap[ai]? =some (.cells #[.int .i64 ac,.int .i64 ag,.int .i64 ah,(.slice be af.length bf)] 24 (0,0)))∧Za (Below w.heap.size w w'))
 case atStart=>exact⟨(a4),(by first|rfl|(simp;done)|(simp [*];done)),H',⟨Nat.le_refl _⟩,⟨zK aa⟩,⟨zH HB⟩⟩
 case round=>
  (clear H');(try clear c1);(try clear c2);(try clear p2);(try clear c3);(try clear p3);(try clear q3);(try clear qb);(try clear qi3);(try clear fv);(try clear fw);(try clear nv);(try clear nw);(try clear nx);(try clear bm);(try clear dp);(try clear dq);(obtain⟨ab,rfl,HA,bn,aa,HB⟩:=hrel)
  cases gk with
  |zero=>exact absurd HA.out (by simp [Zr.l0])
  |succ k1=>
   (have H:=HA.out);(clear HA);(simp only [Zr.l0] at H)
   by_cases fp:ab≤a5
   rotate_left
   ·rw [if_neg fp] at H
    (have fz:decide (ab≤a5)=false:=decide_eq_false fp);(clear fp);(obtain rfl:=Option.some.inj H)
    go_wp2
    go_ret
    exact⟨by first|rfl|(simp [Zl,Zk] <;> rfl)|(simp [*,Zl,Zk] <;> rfl),zH HB⟩
   (rw [if_pos fp] at H);(have fz:decide (ab≤a5)=true:=decide_eq_true fp);(clear fp)
   by_cases fq:(rd l3 0)≥ac
   rotate_left
   ·rw [if_neg fq] at H
    (have ga:decide (ac≤(rd l3 0))=false:=decide_eq_false fq);(clear fq)
    by_cases ft:(rd l3 0) < ac
    rotate_left
    ·rw [if_neg ft] at H
     (have gc:decide ((rd l3 0) < ac)=false:=decide_eq_false ft);(clear ft);(have H':=Za.mk H);(clear H);(obtain⟨ib,ic,ie,ig⟩:=zq4 aa.out);(obtain⟨ii,ik,il,io⟩:=zf4 aa.out)
     try go_wp2
     (replace aa:=Za.mk (Zi aa.out));(replace HB:=Za.mk (Zz1 HB.out))
     refine start_ (n:=11) (S:=fun w'=>True) (ds:=[]) #[false,false,false,false,false,false,false,false,false,false,false] (by kernel_rfl) rfl rfl trivial (fun hHeld=>?_);refine Zc2 Zr.tab8 Zr.bits8 (fun HT_ HW_=>?_)
     generalize wr.drew=qc at aa HB hHeld ⊢
     refine zP 0 (some 70) (zt 11 1) (Ze HT_.out (by kernel_rfl)) ?_
     refine zP 1 (some 71) (zt 11 3) (Ze HT_.out (by kernel_rfl)) ?_
     refine pure_ (i:=2) (N:=some 72) (v:=undef) (a':=?_) #[true,true,true,false,false,false,false,false,false,false,false] rfl rfl (Ze HT_.out (by kernel_rfl)) (fun _ _ _ h=>h) (Or.inr ⟨by rfl,rfl⟩) ?_ ?_
     rotate_left
     ·simp only [Act.put,zp1,zp2,zp3,Zc,Zd]
      rfl
     refine pure_ (i:=3) (N:=some 73) (v:=undef) (a':=?_) #[true,true,true,true,false,false,false,false,false,false,false] rfl rfl (Ze HT_.out (by kernel_rfl)) (fun _ _ _ h=>h) (Or.inr ⟨by rfl,rfl⟩) ?_ ?_
     rotate_left
     ·simp only [Act.put,zp1,zp2,zp3,Zc,Zd]
      rfl
     refine pure_ (i:=4) (N:=some 74) (v:=undef) (a':=?_) #[true,true,true,true,true,false,false,false,false,false,false] rfl rfl (Ze HT_.out (by kernel_rfl)) (fun _ _ _ h=>h) (Or.inr ⟨by rfl,rfl⟩) ?_ ?_
     rotate_left
     ·simp only [Act.put,zp1,zp2,zp3,Zc,Zd]
      rfl
     refine pure_ (i:=5) (N:=some 75) (v:=undef) (a':=?_) #[true,true,true,true,true,true,false,false,false,false,false] rfl rfl (Ze HT_.out (by kernel_rfl)) (fun _ _ _ h=>h) (Or.inr ⟨by rfl,rfl⟩) ?_ ?_
     rotate_left
     ·simp only [Act.put,zp1,zp2,zp3,Zc,Zd]
      rfl
     refine pure_ (i:=6) (N:=some 76) (v:=undef) (a':=?_) #[true,true,true,true,true,true,true,false,false,false,false] rfl rfl (Ze HT_.out (by kernel_rfl)) (fun _ _ _ h=>h) (Or.inr ⟨by rfl,rfl⟩) ?_ ?_
     rotate_left
     ·simp only [Act.put,zp1,zp2,zp3,Zc,Zd]
      rfl
     refine pure_ (i:=7) (N:=some 77) (v:=undef) (a':=?_) #[true,true,true,true,true,true,true,true,false,false,false] rfl rfl (Ze HT_.out (by kernel_rfl)) (fun _ _ _ h=>h) (Or.inr ⟨by rfl,rfl⟩) ?_ ?_
     rotate_left
     ·simp only [Act.put,zp1,zp2,zp3,Zc,Zd]
      rfl
     refine pure_ (i:=8) (N:=some 78) (v:=undef) (a':=?_) #[true,true,true,true,true,true,true,true,true,false,false] rfl rfl (Ze HT_.out (by kernel_rfl)) (fun _ _ _ h=>h) (Or.inr ⟨by rfl,rfl⟩) ?_ ?_
     rotate_left
     ·simp only [Act.put,zp1,zp2,zp3,Zc,Zd]
      rfl
     refine pure_ (i:=9) (N:=some 79) (v:=undef) (a':=?_) #[true,true,true,true,true,true,true,true,true,true,false] rfl rfl (Ze HT_.out (by kernel_rfl)) (fun _ _ _ h=>h) (Or.inr ⟨by rfl,rfl⟩) ?_ ?_
     rotate_left
     ·simp only [Act.put,zp1,zp2,zp3,Zc,Zd]
      rfl
     refine zP 10 (some 80) (zt 11 2047) (Ze HT_.out (by kernel_rfl)) ?_
     refine done_ (done_of HT_.out (by kernel_rfl)) ?_
     try go_wp2
     go_roundg k1
     case measure=>have:=bn.out;omega
     case rel=>exact⟨(wrap64 (ab + 1)),(by first|rfl|(simp;done)|(simp [*];done)),H',⟨by have:=bn.out;omega⟩,⟨zK aa⟩,⟨zH HB⟩⟩
    (rw [if_pos ft] at H);(have gc:decide ((rd l3 0) < ac)=true:=decide_eq_true ft);(clear ft)
    by_cases ek:ab=(wrap64 (a4 + 1))
    rotate_left
    ·rw [if_neg ek] at H
     (have gh:(ab == (wrap64 (a4 + 1)))=false:=beq_eq_false_iff_ne.mpr ek);(have gi:(ab != (wrap64 (a4 + 1)))=true:=bne_iff_ne.mpr ek);(have H':=Za.mk H);(clear H);(obtain⟨ip,iq,ir,iu⟩:=zq4 aa.out);(obtain⟨iv,iw,ix,iy⟩:=zf4 aa.out)
     try go_wp2
     (replace aa:=Za.mk (Zi aa.out));(replace HB:=Za.mk (Zz1 HB.out))
     refine start_ (n:=11) (S:=fun w'=>True) (ds:=[]) #[false,false,false,false,false,false,false,false,false,false,false] (by kernel_rfl) rfl rfl trivial (fun hHeld=>?_);refine Zc2 Zr.tab8 Zr.bits8 (fun HT_ HW_=>?_)
     generalize wr.drew=qe at aa HB hHeld ⊢
     refine zP 0 (some 70) (zt 11 1) (Ze HT_.out (by kernel_rfl)) ?_
     refine zP 1 (some 71) (zt 11 3) (Ze HT_.out (by kernel_rfl)) ?_
     refine pure_ (i:=2) (N:=some 72) (v:=undef) (a':=?_) #[true,true,true,false,false,false,false,false,false,false,false] rfl rfl (Ze HT_.out (by kernel_rfl)) (fun _ _ _ h=>h) (Or.inr ⟨by rfl,rfl⟩) ?_ ?_
     rotate_left
     ·simp only [Act.put,zp1,zp2,zp3,Zc,Zd]
      rfl
     refine pure_ (i:=3) (N:=some 73) (v:=undef) (a':=?_) #[true,true,true,true,false,false,false,false,false,false,false] rfl rfl (Ze HT_.out (by kernel_rfl)) (fun _ _ _ h=>h) (Or.inr ⟨by rfl,rfl⟩) ?_ ?_
     rotate_left
     ·simp only [Act.put,zp1,zp2,zp3,Zc,Zd]
      rfl
     refine pure_ (i:=4) (N:=some 74) (v:=undef) (a':=?_) #[true,true,true,true,true,false,false,false,false,false,false] rfl rfl (Ze HT_.out (by kernel_rfl)) (fun _ _ _ h=>h) (Or.inr ⟨by rfl,rfl⟩) ?_ ?_
     rotate_left
     ·simp only [Act.put,zp1,zp2,zp3,Zc,Zd]
      rfl
     refine pure_ (i:=5) (N:=some 75) (v:=undef) (a':=?_) #[true,true,true,true,true,true,false,false,false,false,false] rfl rfl (Ze HT_.out (by kernel_rfl)) (fun _ _ _ h=>h) (Or.inr ⟨by rfl,rfl⟩) ?_ ?_
     rotate_left
     ·simp only [Act.put,zp1,zp2,zp3,Zc,Zd]
      rfl
     refine pure_ (i:=6) (N:=some 76) (v:=undef) (a':=?_) #[true,true,true,true,true,true,true,false,false,false,false] rfl rfl (Ze HT_.out (by kernel_rfl)) (fun _ _ _ h=>h) (Or.inr ⟨by rfl,rfl⟩) ?_ ?_
     rotate_left
     ·simp only [Act.put,zp1,zp2,zp3,Zc,Zd]
      rfl
     refine pure_ (i:=7) (N:=some 77) (v:=undef) (a':=?_) #[true,true,true,true,true,true,true,true,false,false,false] rfl rfl (Ze HT_.out (by kernel_rfl)) (fun _ _ _ h=>h) (Or.inr ⟨by rfl,rfl⟩) ?_ ?_
     rotate_left
     ·simp only [Act.put,zp1,zp2,zp3,Zc,Zd]
      rfl
     refine pure_ (i:=8) (N:=some 78) (v:=undef) (a':=?_) #[true,true,true,true,true,true,true,true,true,false,false] rfl rfl (Ze HT_.out (by kernel_rfl)) (fun _ _ _ h=>h) (Or.inr ⟨by rfl,rfl⟩) ?_ ?_
     rotate_left
     ·simp only [Act.put,zp1,zp2,zp3,Zc,Zd]
      rfl
     refine pure_ (i:=9) (N:=some 79) (v:=undef) (a':=?_) #[true,true,true,true,true,true,true,true,true,true,false] rfl rfl (Ze HT_.out (by kernel_rfl)) (fun _ _ _ h=>h) (Or.inr ⟨by rfl,rfl⟩) ?_ ?_
     rotate_left
     ·simp only [Act.put,zp1,zp2,zp3,Zc,Zd]
      rfl
     refine zP 10 (some 80) (zt 11 2047) (Ze HT_.out (by kernel_rfl)) ?_
     refine done_ (done_of HT_.out (by kernel_rfl)) ?_
     try go_wp2
     go_roundg k1
     case measure=>have:=bn.out;omega
     case rel=>exact⟨(wrap64 (ab + 1)),(by first|rfl|(simp;done)|(simp [*];done)),H',⟨by have:=bn.out;omega⟩,⟨zK aa⟩,⟨zH HB⟩⟩
    (rw [if_pos ek] at H);(have gh:(ab == (wrap64 (a4 + 1)))=true:=beq_iff_eq.mpr ek);(have gi:(ab != (wrap64 (a4 + 1)))=false:=bne_eq_false_iff_eq.mpr ek);(clear ek)
    by_cases iz:0≤a4
    rotate_left
    ·rw [if_neg iz] at H
     exact absurd H (by simp)
    (rw [if_pos iz] at H);(have om:decide (0≤a4)=true:=decide_eq_true iz);(clear iz)
    by_cases ja:a4 < (l1.length:Int)
    rotate_left
    ·rw [if_neg ja] at H
     exact absurd H (by simp)
    (rw [if_pos ja] at H);(have oo:decide (a4 < (l1.length:Int))=true:=decide_eq_true ja);(clear ja)
    by_cases eo:(rd l1 a4)=(rd l3 0)
    rotate_left
    ·rw [if_neg eo] at H
     (have gj:((rd l1 a4) == (rd l3 0))=false:=beq_eq_false_iff_ne.mpr eo);(have gl:((rd l1 a4) != (rd l3 0))=true:=bne_iff_ne.mpr eo);(have H':=Za.mk H);(clear H);(obtain⟨jb,jc,jd,je⟩:=zq4 aa.out);(obtain⟨jf,jg,jh,ji⟩:=zf4 aa.out);(have bv:0≤(a4:Int):=zD);(have bw:a4 < (l1.length:Int):=zD);(obtain⟨co,dd,bc⟩:=Kd.at_int da.out a4 bv bw);(cases dd);(replace bc:=zX HB bc);(replace bv:=eq_true bv);(replace bw:=eq_true bw)
     try go_wp2
     (replace aa:=Za.mk (Zi aa.out));(replace HB:=Za.mk (Zz1 HB.out))
     refine start_ (n:=11) (S:=fun w'=>True) (ds:=[]) #[false,false,false,false,false,false,false,false,false,false,false] (by kernel_rfl) rfl rfl trivial (fun hHeld=>?_);refine Zc2 Zr.tab8 Zr.bits8 (fun HT_ HW_=>?_)
     generalize wr.drew=qf at aa HB hHeld ⊢
     refine zP 0 (some 70) (zt 11 1) (Ze HT_.out (by kernel_rfl)) ?_
     refine zP 1 (some 71) (zt 11 3) (Ze HT_.out (by kernel_rfl)) ?_
     refine pure_ (i:=2) (N:=some 72) (v:=undef) (a':=?_) #[true,true,true,false,false,false,false,false,false,false,false] rfl rfl (Ze HT_.out (by kernel_rfl)) (fun _ _ _ h=>h) (Or.inr ⟨by rfl,rfl⟩) ?_ ?_
     rotate_left
     ·simp only [Act.put,zp1,zp2,zp3,Zc,Zd]
      rfl
     refine pure_ (i:=3) (N:=some 73) (v:=undef) (a':=?_) #[true,true,true,true,false,false,false,false,false,false,false] rfl rfl (Ze HT_.out (by kernel_rfl)) (fun _ _ _ h=>h) (Or.inr ⟨by rfl,rfl⟩) ?_ ?_
     rotate_left
     ·simp only [Act.put,zp1,zp2,zp3,Zc,Zd]
      rfl
     refine pure_ (i:=4) (N:=some 74) (v:=undef) (a':=?_) #[true,true,true,true,true,false,false,false,false,false,false] rfl rfl (Ze HT_.out (by kernel_rfl)) (fun _ _ _ h=>h) (Or.inr ⟨by rfl,rfl⟩) ?_ ?_
     rotate_left
     ·simp only [Act.put,zp1,zp2,zp3,Zc,Zd]
      rfl
     refine pure_ (i:=5) (N:=some 75) (v:=undef) (a':=?_) #[true,true,true,true,true,true,false,false,false,false,false] rfl rfl (Ze HT_.out (by kernel_rfl)) (fun _ _ _ h=>h) (Or.inr ⟨by rfl,rfl⟩) ?_ ?_
     rotate_left
     ·simp only [Act.put,zp1,zp2,zp3,Zc,Zd]
      rfl
     refine pure_ (i:=6) (N:=some 76) (v:=undef) (a':=?_) #[true,true,true,true,true,true,true,false,false,false,false] rfl rfl (Ze HT_.out (by kernel_rfl)) (fun _ _ _ h=>h) (Or.inr ⟨by rfl,rfl⟩) ?_ ?_
     rotate_left
     ·simp only [Act.put,zp1,zp2,zp3,Zc,Zd]
      rfl
     refine pure_ (i:=7) (N:=some 77) (v:=undef) (a':=?_) #[true,true,true,true,true,true,true,true,false,false,false] rfl rfl (Ze HT_.out (by kernel_rfl)) (fun _ _ _ h=>h) (Or.inr ⟨by rfl,rfl⟩) ?_ ?_
     rotate_left
     ·simp only [Act.put,zp1,zp2,zp3,Zc,Zd]
      rfl
     refine pure_ (i:=8) (N:=some 78) (v:=undef) (a':=?_) #[true,true,true,true,true,true,true,true,true,false,false] rfl rfl (Ze HT_.out (by kernel_rfl)) (fun _ _ _ h=>h) (Or.inr ⟨by rfl,rfl⟩) ?_ ?_
     rotate_left
     ·simp only [Act.put,zp1,zp2,zp3,Zc,Zd]
      rfl
     refine pure_ (i:=9) (N:=some 79) (v:=undef) (a':=?_) #[true,true,true,true,true,true,true,true,true,true,false] rfl rfl (Ze HT_.out (by kernel_rfl)) (fun _ _ _ h=>h) (Or.inr ⟨by rfl,rfl⟩) ?_ ?_
     rotate_left
     ·simp only [Act.put,zp1,zp2,zp3,Zc,Zd]
      rfl
     refine zP 10 (some 80) (zt 11 2047) (Ze HT_.out (by kernel_rfl)) ?_
     refine done_ (done_of HT_.out (by kernel_rfl)) ?_
     try go_wp2
     go_roundg k1
     case measure=>have:=bn.out;omega
     case rel=>exact⟨(wrap64 (ab + 1)),(by first|rfl|(simp;done)|(simp [*];done)),H',⟨by have:=bn.out;omega⟩,⟨zK aa⟩,⟨zH HB⟩⟩
    (rw [if_pos eo] at H);(have gj:((rd l1 a4) == (rd l3 0))=true:=beq_iff_eq.mpr eo);(have gl:((rd l1 a4) != (rd l3 0))=false:=bne_eq_false_iff_eq.mpr eo);(clear eo)
    by_cases gm:1≤(l3.length:Int)
    rotate_left
    ·rw [if_neg gm] at H
     exact absurd H (by simp)
    (rw [if_pos gm] at H);(have oq:=eq_true gm);(have ot:decide (1≤(l3.length:Int))=true:=decide_eq_true gm);(clear gm);(obtain⟨bj,ch⟩ : ∃y_:List Int,y_=(l3.drop 1):=⟨_,rfl⟩);(replace H:((Zr.f k1 ac ag ah af l1 l2 bj ab a5).bind fun dr=>(if dr=true then(some true) else(Zr.l0 k1 l1 l2 l3 a4 a5 (rd l3 0) (wrap64 (ab + 1)) ac ag ah af)))=some r:=by first|(rw [ch];with_reducible exact H)|(have H2_:=(Option.bind_some _ _).symm.trans H;rw [ch];with_reducible exact H2_)|(have H2_:=(Option.bind_some _ _).symm.trans H;with_reducible exact H2_)|with_reducible exact H|(rw [ch];exact H)|exact H);(have cp:=Za.mk ch);(clear ch);(replace H:=Option.bind_eq_some_iff.mp H);(obtain⟨dr,gn,H⟩:=H);(replace H:(if dr=true then(some true) else(Zr.l0 k1 l1 l2 l3 a4 a5 (rd l3 0) (wrap64 (ab + 1)) ac ag ah af))=some r:=H);(have ou:=Za.mk gn);(clear gn)
    by_cases jj:dr=true
    ·subst jj
     (have H1:(some true)=some r:=by rw [if_pos rfl] at H;exact H);(clear H);(have H:=H1);(clear H1);(obtain rfl:=Option.some.inj H);(obtain⟨jk,jl,jm,jn⟩:=zq4 aa.out);(obtain⟨jo,jp,jq,jr⟩:=zf4 aa.out);(have bv:0≤(a4:Int):=zD);(have bw:a4 < (l1.length:Int):=zD);(obtain⟨co,dd,bc⟩:=Kd.at_int da.out a4 bv bw);(cases dd);(replace bc:=zX HB bc);(replace bv:=eq_true bv);(replace bw:=eq_true bw)
     try go_wp2
     (replace aa:=Za.mk (Zi aa.out));(replace HB:=Za.mk (Zz1 HB.out));(have nz:(1:Int)≤((l3.length:Int):Int):=zD);(obtain⟨i064,dz,_,hsz64,_⟩:=info_parts info3);(have hroom64:l3.length≤c3:=fo.out);(have hC64:Kd.C (Kd.int .i64) _ (some aq) l3.length l3:=ei.out);(have es:=cut_from (P:=Try.prog) 25 3 .i64 Try.underlying25 dz 1 hsz64 (some aq) l3.length c3 1 (by omega) nz);(have de:=Kd.C_drop (m:=(1:Int).toNat) (c:=c3) hC64 (by omega) hroom64);(obtain⟨ov,hA64⟩ : ∃Aq_,Aq_=(if c3=(1:Int).toNat then(some aq) else((some aq):Option Addr).map (·.add ((1:Int).toNat * 1))):=⟨_,rfl⟩);(obtain⟨ow,eu⟩ : ∃cq_,cq_=c3 - (1:Int).toNat:=⟨_,rfl⟩);(have dt:bj.length=l3.length - (1:Int).toNat:=(by rw [cp.out,List.length_drop] <;> omega));(rw [show(l3).drop (1:Int).toNat=bj from cp.out.symm] at de);(replace de:Kd.C (Kd.int .i64) _ ov bj.length bj:=(by rw [hA64];exact de));(rw [← dt,← hA64,← eu] at es);(have ci:=Za.mk de);(have df:=Za.mk (show bj.length≤ow from by rw [dt,eu];exact Nat.sub_le_sub_right hroom64 _));(clear de hC64 hroom64 dz hsz64 eu);(have KY64:=Za.mk dt);(have KA64:=Za.mk hA64);(clear dt hA64);(replace nz:=eq_true nz)
     refine start_ (n:=11) (S:=fun w'=>w'.cell? ⟨ai,0,none⟩=some (.int .i64 ac)∧w'.cell? ⟨ai,1,none⟩=some (.int .i64 ag)∧w'.cell? ⟨ai,2,none⟩=some (.int .i64 ah)∧w'.cell? ⟨ai,3,none⟩=some (.slice be af.length bf)) (ds:=[]) #[false,false,false,false,false,false,false,false,false,false,false] (by kernel_rfl) rfl rfl ⟨(Zf aa.out 0).trans rfl,(Zf aa.out 1).trans rfl,(Zf aa.out 2).trans rfl,(Zf aa.out 3).trans rfl⟩ (fun hHeld=>?_);refine Zc2 Zr.tab8 Zr.bits8 (fun HT_ HW_=>?_)
     generalize wr.drew=qg at aa HB ci hHeld ⊢
     refine zP 0 (some 70) (zt 11 1) (Ze HT_.out (by kernel_rfl)) ?_
     refine zP 1 (some 71) (zt 11 3) (Ze HT_.out (by kernel_rfl)) ?_
     refine zP 3 (some 73) (zt 11 11) (Ze HT_.out (by kernel_rfl)) ?_
     refine zP 4 (some 74) (zt 11 27) (Ze HT_.out (by kernel_rfl)) ?_
     refine zP 5 (some 75) (zt 11 59) (Ze HT_.out (by kernel_rfl)) ?_
     refine zP 6 (some 76) (zt 11 123) (Ze HT_.out (by kernel_rfl)) ?_
     refine zP 7 (some 77) (zt 11 251) (Ze HT_.out (by kernel_rfl)) ?_
     refine zP 8 (some 78) (zt 11 507) (Ze HT_.out (by kernel_rfl)) ?_
     refine take_ (i:=2) (N:=some 72) (v:=?_) (a':=?_) #[true,true,true,true,true,true,true,true,true,false,false] rfl rfl (Zi1 HT_.out HW_.out (by kernel_rfl)) (fun _ _ _ h=>h) (Or.inl ⟨by rfl,?_⟩) hHeld ?_ ?_
     rotate_left
     ·rintro w' ⟨s0,s1,s2,s3⟩
      go_simp
      with_reducible rfl
     rotate_left
     ·simp only [Act.put,zp1,zp2,zp3,Zc,Zd]
      rfl
     refine one_ (i:=9) (N:=some 79) #[true,true,true,true,true,true,true,true,true,true,false] rfl rfl (one_of HT_.out (by kernel_rfl)) (by decide) (fun K hK=>?_)
     refine goes_ Try.func29 (by kernel_rfl) rfl #[.agg #[.int .i64 ac,.int .i64 ag,.int .i64 ah,.slice be af.length bf],.slice (some co) l1.length c1,.slice A2 l2.length c2,.slice ov bj.length ow,.int .i64 ab,.int .i64 a5] (by rfl) rfl rfl (by (try simp only [List.map_toArray,List.map_cons,List.map_nil]);first|done|rfl|(simp only [List.length_drop,List.length_take];rfl)) ?_
     with_reducible refine(ih k1 (by have:=bn.out;omega) ac ag ah _ _ af _ _ l1 _ _ l2 _ _ bj ab a5 true _ ?side1 ?side2 ?side3 ?side4 ?side5 ?side6 ?side7 ?side8 ou.out).mono ?_
     (case side1=>exact zC cd HB)
     (case side2=>exact ce.out)
     (case side3=>exact zC da HB)
     (case side4=>exact fk.out)
     (case side5=>exact zC cy HB)
     (case side6=>exact fm.out)
     (case side7=>exact zC ci HB)
     (case side8=>exact df.out)
     rintro e qi ⟨rfl,hb⟩
     refine⟨_,rfl,?_⟩
     (replace aa:=Za.mk (Zj (g:=ai) (zK aa) hb));(replace HB:=Za.mk (Zh (zH HB) hb));((try clear hb));((try clear hb2));((try clear hk));((try clear hi))
     refine hK.out _ _ ⟨(Zf aa.out 0).trans rfl,(Zf aa.out 1).trans rfl,(Zf aa.out 2).trans rfl,(Zf aa.out 3).trans rfl⟩ (fun hHeld=>?_)
     clear hK K
     refine norm_ (a':=?_) ?_ ?_
     rotate_left
     ·show Act.put _ (some 79) _=_
      simp only [Act.put,zp1,zp2,zp3,Zc,Zd]
      rfl
     refine zP 10 (some 80) (zt 11 2047) (Ze HT_.out (by kernel_rfl)) ?_
     refine done_ (done_of HT_.out (by kernel_rfl)) ?_
     try go_wp2
     go_ret
     exact⟨by first|rfl|(simp [Zl,Zk] <;> rfl)|(simp [*,Zl,Zk] <;> rfl),zH HB⟩
    (replace jj:=Bool.eq_false_iff.mpr jj);(subst jj);(have H1:(Zr.l0 k1 l1 l2 l3 a4 a5 (rd l3 0) (wrap64 (ab + 1)) ac ag ah af)=some r:=by rw [if_neg (show ¬ (false=true) by decide)] at H;exact H);(clear H);(have H:=H1);(clear H1);(have H':=Za.mk H);(clear H);(obtain⟨js,jt,ju,jv⟩:=zq4 aa.out);(obtain⟨jw,jx,jy,jz⟩:=zf4 aa.out);(have bv:0≤(a4:Int):=zD);(have bw:a4 < (l1.length:Int):=zD);(obtain⟨co,dd,bc⟩:=Kd.at_int da.out a4 bv bw);(cases dd);(replace bc:=zX HB bc);(replace bv:=eq_true bv);(replace bw:=eq_true bw)
    try go_wp2
    (replace aa:=Za.mk (Zi aa.out));(replace HB:=Za.mk (Zz1 HB.out));(have oa:(1:Int)≤((l3.length:Int):Int):=zD);(obtain⟨i068,ea,_,hsz68,_⟩:=info_parts info3);(have hroom68:l3.length≤c3:=fo.out);(have hC68:Kd.C (Kd.int .i64) _ (some aq) l3.length l3:=ei.out);(have ey:=cut_from (P:=Try.prog) 25 3 .i64 Try.underlying25 ea 1 hsz68 (some aq) l3.length c3 1 (by omega) oa);(have dg:=Kd.C_drop (m:=(1:Int).toNat) (c:=c3) hC68 (by omega) hroom68);(obtain⟨ox,hA68⟩ : ∃Aq_,Aq_=(if c3=(1:Int).toNat then(some aq) else((some aq):Option Addr).map (·.add ((1:Int).toNat * 1))):=⟨_,rfl⟩);(obtain⟨oy,ez⟩ : ∃cq_,cq_=c3 - (1:Int).toNat:=⟨_,rfl⟩);(have du:bj.length=l3.length - (1:Int).toNat:=(by rw [cp.out,List.length_drop] <;> omega));(rw [show(l3).drop (1:Int).toNat=bj from cp.out.symm] at dg);(replace dg:Kd.C (Kd.int .i64) _ ox bj.length bj:=(by rw [hA68];exact dg));(rw [← du,← hA68,← ez] at ey);(have ci:=Za.mk dg);(have df:=Za.mk (show bj.length≤oy from by rw [du,ez];exact Nat.sub_le_sub_right hroom68 _));(clear dg hC68 hroom68 ea hsz68 ez);(have KY68:=Za.mk du);(have KA68:=Za.mk hA68);(clear du hA68);(replace oa:=eq_true oa)
    refine start_ (n:=11) (S:=fun w'=>w'.cell? ⟨ai,0,none⟩=some (.int .i64 ac)∧w'.cell? ⟨ai,1,none⟩=some (.int .i64 ag)∧w'.cell? ⟨ai,2,none⟩=some (.int .i64 ah)∧w'.cell? ⟨ai,3,none⟩=some (.slice be af.length bf)) (ds:=[]) #[false,false,false,false,false,false,false,false,false,false,false] (by kernel_rfl) rfl rfl ⟨(Zf aa.out 0).trans rfl,(Zf aa.out 1).trans rfl,(Zf aa.out 2).trans rfl,(Zf aa.out 3).trans rfl⟩ (fun hHeld=>?_);refine Zc2 Zr.tab8 Zr.bits8 (fun HT_ HW_=>?_)
    generalize wr.drew=qj at aa HB ci hHeld ⊢
    refine zP 0 (some 70) (zt 11 1) (Ze HT_.out (by kernel_rfl)) ?_
    refine zP 1 (some 71) (zt 11 3) (Ze HT_.out (by kernel_rfl)) ?_
    refine zP 3 (some 73) (zt 11 11) (Ze HT_.out (by kernel_rfl)) ?_
    refine zP 4 (some 74) (zt 11 27) (Ze HT_.out (by kernel_rfl)) ?_
    refine zP 5 (some 75) (zt 11 59) (Ze HT_.out (by kernel_rfl)) ?_
    refine zP 6 (some 76) (zt 11 123) (Ze HT_.out (by kernel_rfl)) ?_
    refine zP 7 (some 77) (zt 11 251) (Ze HT_.out (by kernel_rfl)) ?_
    refine zP 8 (some 78) (zt 11 507) (Ze HT_.out (by kernel_rfl)) ?_
    refine take_ (i:=2) (N:=some 72) (v:=?_) (a':=?_) #[true,true,true,true,true,true,true,true,true,false,false] rfl rfl (Zi1 HT_.out HW_.out (by kernel_rfl)) (fun _ _ _ h=>h) (Or.inl ⟨by rfl,?_⟩) hHeld ?_ ?_
    rotate_left
    ·rintro w' ⟨s0,s1,s2,s3⟩
     go_simp
     with_reducible rfl
    rotate_left
    ·simp only [Act.put,zp1,zp2,zp3,Zc,Zd]
     rfl
    refine one_ (i:=9) (N:=some 79) #[true,true,true,true,true,true,true,true,true,true,false] rfl rfl (one_of HT_.out (by kernel_rfl)) (by decide) (fun K hK=>?_)
    refine goes_ Try.func29 (by kernel_rfl) rfl #[.agg #[.int .i64 ac,.int .i64 ag,.int .i64 ah,.slice be af.length bf],.slice (some co) l1.length c1,.slice A2 l2.length c2,.slice ox bj.length oy,.int .i64 ab,.int .i64 a5] (by rfl) rfl rfl (by (try simp only [List.map_toArray,List.map_cons,List.map_nil]);first|done|rfl|(simp only [List.length_drop,List.length_take];rfl)) ?_
    with_reducible refine(ih k1 (by have:=bn.out;omega) ac ag ah _ _ af _ _ l1 _ _ l2 _ _ bj ab a5 false _ ?side1 ?side2 ?side3 ?side4 ?side5 ?side6 ?side7 ?side8 ou.out).mono ?_
    (case side1=>exact zC cd HB)
    (case side2=>exact ce.out)
    (case side3=>exact zC da HB)
    (case side4=>exact fk.out)
    (case side5=>exact zC cy HB)
    (case side6=>exact fm.out)
    (case side7=>exact zC ci HB)
    (case side8=>exact df.out)
    rintro e qk ⟨rfl,hb⟩
    refine⟨_,rfl,?_⟩
    (replace aa:=Za.mk (Zj (g:=ai) (zK aa) hb));(replace HB:=Za.mk (Zh (zH HB) hb));((try clear hb));((try clear hb2));((try clear hk));((try clear hi))
    refine hK.out _ _ ⟨(Zf aa.out 0).trans rfl,(Zf aa.out 1).trans rfl,(Zf aa.out 2).trans rfl,(Zf aa.out 3).trans rfl⟩ (fun hHeld=>?_)
    clear hK K
    refine norm_ (a':=?_) ?_ ?_
    rotate_left
    ·show Act.put _ (some 79) _=_
     simp only [Act.put,zp1,zp2,zp3,Zc,Zd]
     rfl
    refine zP 10 (some 80) (zt 11 2047) (Ze HT_.out (by kernel_rfl)) ?_
    refine done_ (done_of HT_.out (by kernel_rfl)) ?_
    try go_wp2
    go_roundg k1
    case measure=>have:=bn.out;omega
    case rel=>exact⟨(wrap64 (ab + 1)),(by first|rfl|(simp;done)|(simp [*];done)),H',⟨by have:=bn.out;omega⟩,⟨zK aa⟩,⟨zH HB⟩⟩
   (rw [if_pos fq] at H);(have ga:decide (ac≤(rd l3 0))=true:=decide_eq_true fq);(clear fq);(obtain⟨ap,bb⟩ : ∃j_:Int,(wrap64 ((rd l3 0) - ac))=j_:=⟨_,rfl⟩);(replace H:(if 0≤(ap) then(if(ap) < (l2.length:Int) then(if 0≤a4 then(if a4 < ((rd_L7 l2 (ap)).length:Int) then(if 0≤ab then(if ab < ((rd_L6 (rd_L7 l2 (ap)) a4).length:Int) then(if rdOf false (rd_L6 (rd_L7 l2 (ap)) a4) ab=true then(if 1≤(l3.length:Int) then((Zr.f k1 ac ag ah af l1 l2 (l3.drop 1) ab a5).bind fun ca=>(if ca=true then(some true) else(Zr.l0 k1 l1 l2 l3 a4 a5 (rd l3 0) (wrap64 (ab + 1)) ac ag ah af))) else(none)) else(if(rd l3 0) < ac then(if ab=(wrap64 (a4 + 1)) then(if a4 < (l1.length:Int) then(if(rd l1 a4)=(rd l3 0) then(if 1≤(l3.length:Int) then((Zr.f k1 ac ag ah af l1 l2 (l3.drop 1) ab a5).bind fun cb=>(if cb=true then(some true) else(Zr.l0 k1 l1 l2 l3 a4 a5 (rd l3 0) (wrap64 (ab + 1)) ac ag ah af))) else(none)) else(Zr.l0 k1 l1 l2 l3 a4 a5 (rd l3 0) (wrap64 (ab + 1)) ac ag ah af)) else(none)) else(Zr.l0 k1 l1 l2 l3 a4 a5 (rd l3 0) (wrap64 (ab + 1)) ac ag ah af)) else(Zr.l0 k1 l1 l2 l3 a4 a5 (rd l3 0) (wrap64 (ab + 1)) ac ag ah af))) else(none)) else(none)) else(none)) else(none)) else(none)) else(none))=some r:=by first|(rw [bb] at H;exact H)|(simp only [bb] at H ⊢;exact H))
   have oc:(IntKind.i64.wrap ((rd l3 0) - ac))=ap:=(Zc _).trans bb
   by_cases ka:0≤(ap)
   rotate_left
   ·rw [if_neg ka] at H
    exact absurd H (by simp)
   (rw [if_pos ka] at H);(have oz:decide (0≤(ap))=true:=decide_eq_true ka);(clear ka)
   by_cases kd:(ap) < (l2.length:Int)
   rotate_left
   ·rw [if_neg kd] at H
    exact absurd H (by simp)
   (rw [if_pos kd] at H);(have pa:decide ((ap) < (l2.length:Int))=true:=decide_eq_true kd);(clear kd)
   by_cases ke:0≤a4
   rotate_left
   ·rw [if_neg ke] at H
    exact absurd H (by simp)
   (rw [if_pos ke] at H);(have pb:decide (0≤a4)=true:=decide_eq_true ke);(clear ke)
   by_cases kf:a4 < ((rd_L7 l2 (ap)).length:Int)
   rotate_left
   ·rw [if_neg kf] at H
    exact absurd H (by simp)
   (rw [if_pos kf] at H);(have pd:decide (a4 < ((rd_L7 l2 (ap)).length:Int))=true:=decide_eq_true kf);(clear kf)
   by_cases ki:0≤ab
   rotate_left
   ·rw [if_neg ki] at H
    exact absurd H (by simp)
   (rw [if_pos ki] at H);(have pe:decide (0≤ab)=true:=decide_eq_true ki);(clear ki)
   by_cases kj:ab < ((rd_L6 (rd_L7 l2 (ap)) a4).length:Int)
   rotate_left
   ·rw [if_neg kj] at H
    exact absurd H (by simp)
   (rw [if_pos kj] at H);(have pf:decide (ab < ((rd_L6 (rd_L7 l2 (ap)) a4).length:Int))=true:=decide_eq_true kj);(clear kj);(obtain⟨bq20,hbq20⟩ : ∃b_:Bool,b_=(rdOf false (rd_L6 (rd_L7 l2 (ap)) a4) ab):=⟨_,rfl⟩);(replace H:(if bq20=true then(if 1≤(l3.length:Int) then((Zr.f k1 ac ag ah af l1 l2 (l3.drop 1) ab a5).bind fun ca=>(if ca=true then(some true) else(Zr.l0 k1 l1 l2 l3 a4 a5 (rd l3 0) (wrap64 (ab + 1)) ac ag ah af))) else(none)) else(if(rd l3 0) < ac then(if ab=(wrap64 (a4 + 1)) then(if a4 < (l1.length:Int) then(if(rd l1 a4)=(rd l3 0) then(if 1≤(l3.length:Int) then((Zr.f k1 ac ag ah af l1 l2 (l3.drop 1) ab a5).bind fun cb=>(if cb=true then(some true) else(Zr.l0 k1 l1 l2 l3 a4 a5 (rd l3 0) (wrap64 (ab + 1)) ac ag ah af))) else(none)) else(Zr.l0 k1 l1 l2 l3 a4 a5 (rd l3 0) (wrap64 (ab + 1)) ac ag ah af)) else(none)) else(Zr.l0 k1 l1 l2 l3 a4 a5 (rd l3 0) (wrap64 (ab + 1)) ac ag ah af)) else(Zr.l0 k1 l1 l2 l3 a4 a5 (rd l3 0) (wrap64 (ab + 1)) ac ag ah af)))=some r:=by rw [← hbq20] at H;exact H);(have Nbq20:=Za.mk hbq20);(clear hbq20)
   by_cases kn:bq20=true
   ·subst kn
    (have H1:(if 1≤(l3.length:Int) then((Zr.f k1 ac ag ah af l1 l2 (l3.drop 1) ab a5).bind fun ca=>(if ca=true then(some true) else(Zr.l0 k1 l1 l2 l3 a4 a5 (rd l3 0) (wrap64 (ab + 1)) ac ag ah af))) else(none))=some r:=by rw [if_pos rfl] at H;exact H);(clear H);(have H:=H1);(clear H1)
    by_cases gp:1≤(l3.length:Int)
    rotate_left
    ·rw [if_neg gp] at H
     exact absurd H (by simp)
    (rw [if_pos gp] at H);(have pg:=eq_true gp);(have ph:decide (1≤(l3.length:Int))=true:=decide_eq_true gp);(clear gp);(obtain⟨bk,cj⟩ : ∃y_:List Int,y_=(l3.drop 1):=⟨_,rfl⟩);(replace H:((Zr.f k1 ac ag ah af l1 l2 bk ab a5).bind fun ca=>(if ca=true then(some true) else(Zr.l0 k1 l1 l2 l3 a4 a5 (rd l3 0) (wrap64 (ab + 1)) ac ag ah af)))=some r:=by first|(rw [cj];with_reducible exact H)|(have H2_:=(Option.bind_some _ _).symm.trans H;rw [cj];with_reducible exact H2_)|(have H2_:=(Option.bind_some _ _).symm.trans H;with_reducible exact H2_)|with_reducible exact H|(rw [cj];exact H)|exact H);(have cq:=Za.mk cj);(clear cj);(replace H:=Option.bind_eq_some_iff.mp H);(obtain⟨ca,gq,H⟩:=H);(replace H:(if ca=true then(some true) else(Zr.l0 k1 l1 l2 l3 a4 a5 (rd l3 0) (wrap64 (ab + 1)) ac ag ah af))=some r:=H);(have pi:=Za.mk gq);(clear gq)
    by_cases kp:ca=true
    ·subst kp
     (have H1:(some true)=some r:=by rw [if_pos rfl] at H;exact H);(clear H);(have H:=H1);(clear H1);(obtain rfl:=Option.some.inj H);(obtain⟨kr,kt,ku,kv⟩:=zq4 aa.out);(obtain⟨kw,kx,ky,kz⟩:=zf4 aa.out);(have av:0≤((ap):Int):=zD);(have aw:(ap) < (l2.length:Int):=zD);(obtain⟨bi,bo,bp,bq,aj,ak,al⟩:=at_L7 cy.out (ap) av aw);(cases bq);(replace aj:=zX HB aj);(have ar:=Za.mk al);(have bg:=Za.mk ak);(clear al ak);(replace av:=eq_true av);(replace aw:=eq_true aw);(have ax:0≤(a4:Int):=zD);(have ay:a4 < ((rd_L7 l2 (ap)).length:Int):=zD);(obtain⟨cf,br,bs,bt,am,an,ao⟩:=at_L6 ar.out a4 ax ay);(cases bt);(replace am:=zX HB am)
     (have au:=Za.mk ao);(have bh:=Za.mk an);(clear ao an);(replace ax:=eq_true ax);(replace ay:=eq_true ay);(have az:0≤(ab:Int):=zD);(have ba:ab < ((rd_L6 (rd_L7 l2 (ap)) a4).length:Int):=zD);(obtain⟨cg,bu,ae⟩:=Kd.at_bool au.out ab az ba);((try rw [← Nbq20.out] at ae));(cases bu);(replace ae:=zX HB ae);(replace az:=eq_true az);(replace ba:=eq_true ba)
     try go_wp2
     (replace aa:=Za.mk (Zi aa.out));(replace HB:=Za.mk (Zz1 HB.out));(have od:(1:Int)≤((l3.length:Int):Int):=zD);(obtain⟨i027,ec,_,hsz27,_⟩:=info_parts info3);(have hroom27:l3.length≤c3:=fo.out);(have hC27:Kd.C (Kd.int .i64) _ (some aq) l3.length l3:=ei.out);(have fa:=cut_from (P:=Try.prog) 25 3 .i64 Try.underlying25 ec 1 hsz27 (some aq) l3.length c3 1 (by omega) od);(have dh:=Kd.C_drop (m:=(1:Int).toNat) (c:=c3) hC27 (by omega) hroom27);(obtain⟨pj,hA27⟩ : ∃Aq_,Aq_=(if c3=(1:Int).toNat then(some aq) else((some aq):Option Addr).map (·.add ((1:Int).toNat * 1))):=⟨_,rfl⟩);(obtain⟨pk,fb⟩ : ∃cq_,cq_=c3 - (1:Int).toNat:=⟨_,rfl⟩);(have dv:bk.length=l3.length - (1:Int).toNat:=(by rw [cq.out,List.length_drop] <;> omega));(rw [show(l3).drop (1:Int).toNat=bk from cq.out.symm] at dh);(replace dh:Kd.C (Kd.int .i64) _ pj bk.length bk:=(by rw [hA27];exact dh));(rw [← dv,← hA27,← fb] at fa);(have ck:=Za.mk dh);(have di:=Za.mk (show bk.length≤pk from by rw [dv,fb];exact Nat.sub_le_sub_right hroom27 _));(clear dh hC27 hroom27 ec hsz27 fb);(have KY27:=Za.mk dv);(have KA27:=Za.mk hA27);(clear dv hA27);(replace od:=eq_true od)
     refine start_ (n:=11) (S:=fun w'=>w'.cell? ⟨ai,0,none⟩=some (.int .i64 ac)∧w'.cell? ⟨ai,1,none⟩=some (.int .i64 ag)∧w'.cell? ⟨ai,2,none⟩=some (.int .i64 ah)∧w'.cell? ⟨ai,3,none⟩=some (.slice be af.length bf)) (ds:=[]) #[false,false,false,false,false,false,false,false,false,false,false] (by kernel_rfl) rfl rfl ⟨(Zf aa.out 0).trans rfl,(Zf aa.out 1).trans rfl,(Zf aa.out 2).trans rfl,(Zf aa.out 3).trans rfl⟩ (fun hHeld=>?_);refine Zc2 Zr.tab8 Zr.bits8 (fun HT_ HW_=>?_)
     generalize wr.drew=ql at aa HB ck hHeld ⊢
     refine zP 0 (some 70) (zt 11 1) (Ze HT_.out (by kernel_rfl)) ?_
     refine zP 1 (some 71) (zt 11 3) (Ze HT_.out (by kernel_rfl)) ?_
     refine zP 3 (some 73) (zt 11 11) (Ze HT_.out (by kernel_rfl)) ?_
     refine zP 4 (some 74) (zt 11 27) (Ze HT_.out (by kernel_rfl)) ?_
     refine zP 5 (some 75) (zt 11 59) (Ze HT_.out (by kernel_rfl)) ?_
     refine zP 6 (some 76) (zt 11 123) (Ze HT_.out (by kernel_rfl)) ?_
     refine zP 7 (some 77) (zt 11 251) (Ze HT_.out (by kernel_rfl)) ?_
     refine zP 8 (some 78) (zt 11 507) (Ze HT_.out (by kernel_rfl)) ?_
     refine take_ (i:=2) (N:=some 72) (v:=?_) (a':=?_) #[true,true,true,true,true,true,true,true,true,false,false] rfl rfl (Zi1 HT_.out HW_.out (by kernel_rfl)) (fun _ _ _ h=>h) (Or.inl ⟨by rfl,?_⟩) hHeld ?_ ?_
     rotate_left
     ·rintro w' ⟨s0,s1,s2,s3⟩
      go_simp
      with_reducible rfl
     rotate_left
     ·simp only [Act.put,zp1,zp2,zp3,Zc,Zd]
      rfl
     refine one_ (i:=9) (N:=some 79) #[true,true,true,true,true,true,true,true,true,true,false] rfl rfl (one_of HT_.out (by kernel_rfl)) (by decide) (fun K hK=>?_)
     refine goes_ Try.func29 (by kernel_rfl) rfl #[.agg #[.int .i64 ac,.int .i64 ag,.int .i64 ah,.slice be af.length bf],.slice A1 l1.length c1,.slice (some bi) l2.length c2,.slice pj bk.length pk,.int .i64 ab,.int .i64 a5] (by rfl) rfl rfl (by (try simp only [List.map_toArray,List.map_cons,List.map_nil]);first|done|rfl|(simp only [List.length_drop,List.length_take];rfl)) ?_
     with_reducible refine(ih k1 (by have:=bn.out;omega) ac ag ah _ _ af _ _ l1 _ _ l2 _ _ bk ab a5 true _ ?side1 ?side2 ?side3 ?side4 ?side5 ?side6 ?side7 ?side8 pi.out).mono ?_
     (case side1=>exact zC cd HB)
     (case side2=>exact ce.out)
     (case side3=>exact zC da HB)
     (case side4=>exact fk.out)
     (case side5=>exact zC cy HB)
     (case side6=>exact fm.out)
     (case side7=>exact zC ck HB)
     (case side8=>exact di.out)
     rintro e qm ⟨rfl,hb⟩
     refine⟨_,rfl,?_⟩
     (replace aa:=Za.mk (Zj (g:=ai) (zK aa) hb));(replace HB:=Za.mk (Zh (zH HB) hb));((try clear hb));((try clear hb2));((try clear hk));((try clear hi))
     refine hK.out _ _ ⟨(Zf aa.out 0).trans rfl,(Zf aa.out 1).trans rfl,(Zf aa.out 2).trans rfl,(Zf aa.out 3).trans rfl⟩ (fun hHeld=>?_)
     clear hK K
     refine norm_ (a':=?_) ?_ ?_
     rotate_left
     ·show Act.put _ (some 79) _=_
      simp only [Act.put,zp1,zp2,zp3,Zc,Zd]
      rfl
     refine zP 10 (some 80) (zt 11 2047) (Ze HT_.out (by kernel_rfl)) ?_
     refine done_ (done_of HT_.out (by kernel_rfl)) ?_
     try go_wp2
     go_ret
     exact⟨by first|rfl|(simp [Zl,Zk] <;> rfl)|(simp only [← bb];first|rfl|(simp [Zl,Zk] <;> rfl))|(simp [*,Zl,Zk] <;> rfl),zH HB⟩
    (replace kp:=Bool.eq_false_iff.mpr kp);(subst kp);(have H1:(Zr.l0 k1 l1 l2 l3 a4 a5 (rd l3 0) (wrap64 (ab + 1)) ac ag ah af)=some r:=by rw [if_neg (show ¬ (false=true) by decide)] at H;exact H);(clear H);(have H:=H1);(clear H1);(have H':=Za.mk H);(clear H);(obtain⟨la,lc,ld,lf⟩:=zq4 aa.out);(obtain⟨lg,lh,ll,lm⟩:=zf4 aa.out);(have av:0≤((ap):Int):=zD);(have aw:(ap) < (l2.length:Int):=zD);(obtain⟨bi,bo,bp,bq,aj,ak,al⟩:=at_L7 cy.out (ap) av aw);(cases bq);(replace aj:=zX HB aj);(have ar:=Za.mk al);(have bg:=Za.mk ak);(clear al ak);(replace av:=eq_true av);(replace aw:=eq_true aw);(have ax:0≤(a4:Int):=zD);(have ay:a4 < ((rd_L7 l2 (ap)).length:Int):=zD);(obtain⟨cf,br,bs,bt,am,an,ao⟩:=at_L6 ar.out a4 ax ay)
    (cases bt);(replace am:=zX HB am);(have au:=Za.mk ao);(have bh:=Za.mk an);(clear ao an);(replace ax:=eq_true ax);(replace ay:=eq_true ay);(have az:0≤(ab:Int):=zD);(have ba:ab < ((rd_L6 (rd_L7 l2 (ap)) a4).length:Int):=zD);(obtain⟨cg,bu,ae⟩:=Kd.at_bool au.out ab az ba);((try rw [← Nbq20.out] at ae));(cases bu);(replace ae:=zX HB ae);(replace az:=eq_true az);(replace ba:=eq_true ba)
    try go_wp2
    (replace aa:=Za.mk (Zi aa.out));(replace HB:=Za.mk (Zz1 HB.out));(have oe:(1:Int)≤((l3.length:Int):Int):=zD);(obtain⟨i031,ee,_,hsz31,_⟩:=info_parts info3);(have hroom31:l3.length≤c3:=fo.out);(have hC31:Kd.C (Kd.int .i64) _ (some aq) l3.length l3:=ei.out);(have fc:=cut_from (P:=Try.prog) 25 3 .i64 Try.underlying25 ee 1 hsz31 (some aq) l3.length c3 1 (by omega) oe);(have dj:=Kd.C_drop (m:=(1:Int).toNat) (c:=c3) hC31 (by omega) hroom31);(obtain⟨pl,hA31⟩ : ∃Aq_,Aq_=(if c3=(1:Int).toNat then(some aq) else((some aq):Option Addr).map (·.add ((1:Int).toNat * 1))):=⟨_,rfl⟩);(obtain⟨pm,fd⟩ : ∃cq_,cq_=c3 - (1:Int).toNat:=⟨_,rfl⟩);(have dw:bk.length=l3.length - (1:Int).toNat:=(by rw [cq.out,List.length_drop] <;> omega));(rw [show(l3).drop (1:Int).toNat=bk from cq.out.symm] at dj);(replace dj:Kd.C (Kd.int .i64) _ pl bk.length bk:=(by rw [hA31];exact dj));(rw [← dw,← hA31,← fd] at fc);(have ck:=Za.mk dj);(have di:=Za.mk (show bk.length≤pm from by rw [dw,fd];exact Nat.sub_le_sub_right hroom31 _));(clear dj hC31 hroom31 ee hsz31 fd);(have KY31:=Za.mk dw);(have KA31:=Za.mk hA31);(clear dw hA31);(replace oe:=eq_true oe)
    refine start_ (n:=11) (S:=fun w'=>w'.cell? ⟨ai,0,none⟩=some (.int .i64 ac)∧w'.cell? ⟨ai,1,none⟩=some (.int .i64 ag)∧w'.cell? ⟨ai,2,none⟩=some (.int .i64 ah)∧w'.cell? ⟨ai,3,none⟩=some (.slice be af.length bf)) (ds:=[]) #[false,false,false,false,false,false,false,false,false,false,false] (by kernel_rfl) rfl rfl ⟨(Zf aa.out 0).trans rfl,(Zf aa.out 1).trans rfl,(Zf aa.out 2).trans rfl,(Zf aa.out 3).trans rfl⟩ (fun hHeld=>?_);refine Zc2 Zr.tab8 Zr.bits8 (fun HT_ HW_=>?_)
    generalize wr.drew=qn at aa HB ck hHeld ⊢
    refine zP 0 (some 70) (zt 11 1) (Ze HT_.out (by kernel_rfl)) ?_
    refine zP 1 (some 71) (zt 11 3) (Ze HT_.out (by kernel_rfl)) ?_
    refine zP 3 (some 73) (zt 11 11) (Ze HT_.out (by kernel_rfl)) ?_
    refine zP 4 (some 74) (zt 11 27) (Ze HT_.out (by kernel_rfl)) ?_
    refine zP 5 (some 75) (zt 11 59) (Ze HT_.out (by kernel_rfl)) ?_
    refine zP 6 (some 76) (zt 11 123) (Ze HT_.out (by kernel_rfl)) ?_
    refine zP 7 (some 77) (zt 11 251) (Ze HT_.out (by kernel_rfl)) ?_
    refine zP 8 (some 78) (zt 11 507) (Ze HT_.out (by kernel_rfl)) ?_
    refine take_ (i:=2) (N:=some 72) (v:=?_) (a':=?_) #[true,true,true,true,true,true,true,true,true,false,false] rfl rfl (Zi1 HT_.out HW_.out (by kernel_rfl)) (fun _ _ _ h=>h) (Or.inl ⟨by rfl,?_⟩) hHeld ?_ ?_
    rotate_left
    ·rintro w' ⟨s0,s1,s2,s3⟩
     go_simp
     with_reducible rfl
    rotate_left
    ·simp only [Act.put,zp1,zp2,zp3,Zc,Zd]
     rfl
    refine one_ (i:=9) (N:=some 79) #[true,true,true,true,true,true,true,true,true,true,false] rfl rfl (one_of HT_.out (by kernel_rfl)) (by decide) (fun K hK=>?_)
    refine goes_ Try.func29 (by kernel_rfl) rfl #[.agg #[.int .i64 ac,.int .i64 ag,.int .i64 ah,.slice be af.length bf],.slice A1 l1.length c1,.slice (some bi) l2.length c2,.slice pl bk.length pm,.int .i64 ab,.int .i64 a5] (by rfl) rfl rfl (by (try simp only [List.map_toArray,List.map_cons,List.map_nil]);first|done|rfl|(simp only [List.length_drop,List.length_take];rfl)) ?_
    with_reducible refine(ih k1 (by have:=bn.out;omega) ac ag ah _ _ af _ _ l1 _ _ l2 _ _ bk ab a5 false _ ?side1 ?side2 ?side3 ?side4 ?side5 ?side6 ?side7 ?side8 pi.out).mono ?_
    (case side1=>exact zC cd HB)
    (case side2=>exact ce.out)
    (case side3=>exact zC da HB)
    (case side4=>exact fk.out)
    (case side5=>exact zC cy HB)
    (case side6=>exact fm.out)
    (case side7=>exact zC ck HB)
    (case side8=>exact di.out)
    rintro e qo ⟨rfl,hb⟩
    refine⟨_,rfl,?_⟩
    (replace aa:=Za.mk (Zj (g:=ai) (zK aa) hb));(replace HB:=Za.mk (Zh (zH HB) hb));((try clear hb));((try clear hb2));((try clear hk));((try clear hi))
    refine hK.out _ _ ⟨(Zf aa.out 0).trans rfl,(Zf aa.out 1).trans rfl,(Zf aa.out 2).trans rfl,(Zf aa.out 3).trans rfl⟩ (fun hHeld=>?_)
    clear hK K
    refine norm_ (a':=?_) ?_ ?_
    rotate_left
    ·show Act.put _ (some 79) _=_
     simp only [Act.put,zp1,zp2,zp3,Zc,Zd]
     rfl
    refine zP 10 (some 80) (zt 11 2047) (Ze HT_.out (by kernel_rfl)) ?_
    refine done_ (done_of HT_.out (by kernel_rfl)) ?_
    try go_wp2
    (first|go_roundg k1|(simp only [← bb];go_roundg k1))
    case measure=>have:=bn.out;omega
    case rel=>first|exact⟨(wrap64 (ab + 1)),(by first|rfl|(simp;done)|(simp [*];done)),H',⟨by have:=bn.out;omega⟩,⟨zK aa⟩,⟨zH HB⟩⟩|(subst bb;exact⟨(wrap64 (ab + 1)),(by first|rfl|(simp;done)|(simp [*];done)),H',⟨by have:=bn.out;omega⟩,⟨zK aa⟩,⟨zH HB⟩⟩)
   (replace kn:=Bool.eq_false_iff.mpr kn);(subst kn);(have H1:(if(rd l3 0) < ac then(if ab=(wrap64 (a4 + 1)) then(if a4 < (l1.length:Int) then(if(rd l1 a4)=(rd l3 0) then(if 1≤(l3.length:Int) then((Zr.f k1 ac ag ah af l1 l2 (l3.drop 1) ab a5).bind fun cb=>(if cb=true then(some true) else(Zr.l0 k1 l1 l2 l3 a4 a5 (rd l3 0) (wrap64 (ab + 1)) ac ag ah af))) else(none)) else(Zr.l0 k1 l1 l2 l3 a4 a5 (rd l3 0) (wrap64 (ab + 1)) ac ag ah af)) else(none)) else(Zr.l0 k1 l1 l2 l3 a4 a5 (rd l3 0) (wrap64 (ab + 1)) ac ag ah af)) else(Zr.l0 k1 l1 l2 l3 a4 a5 (rd l3 0) (wrap64 (ab + 1)) ac ag ah af))=some r:=by rw [if_neg (show ¬ (false=true) by decide)] at H;exact H);(clear H);(have H:=H1);(clear H1)
   by_cases fu:(rd l3 0) < ac
   rotate_left
   ·rw [if_neg fu] at H
    (have gu:decide ((rd l3 0) < ac)=false:=decide_eq_false fu);(clear fu);(have H':=Za.mk H);(clear H);(obtain⟨lp,lq,lr,ls⟩:=zq4 aa.out);(obtain⟨lu,lv,lw,lx⟩:=zf4 aa.out);(have av:0≤((ap):Int):=zD);(have aw:(ap) < (l2.length:Int):=zD);(obtain⟨bi,bo,bp,bq,aj,ak,al⟩:=at_L7 cy.out (ap) av aw);(cases bq);(replace aj:=zX HB aj);(have ar:=Za.mk al);(have bg:=Za.mk ak);(clear al ak);(replace av:=eq_true av);(replace aw:=eq_true aw);(have ax:0≤(a4:Int):=zD);(have ay:a4 < ((rd_L7 l2 (ap)).length:Int):=zD);(obtain⟨cf,br,bs,bt,am,an,ao⟩:=at_L6 ar.out a4 ax ay);(cases bt);(replace am:=zX HB am);(have au:=Za.mk ao)
    (have bh:=Za.mk an);(clear ao an);(replace ax:=eq_true ax);(replace ay:=eq_true ay);(have az:0≤(ab:Int):=zD);(have ba:ab < ((rd_L6 (rd_L7 l2 (ap)) a4).length:Int):=zD);(obtain⟨cg,bu,ae⟩:=Kd.at_bool au.out ab az ba);((try rw [← Nbq20.out] at ae));(cases bu);(replace ae:=zX HB ae);(replace az:=eq_true az);(replace ba:=eq_true ba)
    try go_wp2
    (replace aa:=Za.mk (Zi aa.out));(replace HB:=Za.mk (Zz1 HB.out))
    refine start_ (n:=11) (S:=fun w'=>True) (ds:=[]) #[false,false,false,false,false,false,false,false,false,false,false] (by kernel_rfl) rfl rfl trivial (fun hHeld=>?_);refine Zc2 Zr.tab8 Zr.bits8 (fun HT_ HW_=>?_)
    generalize wr.drew=qp at aa HB hHeld ⊢
    refine zP 0 (some 70) (zt 11 1) (Ze HT_.out (by kernel_rfl)) ?_
    refine zP 1 (some 71) (zt 11 3) (Ze HT_.out (by kernel_rfl)) ?_
    refine pure_ (i:=2) (N:=some 72) (v:=undef) (a':=?_) #[true,true,true,false,false,false,false,false,false,false,false] rfl rfl (Ze HT_.out (by kernel_rfl)) (fun _ _ _ h=>h) (Or.inr ⟨by rfl,rfl⟩) ?_ ?_
    rotate_left
    ·simp only [Act.put,zp1,zp2,zp3,Zc,Zd]
     rfl
    refine pure_ (i:=3) (N:=some 73) (v:=undef) (a':=?_) #[true,true,true,true,false,false,false,false,false,false,false] rfl rfl (Ze HT_.out (by kernel_rfl)) (fun _ _ _ h=>h) (Or.inr ⟨by rfl,rfl⟩) ?_ ?_
    rotate_left
    ·simp only [Act.put,zp1,zp2,zp3,Zc,Zd]
     rfl
    refine pure_ (i:=4) (N:=some 74) (v:=undef) (a':=?_) #[true,true,true,true,true,false,false,false,false,false,false] rfl rfl (Ze HT_.out (by kernel_rfl)) (fun _ _ _ h=>h) (Or.inr ⟨by rfl,rfl⟩) ?_ ?_
    rotate_left
    ·simp only [Act.put,zp1,zp2,zp3,Zc,Zd]
     rfl
    refine pure_ (i:=5) (N:=some 75) (v:=undef) (a':=?_) #[true,true,true,true,true,true,false,false,false,false,false] rfl rfl (Ze HT_.out (by kernel_rfl)) (fun _ _ _ h=>h) (Or.inr ⟨by rfl,rfl⟩) ?_ ?_
    rotate_left
    ·simp only [Act.put,zp1,zp2,zp3,Zc,Zd]
     rfl
    refine pure_ (i:=6) (N:=some 76) (v:=undef) (a':=?_) #[true,true,true,true,true,true,true,false,false,false,false] rfl rfl (Ze HT_.out (by kernel_rfl)) (fun _ _ _ h=>h) (Or.inr ⟨by rfl,rfl⟩) ?_ ?_
    rotate_left
    ·simp only [Act.put,zp1,zp2,zp3,Zc,Zd]
     rfl
    refine pure_ (i:=7) (N:=some 77) (v:=undef) (a':=?_) #[true,true,true,true,true,true,true,true,false,false,false] rfl rfl (Ze HT_.out (by kernel_rfl)) (fun _ _ _ h=>h) (Or.inr ⟨by rfl,rfl⟩) ?_ ?_
    rotate_left
    ·simp only [Act.put,zp1,zp2,zp3,Zc,Zd]
     rfl
    refine pure_ (i:=8) (N:=some 78) (v:=undef) (a':=?_) #[true,true,true,true,true,true,true,true,true,false,false] rfl rfl (Ze HT_.out (by kernel_rfl)) (fun _ _ _ h=>h) (Or.inr ⟨by rfl,rfl⟩) ?_ ?_
    rotate_left
    ·simp only [Act.put,zp1,zp2,zp3,Zc,Zd]
     rfl
    refine pure_ (i:=9) (N:=some 79) (v:=undef) (a':=?_) #[true,true,true,true,true,true,true,true,true,true,false] rfl rfl (Ze HT_.out (by kernel_rfl)) (fun _ _ _ h=>h) (Or.inr ⟨by rfl,rfl⟩) ?_ ?_
    rotate_left
    ·simp only [Act.put,zp1,zp2,zp3,Zc,Zd]
     rfl
    refine zP 10 (some 80) (zt 11 2047) (Ze HT_.out (by kernel_rfl)) ?_
    refine done_ (done_of HT_.out (by kernel_rfl)) ?_
    try go_wp2
    (first|go_roundg k1|(simp only [← bb];go_roundg k1))
    case measure=>have:=bn.out;omega
    case rel=>first|exact⟨(wrap64 (ab + 1)),(by first|rfl|(simp;done)|(simp [*];done)),H',⟨by have:=bn.out;omega⟩,⟨zK aa⟩,⟨zH HB⟩⟩|(subst bb;exact⟨(wrap64 (ab + 1)),(by first|rfl|(simp;done)|(simp [*];done)),H',⟨by have:=bn.out;omega⟩,⟨zK aa⟩,⟨zH HB⟩⟩)
   (rw [if_pos fu] at H);(have gu:decide ((rd l3 0) < ac)=true:=decide_eq_true fu);(clear fu)
   by_cases fe:ab=(wrap64 (a4 + 1))
   rotate_left
   ·rw [if_neg fe] at H
    (have gv:(ab == (wrap64 (a4 + 1)))=false:=beq_eq_false_iff_ne.mpr fe);(have gw:(ab != (wrap64 (a4 + 1)))=true:=bne_iff_ne.mpr fe);(have H':=Za.mk H);(clear H);(obtain⟨ly,lz,ma,mb⟩:=zq4 aa.out);(obtain⟨mc,me,mf,mg⟩:=zf4 aa.out);(have av:0≤((ap):Int):=zD);(have aw:(ap) < (l2.length:Int):=zD);(obtain⟨bi,bo,bp,bq,aj,ak,al⟩:=at_L7 cy.out (ap) av aw);(cases bq);(replace aj:=zX HB aj);(have ar:=Za.mk al);(have bg:=Za.mk ak);(clear al ak);(replace av:=eq_true av);(replace aw:=eq_true aw);(have ax:0≤(a4:Int):=zD);(have ay:a4 < ((rd_L7 l2 (ap)).length:Int):=zD);(obtain⟨cf,br,bs,bt,am,an,ao⟩:=at_L6 ar.out a4 ax ay);(cases bt);(replace am:=zX HB am)
    (have au:=Za.mk ao);(have bh:=Za.mk an);(clear ao an);(replace ax:=eq_true ax);(replace ay:=eq_true ay);(have az:0≤(ab:Int):=zD);(have ba:ab < ((rd_L6 (rd_L7 l2 (ap)) a4).length:Int):=zD);(obtain⟨cg,bu,ae⟩:=Kd.at_bool au.out ab az ba);((try rw [← Nbq20.out] at ae));(cases bu);(replace ae:=zX HB ae);(replace az:=eq_true az);(replace ba:=eq_true ba)
    try go_wp2
    (replace aa:=Za.mk (Zi aa.out));(replace HB:=Za.mk (Zz1 HB.out))
    refine start_ (n:=11) (S:=fun w'=>True) (ds:=[]) #[false,false,false,false,false,false,false,false,false,false,false] (by kernel_rfl) rfl rfl trivial (fun hHeld=>?_);refine Zc2 Zr.tab8 Zr.bits8 (fun HT_ HW_=>?_)
    generalize wr.drew=qq at aa HB hHeld ⊢
    refine zP 0 (some 70) (zt 11 1) (Ze HT_.out (by kernel_rfl)) ?_
    refine zP 1 (some 71) (zt 11 3) (Ze HT_.out (by kernel_rfl)) ?_
    refine pure_ (i:=2) (N:=some 72) (v:=undef) (a':=?_) #[true,true,true,false,false,false,false,false,false,false,false] rfl rfl (Ze HT_.out (by kernel_rfl)) (fun _ _ _ h=>h) (Or.inr ⟨by rfl,rfl⟩) ?_ ?_
    rotate_left
    ·simp only [Act.put,zp1,zp2,zp3,Zc,Zd]
     rfl
    refine pure_ (i:=3) (N:=some 73) (v:=undef) (a':=?_) #[true,true,true,true,false,false,false,false,false,false,false] rfl rfl (Ze HT_.out (by kernel_rfl)) (fun _ _ _ h=>h) (Or.inr ⟨by rfl,rfl⟩) ?_ ?_
    rotate_left
    ·simp only [Act.put,zp1,zp2,zp3,Zc,Zd]
     rfl
    refine pure_ (i:=4) (N:=some 74) (v:=undef) (a':=?_) #[true,true,true,true,true,false,false,false,false,false,false] rfl rfl (Ze HT_.out (by kernel_rfl)) (fun _ _ _ h=>h) (Or.inr ⟨by rfl,rfl⟩) ?_ ?_
    rotate_left
    ·simp only [Act.put,zp1,zp2,zp3,Zc,Zd]
     rfl
    refine pure_ (i:=5) (N:=some 75) (v:=undef) (a':=?_) #[true,true,true,true,true,true,false,false,false,false,false] rfl rfl (Ze HT_.out (by kernel_rfl)) (fun _ _ _ h=>h) (Or.inr ⟨by rfl,rfl⟩) ?_ ?_
    rotate_left
    ·simp only [Act.put,zp1,zp2,zp3,Zc,Zd]
     rfl
    refine pure_ (i:=6) (N:=some 76) (v:=undef) (a':=?_) #[true,true,true,true,true,true,true,false,false,false,false] rfl rfl (Ze HT_.out (by kernel_rfl)) (fun _ _ _ h=>h) (Or.inr ⟨by rfl,rfl⟩) ?_ ?_
    rotate_left
    ·simp only [Act.put,zp1,zp2,zp3,Zc,Zd]
     rfl
    refine pure_ (i:=7) (N:=some 77) (v:=undef) (a':=?_) #[true,true,true,true,true,true,true,true,false,false,false] rfl rfl (Ze HT_.out (by kernel_rfl)) (fun _ _ _ h=>h) (Or.inr ⟨by rfl,rfl⟩) ?_ ?_
    rotate_left
    ·simp only [Act.put,zp1,zp2,zp3,Zc,Zd]
     rfl
    refine pure_ (i:=8) (N:=some 78) (v:=undef) (a':=?_) #[true,true,true,true,true,true,true,true,true,false,false] rfl rfl (Ze HT_.out (by kernel_rfl)) (fun _ _ _ h=>h) (Or.inr ⟨by rfl,rfl⟩) ?_ ?_
    rotate_left
    ·simp only [Act.put,zp1,zp2,zp3,Zc,Zd]
     rfl
    refine pure_ (i:=9) (N:=some 79) (v:=undef) (a':=?_) #[true,true,true,true,true,true,true,true,true,true,false] rfl rfl (Ze HT_.out (by kernel_rfl)) (fun _ _ _ h=>h) (Or.inr ⟨by rfl,rfl⟩) ?_ ?_
    rotate_left
    ·simp only [Act.put,zp1,zp2,zp3,Zc,Zd]
     rfl
    refine zP 10 (some 80) (zt 11 2047) (Ze HT_.out (by kernel_rfl)) ?_
    refine done_ (done_of HT_.out (by kernel_rfl)) ?_
    try go_wp2
    (first|go_roundg k1|(simp only [← bb];go_roundg k1))
    case measure=>have:=bn.out;omega
    case rel=>first|exact⟨(wrap64 (ab + 1)),(by first|rfl|(simp;done)|(simp [*];done)),H',⟨by have:=bn.out;omega⟩,⟨zK aa⟩,⟨zH HB⟩⟩|(subst bb;exact⟨(wrap64 (ab + 1)),(by first|rfl|(simp;done)|(simp [*];done)),H',⟨by have:=bn.out;omega⟩,⟨zK aa⟩,⟨zH HB⟩⟩)
   (rw [if_pos fe] at H);(have gv:(ab == (wrap64 (a4 + 1)))=true:=beq_iff_eq.mpr fe);(have gw:(ab != (wrap64 (a4 + 1)))=false:=bne_eq_false_iff_eq.mpr fe);(clear fe)
   by_cases mh:a4 < (l1.length:Int)
   rotate_left
   ·rw [if_neg mh] at H
    exact absurd H (by simp)
   (rw [if_pos mh] at H);(have pn:decide (a4 < (l1.length:Int))=true:=decide_eq_true mh);(clear mh)
   by_cases ff:(rd l1 a4)=(rd l3 0)
   rotate_left
   ·rw [if_neg ff] at H
    (have gx:((rd l1 a4) == (rd l3 0))=false:=beq_eq_false_iff_ne.mpr ff);(have gy:((rd l1 a4) != (rd l3 0))=true:=bne_iff_ne.mpr ff);(have H':=Za.mk H);(clear H);(obtain⟨mi,ml,mm,mn⟩:=zq4 aa.out);(obtain⟨mo,mq,mr,ms⟩:=zf4 aa.out);(have av:0≤((ap):Int):=zD);(have aw:(ap) < (l2.length:Int):=zD);(obtain⟨bi,bo,bp,bq,aj,ak,al⟩:=at_L7 cy.out (ap) av aw);(cases bq);(replace aj:=zX HB aj);(have ar:=Za.mk al);(have bg:=Za.mk ak);(clear al ak);(replace av:=eq_true av);(replace aw:=eq_true aw);(have ax:0≤(a4:Int):=zD);(have ay:a4 < ((rd_L7 l2 (ap)).length:Int):=zD);(obtain⟨cf,br,bs,bt,am,an,ao⟩:=at_L6 ar.out a4 ax ay);(cases bt);(replace am:=zX HB am)
    (have au:=Za.mk ao);(have bh:=Za.mk an);(clear ao an);(replace ax:=eq_true ax);(replace ay:=eq_true ay);(have az:0≤(ab:Int):=zD);(have ba:ab < ((rd_L6 (rd_L7 l2 (ap)) a4).length:Int):=zD);(obtain⟨cg,bu,ae⟩:=Kd.at_bool au.out ab az ba);((try rw [← Nbq20.out] at ae));(cases bu);(replace ae:=zX HB ae);(replace az:=eq_true az);(replace ba:=eq_true ba);(have bx:0≤(a4:Int):=zD);(have bz:a4 < (l1.length:Int):=zD);(obtain⟨cu,dk,bd⟩:=Kd.at_int da.out a4 bx bz);(cases dk);(replace bd:=zX HB bd);(replace bx:=eq_true bx);(replace bz:=eq_true bz)
    try go_wp2
    (replace aa:=Za.mk (Zi aa.out));(replace HB:=Za.mk (Zz1 HB.out))
    refine start_ (n:=11) (S:=fun w'=>True) (ds:=[]) #[false,false,false,false,false,false,false,false,false,false,false] (by kernel_rfl) rfl rfl trivial (fun hHeld=>?_);refine Zc2 Zr.tab8 Zr.bits8 (fun HT_ HW_=>?_)
    generalize wr.drew=qr at aa HB hHeld ⊢
    refine zP 0 (some 70) (zt 11 1) (Ze HT_.out (by kernel_rfl)) ?_
    refine zP 1 (some 71) (zt 11 3) (Ze HT_.out (by kernel_rfl)) ?_
    refine pure_ (i:=2) (N:=some 72) (v:=undef) (a':=?_) #[true,true,true,false,false,false,false,false,false,false,false] rfl rfl (Ze HT_.out (by kernel_rfl)) (fun _ _ _ h=>h) (Or.inr ⟨by rfl,rfl⟩) ?_ ?_
    rotate_left
    ·simp only [Act.put,zp1,zp2,zp3,Zc,Zd]
     rfl
    refine pure_ (i:=3) (N:=some 73) (v:=undef) (a':=?_) #[true,true,true,true,false,false,false,false,false,false,false] rfl rfl (Ze HT_.out (by kernel_rfl)) (fun _ _ _ h=>h) (Or.inr ⟨by rfl,rfl⟩) ?_ ?_
    rotate_left
    ·simp only [Act.put,zp1,zp2,zp3,Zc,Zd]
     rfl
    refine pure_ (i:=4) (N:=some 74) (v:=undef) (a':=?_) #[true,true,true,true,true,false,false,false,false,false,false] rfl rfl (Ze HT_.out (by kernel_rfl)) (fun _ _ _ h=>h) (Or.inr ⟨by rfl,rfl⟩) ?_ ?_
    rotate_left
    ·simp only [Act.put,zp1,zp2,zp3,Zc,Zd]
     rfl
    refine pure_ (i:=5) (N:=some 75) (v:=undef) (a':=?_) #[true,true,true,true,true,true,false,false,false,false,false] rfl rfl (Ze HT_.out (by kernel_rfl)) (fun _ _ _ h=>h) (Or.inr ⟨by rfl,rfl⟩) ?_ ?_
    rotate_left
    ·simp only [Act.put,zp1,zp2,zp3,Zc,Zd]
     rfl
    refine pure_ (i:=6) (N:=some 76) (v:=undef) (a':=?_) #[true,true,true,true,true,true,true,false,false,false,false] rfl rfl (Ze HT_.out (by kernel_rfl)) (fun _ _ _ h=>h) (Or.inr ⟨by rfl,rfl⟩) ?_ ?_
    rotate_left
    ·simp only [Act.put,zp1,zp2,zp3,Zc,Zd]
     rfl
    refine pure_ (i:=7) (N:=some 77) (v:=undef) (a':=?_) #[true,true,true,true,true,true,true,true,false,false,false] rfl rfl (Ze HT_.out (by kernel_rfl)) (fun _ _ _ h=>h) (Or.inr ⟨by rfl,rfl⟩) ?_ ?_
    rotate_left
    ·simp only [Act.put,zp1,zp2,zp3,Zc,Zd]
     rfl
    refine pure_ (i:=8) (N:=some 78) (v:=undef) (a':=?_) #[true,true,true,true,true,true,true,true,true,false,false] rfl rfl (Ze HT_.out (by kernel_rfl)) (fun _ _ _ h=>h) (Or.inr ⟨by rfl,rfl⟩) ?_ ?_
    rotate_left
    ·simp only [Act.put,zp1,zp2,zp3,Zc,Zd]
     rfl
    refine pure_ (i:=9) (N:=some 79) (v:=undef) (a':=?_) #[true,true,true,true,true,true,true,true,true,true,false] rfl rfl (Ze HT_.out (by kernel_rfl)) (fun _ _ _ h=>h) (Or.inr ⟨by rfl,rfl⟩) ?_ ?_
    rotate_left
    ·simp only [Act.put,zp1,zp2,zp3,Zc,Zd]
     rfl
    refine zP 10 (some 80) (zt 11 2047) (Ze HT_.out (by kernel_rfl)) ?_
    refine done_ (done_of HT_.out (by kernel_rfl)) ?_
    try go_wp2
    (first|go_roundg k1|(simp only [← bb];go_roundg k1))
    case measure=>have:=bn.out;omega
    case rel=>first|exact⟨(wrap64 (ab + 1)),(by first|rfl|(simp;done)|(simp [*];done)),H',⟨by have:=bn.out;omega⟩,⟨zK aa⟩,⟨zH HB⟩⟩|(subst bb;exact⟨(wrap64 (ab + 1)),(by first|rfl|(simp;done)|(simp [*];done)),H',⟨by have:=bn.out;omega⟩,⟨zK aa⟩,⟨zH HB⟩⟩)
   (rw [if_pos ff] at H);(have gx:((rd l1 a4) == (rd l3 0))=true:=beq_iff_eq.mpr ff);(have gy:((rd l1 a4) != (rd l3 0))=false:=bne_eq_false_iff_eq.mpr ff);(clear ff)
   by_cases gz:1≤(l3.length:Int)
   rotate_left
   ·rw [if_neg gz] at H
    exact absurd H (by simp)
   (rw [if_pos gz] at H);(have po:=eq_true gz);(have pq:decide (1≤(l3.length:Int))=true:=decide_eq_true gz);(clear gz);(obtain⟨bl,cm⟩ : ∃y_:List Int,y_=(l3.drop 1):=⟨_,rfl⟩);(replace H:((Zr.f k1 ac ag ah af l1 l2 bl ab a5).bind fun cb=>(if cb=true then(some true) else(Zr.l0 k1 l1 l2 l3 a4 a5 (rd l3 0) (wrap64 (ab + 1)) ac ag ah af)))=some r:=by first|(rw [cm];with_reducible exact H)|(have H2_:=(Option.bind_some _ _).symm.trans H;rw [cm];with_reducible exact H2_)|(have H2_:=(Option.bind_some _ _).symm.trans H;with_reducible exact H2_)|with_reducible exact H|(rw [cm];exact H)|exact H);(have cw:=Za.mk cm);(clear cm);(replace H:=Option.bind_eq_some_iff.mp H);(obtain⟨cb,ia,H⟩:=H);(replace H:(if cb=true then(some true) else(Zr.l0 k1 l1 l2 l3 a4 a5 (rd l3 0) (wrap64 (ab + 1)) ac ag ah af))=some r:=H);(have pr:=Za.mk ia);(clear ia)
   by_cases mt:cb=true
   ·subst mt
    (have H1:(some true)=some r:=by rw [if_pos rfl] at H;exact H);(clear H);(have H:=H1);(clear H1);(obtain rfl:=Option.some.inj H);(obtain⟨mu,mv,mw,my⟩:=zq4 aa.out);(obtain⟨mz,na,nb,nc⟩:=zf4 aa.out);(have av:0≤((ap):Int):=zD);(have aw:(ap) < (l2.length:Int):=zD);(obtain⟨bi,bo,bp,bq,aj,ak,al⟩:=at_L7 cy.out (ap) av aw);(cases bq);(replace aj:=zX HB aj);(have ar:=Za.mk al);(have bg:=Za.mk ak);(clear al ak);(replace av:=eq_true av);(replace aw:=eq_true aw);(have ax:0≤(a4:Int):=zD);(have ay:a4 < ((rd_L7 l2 (ap)).length:Int):=zD);(obtain⟨cf,br,bs,bt,am,an,ao⟩:=at_L6 ar.out a4 ax ay);(cases bt);(replace am:=zX HB am)
    (have au:=Za.mk ao);(have bh:=Za.mk an);(clear ao an);(replace ax:=eq_true ax);(replace ay:=eq_true ay);(have az:0≤(ab:Int):=zD);(have ba:ab < ((rd_L6 (rd_L7 l2 (ap)) a4).length:Int):=zD);(obtain⟨cg,bu,ae⟩:=Kd.at_bool au.out ab az ba);((try rw [← Nbq20.out] at ae));(cases bu);(replace ae:=zX HB ae);(replace az:=eq_true az);(replace ba:=eq_true ba);(have bx:0≤(a4:Int):=zD);(have bz:a4 < (l1.length:Int):=zD);(obtain⟨cu,dk,bd⟩:=Kd.at_int da.out a4 bx bz);(cases dk);(replace bd:=zX HB bd);(replace bx:=eq_true bx);(replace bz:=eq_true bz)
    try go_wp2
    (replace aa:=Za.mk (Zi aa.out));(replace HB:=Za.mk (Zz1 HB.out));(have oh:(1:Int)≤((l3.length:Int):Int):=zD);(obtain⟨i042,ef,_,hsz42,_⟩:=info_parts info3);(have hroom42:l3.length≤c3:=fo.out);(have hC42:Kd.C (Kd.int .i64) _ (some aq) l3.length l3:=ei.out);(have fg:=cut_from (P:=Try.prog) 25 3 .i64 Try.underlying25 ef 1 hsz42 (some aq) l3.length c3 1 (by omega) oh);(have dl:=Kd.C_drop (m:=(1:Int).toNat) (c:=c3) hC42 (by omega) hroom42);(obtain⟨pt,hA42⟩ : ∃Aq_,Aq_=(if c3=(1:Int).toNat then(some aq) else((some aq):Option Addr).map (·.add ((1:Int).toNat * 1))):=⟨_,rfl⟩);(obtain⟨pu,fh⟩ : ∃cq_,cq_=c3 - (1:Int).toNat:=⟨_,rfl⟩);(have dx:bl.length=l3.length - (1:Int).toNat:=(by rw [cw.out,List.length_drop] <;> omega));(rw [show(l3).drop (1:Int).toNat=bl from cw.out.symm] at dl);(replace dl:Kd.C (Kd.int .i64) _ pt bl.length bl:=(by rw [hA42];exact dl));(rw [← dx,← hA42,← fh] at fg);(have cn:=Za.mk dl);(have dm:=Za.mk (show bl.length≤pu from by rw [dx,fh];exact Nat.sub_le_sub_right hroom42 _));(clear dl hC42 hroom42 ef hsz42 fh);(have KY42:=Za.mk dx);(have KA42:=Za.mk hA42);(clear dx hA42);(replace oh:=eq_true oh)
    refine start_ (n:=11) (S:=fun w'=>w'.cell? ⟨ai,0,none⟩=some (.int .i64 ac)∧w'.cell? ⟨ai,1,none⟩=some (.int .i64 ag)∧w'.cell? ⟨ai,2,none⟩=some (.int .i64 ah)∧w'.cell? ⟨ai,3,none⟩=some (.slice be af.length bf)) (ds:=[]) #[false,false,false,false,false,false,false,false,false,false,false] (by kernel_rfl) rfl rfl ⟨(Zf aa.out 0).trans rfl,(Zf aa.out 1).trans rfl,(Zf aa.out 2).trans rfl,(Zf aa.out 3).trans rfl⟩ (fun hHeld=>?_);refine Zc2 Zr.tab8 Zr.bits8 (fun HT_ HW_=>?_)
    generalize wr.drew=qt at aa HB cn hHeld ⊢
    refine zP 0 (some 70) (zt 11 1) (Ze HT_.out (by kernel_rfl)) ?_
    refine zP 1 (some 71) (zt 11 3) (Ze HT_.out (by kernel_rfl)) ?_
    refine zP 3 (some 73) (zt 11 11) (Ze HT_.out (by kernel_rfl)) ?_
    refine zP 4 (some 74) (zt 11 27) (Ze HT_.out (by kernel_rfl)) ?_
    refine zP 5 (some 75) (zt 11 59) (Ze HT_.out (by kernel_rfl)) ?_
    refine zP 6 (some 76) (zt 11 123) (Ze HT_.out (by kernel_rfl)) ?_
    refine zP 7 (some 77) (zt 11 251) (Ze HT_.out (by kernel_rfl)) ?_
    refine zP 8 (some 78) (zt 11 507) (Ze HT_.out (by kernel_rfl)) ?_
    refine take_ (i:=2) (N:=some 72) (v:=?_) (a':=?_) #[true,true,true,true,true,true,true,true,true,false,false] rfl rfl (Zi1 HT_.out HW_.out (by kernel_rfl)) (fun _ _ _ h=>h) (Or.inl ⟨by rfl,?_⟩) hHeld ?_ ?_
    rotate_left
    ·rintro w' ⟨s0,s1,s2,s3⟩
     go_simp
     with_reducible rfl
    rotate_left
    ·simp only [Act.put,zp1,zp2,zp3,Zc,Zd]
     rfl
    refine one_ (i:=9) (N:=some 79) #[true,true,true,true,true,true,true,true,true,true,false] rfl rfl (one_of HT_.out (by kernel_rfl)) (by decide) (fun K hK=>?_)
    refine goes_ Try.func29 (by kernel_rfl) rfl #[.agg #[.int .i64 ac,.int .i64 ag,.int .i64 ah,.slice be af.length bf],.slice (some cu) l1.length c1,.slice (some bi) l2.length c2,.slice pt bl.length pu,.int .i64 ab,.int .i64 a5] (by rfl) rfl rfl (by (try simp only [List.map_toArray,List.map_cons,List.map_nil]);first|done|rfl|(simp only [List.length_drop,List.length_take];rfl)) ?_
    with_reducible refine(ih k1 (by have:=bn.out;omega) ac ag ah _ _ af _ _ l1 _ _ l2 _ _ bl ab a5 true _ ?side1 ?side2 ?side3 ?side4 ?side5 ?side6 ?side7 ?side8 pr.out).mono ?_
    (case side1=>exact zC cd HB)
    (case side2=>exact ce.out)
    (case side3=>exact zC da HB)
    (case side4=>exact fk.out)
    (case side5=>exact zC cy HB)
    (case side6=>exact fm.out)
    (case side7=>exact zC cn HB)
    (case side8=>exact dm.out)
    rintro e qu ⟨rfl,hb⟩
    refine⟨_,rfl,?_⟩
    (replace aa:=Za.mk (Zj (g:=ai) (zK aa) hb));(replace HB:=Za.mk (Zh (zH HB) hb));((try clear hb));((try clear hb2));((try clear hk));((try clear hi))
    refine hK.out _ _ ⟨(Zf aa.out 0).trans rfl,(Zf aa.out 1).trans rfl,(Zf aa.out 2).trans rfl,(Zf aa.out 3).trans rfl⟩ (fun hHeld=>?_)
    clear hK K
    refine norm_ (a':=?_) ?_ ?_
    rotate_left
    ·show Act.put _ (some 79) _=_
     simp only [Act.put,zp1,zp2,zp3,Zc,Zd]
     rfl
    refine zP 10 (some 80) (zt 11 2047) (Ze HT_.out (by kernel_rfl)) ?_
    refine done_ (done_of HT_.out (by kernel_rfl)) ?_
    try go_wp2
    go_ret
    exact⟨by first|rfl|(simp [Zl,Zk] <;> rfl)|(simp only [← bb];first|rfl|(simp [Zl,Zk] <;> rfl))|(simp [*,Zl,Zk] <;> rfl),zH HB⟩
   (replace mt:=Bool.eq_false_iff.mpr mt);(subst mt);(have H1:(Zr.l0 k1 l1 l2 l3 a4 a5 (rd l3 0) (wrap64 (ab + 1)) ac ag ah af)=some r:=by rw [if_neg (show ¬ (false=true) by decide)] at H;exact H);(clear H);(have H:=H1);(clear H1);(have H':=Za.mk H);(clear H);(obtain⟨nf,ng,nh,ni⟩:=zq4 aa.out);(obtain⟨nj,nl,nm,nn⟩:=zf4 aa.out);(have av:0≤((ap):Int):=zD);(have aw:(ap) < (l2.length:Int):=zD);(obtain⟨bi,bo,bp,bq,aj,ak,al⟩:=at_L7 cy.out (ap) av aw);(cases bq);(replace aj:=zX HB aj);(have ar:=Za.mk al);(have bg:=Za.mk ak);(clear al ak);(replace av:=eq_true av);(replace aw:=eq_true aw);(have ax:0≤(a4:Int):=zD);(have ay:a4 < ((rd_L7 l2 (ap)).length:Int):=zD);(obtain⟨cf,br,bs,bt,am,an,ao⟩:=at_L6 ar.out a4 ax ay)
   (cases bt);(replace am:=zX HB am);(have au:=Za.mk ao);(have bh:=Za.mk an);(clear ao an);(replace ax:=eq_true ax);(replace ay:=eq_true ay);(have az:0≤(ab:Int):=zD);(have ba:ab < ((rd_L6 (rd_L7 l2 (ap)) a4).length:Int):=zD);(obtain⟨cg,bu,ae⟩:=Kd.at_bool au.out ab az ba);((try rw [← Nbq20.out] at ae));(cases bu);(replace ae:=zX HB ae);(replace az:=eq_true az);(replace ba:=eq_true ba);(have bx:0≤(a4:Int):=zD);(have bz:a4 < (l1.length:Int):=zD);(obtain⟨cu,dk,bd⟩:=Kd.at_int da.out a4 bx bz);(cases dk);(replace bd:=zX HB bd);(replace bx:=eq_true bx);(replace bz:=eq_true bz)
   try go_wp2
   (replace aa:=Za.mk (Zi aa.out));(replace HB:=Za.mk (Zz1 HB.out));(have ol:(1:Int)≤((l3.length:Int):Int):=zD);(obtain⟨i046,eh,_,hsz46,_⟩:=info_parts info3);(have hroom46:l3.length≤c3:=fo.out);(have hC46:Kd.C (Kd.int .i64) _ (some aq) l3.length l3:=ei.out);(have fi:=cut_from (P:=Try.prog) 25 3 .i64 Try.underlying25 eh 1 hsz46 (some aq) l3.length c3 1 (by omega) ol);(have dn:=Kd.C_drop (m:=(1:Int).toNat) (c:=c3) hC46 (by omega) hroom46);(obtain⟨pv,hA46⟩ : ∃Aq_,Aq_=(if c3=(1:Int).toNat then(some aq) else((some aq):Option Addr).map (·.add ((1:Int).toNat * 1))):=⟨_,rfl⟩);(obtain⟨pw,fj⟩ : ∃cq_,cq_=c3 - (1:Int).toNat:=⟨_,rfl⟩);(have dy:bl.length=l3.length - (1:Int).toNat:=(by rw [cw.out,List.length_drop] <;> omega));(rw [show(l3).drop (1:Int).toNat=bl from cw.out.symm] at dn);(replace dn:Kd.C (Kd.int .i64) _ pv bl.length bl:=(by rw [hA46];exact dn));(rw [← dy,← hA46,← fj] at fi);(have cn:=Za.mk dn);(have dm:=Za.mk (show bl.length≤pw from by rw [dy,fj];exact Nat.sub_le_sub_right hroom46 _));(clear dn hC46 hroom46 eh hsz46 fj);(have KY46:=Za.mk dy);(have KA46:=Za.mk hA46);(clear dy hA46);(replace ol:=eq_true ol)
   refine start_ (n:=11) (S:=fun w'=>w'.cell? ⟨ai,0,none⟩=some (.int .i64 ac)∧w'.cell? ⟨ai,1,none⟩=some (.int .i64 ag)∧w'.cell? ⟨ai,2,none⟩=some (.int .i64 ah)∧w'.cell? ⟨ai,3,none⟩=some (.slice be af.length bf)) (ds:=[]) #[false,false,false,false,false,false,false,false,false,false,false] (by kernel_rfl) rfl rfl ⟨(Zf aa.out 0).trans rfl,(Zf aa.out 1).trans rfl,(Zf aa.out 2).trans rfl,(Zf aa.out 3).trans rfl⟩ (fun hHeld=>?_);refine Zc2 Zr.tab8 Zr.bits8 (fun HT_ HW_=>?_)
   generalize wr.drew=qv at aa HB cn hHeld ⊢
   refine zP 0 (some 70) (zt 11 1) (Ze HT_.out (by kernel_rfl)) ?_
   refine zP 1 (some 71) (zt 11 3) (Ze HT_.out (by kernel_rfl)) ?_
   refine zP 3 (some 73) (zt 11 11) (Ze HT_.out (by kernel_rfl)) ?_
   refine zP 4 (some 74) (zt 11 27) (Ze HT_.out (by kernel_rfl)) ?_
   refine zP 5 (some 75) (zt 11 59) (Ze HT_.out (by kernel_rfl)) ?_
   refine zP 6 (some 76) (zt 11 123) (Ze HT_.out (by kernel_rfl)) ?_
   refine zP 7 (some 77) (zt 11 251) (Ze HT_.out (by kernel_rfl)) ?_
   refine zP 8 (some 78) (zt 11 507) (Ze HT_.out (by kernel_rfl)) ?_
   refine take_ (i:=2) (N:=some 72) (v:=?_) (a':=?_) #[true,true,true,true,true,true,true,true,true,false,false] rfl rfl (Zi1 HT_.out HW_.out (by kernel_rfl)) (fun _ _ _ h=>h) (Or.inl ⟨by rfl,?_⟩) hHeld ?_ ?_
   rotate_left
   ·rintro w' ⟨s0,s1,s2,s3⟩
    go_simp
    with_reducible rfl
   rotate_left
   ·simp only [Act.put,zp1,zp2,zp3,Zc,Zd]
    rfl
   refine one_ (i:=9) (N:=some 79) #[true,true,true,true,true,true,true,true,true,true,false] rfl rfl (one_of HT_.out (by kernel_rfl)) (by decide) (fun K hK=>?_)
   refine goes_ Try.func29 (by kernel_rfl) rfl #[.agg #[.int .i64 ac,.int .i64 ag,.int .i64 ah,.slice be af.length bf],.slice (some cu) l1.length c1,.slice (some bi) l2.length c2,.slice pv bl.length pw,.int .i64 ab,.int .i64 a5] (by rfl) rfl rfl (by (try simp only [List.map_toArray,List.map_cons,List.map_nil]);first|done|rfl|(simp only [List.length_drop,List.length_take];rfl)) ?_
   with_reducible refine(ih k1 (by have:=bn.out;omega) ac ag ah _ _ af _ _ l1 _ _ l2 _ _ bl ab a5 false _ ?side1 ?side2 ?side3 ?side4 ?side5 ?side6 ?side7 ?side8 pr.out).mono ?_
   (case side1=>exact zC cd HB)
   (case side2=>exact ce.out)
   (case side3=>exact zC da HB)
   (case side4=>exact fk.out)
   (case side5=>exact zC cy HB)
   (case side6=>exact fm.out)
   (case side7=>exact zC cn HB)
   (case side8=>exact dm.out)
   rintro e qw ⟨rfl,hb⟩
   refine⟨_,rfl,?_⟩
   (replace aa:=Za.mk (Zj (g:=ai) (zK aa) hb));(replace HB:=Za.mk (Zh (zH HB) hb));((try clear hb));((try clear hb2));((try clear hk));((try clear hi))
   refine hK.out _ _ ⟨(Zf aa.out 0).trans rfl,(Zf aa.out 1).trans rfl,(Zf aa.out 2).trans rfl,(Zf aa.out 3).trans rfl⟩ (fun hHeld=>?_)
   clear hK K
   refine norm_ (a':=?_) ?_ ?_
   rotate_left
   ·show Act.put _ (some 79) _=_
    simp only [Act.put,zp1,zp2,zp3,Zc,Zd]
    rfl
   refine zP 10 (some 80) (zt 11 2047) (Ze HT_.out (by kernel_rfl)) ?_
   refine done_ (done_of HT_.out (by kernel_rfl)) ?_
   try go_wp2
   (first|go_roundg k1|(simp only [← bb];go_roundg k1))
   case measure=>have:=bn.out;omega
   case rel=>first|exact⟨(wrap64 (ab + 1)),(by first|rfl|(simp;done)|(simp [*];done)),H',⟨by have:=bn.out;omega⟩,⟨zK aa⟩,⟨zH HB⟩⟩|(subst bb;exact⟨(wrap64 (ab + 1)),(by first|rfl|(simp;done)|(simp [*];done)),H',⟨by have:=bn.out;omega⟩,⟨zK aa⟩,⟨zH HB⟩⟩)
end Go.Proofs.Ytbifocddbgleeaa.PAheadParses
