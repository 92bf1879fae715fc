-- By a program.
import Derived.Test.YtbifocddbgleeaaQPAheadParsesx0
import Derived.Test.YtbifocddbgleeaaQPAheadParsesx1
import Derived.Test.YtbifocddbgleeaaQPAheadParsesx2
import Derived.Test.YtbifocddbgleeaaQPAheadParsesx4
namespace Go.Proofs.Ytbifocddbgleeaa.PAheadParses
set_option maxHeartbeats 8000000
set_option maxRecDepth 100000
open Go.RowKit Go.Proofs.YtbifocddbgleeaaW.PrintWords Go.Proofs.YtbifocddbgleeaaW.PrintLast Go.Proofs.YtbifocddbgleeaaW.PrintMore
attribute [local go_sem] max2_int min2_int max_two min_two max_three min_three max_four min_four
set_option linter.unusedVariables false
set_option linter.unusedSimpArgs false
def Zb2.l0:Nat→List Int→Int→List (List Int)→Int→Int→Option (Int × Int)
  |0,_,_,_,_,_=>none
  |k + 1,x1,x7,x18,x19,x20=>if x20 < x19 then(if 0≤x20 then(if x20 < (x18.length:Int) then(if 0 < ((Zt x18 x20).length:Int) then(Zb2.l0 k x1 (Go.bits .or .u32 x7 (shl .u32 (Go.bits .and .u32 (shr .u32 (rd (Zt x18 x20) 0) (x1.length:Int)) 1) x20)) x18 x19 (wrap64 (x20 + 1))) else(none)) else(none)) else(none)) else(some (x7,0))
def Zb2.f (k:Nat) (a0_0:Int) (a0_1:Int) (a0_2:Int) (l0_3:List (S41)) (l1:List Int):Option (Int × Int):=(table_wrong.f k a0_0 a0_1 a0_2 l0_3 l1).bind fun t145=>(if t145=0 then((Zq.f k a0_0 a0_1 a0_2 l0_3 l1).bind fun t146=>(Zb2.l0 k l1 0 t146 (t146.length:Int) 0)) else(some (0,t145)))
theorem Zb2.mono_l: ∀k,(∀y0 y1 y2 y3 y4,LeO (Zb2.l0 k y0 y1 y2 y3 y4) (Zb2.l0 (k + 1) y0 y1 y2 y3 y4))
  |0=>fun _ _ _ _ _ r h=>by simp [Zb2.l0] at h
  |k + 1=>by
    have ih0:=Zb2.mono_l k
    · intro y0 y1 y2 y3 y4
      unfold Zb2.l0
      repeat' (with_reducible first|apply ih0|apply Zq.mono|apply table_wrong.mono|exact LeO.refl _|exact LeO.none _|refine LeO.ite ?_ ?_|refine LeO.bind ?_ (fun _=>?_))
theorem Zb2.mono: ∀a0 a1 a2 a3 a4 k,LeO (Zb2.f k a0 a1 a2 a3 a4) (Zb2.f (k + 1) a0 a1 a2 a3 a4):=by
  intro a0 a1 a2 a3 a4 k
  have ih0:=Zb2.mono_l k
  unfold Zb2.f
  repeat' (with_reducible first|apply ih0|apply Zq.mono|apply table_wrong.mono|exact LeO.refl _|exact LeO.none _|refine LeO.ite ?_ ?_|refine LeO.bind ?_ (fun _=>?_))
theorem Zb2.calls (k : Nat) (af : Int) (ag : Int) (ah : Int) (am : Option Addr) (an : Nat) (ae : List (S41)) (A1 : Option Addr) (c1 : Nat) (l1 : List Int) (r1 : Int) (r2 : Int) (w : World) (bd : Kd.C k41 w am ae.length ae) (be : ae.length ≤ an) (dq : Kd.C (Kd.int .i64) w A1 l1.length l1) (dr : l1.length ≤ c1) (h : Zb2.f k af ag ah ae l1 = some (r1, r2)) :
    Calls Try.prog 19 #[.agg #[.int .i64 af,.int .i64 ag,.int .i64 ah,.slice am ae.length an],.slice A1 l1.length c1] w fun e w'=>e= .returned (.tuple #[.int .u32 r1,.int .i64 r2])∧Below w.heap.size w w':=by
 (have ee:=Try.underlying24);(have ax:=Za.mk bd);(have ay:=Za.mk be);(clear bd be);(have db:=Za.mk dq);(have dc:=Za.mk dr);(clear dq dr);(have HB:=Za.mk (Below.refl w.heap.size w));(have H:((table_wrong.f k af ag ah ae l1).bind fun ak=>(if ak=0 then((Zq.f k af ag ah ae l1).bind fun ab=>(Zb2.l0 k l1 0 ab (ab.length:Int) 0)) else(some (0,ak))))=some (r1,r2):=h);(clear h);(replace H:=Option.bind_eq_some_iff.mp H);(obtain⟨ak,dt,H⟩:=H);(replace H:(if ak=0 then((Zq.f k af ag ah ae l1).bind fun ab=>(Zb2.l0 k l1 0 ab (ab.length:Int) 0)) else(some (0,ak)))=some (r1,r2):=H);(have A3:=Za.mk dt);(clear dt)
 by_cases c4:ak=0
 rotate_left
 ·rw [if_neg c4] at H
  (have cd:(ak == 0)=false:=beq_eq_false_iff_ne.mpr c4);(have ce:(ak != 0)=true:=bne_iff_ne.mpr c4);(simp only [Option.some.injEq,Prod.mk.injEq] at H);(obtain⟨rfl,rfl⟩:=H)
  go_enter Try.func19,Try.ntmps19
  go_wp2_with (first|((with_reducible refine Zs (N:=2) rfl ?_);refine Zx ?hg (N:=2) ?hd (cs:=#[.int .i64 af,.int .i64 ag,.int .i64 ah,.slice am ae.length an]) (t:=24) ?hr ?_;(case hd=>rfl);(case hg=>rfl);(case hr=>first|(go_simp;done)|(go_simp;rfl));intro ai hg ef hbox hb;have ac:=Za.mk (hbox);have cf:=Za.mk ((by rw [hg];exact(Zg (zH HB)):w.heap.size≤ai));have cg:=Za.mk ((by rw [hg];exact(Zg (zH HB)):w.heap.size≤ai));replace HB:=Za.mk (Zh (zH HB) hb);clear hb hbox hg;obtain⟨ci,cj,ck,cm⟩:=zq4 ac.out;obtain⟨cn,co,cp,cq⟩:=zf4 ac.out)|((with_reducible refine Zl1 (f:=30) rfl ?_);refine goesL_ (some 12) rfl rfl Try.func30 (by kernel_rfl) rfl #[.agg #[.int .i64 af,.int .i64 ag,.int .i64 ah,.slice am ae.length an],.slice A1 l1.length c1] rfl (by (try simp only [List.map_toArray,List.map_cons,List.map_nil]);first|done|rfl|(simp only [List.length_drop,List.length_take];rfl)) ?_;(with_reducible refine(table_wrong.calls k af ag ah _ _ ae _ _ l1 ak _ ?side1 ?side2 ?side3 ?side4 A3.out).mono ?_);(case side1=>exact zC ax HB);(case side2=>exact ay.out);(case side3=>exact zC db HB);(case side4=>exact dc.out);rintro e eh ⟨rfl,hb⟩;refine⟨_,rfl,?_⟩;replace ac:=Za.mk (Zj (g:=ai) (zK ac) hb);replace HB:=Za.mk (Zh (zH HB) hb);(try clear hb);(try clear hb2);(try clear hk);(try clear hi)))
  go_ret2
  exact⟨by first|rfl|(simp [Zl,Zk] <;> rfl)|(simp [*,Zl,Zk] <;> rfl),zH HB⟩
 (rw [if_pos c4] at H);(have cd:(ak == 0)=true:=beq_iff_eq.mpr c4);(have ce:(ak != 0)=false:=bne_eq_false_iff_eq.mpr c4);(clear c4);(replace H:=Option.bind_eq_some_iff.mp H);(obtain⟨ab,du,H⟩:=H);(replace H:(Zb2.l0 k l1 0 ab (ab.length:Int) 0)=some (r1,r2):=H);(have A5:=Za.mk du);(clear du);(have H':=Za.mk H);(clear H)
 go_enter Try.func19,Try.ntmps19
 go_wp2_with (first|((with_reducible refine Zs (N:=2) rfl ?_);refine Zx ?hg (N:=2) ?hd (cs:=#[.int .i64 af,.int .i64 ag,.int .i64 ah,.slice am ae.length an]) (t:=24) ?hr ?_;(case hd=>rfl);(case hg=>rfl);(case hr=>first|(go_simp;done)|(go_simp;rfl));intro ai hg w6 hbox hb;have ac:=Za.mk (hbox);have cf:=Za.mk ((by rw [hg];exact(Zg (zH HB)):w.heap.size≤ai));have cg:=Za.mk ((by rw [hg];exact(Zg (zH HB)):w.heap.size≤ai));replace HB:=Za.mk (Zh (zH HB) hb);clear hb hbox hg;obtain⟨bg,bh,bi,bj⟩:=zq4 ac.out;obtain⟨bk,bl,bm,bn⟩:=zf4 ac.out)|((with_reducible refine Zl1 (f:=30) rfl ?_);refine goesL_ (some 12) rfl rfl Try.func30 (by kernel_rfl) rfl #[.agg #[.int .i64 af,.int .i64 ag,.int .i64 ah,.slice am ae.length an],.slice A1 l1.length c1] rfl (by (try simp only [List.map_toArray,List.map_cons,List.map_nil]);first|done|rfl|(simp only [List.length_drop,List.length_take];rfl)) ?_;(with_reducible refine(table_wrong.calls k af ag ah _ _ ae _ _ l1 ak _ ?side1 ?side2 ?side3 ?side4 A3.out).mono ?_);(case side1=>exact zC ax HB);(case side2=>exact ay.out);(case side3=>exact zC db HB);(case side4=>exact dc.out);rintro e w8 ⟨rfl,hb⟩;refine⟨_,rfl,?_⟩;replace ac:=Za.mk (Zj (g:=ai) (zK ac) hb);replace HB:=Za.mk (Zh (zH HB) hb);(try clear hb);(try clear hb2);(try clear hk);(try clear hi);obtain⟨bo,bp,bq,br⟩:=zq4 ac.out;obtain⟨bs,bt,bu,bv⟩:=zf4 ac.out)|((with_reducible refine Zl1 (f:=31) rfl ?_);refine goesL_ (some 18) rfl rfl Try.func31 (by kernel_rfl) rfl #[.agg #[.int .i64 af,.int .i64 ag,.int .i64 ah,.slice am ae.length an],.slice A1 l1.length c1] rfl (by (try simp only [List.map_toArray,List.map_cons,List.map_nil]);first|done|rfl|(simp only [List.length_drop,List.length_take];rfl)) ?_;(with_reducible refine(Zq.calls k af ag ah _ _ ae _ _ l1 ab _ ?side1 ?side2 ?side3 ?side4 A5.out).mono ?_);(case side1=>exact zC ax HB);(case side2=>exact ay.out);(case side3=>exact zC db HB);(case side4=>exact dc.out);rintro e ei ⟨v147,rfl,ho0,hb⟩;refine⟨_,rfl,?_⟩;have bf:=Za.mk (Kd.S_lower ho0 (Zg (zH HB)));replace ac:=Za.mk (Zj (g:=ai) (zK ac) hb);replace HB:=Za.mk (Zh (zH HB) hb);(try clear hb);(try clear hb2);(try clear hk);(try clear hi);(try clear ho0);obtain⟨dd,de,df⟩:=Kd.S_slice bf.out;subst df))
 go_loopg [7,20] k (fun kq v7 v20 w'=>∃(aq:Int) (aa:Int),v7= .int .u32 aq∧v20= .int .i64 aa∧Za (Zb2.l0 kq l1 aq ab (ab.length:Int) aa=some (r1,r2))∧Za (kq≤k)∧Za (Kd.S (Kd.slice 42 (Kd.int .u32)) 37 w' w.heap.size (fun _=>True) (.slice dd ab.length de) ab)∧Za (w'.heap[ai]? =some (.cells #[.int .i64 af,.int .i64 ag,.int .i64 ah,(.slice am ae.length an)] 24 (0,0)))∧Za (Below w.heap.size w w'))
 case atStart=>exact⟨(0),(0),(by first|rfl|(simp;done)|(simp [*];done)),(by first|rfl|(simp;done)|(simp [*];done)),H',⟨Nat.le_refl _⟩,⟨by (with_reducible repeat(first|apply Kd.S_alloc|apply Kd.S_drewN|apply Kd.S_drew));exact bf.out⟩,⟨zK ac⟩,⟨zH HB⟩⟩
 case round=>
  (clear H');(try clear c1);(try clear p2);(try clear c3);(try clear cd);(try clear ce);(try clear bg bh bi bj bo bp bq br bk bl bm bn bs bt bu bv);(obtain⟨aq,aa,rfl,rfl,HA,dg,ao,ac,HB⟩:=hrel)
  cases gk with
  |zero=>exact absurd HA.out (by simp [Zb2.l0])
  |succ k1=>
   (have H:=HA.out);(clear HA);(simp only [Zb2.l0] at H)
   by_cases cb:aa < (ab.length:Int)
   rotate_left
   ·rw [if_neg cb] at H
    (have ch:decide (aa < (ab.length:Int))=false:=decide_eq_false cb);(clear cb);(simp only [Option.some.injEq,Prod.mk.injEq] at H);(obtain⟨rfl,rfl⟩:=H)
    go_wp2
    go_ret2
    exact⟨by first|rfl|(simp [Zl,Zk] <;> rfl)|(simp [*,Zl,Zk] <;> rfl),zH HB⟩
   (rw [if_pos cb] at H);(have ch:decide (aa < (ab.length:Int))=true:=decide_eq_true cb);(clear cb)
   by_cases cu:0≤aa
   rotate_left
   ·rw [if_neg cu] at H
    exact absurd H (by simp)
   (rw [if_pos cu] at H);(have dv:decide (0≤aa)=true:=decide_eq_true cu);(clear cu)
   by_cases cw:aa < (ab.length:Int)
   rotate_left
   ·rw [if_neg cw] at H
    exact absurd H (by simp)
   (rw [if_pos cw] at H);(have dw:decide (aa < (ab.length:Int))=true:=decide_eq_true cw);(clear cw)
   by_cases cy:0 < ((Zt ab aa).length:Int)
   rotate_left
   ·rw [if_neg cy] at H
    exact absurd H (by simp)
   (rw [if_pos cy] at H);(have dx:decide (0 < ((Zt ab aa).length:Int))=true:=decide_eq_true cy);(have dy:decide (0 < (Zt ab aa).length)=true:=decide_eq_true (by omega));(clear cy);(obtain⟨ap,al⟩ : ∃j_:Int,(shr .u32 (rd (Zt ab aa) 0) (l1.length:Int))=j_:=⟨_,rfl⟩);(replace H:(Zb2.l0 k1 l1 (Go.bits .or .u32 aq (shl .u32 (Go.bits .and .u32 (ap) 1) aa)) ab (ab.length:Int) (wrap64 (aa + 1)))=some (r1,r2):=by first|(rw [al] at H;exact H)|(simp only [al] at H ⊢;exact H));(have bw:((rd (Zt ab aa) 0) / 2 ^ min (l1.length:Int).toNat 32)=ap:=al);(have bx:(l1.length:Int)≤32→((rd (Zt ab aa) 0) / 2 ^ (l1.length:Int).toNat)=ap:=shr_small al);(have dh:((rd (Zt ab aa) 0) / 2 ^ min l1.length 32)=ap:=bw);(have di:(l1.length:Int)≤32→((rd (Zt ab aa) 0) / 2 ^ l1.length)=ap:=bx);(have dz:=eq_true (zD:0≤aa));(obtain⟨az,aj⟩ : ∃j_:Int,(shl .u32 (Go.bits .and .u32 (ap) 1) aa)=j_:=⟨_,rfl⟩);(replace H:(Zb2.l0 k1 l1 (Go.bits .or .u32 aq (az)) ab (ab.length:Int) (wrap64 (aa + 1)))=some (r1,r2):=by first|(rw [aj] at H;exact H)|(simp only [aj] at H ⊢;exact H));(have dj:(IntKind.u32.wrap ((Go.bits .and .u32 (ap) 1) * 2 ^ min aa.toNat 32))=az:=aj);(have dk:aa≤32→(IntKind.u32.wrap ((Go.bits .and .u32 (ap) 1) * 2 ^ aa.toNat))=az:=shl_small aj)
   (have H':=Za.mk H);(clear H);(have ba:0≤(aa:Int):=zD);(have bb:aa < (ab.length:Int):=zD);(obtain⟨ea,dl,dm,dn,bc,ar,au⟩:=at_L4 (Kd.S_reads' ao.out).2.2 aa ba bb);(cases dn);(obtain⟨ce149,hce149,hMe149,hcc149⟩:=Kd.S_get ao.out [] aa ba (by first|exact bb|exact zD|(have e_:=(Kd.S_reads' ao.out).1;omega)));(obtain⟨ve149_0,rfl,ge149_0⟩:=hMe149);(have hv149_0:=hcc149 0 _ rfl);(rw [Nat.add_zero,show((Kd.slice 42 (Kd.int .u32))).sz=1 from rfl,Nat.mul_one] at hv149_0);(replace hv149_0:=Option.some.inj (hv149_0.symm.trans bc));(rw [hv149_0] at ge149_0);(have HL149_0:=Za.mk (show Kd.R (Kd.int .u32) 42 _ _ _ _ (Zt ab aa) from ge149_0));(clear hv149_0 ge149_0);(clear hcc149 hce149);(have av:=Za.mk au);(have da:=Za.mk ar);(clear au ar);(replace ba:=eq_true ba);(replace bb:=eq_true bb);(have bz:0≤(0:Int):=(by omega));(have ca:0 < ((Zt ab aa).length:Int):=zD);(obtain⟨ec,dp,aw⟩:=Kd.at_int (by repeat(first|(with_reducible exact av.out)|(with_reducible refine Kd.C_alloc ?_ _)|(with_reducible refine Kd.C_drewN ?_ _)|(with_reducible refine Kd.C_drew ?_)|exact av.out)) 0 bz ca);(cases dp);(have qi150:(0 < (Zt ab aa).length)=True:=eq_true (by omega));((try rw [show((0:Int)).toNat=0 from rfl] at aw))
   ((try rw [Addr.add_zero'] at aw));(replace bz:=eq_true bz);(replace ca:=eq_true ca)
   go_wp2
   (first|go_roundg k1|(simp only [← aj];go_roundg k1)|(simp only [← al,← aj];go_roundg k1))
   case measure=>have:=dg.out;omega
   case rel=>first|exact⟨(Go.bits .or .u32 aq (az)),(wrap64 (aa + 1)),(by first|rfl|(simp;done)|(simp only [← aj] <;> (first|rfl|simp))|(simp [*];done)),(by first|rfl|(simp;done)|(simp [*];done)),H',⟨by have:=dg.out;omega⟩,⟨by (with_reducible repeat(first|apply Kd.S_alloc|apply Kd.S_drewN|apply Kd.S_drew));exact ao.out⟩,⟨zK ac⟩,⟨zH HB⟩⟩|(subst aj;subst al;exact⟨(Go.bits .or .u32 aq (shl .u32 (Go.bits .and .u32 (shr .u32 (rd (Zt ab aa) 0) (l1.length:Int)) 1) aa)),(wrap64 (aa + 1)),(by first|rfl|(simp;done)|(simp only [← aj] <;> (first|rfl|simp))|(simp [*];done)),(by first|rfl|(simp;done)|(simp [*];done)),H',⟨by have:=dg.out;omega⟩,⟨by (with_reducible repeat(first|apply Kd.S_alloc|apply Kd.S_drewN|apply Kd.S_drew));exact ao.out⟩,⟨zK ac⟩,⟨zH HB⟩⟩)
def table_Takes.f (k:Nat) (a0_0:Int) (a0_1:Int) (a0_2:Int) (l0_3:List (S41)) (l1:List Int):Option (Bool × Int):=(Zb2.f k a0_0 a0_1 a0_2 l0_3 l1).bind fun bt152=>(some (((Go.bits .and .u32 (shr .u32 bt152.1 (mx a0_2 0)) 1) == 1),bt152.2))
theorem table_Takes.mono: ∀a0 a1 a2 a3 a4 k,LeO (table_Takes.f k a0 a1 a2 a3 a4) (table_Takes.f (k + 1) a0 a1 a2 a3 a4):=by
  intro a0 a1 a2 a3 a4 k
  unfold table_Takes.f
  repeat' (with_reducible first|apply Zb2.mono|exact LeO.refl _|exact LeO.none _|refine LeO.ite ?_ ?_|refine LeO.bind ?_ (fun _=>?_))
theorem table_Takes.calls (k : Nat) (ae : Int) (af : Int) (aa : Int) (ak : Option Addr) (al : Nat) (ac : List (S41)) (A1 : Option Addr) (c1 : Nat) (l1 : List Int) (r1 : Bool) (r2 : Int) (w : World) (an : Kd.C k41 w ak ac.length ac) (ao : ac.length ≤ al) (bm : Kd.C (Kd.int .i64) w A1 l1.length l1) (bn : l1.length ≤ c1) (h : table_Takes.f k ae af aa ac l1 = some (r1, r2)) :
    Calls Try.prog 10 #[.agg #[.int .i64 ae,.int .i64 af,.int .i64 aa,.slice ak ac.length al],.slice A1 l1.length c1] w fun e w'=>e= .returned (.tuple #[.bool r1,.int .i64 r2])∧Below w.heap.size w w':=by
 (have bw:=Try.underlying24);(have ca:=Try.underlying3);(have ar:=Za.mk an);(have au:=Za.mk ao);(clear an ao);(have bx:=Za.mk bm);(have bz:=Za.mk bn);(clear bm bn);(have HB:=Za.mk (Below.refl w.heap.size w));(have H:((Zb2.f k ae af aa ac l1).bind fun ap=>(some (((Go.bits .and .u32 (shr .u32 ap.1 (mx aa 0)) 1) == 1),ap.2)))=some (r1,r2):=h);(clear h);(replace H:=Option.bind_eq_some_iff.mp H);(obtain⟨⟨ag,am⟩,bo,H⟩:=H);(replace H:(some (((Go.bits .and .u32 (shr .u32 ag (mx aa 0)) 1) == 1),am))=some (r1,r2):=H);(have A3:=Za.mk bo);(clear bo);(obtain⟨aq,ah⟩ : ∃j_:Int,(mx aa 0)=j_:=⟨_,rfl⟩);(replace H:(some (((Go.bits .and .u32 (shr .u32 ag (aq)) 1) == 1),am))=some (r1,r2):=by first|(rw [ah] at H;exact H)|(simp only [ah] at H ⊢;exact H));((try rw [ah] at A3));((try(have bp:0≤aq:=by (rw [← ah];unfold mx;(repeat' split) <;> omega))));((try(have bq:0≤aq:=by omega)));(have br:(if aa < 0 then 0 else aa)=aq:=ah);(obtain⟨av,ai⟩ : ∃j_:Int,(shr .u32 ag (aq))=j_:=⟨_,rfl⟩);(replace H:(some (((Go.bits .and .u32 (av) 1) == 1),am))=some (r1,r2):=by first|(rw [ai] at H;exact H)|(simp only [ai] at H ⊢;exact H));((try rw [ai] at A3));(have bs:(ag / 2 ^ min (aq).toNat 32)=av:=ai);(have bt:(aq)≤32→(ag / 2 ^ (aq).toNat)=av:=shr_small ai);(simp only [Option.some.injEq,Prod.mk.injEq] at H);(obtain⟨rfl,rfl⟩:=H)
 go_enter Try.func10,Try.ntmps10
 go_wp2_with (first|((with_reducible refine Zs (N:=2) rfl ?_);refine Zx ?hg (N:=2) ?hd (cs:=#[.int .i64 ae,.int .i64 af,.int .i64 aa,.slice ak ac.length al]) (t:=24) ?hr ?_;(case hd=>rfl);(case hg=>rfl);(case hr=>first|(go_simp;done)|(go_simp;rfl));intro aj hg w6 hbox hb;have ab:=Za.mk (hbox);have bu:=Za.mk ((by rw [hg];exact(Zg (zH HB)):w.heap.size≤aj));have bv:=Za.mk ((by rw [hg];exact(Zg (zH HB)):w.heap.size≤aj));replace HB:=Za.mk (Zh (zH HB) hb);clear hb hbox hg;obtain⟨aw,ax,ay,az⟩:=zq4 ab.out;obtain⟨ba,bb,bc,bd⟩:=zf4 ab.out)|((with_reducible refine Zl1 (f:=19) rfl ?_);refine goesL_ (some 11) rfl rfl Try.func19 (by kernel_rfl) rfl #[.agg #[.int .i64 ae,.int .i64 af,.int .i64 aa,.slice ak ac.length al],.slice A1 l1.length c1] rfl (by (try simp only [List.map_toArray,List.map_cons,List.map_nil]);first|done|rfl|(simp only [List.length_drop,List.length_take];rfl)) ?_;(with_reducible refine(Zb2.calls k ae af aa _ _ ac _ _ l1 ag am _ ?side1 ?side2 ?side3 ?side4 A3.out).mono ?_);(case side1=>exact zC ar HB);(case side2=>exact au.out);(case side3=>exact zC bx HB);(case side4=>exact bz.out);rintro e w8 ⟨rfl,hb⟩;refine⟨_,rfl,?_⟩;replace ab:=Za.mk (Zj (g:=aj) (zK ab) hb);replace HB:=Za.mk (Zh (zH HB) hb);(try clear hb);(try clear hb2);(try clear hk);(try clear hi);obtain⟨be,bf,bg,bh⟩:=zq4 ab.out;obtain⟨bi,bj,bk,bl⟩:=zf4 ab.out))
 go_ret2
 exact⟨by first|rfl|(simp [Zl,Zk] <;> rfl)|(simp only [← ah,← ai];first|rfl|(simp [Zl,Zk] <;> rfl))|(simp [*,Zl,Zk] <;> rfl),zH HB⟩
def grammar_Least_1.f (a0:Int) (a1_0:Int) (a1_1:Int) (a1_2:Int) (l1_3:List (S41)) (a2_0:Bool) (a3_0:Int):Option (Bool):=if a0 < a1_0 then(if a2_0=true then(if a0≥a1_0 then(if 0≤(wrap64 (a0 - a1_0)) then(some ((Go.bits .and .u32 (shr .u32 a3_0 (wrap64 (a0 - a1_0))) 1) == 0)) else(none)) else(some false)) else(some true)) else(if a0≥a1_0 then(if 0≤(wrap64 (a0 - a1_0)) then(some ((Go.bits .and .u32 (shr .u32 a3_0 (wrap64 (a0 - a1_0))) 1) == 0)) else(none)) else(some false))
theorem grammar_Least_1.calls (a0 : Int) (aa : Int) (bd : Int) (be : Int) (bf : Option Addr) (bg : Nat) (aq : List (S41)) (g1 : Nat) (au : Bool) (g2 : Nat) (ab : Int) (g3 : Nat) (r : Bool) (w : World) (ax : Kd.C k41 w bf aq.length aq) (ay : aq.length ≤ bg) (hbk1 : w.heap[g1]? = some (.cells #[.int .i64 aa, .int .i64 bd, .int .i64 be, .slice bf aq.length bg] 24 (0, 0))) (hbk2 : w.heap[g2]? = some (.cells #[.bool au] 4 (0, 0))) (hbk3 : w.heap[g3]? = some (.cells #[.int .u32 ab] 42 (0, 0))) (ak : g1 ≠ g2) (al : g1 ≠ g3) (am : g2 ≠ g3) (h : grammar_Least_1.f a0 aa bd be aq au ab = some r) :
    Calls Try.prog 32 #[.int .i64 a0,.pointer (some ⟨g1,0,none⟩),.pointer (some ⟨g2,0,none⟩),.pointer (some ⟨g3,0,none⟩)] w fun e w'=>e= .returned (.bool r)∧Zf1 w w':=by
 (have gh:=Try.underlying3);(have gi:=Try.underlying4);(have fz:=Try.underlying42);(have ea:=Za.mk ax);(have ec:=Za.mk ay);(clear ax ay);(have ar:=Za.mk hbk1);(clear hbk1);(have bb:=Za.mk hbk2);(clear hbk2);(have bj:=Za.mk hbk3);(clear hbk3);(have ae:=Za.mk ak);(have af:=Za.mk (Ne.symm ak));(clear ak);(have ag:=Za.mk al);(have ah:=Za.mk (Ne.symm al));(clear al);(have an:=Za.mk am);(have ao:=Za.mk (Ne.symm am));(clear am);(have H:(if a0 < aa then(if au=true then(if a0≥aa then(if 0≤(wrap64 (a0 - aa)) then(some ((Go.bits .and .u32 (shr .u32 ab (wrap64 (a0 - aa))) 1) == 0)) else(none)) else(some false)) else(some true)) else(if a0≥aa then(if 0≤(wrap64 (a0 - aa)) then(some ((Go.bits .and .u32 (shr .u32 ab (wrap64 (a0 - aa))) 1) == 0)) else(none)) else(some false)))=some r:=h);(clear h)
 by_cases c5:a0 < aa
 rotate_left
 ·rw [if_neg c5] at H
  (have dt:decide (a0 < aa)=false:=decide_eq_false c5);(clear c5)
  by_cases bc:a0≥aa
  rotate_left
  ·rw [if_neg bc] at H
   (have bh:decide (aa≤a0)=false:=decide_eq_false bc);(clear bc);(obtain rfl:=Option.some.inj H);(have ee:=ae.out);(have ef:=af.out);(have eh:=ag.out);(have ei:=ah.out);(obtain⟨bk,bl,bm,bn⟩:=zq4 ar.out);(obtain⟨bo,bp,bq,br⟩:=zf4 ar.out)
   go_enter Try.func32,Try.ntmps32
   go_wp2
   go_ret
   exact⟨by first|rfl|(simp;done)|(simp [*];done),by repeat(first|exact Zf1.refl _|apply Zf1.step)⟩
  (rw [if_pos bc] at H);(have bh:decide (aa≤a0)=true:=decide_eq_true bc);(clear bc);(obtain⟨ac,ap⟩ : ∃j_:Int,(wrap64 (a0 - aa))=j_:=⟨_,rfl⟩);(replace H:(if 0≤(ac) then(some ((Go.bits .and .u32 (shr .u32 ab (ac)) 1) == 0)) else(none))=some r:=by first|(rw [ap] at H;exact H)|(simp only [ap] at H ⊢;exact H));(have du:(IntKind.i64.wrap (a0 - aa))=ac:=(Zc _).trans ap)
  by_cases bi:0≤(ac)
  rotate_left
  ·rw [if_neg bi] at H
   exact absurd H (by simp)
  (rw [if_pos bi] at H);(have ek:=eq_true bi);(have eo:decide (0≤(ac))=true:=decide_eq_true bi);(clear bi);(obtain⟨az,ai⟩ : ∃j_:Int,(shr .u32 ab (ac))=j_:=⟨_,rfl⟩);(replace H:(some ((Go.bits .and .u32 (az) 1) == 0))=some r:=by first|(rw [ai] at H;exact H)|(simp only [ai] at H ⊢;exact H));(have dv:(ab / 2 ^ min (ac).toNat 32)=az:=ai);(have dw:(ac)≤32→(ab / 2 ^ (ac).toNat)=az:=shr_small ai);(obtain rfl:=Option.some.inj H);(have es:=ae.out);(have eu:=af.out);(have ey:=ag.out);(have ez:=ah.out);(obtain⟨bs,bt,bu,bv⟩:=zq4 ar.out);(obtain⟨bw,bx,bz,ca⟩:=zf4 ar.out);(have fa:=ao.out);(have fb:=an.out);(have cb:=zj bj 0 (.int .u32 ab));(have cd:=blk_frozen bj.out 0)
  go_enter Try.func32,Try.ntmps32
  go_wp2
  go_ret
  exact⟨by first|rfl|(simp;done)|(simp only [← ap,← ai] <;> (first|rfl|simp))|(simp [*];done),by repeat(first|exact Zf1.refl _|apply Zf1.step)⟩
 (rw [if_pos c5] at H);(have dt:decide (a0 < aa)=true:=decide_eq_true c5);(clear c5)
 by_cases c6:au=true
 rotate_left
 ·replace c6:=Bool.eq_false_iff.mpr c6
  (subst c6);(have H1:(some true)=some r:=by rw [if_neg (show ¬ (false=true) by decide)] at H;exact H);(clear H);(have H:=H1);(clear H1);(obtain rfl:=Option.some.inj H);(have fc:=ae.out);(have fd:=af.out);(have fe:=ag.out);(have ff:=ah.out);(obtain⟨ce,cf,cg,ch⟩:=zq4 ar.out);(obtain⟨ci,cj,ck,cm⟩:=zf4 ar.out);(have fg:=an.out);(have fh:=ao.out);(have cn:=zj bb 0 (.bool false));(have co:=blk_frozen bb.out 0)
  go_enter Try.func32,Try.ntmps32
  go_wp2
  go_ret
  exact⟨by first|rfl|(simp;done)|(simp [*];done),by repeat(first|exact Zf1.refl _|apply Zf1.step)⟩
 (subst c6);(have H1:(if a0≥aa then(if 0≤(wrap64 (a0 - aa)) then(some ((Go.bits .and .u32 (shr .u32 ab (wrap64 (a0 - aa))) 1) == 0)) else(none)) else(some false))=some r:=by rw [if_pos rfl] at H;exact H);(clear H);(have H:=H1);(clear H1)
 by_cases c7:a0≥aa
 rotate_left
 ·rw [if_neg c7] at H
  (have dx:decide (aa≤a0)=false:=decide_eq_false c7);(clear c7);(obtain rfl:=Option.some.inj H);(have fi:=ae.out);(have fj:=af.out);(have fk:=ag.out);(have fm:=ah.out);(obtain⟨cp,cq,cu,cw⟩:=zq4 ar.out);(obtain⟨cy,da,db,dc⟩:=zf4 ar.out);(have fo:=an.out);(have fp:=ao.out);(have dd:=zj bb 0 (.bool true));(have de:=blk_frozen bb.out 0)
  go_enter Try.func32,Try.ntmps32
  go_wp2
  go_ret
  exact⟨by first|rfl|(simp;done)|(simp [*];done),by repeat(first|exact Zf1.refl _|apply Zf1.step)⟩
 (rw [if_pos c7] at H);(have dx:decide (aa≤a0)=true:=decide_eq_true c7);(clear c7);(obtain⟨av,aw⟩ : ∃j_:Int,(wrap64 (a0 - aa))=j_:=⟨_,rfl⟩);(replace H:(if 0≤(av) then(some ((Go.bits .and .u32 (shr .u32 ab (av)) 1) == 0)) else(none))=some r:=by first|(rw [aw] at H;exact H)|(simp only [aw] at H ⊢;exact H));(have fq:(IntKind.i64.wrap (a0 - aa))=av:=(Zc _).trans aw)
 by_cases c9:0≤(av)
 rotate_left
 ·rw [if_neg c9] at H
  exact absurd H (by simp)
 (rw [if_pos c9] at H);(have ga:=eq_true c9);(have gc:decide (0≤(av))=true:=decide_eq_true c9);(clear c9);(obtain⟨ba,aj⟩ : ∃j_:Int,(shr .u32 ab (av))=j_:=⟨_,rfl⟩);(replace H:(some ((Go.bits .and .u32 (ba) 1) == 0))=some r:=by first|(rw [aj] at H;exact H)|(simp only [aj] at H ⊢;exact H));(have dy:(ab / 2 ^ min (av).toNat 32)=ba:=aj);(have dz:(av)≤32→(ab / 2 ^ (av).toNat)=ba:=shr_small aj);(obtain rfl:=Option.some.inj H);(have ft:=ae.out);(have fu:=af.out);(have fv:=ag.out);(have fw:=ah.out);(obtain⟨df,dg,dh,di⟩:=zq4 ar.out);(obtain⟨dj,dk,dl,dm⟩:=zf4 ar.out);(have fx:=an.out);(have fy:=ao.out);(have dn:=zj bb 0 (.bool true));(have dp:=blk_frozen bb.out 0);(have dq:=zj bj 0 (.int .u32 ab));(have dr:=blk_frozen bj.out 0)
 go_enter Try.func32,Try.ntmps32
 go_wp2
 go_ret
 exact⟨by first|rfl|(simp;done)|(simp only [← aw,← aj] <;> (first|rfl|simp))|(simp [*];done),by repeat(first|exact Zf1.refl _|apply Zf1.step)⟩
def grammar_Least_1_any.f (l0:List Int) (a1_0:Int) (a1_1:Int) (a1_2:Int) (l1_3:List (S41)) (a2_0:Bool) (a3_0:Int):Option Bool:=anyO (fun x:Int=>grammar_Least_1.f x a1_0 a1_1 a1_2 l1_3 a2_0 a3_0) l0
theorem grammar_Least_1_any.calls (A0 : Option Addr) (c0 : Nat) (l0 : List Int) (ab : Int) (ac : Int) (ae : Int) (ah : Option Addr) (ai : Nat) (aa : List (S41)) (g1 : Nat) (af : Bool) (g2 : Nat) (ag : Int) (g3 : Nat) (r : Bool) (w : World) (ao : Kd.C (Kd.int .i64) w A0 l0.length l0) (ap : l0.length ≤ c0) (am : Kd.C k41 w ah aa.length aa) (an : aa.length ≤ ai) (hbk1 : w.heap[g1]? = some (.cells #[.int .i64 ab, .int .i64 ac, .int .i64 ae, .slice ah aa.length ai] 24 (0, 0))) (hbk2 : w.heap[g2]? = some (.cells #[.bool af] 4 (0, 0))) (hbk3 : w.heap[g3]? = some (.cells #[.int .u32 ag] 42 (0, 0))) (aj : g1 ≠ g2) (ak : g1 ≠ g3) (al : g2 ≠ g3) (h : grammar_Least_1_any.f l0 ab ac ae aa af ag = some r) :
    Calls Try.prog 33 #[.slice A0 l0.length c0,.func (.func 32) #[] #[.pointer (some ⟨g1,0,none⟩),.pointer (some ⟨g2,0,none⟩),.pointer (some ⟨g3,0,none⟩)]] w fun e w'=>e= .returned (.bool r)∧Below w.heap.size w w':=by
 refine slices_ContainsFunc_Sint_int.anyO (fun x:Int=>grammar_Least_1.f x ab ac ae aa af ag) 32 #[.pointer (some ⟨g1,0,none⟩),.pointer (some ⟨g2,0,none⟩),.pointer (some ⟨g3,0,none⟩)] (enters_of Try.func32 (by kernel_rfl) rfl) A0 c0 l0 w r h ao ?_
 intro W x cs b hx hB hK hp
 obtain rfl:=hK
 refine(grammar_Least_1.calls x ab ac ae ah ai aa g1 af g2 ag g3 b W (Kd.C_below am hB) an (Zj hbk1 hB) (Zj hbk2 hB) (Zj hbk3 hB) aj ak al hp).mono ?_
 rintro e w' ⟨rfl,h2⟩
 exact⟨rfl,Zh hB h2.below⟩
mutual
def Zt1.l0:Nat→Int→Int→Int→Int→Int→List (S41)→Bool→Int→Option (Int)
  |0,_,_,_,_,_,_,_,_=>none
  |k + 1,x10,x11,x155000,x155001,x155002,x155003,x156000,x157000=>if x11 < x10 then(Zt1.l1 k x10 x11 x155003 (x155003.length:Int) 0 x155000 x155001 x155002 x155003 x156000 x157000) else(some x157000)
def Zt1.l1:Nat→Int→Int→List (S41)→Int→Int→Int→Int→Int→List (S41)→Bool→Int→Option (Int)
  |0,_,_,_,_,_,_,_,_,_,_,_=>none
  |k + 1,x10,x11,x14,x15,x16,x155000,x155001,x155002,x155003,x156000,x157000=>if x16 < x15 then(if 0≤x16 then(if x16 < (x14.length:Int) then((grammar_Least_1_any.f ((Zb x14 x16).f1) x155000 x155001 x155002 x155003 x156000 x157000).bind fun t159=>(if t159=true then(Zt1.l1 k x10 x11 x14 x15 (wrap64 (x16 + 1)) x155000 x155001 x155002 x155003 x156000 x157000) else(if 0≤((Zb x14 x16).f0) then(Zt1.l1 k x10 x11 x14 x15 (wrap64 (x16 + 1)) x155000 x155001 x155002 x155003 x156000 (Go.bits .or .u32 x157000 (shl .u32 1 ((Zb x14 x16).f0)))) else(none)))) else(none)) else(none)) else(Zt1.l0 k x10 (wrap64 (x11 + 1)) x155000 x155001 x155002 x155003 x156000 x157000)
end
def Zt1.f (k:Nat) (a0_0:Int) (a0_1:Int) (a0_2:Int) (l0_3:List (S41)) (a1:Bool):Option (Int):=Zt1.l0 k a0_1 0 a0_0 a0_1 a0_2 l0_3 a1 0
theorem Zt1.mono_l: ∀k,(∀y0 y1 y2 y3 y4 y5 y6 y7,LeO (Zt1.l0 k y0 y1 y2 y3 y4 y5 y6 y7) (Zt1.l0 (k + 1) y0 y1 y2 y3 y4 y5 y6 y7))∧(∀y0 y1 y2 y3 y4 y5 y6 y7 y8 y9 y10,LeO (Zt1.l1 k y0 y1 y2 y3 y4 y5 y6 y7 y8 y9 y10) (Zt1.l1 (k + 1) y0 y1 y2 y3 y4 y5 y6 y7 y8 y9 y10))
  |0=>⟨fun _ _ _ _ _ _ _ _ r h=>by simp [Zt1.l0] at h,fun _ _ _ _ _ _ _ _ _ _ _ r h=>by simp [Zt1.l1] at h⟩
  |k + 1=>by
    obtain⟨ih0,ih1⟩:=Zt1.mono_l k
    refine⟨?_,?_⟩
    · intro y0 y1 y2 y3 y4 y5 y6 y7
      unfold Zt1.l0
      repeat' (with_reducible first|apply ih0|apply ih1|exact LeO.refl _|exact LeO.none _|refine LeO.ite ?_ ?_|refine LeO.bind ?_ (fun _=>?_))
    · intro y0 y1 y2 y3 y4 y5 y6 y7 y8 y9 y10
      unfold Zt1.l1
      repeat' (with_reducible first|apply ih0|apply ih1|exact LeO.refl _|exact LeO.none _|refine LeO.ite ?_ ?_|refine LeO.bind ?_ (fun _=>?_))
theorem Zt1.mono: ∀a0 a1 a2 a3 a4 k,LeO (Zt1.f k a0 a1 a2 a3 a4) (Zt1.f (k + 1) a0 a1 a2 a3 a4):=by
  intro a0 a1 a2 a3 a4 k
  obtain⟨ih0,ih1⟩:=Zt1.mono_l k
  unfold Zt1.f
  repeat' (with_reducible first|apply ih0|apply ih1|exact LeO.refl _|exact LeO.none _|refine LeO.ite ?_ ?_|refine LeO.bind ?_ (fun _=>?_))
theorem Zt1.calls (k : Nat) (ar : Int) (an : Int) (au : Int) (bo : Option Addr) (ay : Nat) (ac : List (S41)) (a1 : Bool) (r : Int) (w : World) (cq : Kd.C k41 w bo ac.length ac) (cu : ac.length ≤ ay) (h : Zt1.f k ar an au ac a1 = some r) :
    Calls Try.prog 20 #[.agg #[.int .i64 ar,.int .i64 an,.int .i64 au,.slice bo ac.length ay],.bool a1] w fun e w'=>e= .returned (.int .u32 r)∧Below w.heap.size w w':=by
 (have gc:=Try.underlying24);(have gw:=Try.underlying4);(have gh:=Try.underlying42);(have gx:=Try.underlying3);(have gi:=Try.underlying41);(have bt:=Za.mk cq);(have cw:=Za.mk cu);(clear cq cu);(have HB:=Za.mk (Below.refl w.heap.size w));(have H:(Zt1.l0 k an 0 ar an au ac a1 0)=some r:=h);(clear h);(have H':=Za.mk H);(clear H)
 go_enter Try.func20,Try.ntmps20
 go_wp2_with (first|((with_reducible refine Zs (N:=2) rfl ?_);refine Zx ?hg (N:=2) ?hd (cs:=#[.int .i64 ar,.int .i64 an,.int .i64 au,.slice bo ac.length ay]) (t:=24) ?hr ?_;(case hd=>rfl);(case hg=>rfl);(case hr=>first|(go_simp;done)|(go_simp;rfl));intro ag hg w3 hbox hb;have ae:=Za.mk (hbox);have ei:=Za.mk ((by rw [hg];exact(Zg (zH HB)):w.heap.size≤ag));have ek:=Za.mk ((by rw [hg];exact(Zg (zH HB)):w.heap.size≤ag));replace HB:=Za.mk (Zh (zH HB) hb);clear hb hbox hg)|((with_reducible refine Zs (N:=3) rfl ?_);refine Zx ?hg (N:=3) ?hd (cs:=#[.bool a1]) (t:=4) ?hr ?_;(case hd=>rfl);(case hg=>rfl);(case hr=>first|(go_simp;done)|(go_simp;rfl));intro aj hg w4 hbox hb;have ai:=Za.mk (hbox);have eo:=Za.mk ((by rw [hg];exact(Zg (zH HB)):w.heap.size≤aj));have es:=Za.mk ((by rw [hg];exact(Zg (zH HB)):w.heap.size≤aj));replace HB:=Za.mk (Zh (zH HB) hb);have az:=Za.mk ((by rw [hg];exact Nat.ne_of_lt (Zu (g:=ag) (o:= .cells #[.int .i64 ar,.int .i64 an,.int .i64 au,.slice bo ac.length ay] 24 (0,0)) (zK ae)):ag≠aj));have bn:=Za.mk ((by rw [hg];exact Nat.ne_of_gt (Zu (g:=ag) (o:= .cells #[.int .i64 ar,.int .i64 an,.int .i64 au,.slice bo ac.length ay] 24 (0,0)) (zK ae)):aj≠ag));replace ae:=Za.mk (Zj (g:=ag) (zK ae) hb);clear hb hbox hg)|((with_reducible refine Zs (N:=5) rfl ?_);refine Zx ?hg (N:=5) ?hd (cs:=#[.int .u32 0]) (t:=42) ?hr ?_;(case hd=>rfl);(case hg=>rfl);(case hr=>first|(go_simp;done)|(go_simp;rfl));intro am hg w5 hbox hb;have af:=Za.mk (hbox);have eu:=Za.mk ((by rw [hg];exact(Zg (zH HB)):w.heap.size≤am));have ey:=Za.mk ((by rw [hg];exact(Zg (zH HB)):w.heap.size≤am));replace HB:=Za.mk (Zh (zH HB) hb);have ao:=Za.mk ((by rw [hg];exact Nat.ne_of_lt (Zu (g:=ag) (o:= .cells #[.int .i64 ar,.int .i64 an,.int .i64 au,.slice bo ac.length ay] 24 (0,0)) (zK ae)):ag≠am));have ba:=Za.mk ((by rw [hg];exact Nat.ne_of_gt (Zu (g:=ag) (o:= .cells #[.int .i64 ar,.int .i64 an,.int .i64 au,.slice bo ac.length ay] 24 (0,0)) (zK ae)):am≠ag));replace ae:=Za.mk (Zj (g:=ag) (zK ae) hb);have aq:=Za.mk ((by rw [hg];exact Nat.ne_of_lt (Zu (g:=aj) (o:= .cells #[.bool a1] 4 (0,0)) (zK ai)):aj≠am));have bh:=Za.mk ((by rw [hg];exact Nat.ne_of_gt (Zu (g:=aj) (o:= .cells #[.bool a1] 4 (0,0)) (zK ai)):am≠aj));replace ai:=Za.mk (Zj (g:=aj) (zK ai) hb);clear hb hbox hg;have gj:=ba.out;have gl:=ao.out;have gm:=bh.out;have gn:=aq.out;have cf:=zj af 0 (.int .u32 0);have cg:=blk_frozen af.out 0;have gp:=az.out;have gq:=bn.out;obtain⟨bu,bv,bw,bx⟩:=zq4 ae.out;obtain⟨bz,ca,cb,cd⟩:=zf4 ae.out))
 go_loopg [11] k (fun kq v11 w'=>∃(aw:Int) (ax:Int),v11= .int .i64 aw∧Za (Zt1.l0 kq an aw ar an au ac a1 ax=some r)∧Za (kq≤k)∧Za (w'.heap[ag]? =some (.cells #[.int .i64 ar,.int .i64 an,.int .i64 au,(.slice bo ac.length ay)] 24 (0,0)))∧Za (w'.heap[aj]? =some (.cells #[.bool a1] 4 (0,0)))∧Za (w'.heap[am]? =some (.cells #[.int .u32 ax] 42 (0,0)))∧Za (Below w.heap.size w w'))
 case atStart=>exact⟨(0),(0),(by first|rfl|(simp;done)|(simp [*];done)),H',⟨Nat.le_refl _⟩,⟨by (with_reducible repeat(first|refine Zn ?_ _|refine Zi ?_|refine Zm ?_ _));refine Zv ?_ ao.out _;(with_reducible repeat(first|apply zb3|apply zb2|apply zb1));exact ae.out⟩,⟨by (with_reducible repeat(first|refine Zn ?_ _|refine Zi ?_|refine Zm ?_ _));refine Zv ?_ aq.out _;(with_reducible repeat(first|apply zb3|apply zb2|apply zb1));exact ai.out⟩,⟨by (with_reducible repeat(first|refine Zn ?_ _|refine Zi ?_|refine Zm ?_ _));refine Zs1 (cs:=#[.int .u32 0]) ?_ 0 _ rfl;(with_reducible repeat(first|apply zb3|apply zb2|apply zb1));exact af.out⟩,⟨zH HB⟩⟩
 case round=>
  (clear H');(try clear c2);(try clear p2);(try clear c6);(try clear c7);(try clear c9);(try clear bu bv bw bx cf bz ca cb cd cg);(obtain⟨aw,ax,rfl,HA,da,ae,ai,af,HB⟩:=hrel)
  cases gk with
  |zero=>exact absurd HA.out (by simp [Zt1.l0])
  |succ k1=>
   (have H:=HA.out);(clear HA);(simp only [Zt1.l0] at H)
   by_cases df:aw < an
   rotate_left
   ·rw [if_neg df] at H
    (have cy:decide (aw < an)=false:=decide_eq_false df);(clear df);(obtain rfl:=Option.some.inj H);(have ez:=ba.out);(have fa:=ao.out);(have fb:=bh.out);(have fc:=aq.out);(have dn:=zj af 0 (.int .u32 ax));(have dp:=blk_frozen af.out 0)
    go_wp2
    go_ret
    exact⟨by first|rfl|(simp [Zl,Zk] <;> rfl)|(simp [*,Zl,Zk] <;> rfl),zH HB⟩
   (rw [if_pos df] at H);(have cy:decide (aw < an)=true:=decide_eq_true df);(clear df);(have H':=Za.mk H);(clear H);(have fd:=az.out);(have fe:=bn.out);(have ff:=ao.out);(have fg:=ba.out);(obtain⟨ch,ci,cj,ck⟩:=zq4 ae.out);(obtain⟨cm,cn,co,cp⟩:=zf4 ae.out)
   go_wp2
   go_loopg [16] k1 (fun kq v16 w'=>∃(ab:Int) (aa:Int),v16= .int .i64 ab∧Za (Zt1.l1 kq an aw ac (ac.length:Int) ab ar an au ac a1 aa=some r)∧Za (kq≤k1)∧Za (w'.heap[ag]? =some (.cells #[.int .i64 ar,.int .i64 an,.int .i64 au,(.slice bo ac.length ay)] 24 (0,0)))∧Za (w'.heap[aj]? =some (.cells #[.bool a1] 4 (0,0)))∧Za (w'.heap[am]? =some (.cells #[.int .u32 aa] 42 (0,0)))∧Za (Below w.heap.size w w'))
   case atStart=>exact⟨(0),(ax),(by first|rfl|(simp;done)|(simp [*];done)),H',⟨Nat.le_refl _⟩,⟨zK ae⟩,⟨zK ai⟩,⟨zK af⟩,⟨zH HB⟩⟩
   case round=>
    (clear H');(try clear c1);(try clear c2);(try clear p2);(try clear c6);(try clear c7);(try clear c9);(try clear cy);(try clear gy);(try clear gz);(try clear bu bv bw bx ch ci cj ck cf bz ca cb cd cm cn co cp cg);(try clear p2);(obtain⟨ab,aa,rfl,HA,db,ae,ai,af,HB⟩:=hrel)
    cases gk with
    |zero=>exact absurd HA.out (by simp [Zt1.l1])
    |succ k2=>
     (have H:=HA.out);(clear HA);(simp only [Zt1.l1] at H)
     by_cases dg:ab < (ac.length:Int)
     rotate_left
     ·rw [if_neg dg] at H
      (have dh:decide (ab < (ac.length:Int))=false:=decide_eq_false dg);(clear dg);(have H':=Za.mk H);(clear H)
      go_wp2
      go_roundg k2
      case measure=>have:=da.out;have:=db.out;omega
      case rel=>exact⟨(wrap64 (aw + 1)),(aa),(by first|rfl|(simp;done)|(simp [*];done)),H',⟨by have:=da.out;have:=db.out;omega⟩,⟨zK ae⟩,⟨zK ai⟩,⟨zK af⟩,⟨zH HB⟩⟩
     (rw [if_pos dg] at H);(have dh:decide (ab < (ac.length:Int))=true:=decide_eq_true dg);(clear dg)
     by_cases dq:0≤ab
     rotate_left
     ·rw [if_neg dq] at H
      exact absurd H (by simp)
     (rw [if_pos dq] at H);(have fh:decide (0≤ab)=true:=decide_eq_true dq);(clear dq)
     by_cases dr:ab < (ac.length:Int)
     rotate_left
     ·rw [if_neg dr] at H
      exact absurd H (by simp)
     (rw [if_pos dr] at H);(have fi:decide (ab < (ac.length:Int))=true:=decide_eq_true dr);(clear dr);(replace H:=Option.bind_eq_some_iff.mp H);(obtain⟨di,dj,H⟩:=H);(replace H:(if di=true then(Zt1.l1 k2 an aw ac (ac.length:Int) (wrap64 (ab + 1)) ar an au ac a1 aa) else(if 0≤((Zb ac ab).f0) then(Zt1.l1 k2 an aw ac (ac.length:Int) (wrap64 (ab + 1)) ar an au ac a1 (Go.bits .or .u32 aa (shl .u32 1 ((Zb ac ab).f0)))) else(none)))=some r:=H);(have ee:=Za.mk dj);(clear dj)
     by_cases dt:di=true
     ·subst dt
      (have H1:(Zt1.l1 k2 an aw ac (ac.length:Int) (wrap64 (ab + 1)) ar an au ac a1 aa)=some r:=by rw [if_pos rfl] at H;exact H);(clear H);(have H:=H1);(clear H1);(have H':=Za.mk H);(clear H);(have br:0≤(ab:Int):=zD);(have bs:ab < (ac.length:Int):=zD);(obtain⟨bc,bi,bj,dc,bd,be,bf,bg⟩:=at_T41 bt.out ab br bs);(cases dc);(replace bd:=zX HB bd);(replace be:=zX HB be);(have bp:=Za.mk bg);(have bq:=Za.mk bf);(clear bg bf);(replace br:=eq_true br);(replace bs:=eq_true bs)
      go_wp2_with (first|((with_reducible refine Zs (N:=7) rfl ?_);refine Zx ?hg (N:=7) ?hd (cs:=#[.int .i64 0,.slice none 0 0]) (t:=41) ?hr ?_;(case hd=>rfl);(case hg=>rfl);(case hr=>first|(go_simp;done)|(go_simp;rfl));intro ap hg ia hbox hb;have av:=Za.mk (hbox);have dk:=Za.mk ((by rw [hg];exact(Zg (zH HB)):w.heap.size≤ap));have dl:=Za.mk ((by rw [hg];exact(Zg (zH HB)):w.heap.size≤ap));replace HB:=Za.mk (Zh (zH HB) hb);have ak:=Za.mk ((by rw [hg];exact Nat.ne_of_lt (Zu (g:=ag) (o:= .cells #[.int .i64 ar,.int .i64 an,.int .i64 au,.slice (some bc) ac.length ay] 24 (0,0)) (zK ae)):ag≠ap));have bk:=Za.mk ((by rw [hg];exact Nat.ne_of_gt (Zu (g:=ag) (o:= .cells #[.int .i64 ar,.int .i64 an,.int .i64 au,.slice (some bc) ac.length ay] 24 (0,0)) (zK ae)):ap≠ag));replace ae:=Za.mk (Zj (g:=ag) (zK ae) hb);have al:=Za.mk ((by rw [hg];exact Nat.ne_of_lt (Zu (g:=aj) (o:= .cells #[.bool a1] 4 (0,0)) (zK ai)):aj≠ap));have bl:=Za.mk ((by rw [hg];exact Nat.ne_of_gt (Zu (g:=aj) (o:= .cells #[.bool a1] 4 (0,0)) (zK ai)):ap≠aj));replace ai:=Za.mk (Zj (g:=aj) (zK ai) hb);have ah:=Za.mk ((by rw [hg];exact Nat.ne_of_lt (Zu (g:=am) (o:= .cells #[.int .u32 aa] 42 (0,0)) (zK af)):am≠ap));have bb:=Za.mk ((by rw [hg];exact Nat.ne_of_gt (Zu (g:=am) (o:= .cells #[.int .u32 aa] 42 (0,0)) (zK af)):ap≠am));replace af:=Za.mk (Zj (g:=am) (zK af) hb);clear hb hbox hg;have fj:=bk.out;have fk:=ak.out;have fm:=bl.out;have fo:=al.out;have fp:=bb.out;have fq:=ah.out;obtain⟨du,dv⟩:=zq2 av.out;obtain⟨dw,dx⟩:=zf2 av.out)|((with_reducible refine Zl1 (f:=33) rfl ?_);refine goesL_ (some 24) rfl rfl Try.func33 (by kernel_rfl) rfl #[.slice bi ((Zb ac ab).f1).length bj,.func (.func 32) #[] #[.pointer (some ⟨ag,0,none⟩),.pointer (some ⟨aj,0,none⟩),.pointer (some ⟨am,0,none⟩)]] rfl (by (try simp only [List.map_toArray,List.map_cons,List.map_nil]);first|done|rfl|(simp only [List.length_drop,List.length_take];rfl)) ?_;(with_reducible refine(grammar_Least_1_any.calls _ _ ((Zb ac ab).f1) ar an au ((some bc)) (ay) ac ag a1 aj aa am true _ ?side1 ?side2 ?side3 ?side4 ?side5 ?side6 ?side7 ?side8 ?side9 ?side10 ee.out).mono ?_);(case side1=>exact Kd.C_below bp.out (zH HB));(case side2=>exact bq.out);(case side3=>exact Kd.C_below bt.out (zH HB));(case side4=>exact cw.out);(case side5=>exact(by (with_reducible repeat(first|refine Zn ?_ _|refine Zi ?_|refine Zm ?_ _));refine Zv ?_ ak.out _;(with_reducible repeat(first|refine Zn ?_ _|refine Zi ?_|refine Zm ?_ _));refine Zv ?_ ak.out _;(with_reducible repeat(first|apply zb3|apply zb2|apply zb1));exact ae.out));(case side6=>exact(by (with_reducible repeat(first|refine Zn ?_ _|refine Zi ?_|refine Zm ?_ _));refine Zv ?_ al.out _;(with_reducible repeat(first|refine Zn ?_ _|refine Zi ?_|refine Zm ?_ _));refine Zv ?_ al.out _;(with_reducible repeat(first|apply zb3|apply zb2|apply zb1));exact ai.out));(case side7=>exact(by (with_reducible repeat(first|refine Zn ?_ _|refine Zi ?_|refine Zm ?_ _));refine Zv ?_ ah.out _;(with_reducible repeat(first|refine Zn ?_ _|refine Zi ?_|refine Zm ?_ _));refine Zv ?_ ah.out _;(with_reducible repeat(first|apply zb3|apply zb2|apply zb1));exact af.out));(case side8=>exact az.out);(case side9=>exact ao.out);(case side10=>exact aq.out);rintro e ib ⟨rfl,hb⟩;refine⟨_,rfl,?_⟩;replace ae:=Za.mk (Zj (g:=ag) (o:= .cells #[.int .i64 ar,.int .i64 an,.int .i64 au,.slice (some bc) ac.length ay] 24 (0,0)) (by (with_reducible repeat(first|refine Zn ?_ _|refine Zi ?_|refine Zm ?_ _));refine Zv ?_ ak.out _;(with_reducible repeat(first|refine Zn ?_ _|refine Zi ?_|refine Zm ?_ _));refine Zv ?_ ak.out _;(with_reducible repeat(first|apply zb3|apply zb2|apply zb1));exact ae.out) hb);replace ai:=Za.mk (Zj (g:=aj) (o:= .cells #[.bool a1] 4 (0,0)) (by (with_reducible repeat(first|refine Zn ?_ _|refine Zi ?_|refine Zm ?_ _));refine Zv ?_ al.out _;(with_reducible repeat(first|refine Zn ?_ _|refine Zi ?_|refine Zm ?_ _));refine Zv ?_ al.out _;(with_reducible repeat(first|apply zb3|apply zb2|apply zb1));exact ai.out) hb);replace af:=Za.mk (Zj (g:=am) (o:= .cells #[.int .u32 aa] 42 (0,0)) (by (with_reducible repeat(first|refine Zn ?_ _|refine Zi ?_|refine Zm ?_ _));refine Zv ?_ ah.out _;(with_reducible repeat(first|refine Zn ?_ _|refine Zi ?_|refine Zm ?_ _));refine Zv ?_ ah.out _;(with_reducible repeat(first|apply zb3|apply zb2|apply zb1));exact af.out) hb);replace av:=Za.mk (Zj (g:=ap) (o:= .cells #[.int .i64 ((Zb ac ab).f0),.slice bi ((Zb ac ab).f1).length bj] 41 (0,0)) (by (with_reducible repeat(first|refine Zn ?_ _|refine Zi ?_|refine Zm ?_ _));refine Zs1 (cs:=#[.int .i64 ((Zb ac ab).f0),.slice none 0 0]) ?_ 1 _ rfl;(with_reducible repeat(first|refine Zn ?_ _|refine Zi ?_|refine Zm ?_ _));refine Zs1 (cs:=#[.int .i64 0,.slice none 0 0]) ?_ 0 _ rfl;(with_reducible repeat(first|apply zb3|apply zb2|apply zb1));exact av.out) hb);replace HB:=Za.mk (Zh (zH HB) hb);(try clear hb);(try clear hb2);(try clear hk);(try clear hi)))
      go_roundg k2
      case measure=>have:=da.out;have:=db.out;omega
      case rel=>exact⟨(wrap64 (ab + 1)),(aa),(by first|rfl|(simp;done)|(simp [*];done)),H',⟨by have:=da.out;have:=db.out;omega⟩,⟨zK ae⟩,⟨zK ai⟩,⟨zK af⟩,⟨zH HB⟩⟩
     (replace dt:=Bool.eq_false_iff.mpr dt);(subst dt);(have H1:(if 0≤((Zb ac ab).f0) then(Zt1.l1 k2 an aw ac (ac.length:Int) (wrap64 (ab + 1)) ar an au ac a1 (Go.bits .or .u32 aa (shl .u32 1 ((Zb ac ab).f0)))) else(none))=some r:=by rw [if_neg (show ¬ (false=true) by decide)] at H;exact H);(clear H);(have H:=H1);(clear H1)
     by_cases dm:0≤((Zb ac ab).f0)
     rotate_left
     ·rw [if_neg dm] at H
      exact absurd H (by simp)
     (rw [if_pos dm] at H);(have ft:=eq_true dm);(have fu:decide (0≤((Zb ac ab).f0))=true:=decide_eq_true dm);(clear dm);(obtain⟨ce,bm⟩ : ∃j_:Int,(shl .u32 1 ((Zb ac ab).f0))=j_:=⟨_,rfl⟩);(replace H:(Zt1.l1 k2 an aw ac (ac.length:Int) (wrap64 (ab + 1)) ar an au ac a1 (Go.bits .or .u32 aa (ce)))=some r:=by first|(rw [bm] at H;exact H)|(simp only [bm] at H ⊢;exact H));((try rw [bm] at ee));(have dd:(IntKind.u32.wrap (1 * 2 ^ min ((Zb ac ab).f0).toNat 32))=ce:=bm);(have de:((Zb ac ab).f0)≤32→(IntKind.u32.wrap (1 * 2 ^ ((Zb ac ab).f0).toNat))=ce:=shl_small bm);(have ef:(IntKind.u32.wrap (2 ^ min ((Zb ac ab).f0).toNat 32))=ce:=by have h_:=dd;rw [Int.one_mul] at h_;exact h_);(have eh:((Zb ac ab).f0)≤32→(IntKind.u32.wrap (2 ^ ((Zb ac ab).f0).toNat))=ce:=fun hle_=>by have h_:=de hle_;rw [Int.one_mul] at h_;exact h_);(have H':=Za.mk H);(clear H);(have br:0≤(ab:Int):=zD);(have bs:ab < (ac.length:Int):=zD);(obtain⟨bc,bi,bj,dc,bd,be,bf,bg⟩:=at_T41 bt.out ab br bs);(cases dc);(replace bd:=zX HB bd);(replace be:=zX HB be);(have bp:=Za.mk bg)
     (have bq:=Za.mk bf);(clear bg bf);(replace br:=eq_true br);(replace bs:=eq_true bs)
     try go_wp2_with (first|((with_reducible refine Zs (N:=7) rfl ?_);refine Zx ?hg (N:=7) ?hd (cs:=#[.int .i64 0,.slice none 0 0]) (t:=41) ?hr ?_;(case hd=>rfl);(case hg=>rfl);(case hr=>first|(go_simp;done)|(go_simp;rfl));intro ap hg ic hbox hb;have av:=Za.mk (hbox);have dk:=Za.mk ((by rw [hg];exact(Zg (zH HB)):w.heap.size≤ap));have dl:=Za.mk ((by rw [hg];exact(Zg (zH HB)):w.heap.size≤ap));replace HB:=Za.mk (Zh (zH HB) hb);have ak:=Za.mk ((by rw [hg];exact Nat.ne_of_lt (Zu (g:=ag) (o:= .cells #[.int .i64 ar,.int .i64 an,.int .i64 au,.slice (some bc) ac.length ay] 24 (0,0)) (zK ae)):ag≠ap));have bk:=Za.mk ((by rw [hg];exact Nat.ne_of_gt (Zu (g:=ag) (o:= .cells #[.int .i64 ar,.int .i64 an,.int .i64 au,.slice (some bc) ac.length ay] 24 (0,0)) (zK ae)):ap≠ag));replace ae:=Za.mk (Zj (g:=ag) (zK ae) hb);have al:=Za.mk ((by rw [hg];exact Nat.ne_of_lt (Zu (g:=aj) (o:= .cells #[.bool a1] 4 (0,0)) (zK ai)):aj≠ap));have bl:=Za.mk ((by rw [hg];exact Nat.ne_of_gt (Zu (g:=aj) (o:= .cells #[.bool a1] 4 (0,0)) (zK ai)):ap≠aj));replace ai:=Za.mk (Zj (g:=aj) (zK ai) hb);have ah:=Za.mk ((by rw [hg];exact Nat.ne_of_lt (Zu (g:=am) (o:= .cells #[.int .u32 aa] 42 (0,0)) (zK af)):am≠ap));have bb:=Za.mk ((by rw [hg];exact Nat.ne_of_gt (Zu (g:=am) (o:= .cells #[.int .u32 aa] 42 (0,0)) (zK af)):ap≠am));replace af:=Za.mk (Zj (g:=am) (zK af) hb);clear hb hbox hg;have fv:=bk.out;have fw:=ak.out;have fx:=bl.out;have fy:=al.out;have fz:=bb.out;have ga:=ah.out;obtain⟨dy,dz⟩:=zq2 av.out;obtain⟨ea,ec⟩:=zf2 av.out)|((with_reducible refine Zl1 (f:=33) rfl ?_);refine goesL_ (some 24) rfl rfl Try.func33 (by kernel_rfl) rfl #[.slice bi ((Zb ac ab).f1).length bj,.func (.func 32) #[] #[.pointer (some ⟨ag,0,none⟩),.pointer (some ⟨aj,0,none⟩),.pointer (some ⟨am,0,none⟩)]] rfl (by (try simp only [List.map_toArray,List.map_cons,List.map_nil]);first|done|rfl|(simp only [List.length_drop,List.length_take];rfl)) ?_;(with_reducible refine(grammar_Least_1_any.calls _ _ ((Zb ac ab).f1) ar an au ((some bc)) (ay) ac ag a1 aj aa am false _ ?side1 ?side2 ?side3 ?side4 ?side5 ?side6 ?side7 ?side8 ?side9 ?side10 ee.out).mono ?_);(case side1=>exact Kd.C_below bp.out (zH HB));(case side2=>exact bq.out);(case side3=>exact Kd.C_below bt.out (zH HB));(case side4=>exact cw.out);(case side5=>exact(by (with_reducible repeat(first|refine Zn ?_ _|refine Zi ?_|refine Zm ?_ _));refine Zv ?_ ak.out _;(with_reducible repeat(first|refine Zn ?_ _|refine Zi ?_|refine Zm ?_ _));refine Zv ?_ ak.out _;(with_reducible repeat(first|apply zb3|apply zb2|apply zb1));exact ae.out));(case side6=>exact(by (with_reducible repeat(first|refine Zn ?_ _|refine Zi ?_|refine Zm ?_ _));refine Zv ?_ al.out _;(with_reducible repeat(first|refine Zn ?_ _|refine Zi ?_|refine Zm ?_ _));refine Zv ?_ al.out _;(with_reducible repeat(first|apply zb3|apply zb2|apply zb1));exact ai.out));(case side7=>exact(by (with_reducible repeat(first|refine Zn ?_ _|refine Zi ?_|refine Zm ?_ _));refine Zv ?_ ah.out _;(with_reducible repeat(first|refine Zn ?_ _|refine Zi ?_|refine Zm ?_ _));refine Zv ?_ ah.out _;(with_reducible repeat(first|apply zb3|apply zb2|apply zb1));exact af.out));(case side8=>exact az.out);(case side9=>exact ao.out);(case side10=>exact aq.out);rintro e gu ⟨rfl,hb⟩;refine⟨_,rfl,?_⟩;replace ae:=Za.mk (Zj (g:=ag) (o:= .cells #[.int .i64 ar,.int .i64 an,.int .i64 au,.slice (some bc) ac.length ay] 24 (0,0)) (by (with_reducible repeat(first|refine Zn ?_ _|refine Zi ?_|refine Zm ?_ _));refine Zv ?_ ak.out _;(with_reducible repeat(first|refine Zn ?_ _|refine Zi ?_|refine Zm ?_ _));refine Zv ?_ ak.out _;(with_reducible repeat(first|apply zb3|apply zb2|apply zb1));exact ae.out) hb);replace ai:=Za.mk (Zj (g:=aj) (o:= .cells #[.bool a1] 4 (0,0)) (by (with_reducible repeat(first|refine Zn ?_ _|refine Zi ?_|refine Zm ?_ _));refine Zv ?_ al.out _;(with_reducible repeat(first|refine Zn ?_ _|refine Zi ?_|refine Zm ?_ _));refine Zv ?_ al.out _;(with_reducible repeat(first|apply zb3|apply zb2|apply zb1));exact ai.out) hb);replace af:=Za.mk (Zj (g:=am) (o:= .cells #[.int .u32 aa] 42 (0,0)) (by (with_reducible repeat(first|refine Zn ?_ _|refine Zi ?_|refine Zm ?_ _));refine Zv ?_ ah.out _;(with_reducible repeat(first|refine Zn ?_ _|refine Zi ?_|refine Zm ?_ _));refine Zv ?_ ah.out _;(with_reducible repeat(first|apply zb3|apply zb2|apply zb1));exact af.out) hb);replace av:=Za.mk (Zj (g:=ap) (o:= .cells #[.int .i64 ((Zb ac ab).f0),.slice bi ((Zb ac ab).f1).length bj] 41 (0,0)) (by (with_reducible repeat(first|refine Zn ?_ _|refine Zi ?_|refine Zm ?_ _));refine Zs1 (cs:=#[.int .i64 ((Zb ac ab).f0),.slice none 0 0]) ?_ 1 _ rfl;(with_reducible repeat(first|refine Zn ?_ _|refine Zi ?_|refine Zm ?_ _));refine Zs1 (cs:=#[.int .i64 0,.slice none 0 0]) ?_ 0 _ rfl;(with_reducible repeat(first|apply zb3|apply zb2|apply zb1));exact av.out) hb);replace HB:=Za.mk (Zh (zH HB) hb);(try clear hb);(try clear hb2);(try clear hk);(try clear hi)))
     (replace ae:=Za.mk (Zi ae.out));(replace ai:=Za.mk (Zi ai.out));(replace af:=Za.mk (Zi af.out));(replace av:=Za.mk (Zi av.out));(replace HB:=Za.mk (Zz1 HB.out))
     refine start_ (n:=6) (S:=fun w'=>w'.cell? ⟨am,0,none⟩=some (.int .u32 aa)∧w'.cell? ⟨ap,0,none⟩=some (.int .i64 ((Zb ac ab).f0))∧w'.cell? ⟨ap,1,none⟩=some (.slice bi ((Zb ac ab).f1).length bj)) (ds:=[5]) #[false,false,false,false,false,false] (by kernel_rfl) rfl rfl ⟨(Zf af.out 0).trans rfl,(Zf av.out 0).trans rfl,(Zf av.out 1).trans rfl⟩ (fun hHeld=>?_)
     generalize gu.drew=gv at ae ai af av HB hHeld ⊢
     refine zP 1 (some 27) (zt 6 2) (by kernel_rfl) ?_
     refine take_ (i:=0) (N:=some 26) (v:=?_) (a':=?_) #[true,true,false,false,false,false] rfl rfl (by kernel_rfl) (fun _ _ _ h=>h) (Or.inl ⟨by rfl,?_⟩) hHeld ?_ ?_
     rotate_left
     ·rintro w' ⟨s0,s1,s2⟩
      go_simp
      with_reducible rfl
     rotate_left
     ·simp only [Act.put,zp1,zp2,zp3,Zc,Zd]
      rfl
     refine take_ (i:=2) (N:=some 28) (v:=?_) (a':=?_) #[true,true,true,false,false,false] rfl rfl (by kernel_rfl) (fun _ _ _ h=>h) (Or.inl ⟨by rfl,?_⟩) hHeld ?_ ?_
     rotate_left
     ·rintro w' ⟨s0,s1,s2⟩
      go_simp
      with_reducible rfl
     rotate_left
     ·simp only [Act.put,zp1,zp2,zp3,Zc,Zd]
      rfl
     refine zP 3 (some 29) (zt 6 15) (by kernel_rfl) ?_
     refine zP 4 (some 30) (zt 6 31) (by kernel_rfl) ?_
     refine last_ (i:=5) (N:=none) #[true,true,true,true,true,true] rfl rfl (by kernel_rfl) (by decide) (fun K hK=>?_)
     (have hs35:gv.cell? ⟨am,0,none⟩=some (.int .u32 aa):=(Zf af.out 0).trans rfl);(have hfs35:=blk_frozen af.out 0);(have hns35_0:=ao.out);(have hns35_1:=aq.out);(have hns35_3:=bb.out);(have hms35_0:=ba.out);(have hms35_1:=bh.out);(have hms35_3:=ah.out)
     refine skip_ (w1:=?_) (by rfl) rfl ?_ ?_
     rotate_left
     ·go_simp
      rfl
     refine hK.out _ _ ?_
     clear hK K
     refine done_ (by kernel_rfl) ?_
     try go_wp2
     (first|go_roundg k2|(simp only [← bm];go_roundg k2))
     case measure=>have:=da.out;have:=db.out;omega
     case rel=>first|exact⟨(wrap64 (ab + 1)),(Go.bits .or .u32 aa (ce)),(by first|rfl|(simp;done)|(simp [*];done)),H',⟨by have:=da.out;have:=db.out;omega⟩,⟨by (with_reducible repeat(first|refine Zn ?_ _|refine Zi ?_|refine Zm ?_ _));refine Zv ?_ ao.out _;(with_reducible repeat(first|apply zb3|apply zb2|apply zb1));exact ae.out⟩,⟨by (with_reducible repeat(first|refine Zn ?_ _|refine Zi ?_|refine Zm ?_ _));refine Zv ?_ aq.out _;(with_reducible repeat(first|apply zb3|apply zb2|apply zb1));exact ai.out⟩,⟨by (with_reducible repeat(first|refine Zn ?_ _|refine Zi ?_|refine Zm ?_ _));refine Zs1 (cs:=#[.int .u32 aa]) ?_ 0 _ rfl;(with_reducible repeat(first|apply zb3|apply zb2|apply zb1));exact af.out⟩,⟨zH HB⟩⟩|(subst bm;exact⟨(wrap64 (ab + 1)),(Go.bits .or .u32 aa (shl .u32 1 ((Zb ac ab).f0))),(by first|rfl|(simp;done)|(simp [*];done)),H',⟨by have:=da.out;have:=db.out;omega⟩,⟨by (with_reducible repeat(first|refine Zn ?_ _|refine Zi ?_|refine Zm ?_ _));refine Zv ?_ ao.out _;(with_reducible repeat(first|apply zb3|apply zb2|apply zb1));exact ae.out⟩,⟨by (with_reducible repeat(first|refine Zn ?_ _|refine Zi ?_|refine Zm ?_ _));refine Zv ?_ aq.out _;(with_reducible repeat(first|apply zb3|apply zb2|apply zb1));exact ai.out⟩,⟨by (with_reducible repeat(first|refine Zn ?_ _|refine Zi ?_|refine Zm ?_ _));refine Zs1 (cs:=#[.int .u32 aa]) ?_ 0 _ rfl;(with_reducible repeat(first|apply zb3|apply zb2|apply zb1));exact af.out⟩,⟨zH HB⟩⟩)
end Go.Proofs.Ytbifocddbgleeaa.PAheadParses
