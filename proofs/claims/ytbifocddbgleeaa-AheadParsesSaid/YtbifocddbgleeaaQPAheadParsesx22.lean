-- By a program.
import Derived.Test.YtbifocddbgleeaaQPAheadParsesx0
namespace Go.Proofs.Ytbifocddbgleeaa.PAheadParses
set_option maxHeartbeats 8000000
set_option maxRecDepth 100000
open Go.RowKit Go.Proofs.YtbifocddbgleeaaW.PrintWords Go.Proofs.YtbifocddbgleeaaW.PrintLast Go.Proofs.YtbifocddbgleeaaW.PrintMore
attribute [local go_sem] max2_int min2_int max_two min_two max_three min_three max_four min_four
set_option linter.unusedVariables false
set_option linter.unusedSimpArgs false
def Zi2.f (a0_0:Int) (a0_1:Int) (a0_2:Int) (l0_3:List (S41)) (l1:List Int) (a2:Int) (a3:Int):Option (List Int):=(some (([] :List Int):List Int)).bind fun y377=>(if 0≤a2 then(if a2≤(l1.length:Int) then((some (l1.take (a2:Int).toNat:List Int)).bind fun y380=>(if y377.length + y380.length < 17592186044416 then((some (y377++y380:List Int)).bind fun y384=>(if 0≤a3 then(if a3 < (l0_3.length:Int) then(if y384.length + ((Zb l0_3 a3).f1).length < 17592186044416 then((some (y384++((Zb l0_3 a3).f1):List Int)).bind fun y388=>(if 0≤(wrap64 (a2 + 1)) then(if(wrap64 (a2 + 1))≤(l1.length:Int) then((some (l1.drop ((wrap64 (a2 + 1)):Int).toNat:List Int)).bind fun y391=>(if y388.length + y391.length < 17592186044416 then(some (y388++y391)) else(none))) else(none)) else(none))) else(none)) else(none)) else(none))) else(none))) else(none)) else(none))
def Zi2.T1:Bool × List (List Nat × List Nat):=(true,[([],[]),([],[]),([],[]),([1,2],[1,2]),([0,3],[0,3]),([],[]),([5],[5]),([],[]),([6,7],[6,7]),([8],[8]),([9],[9]),([4,10,4],[4,10]),([],[]),([],[]),([13],[13]),([12,14],[12,14]),([11,15,11],[11,15]),([16,16,0,1,2,3,4,5,6,7,8,9,10,11,12,13,14,15,16],[16])])
def Zi2.B1:List Nat:=[0,0,0,6,15,0,32,0,224,480,992,2047,0,0,8192,28672,65535,131071]
theorem Zi2.tab1:rtab .any (opsOf Try.f18 1)=Zi2.T1:=by kernel_rfl
theorem Zi2.bits1:waitsOk Zi2.T1.2 Zi2.B1=true:=by kernel_rfl
theorem Zi2.calls (bd : Int) (be : Int) (bf : Int) (br : Option Addr) (bg : Nat) (ac : List (S41)) (A1 : Option Addr) (c1 : Nat) (l1 : List Int) (a2 : Int) (a3 : Int) (r : List Int) (w : World) (bi : Kd.C k41 w br ac.length ac) (bj : ac.length ≤ bg) (dc : Kd.C (Kd.int .i64) w A1 l1.length l1) (dd : l1.length ≤ c1) (h : Zi2.f bd be bf ac l1 a2 a3 = some r) :
    Calls Try.prog 18 #[.agg #[.int .i64 bd,.int .i64 be,.int .i64 bf,.slice br ac.length bg],.slice A1 l1.length c1,.int .i64 a2,.int .i64 a3] w fun e w'=>∃v0_:Value,e= .returned (v0_)∧Kd.R (Kd.int .i64) 3 w' w.heap.size (fun _=>True) v0_ r∧Below w.heap.size w w':=by
 (have dq:=Try.underlying24);(have dr:=Try.underlying25);(have cd:=Za.mk bi);(have de:=Za.mk bj);(clear bi bj);(have df:=Za.mk dc);(have dg:=Za.mk dd);(clear dc dd);(have HB:=Za.mk (Below.refl w.heap.size w));(have H:((some (([] :List Int):List Int)).bind fun al=>(if 0≤a2 then(if a2≤(l1.length:Int) then((some (l1.take (a2:Int).toNat:List Int)).bind fun ai=>(if al.length + ai.length < 17592186044416 then((some (al++ai:List Int)).bind fun ah=>(if 0≤a3 then(if a3 < (ac.length:Int) then(if ah.length + ((Zb ac a3).f1).length < 17592186044416 then((some (ah++((Zb ac a3).f1):List Int)).bind fun ae=>(if 0≤(wrap64 (a2 + 1)) then(if(wrap64 (a2 + 1))≤(l1.length:Int) then((some (l1.drop ((wrap64 (a2 + 1)):Int).toNat:List Int)).bind fun ab=>(if ae.length + ab.length < 17592186044416 then(some (ae++ab)) else(none))) else(none)) else(none))) else(none)) else(none)) else(none))) else(none))) else(none)) else(none)))=some r:=h);(clear h);(obtain⟨al,am⟩ : ∃y_:List Int,y_=(([] :List Int)):=⟨_,rfl⟩);(replace H:(if 0≤a2 then(if a2≤(l1.length:Int) then((some (l1.take (a2:Int).toNat:List Int)).bind fun ai=>(if al.length + ai.length < 17592186044416 then((some (al++ai:List Int)).bind fun ah=>(if 0≤a3 then(if a3 < (ac.length:Int) then(if ah.length + ((Zb ac a3).f1).length < 17592186044416 then((some (ah++((Zb ac a3).f1):List Int)).bind fun ae=>(if 0≤(wrap64 (a2 + 1)) then(if(wrap64 (a2 + 1))≤(l1.length:Int) then((some (l1.drop ((wrap64 (a2 + 1)):Int).toNat:List Int)).bind fun ab=>(if ae.length + ab.length < 17592186044416 then(some (ae++ab)) else(none))) else(none)) else(none))) else(none)) else(none)) else(none))) else(none))) else(none)) else(none))=some r:=by first|(rw [am];with_reducible exact H)|(have H2_:=(Option.bind_some _ _).symm.trans H;rw [am];with_reducible exact H2_)|(have H2_:=(Option.bind_some _ _).symm.trans H;with_reducible exact H2_)|with_reducible exact H|(rw [am];exact H)|exact H)
 (have bk:=Za.mk am);(clear am)
 by_cases c5:0≤a2
 rotate_left
 ·rw [if_neg c5] at H
  exact absurd H (by simp)
 (rw [if_pos c5] at H);(have dt:=eq_true c5);(have du:decide (0≤a2)=true:=decide_eq_true c5);(clear c5)
 by_cases c6:a2≤(l1.length:Int)
 rotate_left
 ·rw [if_neg c6] at H
  exact absurd H (by simp)
 (rw [if_pos c6] at H);(have dv:=eq_true c6);(have dw:decide (a2≤(l1.length:Int))=true:=decide_eq_true c6);(clear c6);(obtain⟨ai,an⟩ : ∃y_:List Int,y_=(l1.take (a2:Int).toNat):=⟨_,rfl⟩);(replace H:(if al.length + ai.length < 17592186044416 then((some (al++ai:List Int)).bind fun ah=>(if 0≤a3 then(if a3 < (ac.length:Int) then(if ah.length + ((Zb ac a3).f1).length < 17592186044416 then((some (ah++((Zb ac a3).f1):List Int)).bind fun ae=>(if 0≤(wrap64 (a2 + 1)) then(if(wrap64 (a2 + 1))≤(l1.length:Int) then((some (l1.drop ((wrap64 (a2 + 1)):Int).toNat:List Int)).bind fun ab=>(if ae.length + ab.length < 17592186044416 then(some (ae++ab)) else(none))) else(none)) else(none))) else(none)) else(none)) else(none))) else(none))=some r:=by first|(rw [an];with_reducible exact H)|(have H2_:=(Option.bind_some _ _).symm.trans H;rw [an];with_reducible exact H2_)|(have H2_:=(Option.bind_some _ _).symm.trans H;with_reducible exact H2_)|with_reducible exact H|(rw [an];exact H)|exact H);(have bl:=Za.mk an);(clear an)
 by_cases c7:al.length + ai.length < 17592186044416
 rotate_left
 ·rw [if_neg c7] at H
  exact absurd H (by simp)
 (rw [if_pos c7] at H);(have cp:=Za.mk c7);(clear c7);(obtain⟨ah,ao⟩ : ∃y_:List Int,y_=(al++ai):=⟨_,rfl⟩);(replace H:(if 0≤a3 then(if a3 < (ac.length:Int) then(if ah.length + ((Zb ac a3).f1).length < 17592186044416 then((some (ah++((Zb ac a3).f1):List Int)).bind fun ae=>(if 0≤(wrap64 (a2 + 1)) then(if(wrap64 (a2 + 1))≤(l1.length:Int) then((some (l1.drop ((wrap64 (a2 + 1)):Int).toNat:List Int)).bind fun ab=>(if ae.length + ab.length < 17592186044416 then(some (ae++ab)) else(none))) else(none)) else(none))) else(none)) else(none)) else(none))=some r:=by first|(rw [ao];with_reducible exact H)|(have H2_:=(Option.bind_some _ _).symm.trans H;rw [ao];with_reducible exact H2_)|(have H2_:=(Option.bind_some _ _).symm.trans H;with_reducible exact H2_)|with_reducible exact H|(rw [ao];exact H)|exact H);(have ce:=Za.mk ao);(clear ao)
 by_cases c8:0≤a3
 rotate_left
 ·rw [if_neg c8] at H
  exact absurd H (by simp)
 (rw [if_pos c8] at H);(have dx:decide (0≤a3)=true:=decide_eq_true c8);(clear c8)
 by_cases c9:a3 < (ac.length:Int)
 rotate_left
 ·rw [if_neg c9] at H
  exact absurd H (by simp)
 (rw [if_pos c9] at H);(have dy:decide (a3 < (ac.length:Int))=true:=decide_eq_true c9);(clear c9)
 by_cases c10:ah.length + ((Zb ac a3).f1).length < 17592186044416
 rotate_left
 ·rw [if_neg c10] at H
  exact absurd H (by simp)
 (rw [if_pos c10] at H);(have cf:=Za.mk c10);(clear c10);(obtain⟨ae,ap⟩ : ∃y_:List Int,y_=(ah++((Zb ac a3).f1)):=⟨_,rfl⟩);(replace H:(if 0≤(wrap64 (a2 + 1)) then(if(wrap64 (a2 + 1))≤(l1.length:Int) then((some (l1.drop ((wrap64 (a2 + 1)):Int).toNat:List Int)).bind fun ab=>(if ae.length + ab.length < 17592186044416 then(some (ae++ab)) else(none))) else(none)) else(none))=some r:=by first|(rw [ap];with_reducible exact H)|(have H2_:=(Option.bind_some _ _).symm.trans H;rw [ap];with_reducible exact H2_)|(have H2_:=(Option.bind_some _ _).symm.trans H;with_reducible exact H2_)|with_reducible exact H|(rw [ap];exact H)|exact H);(have cg:=Za.mk ap);(clear ap);(obtain⟨af,au⟩ : ∃j_:Int,(wrap64 (a2 + 1))=j_:=⟨_,rfl⟩);(replace H:(if 0≤(af) then(if(af)≤(l1.length:Int) then((some (l1.drop ((af):Int).toNat:List Int)).bind fun ab=>(if ae.length + ab.length < 17592186044416 then(some (ae++ab)) else(none))) else(none)) else(none))=some r:=by first|(rw [au] at H;exact H)|(simp only [au] at H ⊢;exact H));(have cq:(IntKind.i64.wrap (a2 + 1))=af:=(Zc _).trans au)
 by_cases ch:0≤(af)
 rotate_left
 ·rw [if_neg ch] at H
  exact absurd H (by simp)
 (rw [if_pos ch] at H);(have dh:=eq_true ch);(have di:decide (0≤(af))=true:=decide_eq_true ch);(clear ch)
 by_cases ci:(af)≤(l1.length:Int)
 rotate_left
 ·rw [if_neg ci] at H
  exact absurd H (by simp)
 (rw [if_pos ci] at H);(have dj:=eq_true ci);(have dk:decide ((af)≤(l1.length:Int))=true:=decide_eq_true ci);(clear ci);(obtain⟨ab,aq⟩ : ∃y_:List Int,y_=(l1.drop ((af):Int).toNat):=⟨_,rfl⟩);(replace H:(if ae.length + ab.length < 17592186044416 then(some (ae++ab)) else(none))=some r:=by first|(rw [aq];with_reducible exact H)|(have H2_:=(Option.bind_some _ _).symm.trans H;rw [aq];with_reducible exact H2_)|(have H2_:=(Option.bind_some _ _).symm.trans H;with_reducible exact H2_)|with_reducible exact H|(rw [aq];exact H)|exact H);(have bm:=Za.mk aq);(clear aq)
 by_cases cn:ae.length + ab.length < 17592186044416
 rotate_left
 ·rw [if_neg cn] at H
  exact absurd H (by simp)
 (rw [if_pos cn] at H);(have cj:=Za.mk cn);(clear cn);(obtain⟨cu,ar⟩ : ∃y_:List Int,y_=(ae++ab):=⟨_,rfl⟩);(replace H:(some cu)=some r:=by first|(rw [ar];with_reducible exact H)|(have H2_:=(Option.bind_some _ _).symm.trans H;rw [ar];with_reducible exact H2_)|(have H2_:=(Option.bind_some _ _).symm.trans H;with_reducible exact H2_)|with_reducible exact H|(rw [ar];exact H)|exact H);(have ck:=Za.mk ar);(clear ar);(obtain rfl:=Option.some.inj H)
 go_enter Try.func18,Try.ntmps18
 try go_wp2_with (first|((with_reducible refine Zs (N:=4) rfl ?_);refine Zx ?hg (N:=4) ?hd (cs:=#[.int .i64 bd,.int .i64 be,.int .i64 bf,.slice br ac.length bg]) (t:=24) ?hr ?_;(case hd=>rfl);(case hg=>rfl);(case hr=>first|(go_simp;done)|(go_simp;rfl));intro ag hg dz hbox hb;have aa:=Za.mk (hbox);have dl:=Za.mk ((by rw [hg];exact(Zg (zH HB)):w.heap.size≤ag));have dm:=Za.mk ((by rw [hg];exact(Zg (zH HB)):w.heap.size≤ag));replace HB:=Za.mk (Zh (zH HB) hb);clear hb hbox hg))
 (replace aa:=Za.mk (Zi aa.out));(replace HB:=Za.mk (Zz1 HB.out));(have cw:(a2:Int)≤((l1.length:Int):Int):=zD);(obtain⟨i017,bn,_,hsz17,_⟩:=info_parts info3);(have hroom17:l1.length≤c1:=dg.out);(have hC17:Kd.C (Kd.int .i64) _ A1 l1.length l1:=df.out);(have bs:=cut_to (P:=Try.prog) 25 3 .i64 Try.underlying25 bn A1 l1.length c1 a2 (zD) cw hroom17);(have bt:=Kd.C_take (m:=(a2:Int).toNat) hC17 (by omega));(have bu:ai.length=(a2:Int).toNat:=(by rw [bl.out,List.length_take];omega));(rw [← bl.out] at bt);(rw [← bu] at bs);(have bo:=Za.mk bt);(have dn:=Za.mk (show ai.length≤c1 from by omega));(clear bt hC17 hroom17 bn hsz17);(have KY17:=Za.mk bu);(clear bu);(replace cw:=eq_true cw);(have bv:0≤(a3:Int):=zD);(have bw:a3 < (ac.length:Int):=zD);(obtain⟨av,bx,bz,cy,aj,ak,aw,ax⟩:=at_T41 cd.out a3 bv bw);(have hw387_1:=ak);(have hw387_0:=aj);(cases cy);(replace aj:=zX HB aj);(replace ak:=zX HB ak);(have ay:=Za.mk ax);(have co:=Za.mk aw);(clear ax aw);(replace bv:=eq_true bv);(replace bw:=eq_true bw);(have da:((af):Int)≤((l1.length:Int):Int):=zD)
 (obtain⟨i018,bp,_,hsz18,_⟩:=info_parts info3);(have hroom18:l1.length≤c1:=dg.out);(have hC18:Kd.C (Kd.int .i64) _ A1 l1.length l1:=df.out);(have db:(0:Int)≤((af):Int):=zD);(have ca:=cut_from (P:=Try.prog) 25 3 .i64 Try.underlying25 bp 1 hsz18 A1 l1.length c1 (af) db da);(have az:=Kd.C_drop (m:=((af):Int).toNat) (c:=c1) hC18 (by omega) hroom18);(obtain⟨ea,hA18⟩ : ∃Aq_,Aq_=(if c1=((af):Int).toNat then A1 else(A1:Option Addr).map (·.add (((af):Int).toNat * 1))):=⟨_,rfl⟩);(obtain⟨ec,cb⟩ : ∃cq_,cq_=c1 - ((af):Int).toNat:=⟨_,rfl⟩);(have bh:ab.length=l1.length - ((af):Int).toNat:=(by rw [bm.out,List.length_drop] <;> omega));(rw [show(l1).drop ((af):Int).toNat=ab from bm.out.symm] at az);(replace az:Kd.C (Kd.int .i64) _ ea ab.length ab:=(by rw [hA18];exact az));(rw [← bh,← hA18,← cb] at ca);(have bq:=Za.mk az);(have dp:=Za.mk (show ab.length≤ec from by rw [bh,cb];exact Nat.sub_le_sub_right hroom18 _));(clear az hC18 hroom18 bp hsz18 cb);(have KY18:=Za.mk bh);(have KA18:=Za.mk hA18);(clear bh hA18);(replace da:=eq_true da)
 refine start_ (n:=18) (S:=fun w'=>w'.cell? ⟨ag,0,none⟩=some (.int .i64 bd)∧w'.cell? ⟨ag,1,none⟩=some (.int .i64 be)∧w'.cell? ⟨ag,2,none⟩=some (.int .i64 bf)∧w'.cell? ⟨ag,3,none⟩=some (.slice (some av) ac.length bg)∧w'.cell? (av.add ((a3).toNat * 2))=some (.int .i64 ((Zb ac a3).f0))∧w'.cell? ⟨(av.add ((a3).toNat * 2)).block,(av.add ((a3).toNat * 2)).off + 1,none⟩=some (.slice bx ((Zb ac a3).f1).length bz)) (ds:=[]) #[false,false,false,false,false,false,false,false,false,false,false,false,false,false,false,false,false,false] (by kernel_rfl) rfl rfl ⟨(Zf aa.out 0).trans rfl,(Zf aa.out 1).trans rfl,(Zf aa.out 2).trans rfl,(Zf aa.out 3).trans rfl,(zX HB hw387_0),(zX HB hw387_1)⟩ (fun hHeld=>?_);refine Zc2 Zi2.tab1 Zi2.bits1 (fun HT_ HW_=>?_)
 generalize dz.drew=ee at aa HB bo ay bq aj ak hHeld ⊢
 refine zP 1 (some 10) (zt 18 2) (Ze HT_.out (by kernel_rfl)) ?_
 refine zP 2 (some 11) (zt 18 6) (Ze HT_.out (by kernel_rfl)) ?_
 refine zP 3 (some 12) (zt 18 14) (Ze HT_.out (by kernel_rfl)) ?_
 refine zP 5 (some 14) (zt 18 46) (Ze HT_.out (by kernel_rfl)) ?_
 refine zP 7 (some 16) (zt 18 174) (Ze HT_.out (by kernel_rfl)) ?_
 refine zP 12 (some 21) (zt 18 4270) (Ze HT_.out (by kernel_rfl)) ?_
 refine zP 13 (some 22) (zt 18 12462) (Ze HT_.out (by kernel_rfl)) ?_
 refine zP 14 (some 23) (zt 18 28846) (Ze HT_.out (by kernel_rfl)) ?_
 refine zP 15 (some 24) (zt 18 61614) (Ze HT_.out (by kernel_rfl)) ?_
 refine take_ (i:=6) (N:=some 15) (v:=?_) (a':=?_) #[false,true,true,true,false,true,true,true,false,false,false,false,true,true,true,true,false,false] rfl rfl (Zi1 HT_.out HW_.out (by kernel_rfl)) (fun _ _ _ h=>h) (Or.inl ⟨by rfl,?_⟩) hHeld ?_ ?_
 rotate_left
 ·rintro w' ⟨s0,s1,s2,s3,s4,s5⟩
  go_simp
  with_reducible rfl
 rotate_left
 ·simp only [Act.put,zp1,zp2,zp3,Zc,Zd]
  rfl
 refine zP 8 (some 17) (zt 18 61934) (Ze HT_.out (by kernel_rfl)) ?_
 refine zP 9 (some 18) (zt 18 62446) (Ze HT_.out (by kernel_rfl)) ?_
 refine take_ (i:=10) (N:=some 19) (v:=?_) (a':=?_) #[false,true,true,true,false,true,true,true,true,true,true,false,true,true,true,true,false,false] rfl rfl (Zi1 HT_.out HW_.out (by kernel_rfl)) (fun _ _ _ h=>h) (Or.inl ⟨by rfl,?_⟩) hHeld ?_ ?_
 rotate_left
 ·rintro w' ⟨s0,s1,s2,s3,s4,s5⟩
  go_simp
  with_reducible rfl
 rotate_left
 ·simp only [Act.put,zp1,zp2,zp3,Zc,Zd]
  rfl
 refine one_ (i:=0) (N:=some 9) #[true,true,true,true,false,true,true,true,true,true,true,false,true,true,true,true,false,false] rfl rfl (one_of HT_.out (by kernel_rfl)) (by decide) (fun K hK=>?_)
 refine Kd.R_lit_step (Kd.int .i64) _ 3 ?hg (N:=9) ?hd (xs:=([] :List Int)) (inner:=[]) (ok:=fun _=>True) (okp:=fun _=>True) ?hr ?hp (fun _ hk=>hk) trivial (Below.refl _ _) (Nat.le_refl _) (by simp) ?_;(case hd=>rfl);(case hg=>rfl);(case hr=>first|(go_simp;done)|(go_simp;rfl));(case hp=>exact(Reps.none _ _))
 intro v378 ef ho20 hb hg_ hnew_
 clear hg_ hnew_
 (first|rw [← bk.out] at ho20|(simp only [Int.reduceToNat] at ho20;rw [← bk.out] at ho20))
 (have ba:=Za.mk (Kd.R_lower ho20 (Zg (zH HB))));(replace aa:=Za.mk (Zj (g:=ag) (zK aa) hb));(replace HB:=Za.mk (Zh (zH HB) hb));(clear hb ho20)
 refine hK.out _ _ ⟨(Zf aa.out 0).trans rfl,(Zf aa.out 1).trans rfl,(Zf aa.out 2).trans rfl,(Zf aa.out 3).trans rfl,(zX HB hw387_0),(zX HB hw387_1)⟩ (fun hHeld=>?_)
 clear hK K
 refine norm_ (a':=?_) ?_ ?_
 rotate_left
 ·show Act.put _ (some 9) _=_
  simp only [Act.put,zp1,zp2,zp3,Zc,Zd]
  rfl
 refine one_ (i:=4) (N:=some 13) #[true,true,true,true,true,true,true,true,true,true,true,false,true,true,true,true,false,false] rfl rfl (one_of HT_.out (by kernel_rfl)) (by decide) (fun K hK=>?_)
 refine Kd.R_append_rows_step (Kd.int .i64) (w0:=w) w.heap.size (by rfl) (.tmp 9) (.tmp 12) 25 3 (.int .i64 0) 8 rfl Try.underlying25 info3 rfl (by decide) (by omega) v378 al ai _ _ _ (fun _=>True) (fun _=>False) rfl rfl ?aO ?aR (fun _ _ h=>h) (fun _ h=>h.elim) ?aF ?aB ?aS ?aL ?_
 (case aR=>exact zC bo HB)
 (case aB=>exact(zH HB))
 (case aF=>exact(fun _ _=>trivial))
 (case aO=>exact(zR ba))
 (case aS=>exact(Zg (zH HB)))
 (case aL=>have:=cp.out;omega)
 intro v385 eh ho hb hg hat
 (rw [← ce.out] at ho);(replace aa:=Za.mk (Zv1 (g:=ag) (zK aa) hg (Kd.R_ne ba.out aa.out (by decide))));(replace HB:=Za.mk (hb));(have bb:=Za.mk (ho));(clear ba);(clear ho hb hg hat)
 refine hK.out _ _ ⟨(Zf aa.out 0).trans rfl,(Zf aa.out 1).trans rfl,(Zf aa.out 2).trans rfl,(Zf aa.out 3).trans rfl,(zX HB hw387_0),(zX HB hw387_1)⟩ (fun hHeld=>?_)
 clear hK K
 refine norm_ (a':=?_) ?_ ?_
 rotate_left
 ·show Act.put _ (some 13) _=_
  simp only [Act.put,zp1,zp2,zp3,Zc,Zd]
  rfl
 refine one_ (i:=11) (N:=some 20) #[true,true,true,true,true,true,true,true,true,true,true,true,true,true,true,true,false,false] rfl rfl (one_of HT_.out (by kernel_rfl)) (by decide) (fun K hK=>?_)
 refine Kd.R_append_rows_step (Kd.int .i64) (w0:=w) w.heap.size (by rfl) (.tmp 13) (.tmp 19) 25 3 (.int .i64 0) 8 rfl Try.underlying25 info3 rfl (by decide) (by omega) v385 ah ((Zb ac a3).f1) _ _ _ (fun _=>True) (fun _=>False) rfl rfl ?aO ?aR (fun _ _ h=>h) (fun _ h=>h.elim) ?aF ?aB ?aS ?aL ?_
 (case aR=>exact zC ay HB)
 (case aB=>exact(zH HB))
 (case aF=>exact(fun _ _=>trivial))
 (case aO=>exact(zR bb))
 (case aS=>exact(Zg (zH HB)))
 (case aL=>have:=cf.out;omega)
 intro v389 ei ho hb hg hat
 (rw [← cg.out] at ho);(replace aa:=Za.mk (Zv1 (g:=ag) (zK aa) hg (Kd.R_ne bb.out aa.out (by decide))));(replace HB:=Za.mk (hb));(have bc:=Za.mk (ho));(clear bb);(clear ho hb hg hat)
 refine hK.out _ _ ⟨(Zf aa.out 0).trans rfl,(Zf aa.out 1).trans rfl,(Zf aa.out 2).trans rfl,(Zf aa.out 3).trans rfl,(zX HB hw387_0),(zX HB hw387_1)⟩ (fun hHeld=>?_)
 clear hK K
 refine norm_ (a':=?_) ?_ ?_
 rotate_left
 ·show Act.put _ (some 20) _=_
  simp only [Act.put,zp1,zp2,zp3,Zc,Zd]
  rfl
 refine one_ (i:=16) (N:=some 25) #[true,true,true,true,true,true,true,true,true,true,true,true,true,true,true,true,true,false] rfl rfl (one_of HT_.out (by kernel_rfl)) (by decide) (fun K hK=>?_)
 refine Kd.R_append_rows_step (Kd.int .i64) (w0:=w) w.heap.size (by rfl) (.tmp 20) (.tmp 24) 25 3 (.int .i64 0) 8 rfl Try.underlying25 info3 rfl (by decide) (by omega) v389 ae ab _ _ _ (fun _=>True) (fun _=>False) rfl rfl ?aO ?aR (fun _ _ h=>h) (fun _ h=>h.elim) ?aF ?aB ?aS ?aL ?_
 (case aR=>exact zC bq HB)
 (case aB=>exact(zH HB))
 (case aF=>exact(fun _ _=>trivial))
 (case aO=>exact(zR bc))
 (case aS=>exact(Zg (zH HB)))
 (case aL=>have:=cj.out;omega)
 intro v396 ek ho hb hg hat
 (rw [← ck.out] at ho);(replace aa:=Za.mk (Zv1 (g:=ag) (zK aa) hg (Kd.R_ne bc.out aa.out (by decide))));(replace HB:=Za.mk (hb));(have cm:=Za.mk (ho));(clear bc);(clear ho hb hg hat)
 refine hK.out _ _ ⟨(Zf aa.out 0).trans rfl,(Zf aa.out 1).trans rfl,(Zf aa.out 2).trans rfl,(Zf aa.out 3).trans rfl,(zX HB hw387_0),(zX HB hw387_1)⟩ (fun hHeld=>?_)
 clear hK K
 refine norm_ (a':=?_) ?_ ?_
 rotate_left
 ·show Act.put _ (some 25) _=_
  simp only [Act.put,zp1,zp2,zp3,Zc,Zd]
  rfl
 refine zP 17 (some 8) (zt 18 262143) (Ze HT_.out (by kernel_rfl)) ?_
 refine done_ (done_of HT_.out (by kernel_rfl)) ?_
 try go_wp2
 go_ret
 exact⟨_,by first|rfl|(simp [Zl,Zk] <;> rfl)|(simp only [← au];first|rfl|(simp [Zl,Zk] <;> rfl))|(simp [*,Zl,Zk] <;> rfl),by (with_reducible repeat(first|apply Kd.R_alloc|apply Kd.R_drewN|apply Kd.R_drew));exact cm.out,zH HB⟩
mutual
def Zr1.l0:Nat→List Int→List Int→Int→Int→Int→Int→Int→List (S41)→Option (List Int × Bool)
  |0,_,_,_,_,_,_,_,_=>none
  |k + 1,x6,x16,x17,x18,x399000,x399001,x399002,x399003=>if x18 < x17 then(if 0≤x18 then(if x18 < (x16.length:Int) then(Zr1.l1 k x6 (rd x16 x18) 0 x16 x17 x18 x399000 x399001 x399002 x399003) else(none)) else(none)) else(some (x6,true))
def Zr1.l1:Nat→List Int→Int→Int→List Int→Int→Int→Int→Int→Int→List (S41)→Option (List Int × Bool)
  |0,_,_,_,_,_,_,_,_,_,_=>none
  |k + 1,x6,x8,x9,x16,x17,x18,x399000,x399001,x399002,x399003=>if x9 < (x6.length:Int) then(if 0≤x9 then(if(rd x6 x9) < x399000 then(Zr1.l1 k x6 x8 (wrap64 (x9 + 1)) x16 x17 x18 x399000 x399001 x399002 x399003) else(if x9=(x6.length:Int) then(some (([] :List Int),false)) else(if x8 < 0 then(some (([] :List Int),false)) else(if x8≥(x399003.length:Int) then(some (([] :List Int),false)) else(if 0≤x8 then(if x8 < (x399003.length:Int) then(if(rd x6 x9)=(wrap64 (x399000 + ((Zb x399003 x8).f0))) then((Zi2.f x399000 x399001 x399002 x399003 x6 x9 x8).bind fun t406=>(Zr1.l0 k t406 x16 x17 (wrap64 (x18 + 1)) x399000 x399001 x399002 x399003)) else(some (([] :List Int),false))) else(none)) else(none)))))) else(none)) else(if x9=(x6.length:Int) then(some (([] :List Int),false)) else(if x8 < 0 then(some (([] :List Int),false)) else(if x8≥(x399003.length:Int) then(some (([] :List Int),false)) else(if 0≤x9 then(none) else(none)))))
end
def Zr1.f (k:Nat) (a0_0:Int) (a0_1:Int) (a0_2:Int) (l0_3:List (S41)) (l1:List Int):Option (List Int × Bool):=Zr1.l0 k (([wrap64 (a0_0 + a0_2)] :List Int)) l1 (l1.length:Int) 0 a0_0 a0_1 a0_2 l0_3
theorem Zr1.mono_l: ∀k,(∀y0 y1 y2 y3 y4 y5 y6 y7,LeO (Zr1.l0 k y0 y1 y2 y3 y4 y5 y6 y7) (Zr1.l0 (k + 1) y0 y1 y2 y3 y4 y5 y6 y7))∧(∀y0 y1 y2 y3 y4 y5 y6 y7 y8 y9,LeO (Zr1.l1 k y0 y1 y2 y3 y4 y5 y6 y7 y8 y9) (Zr1.l1 (k + 1) y0 y1 y2 y3 y4 y5 y6 y7 y8 y9))
  |0=>⟨fun _ _ _ _ _ _ _ _ r h=>by simp [Zr1.l0] at h,fun _ _ _ _ _ _ _ _ _ _ r h=>by simp [Zr1.l1] at h⟩
  |k + 1=>by
    obtain⟨ih0,ih1⟩:=Zr1.mono_l k
    refine⟨?_,?_⟩
    · intro y0 y1 y2 y3 y4 y5 y6 y7
      unfold Zr1.l0
      repeat' (with_reducible first|apply ih0|apply ih1|exact LeO.refl _|exact LeO.none _|refine LeO.ite ?_ ?_|refine LeO.bind ?_ (fun _=>?_))
    · intro y0 y1 y2 y3 y4 y5 y6 y7 y8 y9
      unfold Zr1.l1
      repeat' (with_reducible first|apply ih0|apply ih1|exact LeO.refl _|exact LeO.none _|refine LeO.ite ?_ ?_|refine LeO.bind ?_ (fun _=>?_))
theorem Zr1.mono: ∀a0 a1 a2 a3 a4 k,LeO (Zr1.f k a0 a1 a2 a3 a4) (Zr1.f (k + 1) a0 a1 a2 a3 a4):=by
  intro a0 a1 a2 a3 a4 k
  obtain⟨ih0,ih1⟩:=Zr1.mono_l k
  unfold Zr1.f
  repeat' (with_reducible first|apply ih0|apply ih1|exact LeO.refl _|exact LeO.none _|refine LeO.ite ?_ ?_|refine LeO.bind ?_ (fun _=>?_))
theorem Zr1.calls (k : Nat) (ae : Int) (am : Int) (ai : Int) (bi : Option Addr) (bj : Nat) (ah : List (S41)) (A1 : Option Addr) (c1 : Nat) (l1 : List Int) (r1 : List Int) (r2 : Bool) (w : World) (bz : Kd.C k41 w bi ah.length ah) (ca : ah.length ≤ bj) (iv : Kd.C (Kd.int .i64) w A1 l1.length l1) (iw : l1.length ≤ c1) (h : Zr1.f k ae am ai ah l1 = some (r1, r2)) :
    Calls Try.prog 8 #[.agg #[.int .i64 ae,.int .i64 am,.int .i64 ai,.slice bi ah.length bj],.slice A1 l1.length c1] w fun e w'=>∃v0_:Value,e= .returned (.tuple #[v0_,.bool r2])∧Kd.R (Kd.int .i64) 3 w' w.heap.size (fun _=>True) v0_ r1∧Below w.heap.size w w':=by
 (have jd:=Try.underlying24);(have jx:=Try.underlying3);(have bg:=Za.mk bz);(have bo:=Za.mk ca);(clear bz ca);(have je:=Za.mk iv);(have jy:=Za.mk iw);(clear iv iw);(have HB:=Za.mk (Below.refl w.heap.size w));(have H:(Zr1.l0 k (([wrap64 (ae + ai)] :List Int)) l1 (l1.length:Int) 0 ae am ai ah)=some (r1,r2):=h);(clear h);(obtain⟨cu,bh⟩ : ∃y_:List Int,y_=(([wrap64 (ae + ai)] :List Int)):=⟨_,rfl⟩);(replace H:(Zr1.l0 k cu l1 (l1.length:Int) 0 ae am ai ah)=some (r1,r2):=by first|(rw [bh];with_reducible exact H)|(have H2_:=(Option.bind_some _ _).symm.trans H;rw [bh];with_reducible exact H2_)|(have H2_:=(Option.bind_some _ _).symm.trans H;with_reducible exact H2_)|with_reducible exact H|(rw [bh];exact H)|exact H);(have aw:=Za.mk bh);(clear bh);(have H':=Za.mk H);(clear H)
 go_enter Try.func8,Try.ntmps8
 go_wp2_with (first|((with_reducible refine Zs (N:=2) rfl ?_);(try(refine gate_guard (by rfl) ?_;dsimp only));refine Zx ?hg (N:=2) ?hd (cs:=#[.int .i64 ae,.int .i64 am,.int .i64 ai,.slice bi ah.length bj]) (t:=24) ?hr ?_;(case hd=>rfl);(case hg=>rfl);(case hr=>first|(go_simp;done)|(go_simp;rfl));intro aj hg w3 hbox hb;have ab:=Za.mk (hbox);have cb:=Za.mk ((by rw [hg];exact(Zg (zH HB)):w.heap.size≤aj));have cd:=Za.mk ((by rw [hg];exact(Zg (zH HB)):w.heap.size≤aj));replace HB:=Za.mk (Zh (zH HB) hb);clear hb hbox hg;obtain⟨ax,ay,az,ba⟩:=zq4 ab.out;obtain⟨bb,bc,bd,be⟩:=zf4 ab.out)|((with_reducible refine Zs (N:=15) rfl ?_);(try(refine gate_guard (by rfl) ?_;dsimp only));refine Kd.R_lit (Kd.int .i64) _ 3 ?hg (N:=15) ?hd (xs:=([wrap64 (ae + ai)] :List Int)) (inner:=[.int .i64 (wrap64 (ae + ai))]) (ok:=fun _=>True) (okp:=fun _=>True) ?hr ?hp (fun _ hk=>hk) trivial (Below.refl _ _) (Nat.le_refl _) (by simp) ?_;(case hd=>rfl);(case hg=>rfl);(case hr=>first|(go_simp;done)|(go_simp;rfl));(case hp=>exact(Reps.one (show Kd.M (Kd.int .i64) _ _ _ (wrap64 (ae + ai)) [.int .i64 (wrap64 (ae + ai))] from rfl) (Reps.none _ _)));intro v400 w5 ho6 hb hg_ hnew_;clear hg_ hnew_;(first|rw [← aw.out] at ho6|(simp only [Int.reduceToNat] at ho6;rw [← aw.out] at ho6));have bp:=Za.mk (Kd.R_lower ho6 (Zg (zH HB)));replace ab:=Za.mk (Zj (g:=aj) (zK ab) hb);replace HB:=Za.mk (Zh (zH HB) hb);clear hb ho6))
 repeat(go_quiet (first|((with_reducible refine Zs (N:=2) rfl ?_);(try(refine gate_guard (by rfl) ?_;dsimp only));refine Zx ?hg (N:=2) ?hd (cs:=#[.int .i64 ae,.int .i64 am,.int .i64 ai,.slice bi ah.length bj]) (t:=24) ?hr ?_;(case hd=>rfl);(case hg=>rfl);(case hr=>first|(go_simp;done)|(go_simp;rfl));intro aj hg w3 hbox hb;have ab:=Za.mk (hbox);have cb:=Za.mk ((by rw [hg];exact(Zg (zH HB)):w.heap.size≤aj));have cd:=Za.mk ((by rw [hg];exact(Zg (zH HB)):w.heap.size≤aj));replace HB:=Za.mk (Zh (zH HB) hb);clear hb hbox hg;obtain⟨ax,ay,az,ba⟩:=zq4 ab.out;obtain⟨bb,bc,bd,be⟩:=zf4 ab.out)|((with_reducible refine Zs (N:=15) rfl ?_);(try(refine gate_guard (by rfl) ?_;dsimp only));refine Kd.R_lit (Kd.int .i64) _ 3 ?hg (N:=15) ?hd (xs:=([wrap64 (ae + ai)] :List Int)) (inner:=[.int .i64 (wrap64 (ae + ai))]) (ok:=fun _=>True) (okp:=fun _=>True) ?hr ?hp (fun _ hk=>hk) trivial (Below.refl _ _) (Nat.le_refl _) (by simp) ?_;(case hd=>rfl);(case hg=>rfl);(case hr=>first|(go_simp;done)|(go_simp;rfl));(case hp=>exact(Reps.one (show Kd.M (Kd.int .i64) _ _ _ (wrap64 (ae + ai)) [.int .i64 (wrap64 (ae + ai))] from rfl) (Reps.none _ _)));intro v400 w5 ho6 hb hg_ hnew_;clear hg_ hnew_;(first|rw [← aw.out] at ho6|(simp only [Int.reduceToNat] at ho6;rw [← aw.out] at ho6));have bp:=Za.mk (Kd.R_lower ho6 (Zg (zH HB)));replace ab:=Za.mk (Zj (g:=aj) (zK ab) hb);replace HB:=Za.mk (Zh (zH HB) hb);clear hb ho6));try go_wp2_with (first|((with_reducible refine Zs (N:=2) rfl ?_);(try(refine gate_guard (by rfl) ?_;dsimp only));refine Zx ?hg (N:=2) ?hd (cs:=#[.int .i64 ae,.int .i64 am,.int .i64 ai,.slice bi ah.length bj]) (t:=24) ?hr ?_;(case hd=>rfl);(case hg=>rfl);(case hr=>first|(go_simp;done)|(go_simp;rfl));intro aj hg w3 hbox hb;have n0_:=Za.mk (Zh (zH HB) hb);have n1_:=Za.mk (hbox);have n2_:=Za.mk ((by rw [hg];exact(Zg (zH HB)):w.heap.size≤aj));have n3_:=Za.mk ((by rw [hg];exact(Zg (zH HB)):w.heap.size≤aj));clear HB;have HB:=n0_;have ab:=n1_;have cb:=n2_;have cd:=n3_;clear n0_ n1_ n2_ n3_;clear hb hbox hg;obtain⟨ax,ay,az,ba⟩:=zq4 ab.out;obtain⟨bb,bc,bd,be⟩:=zf4 ab.out)|((with_reducible refine Zs (N:=15) rfl ?_);(try(refine gate_guard (by rfl) ?_;dsimp only));refine Kd.R_lit (Kd.int .i64) _ 3 ?hg (N:=15) ?hd (xs:=([wrap64 (ae + ai)] :List Int)) (inner:=[.int .i64 (wrap64 (ae + ai))]) (ok:=fun _=>True) (okp:=fun _=>True) ?hr ?hp (fun _ hk=>hk) trivial (Below.refl _ _) (Nat.le_refl _) (by simp) ?_;(case hd=>rfl);(case hg=>rfl);(case hr=>first|(go_simp;done)|(go_simp;rfl));(case hp=>exact(Reps.one (show Kd.M (Kd.int .i64) _ _ _ (wrap64 (ae + ai)) [.int .i64 (wrap64 (ae + ai))] from rfl) (Reps.none _ _)));intro v400 w5 ho6 hb hg_ hnew_;clear hg_ hnew_;(first|rw [← aw.out] at ho6|(simp only [Int.reduceToNat] at ho6;rw [← aw.out] at ho6));have n0_:=Za.mk (Kd.R_lower ho6 (Zg (zH HB)));have n1_:=Za.mk (Zj (g:=aj) (zK ab) hb);have n2_:=Za.mk (Zh (zH HB) hb);clear ab;clear HB;have bp:=n0_;have ab:=n1_;have HB:=n2_;clear n0_ n1_ n2_;clear hb ho6)))
 go_loopg [6,18] k (fun kq v6 v18 w'=>∃(af:List Int) (aa:Int),v18= .int .i64 aa∧Za (Zr1.l0 kq af l1 (l1.length:Int) aa ae am ai ah=some (r1,r2))∧Za (kq≤k)∧Za (Kd.R (Kd.int .i64) 3 w' w.heap.size (fun _=>True) v6 af)∧Za (w'.heap[aj]? =some (.cells #[.int .i64 ae,.int .i64 am,.int .i64 ai,(.slice bi ah.length bj)] 24 (0,0)))∧Za (Below w.heap.size w w'))
 case atStart=>exact⟨(cu),(0),(by first|rfl|(simp;done)|(simp [*];done)),H',⟨Nat.le_refl _⟩,⟨zR bp⟩,⟨zK ab⟩,⟨zH HB⟩⟩
 case round=>
  (clear H');(try clear c1);(try clear p2);(try clear p6);(try clear ax ay az ba bb bc bd be);(obtain⟨af,aa,rfl,HA,dn,ag,ab,HB⟩:=hrel)
  cases gk with
  |zero=>exact absurd HA.out (by simp [Zr1.l0])
  |succ k1=>
   (have H:=HA.out);(clear HA);(simp only [Zr1.l0] at H)
   by_cases c7:aa < (l1.length:Int)
   rotate_left
   ·rw [if_neg c7] at H
    (have cw:decide (aa < (l1.length:Int))=false:=decide_eq_false c7);(clear c7);(simp only [Option.some.injEq,Prod.mk.injEq] at H);(obtain⟨rfl,rfl⟩:=H)
    go_wp2
    repeat(go_quiet (fail);try go_wp2)
    go_ret2
    exact⟨_,by first|rfl|(simp [Zl,Zk] <;> rfl)|(simp [*,Zl,Zk] <;> rfl),by (with_reducible repeat(first|apply Kd.R_alloc|apply Kd.R_drewN|apply Kd.R_drew));exact ag.out,zH HB⟩
   (rw [if_pos c7] at H);(have cw:decide (aa < (l1.length:Int))=true:=decide_eq_true c7);(clear c7)
   by_cases c8:0≤aa
   rotate_left
   ·rw [if_neg c8] at H
    exact absurd H (by simp)
   (rw [if_pos c8] at H);(have ia:decide (0≤aa)=true:=decide_eq_true c8);(clear c8)
   by_cases c9:aa < (l1.length:Int)
   rotate_left
   ·rw [if_neg c9] at H
    exact absurd H (by simp)
   (rw [if_pos c9] at H);(have ib:decide (aa < (l1.length:Int))=true:=decide_eq_true c9);(clear c9);(have H':=Za.mk H);(clear H);(have bt:0≤(aa:Int):=zD);(have bu:aa < (l1.length:Int):=zD);(obtain⟨ix,ic,bf⟩:=Kd.at_int je.out aa bt bu);(cases ic);(replace bf:=zX HB bf);(replace bt:=eq_true bt);(replace bu:=eq_true bu)
   go_wp2
   repeat(go_quiet (fail);try go_wp2)
   go_loopg [9] k1 (fun kq v9 w'=>∃(ac:Int),v9= .int .i64 ac∧Za (Zr1.l1 kq af (rd l1 aa) ac l1 (l1.length:Int) aa ae am ai ah=some (r1,r2))∧Za (kq≤k1)∧Za (Kd.R (Kd.int .i64) 3 w' w.heap.size (fun _=>True) u6 af)∧Za (w'.heap[aj]? =some (.cells #[.int .i64 ae,.int .i64 am,.int .i64 ai,(.slice bi ah.length bj)] 24 (0,0)))∧Za (Below w.heap.size w w'))
   case atStart=>exact⟨(0),(by first|rfl|(simp;done)|(simp [*];done)),H',⟨Nat.le_refl _⟩,⟨zR ag⟩,⟨zK ab⟩,⟨zH HB⟩⟩
   case round=>
    (clear H');(try clear c1);(try clear p2);(try clear p4);(try clear q4);(try clear jz);(try clear p6);(try clear cw);(try clear ia);(try clear ib);(try clear ax ay az ba bb bc bd be);(try clear bf);(try clear p2);(try clear bt);(try clear p6);(try clear bu);(obtain⟨ac,rfl,HA,dp,ag,ab,HB⟩:=hrel)
    cases gk with
    |zero=>exact absurd HA.out (by simp [Zr1.l1])
    |succ k2=>
     (have H:=HA.out);(clear HA);(simp only [Zr1.l1] at H)
     by_cases c10:ac < (af.length:Int)
     rotate_left
     ·rw [if_neg c10] at H
      (have cy:decide (ac < (af.length:Int))=false:=decide_eq_false c10);(clear c10)
      by_cases ce:ac=(af.length:Int)
      ·rw [if_pos ce] at H
       (have da:(ac == (af.length:Int))=true:=beq_iff_eq.mpr ce);(have db:(ac != (af.length:Int))=false:=bne_eq_false_iff_eq.mpr ce);(clear ce);(simp only [Option.some.injEq,Prod.mk.injEq] at H);(obtain⟨rfl,rfl⟩:=H);(obtain⟨jf,jg,ie⟩:=Kd.R_slice ag.out);(subst ie)
       go_wp2
       repeat(go_quiet (fail);try go_wp2)
       go_ret2
       exact⟨_,by first|rfl|(simp [Zl,Zk] <;> rfl)|(simp [*,Zl,Zk] <;> rfl),by first|exact Kd.R_nil _ _ _ _ _|exact Kd.N_nil _ _ _ _ _|exact Kd.V_nil _ _ _ _ _|exact Kd.Q_nil _ _ _ _ _|exact Kd.S_nil _ _ _ _ _|(go_simp;exact Kd.R_nil _ _ _ _ _),zH HB⟩
      (rw [if_neg ce] at H);(have da:(ac == (af.length:Int))=false:=beq_eq_false_iff_ne.mpr ce);(have db:(ac != (af.length:Int))=true:=bne_iff_ne.mpr ce)
      by_cases cm:(rd l1 aa) < 0
      ·rw [if_pos cm] at H
       (have dc:decide ((rd l1 aa) < 0)=true:=decide_eq_true cm);(clear cm);(simp only [Option.some.injEq,Prod.mk.injEq] at H);(obtain⟨rfl,rfl⟩:=H);(obtain⟨jh,ji,ig⟩:=Kd.R_slice ag.out);(subst ig)
       go_wp2
       repeat(go_quiet (fail);try go_wp2)
       go_ret2
       exact⟨_,by first|rfl|(simp [Zl,Zk] <;> rfl)|(simp [*,Zl,Zk] <;> rfl),by first|exact Kd.R_nil _ _ _ _ _|exact Kd.N_nil _ _ _ _ _|exact Kd.V_nil _ _ _ _ _|exact Kd.Q_nil _ _ _ _ _|exact Kd.S_nil _ _ _ _ _|(go_simp;exact Kd.R_nil _ _ _ _ _),zH HB⟩
      (rw [if_neg cm] at H);(have dc:decide ((rd l1 aa) < 0)=false:=decide_eq_false cm);(clear cm)
      by_cases cn:(rd l1 aa)≥(ah.length:Int)
      rotate_left
      ·rw [if_neg cn] at H
       (have dd:decide ((ah.length:Int)≤(rd l1 aa))=false:=decide_eq_false cn);(clear cn)
       by_cases iy:0≤ac
       ·rw [if_pos iy] at H
        exact absurd H (by simp)
       rw [if_neg iy] at H
       exact absurd H (by simp)
      (rw [if_pos cn] at H);(have dd:decide ((ah.length:Int)≤(rd l1 aa))=true:=decide_eq_true cn);(clear cn);(simp only [Option.some.injEq,Prod.mk.injEq] at H);(obtain⟨rfl,rfl⟩:=H);(obtain⟨jj,jk,ii⟩:=Kd.R_slice ag.out);(subst ii);(obtain⟨dq,dr,dt,du⟩:=zq4 ab.out);(obtain⟨dv,dw,dx,dy⟩:=zf4 ab.out)
      go_wp2
      repeat(go_quiet (fail);try go_wp2)
      go_ret2
      exact⟨_,by first|rfl|(simp [Zl,Zk] <;> rfl)|(simp [*,Zl,Zk] <;> rfl),by first|exact Kd.R_nil _ _ _ _ _|exact Kd.N_nil _ _ _ _ _|exact Kd.V_nil _ _ _ _ _|exact Kd.Q_nil _ _ _ _ _|exact Kd.S_nil _ _ _ _ _|(go_simp;exact Kd.R_nil _ _ _ _ _),zH HB⟩
     (rw [if_pos c10] at H);(have cy:decide (ac < (af.length:Int))=true:=decide_eq_true c10);(clear c10)
     by_cases dz:0≤ac
     rotate_left
     ·rw [if_neg dz] at H
      exact absurd H (by simp)
     (rw [if_pos dz] at H);(have iz:decide (0≤ac)=true:=decide_eq_true dz);(clear dz)
     by_cases co:(rd af ac) < ae
     ·rw [if_pos co] at H
      (have de:decide ((rd af ac) < ae)=true:=decide_eq_true co);(clear co);(have H':=Za.mk H);(clear H);(obtain⟨jl,jm,ik⟩:=Kd.R_slice ag.out);(subst ik);(have ak:0≤(ac:Int):=zD);(have al:ac < (af.length:Int):=zD);(obtain⟨au,av,an⟩:=Kd.at_int (Kd.R_reads' ag.out).2.2 ac ak al);(cases av);(replace ak:=eq_true ak);(replace al:=eq_true al);(obtain⟨ea,ec,ee,ef⟩:=zq4 ab.out);(obtain⟨eh,ei,ek,eo⟩:=zf4 ab.out)
      go_wp2
      repeat(go_quiet (fail);try go_wp2)
      go_roundg k2
      case measure=>have:=dn.out;have:=dp.out;omega
      case rel=>exact⟨(wrap64 (ac + 1)),(by first|rfl|(simp;done)|(simp [*];done)),H',⟨by have:=dn.out;have:=dp.out;omega⟩,⟨zR ag⟩,⟨zK ab⟩,⟨zH HB⟩⟩
     (rw [if_neg co] at H);(have de:decide ((rd af ac) < ae)=false:=decide_eq_false co);(clear co)
     by_cases cf:ac=(af.length:Int)
     ·rw [if_pos cf] at H
      (have df:(ac == (af.length:Int))=true:=beq_iff_eq.mpr cf);(have dg:(ac != (af.length:Int))=false:=bne_eq_false_iff_eq.mpr cf);(clear cf);(simp only [Option.some.injEq,Prod.mk.injEq] at H);(obtain⟨rfl,rfl⟩:=H);(obtain⟨jn,jo,il⟩:=Kd.R_slice ag.out);(subst il);(have ak:0≤(ac:Int):=zD);(have al:ac < (af.length:Int):=zD);(obtain⟨au,av,an⟩:=Kd.at_int (Kd.R_reads' ag.out).2.2 ac ak al);(cases av);(replace ak:=eq_true ak);(replace al:=eq_true al);(obtain⟨es,eu,ey,ez⟩:=zq4 ab.out);(obtain⟨fa,fb,fc,fd⟩:=zf4 ab.out)
      go_wp2
      repeat(go_quiet (fail);try go_wp2)
      go_ret2
      exact⟨_,by first|rfl|(simp [Zl,Zk] <;> rfl)|(simp [*,Zl,Zk] <;> rfl),by first|exact Kd.R_nil _ _ _ _ _|exact Kd.N_nil _ _ _ _ _|exact Kd.V_nil _ _ _ _ _|exact Kd.Q_nil _ _ _ _ _|exact Kd.S_nil _ _ _ _ _|(go_simp;exact Kd.R_nil _ _ _ _ _),zH HB⟩
     (rw [if_neg cf] at H);(have df:(ac == (af.length:Int))=false:=beq_eq_false_iff_ne.mpr cf);(have dg:(ac != (af.length:Int))=true:=bne_iff_ne.mpr cf)
     by_cases cp:(rd l1 aa) < 0
     ·rw [if_pos cp] at H
      (have dh:decide ((rd l1 aa) < 0)=true:=decide_eq_true cp);(clear cp);(simp only [Option.some.injEq,Prod.mk.injEq] at H);(obtain⟨rfl,rfl⟩:=H);(obtain⟨jp,jq,io⟩:=Kd.R_slice ag.out);(subst io);(have ak:0≤(ac:Int):=zD);(have al:ac < (af.length:Int):=zD);(obtain⟨au,av,an⟩:=Kd.at_int (Kd.R_reads' ag.out).2.2 ac ak al);(cases av);(replace ak:=eq_true ak);(replace al:=eq_true al);(obtain⟨fe,ff,fg,fh⟩:=zq4 ab.out);(obtain⟨fi,fj,fk,fm⟩:=zf4 ab.out)
      go_wp2
      repeat(go_quiet (fail);try go_wp2)
      go_ret2
      exact⟨_,by first|rfl|(simp [Zl,Zk] <;> rfl)|(simp [*,Zl,Zk] <;> rfl),by first|exact Kd.R_nil _ _ _ _ _|exact Kd.N_nil _ _ _ _ _|exact Kd.V_nil _ _ _ _ _|exact Kd.Q_nil _ _ _ _ _|exact Kd.S_nil _ _ _ _ _|(go_simp;exact Kd.R_nil _ _ _ _ _),zH HB⟩
     (rw [if_neg cp] at H);(have dh:decide ((rd l1 aa) < 0)=false:=decide_eq_false cp);(clear cp)
     by_cases cq:(rd l1 aa)≥(ah.length:Int)
     ·rw [if_pos cq] at H
      (have di:decide ((ah.length:Int)≤(rd l1 aa))=true:=decide_eq_true cq);(clear cq);(simp only [Option.some.injEq,Prod.mk.injEq] at H);(obtain⟨rfl,rfl⟩:=H);(obtain⟨jr,js,ip⟩:=Kd.R_slice ag.out);(subst ip);(have ak:0≤(ac:Int):=zD);(have al:ac < (af.length:Int):=zD);(obtain⟨au,av,an⟩:=Kd.at_int (Kd.R_reads' ag.out).2.2 ac ak al);(cases av);(replace ak:=eq_true ak);(replace al:=eq_true al);(obtain⟨fo,fp,fq,ft⟩:=zq4 ab.out);(obtain⟨fu,fv,fw,fx⟩:=zf4 ab.out)
      go_wp2
      repeat(go_quiet (fail);try go_wp2)
      go_ret2
      exact⟨_,by first|rfl|(simp [Zl,Zk] <;> rfl)|(simp [*,Zl,Zk] <;> rfl),by first|exact Kd.R_nil _ _ _ _ _|exact Kd.N_nil _ _ _ _ _|exact Kd.V_nil _ _ _ _ _|exact Kd.Q_nil _ _ _ _ _|exact Kd.S_nil _ _ _ _ _|(go_simp;exact Kd.R_nil _ _ _ _ _),zH HB⟩
     (rw [if_neg cq] at H);(have di:decide ((ah.length:Int)≤(rd l1 aa))=false:=decide_eq_false cq);(clear cq)
     by_cases fy:0≤(rd l1 aa)
     rotate_left
     ·rw [if_neg fy] at H
      exact absurd H (by simp)
     (rw [if_pos fy] at H);(have ja:decide (0≤(rd l1 aa))=true:=decide_eq_true fy);(clear fy)
     by_cases fz:(rd l1 aa) < (ah.length:Int)
     rotate_left
     ·rw [if_neg fz] at H
      exact absurd H (by simp)
     (rw [if_pos fz] at H);(have jb:decide ((rd l1 aa) < (ah.length:Int))=true:=decide_eq_true fz);(clear fz)
     by_cases cg:(rd af ac)=(wrap64 (ae + ((Zb ah (rd l1 aa)).f0)))
     rotate_left
     ·rw [if_neg cg] at H
      (have dj:((rd af ac) == (wrap64 (ae + ((Zb ah (rd l1 aa)).f0))))=false:=beq_eq_false_iff_ne.mpr cg);(have dk:((rd af ac) != (wrap64 (ae + ((Zb ah (rd l1 aa)).f0))))=true:=bne_iff_ne.mpr cg);(simp only [Option.some.injEq,Prod.mk.injEq] at H);(obtain⟨rfl,rfl⟩:=H);(obtain⟨jt,ju,iq⟩:=Kd.R_slice ag.out);(subst iq);(have ak:0≤(ac:Int):=zD);(have al:ac < (af.length:Int):=zD);(obtain⟨au,av,an⟩:=Kd.at_int (Kd.R_reads' ag.out).2.2 ac ak al);(cases av);(replace ak:=eq_true ak);(replace al:=eq_true al);(obtain⟨ga,gc,gh,gi⟩:=zq4 ab.out);(obtain⟨gj,gl,gm,gn⟩:=zf4 ab.out);(have bk:0≤(ac:Int):=zD);(have bl:ac < (af.length:Int):=zD);(obtain⟨bq,ch,bv⟩:=Kd.at_int (Kd.R_reads' ag.out).2.2 ac bk bl);(obtain rfl:au=bq:=(by injection ch));(replace bk:=eq_true bk)
      (replace bl:=eq_true bl);(have bm:0≤((rd l1 aa):Int):=zD);(have bn:(rd l1 aa) < (ah.length:Int):=zD);(obtain⟨dl,ci,cj,ck,ao,ap,aq,ar⟩:=at_T41 bg.out (rd l1 aa) bm bn);(cases ck);(replace ao:=zX HB ao);(replace ap:=zX HB ap);(have bw:=Za.mk ar);(have bx:=Za.mk aq);(clear ar aq);(replace bm:=eq_true bm);(replace bn:=eq_true bn)
      go_wp2
      repeat(go_quiet (fail);try go_wp2)
      go_ret2
      exact⟨_,by first|rfl|(simp [Zl,Zk] <;> rfl)|(simp [*,Zl,Zk] <;> rfl),by first|exact Kd.R_nil _ _ _ _ _|exact Kd.N_nil _ _ _ _ _|exact Kd.V_nil _ _ _ _ _|exact Kd.Q_nil _ _ _ _ _|exact Kd.S_nil _ _ _ _ _|(go_simp;exact Kd.R_nil _ _ _ _ _),zH HB⟩
     (rw [if_pos cg] at H);(have dj:((rd af ac) == (wrap64 (ae + ((Zb ah (rd l1 aa)).f0))))=true:=beq_iff_eq.mpr cg);(have dk:((rd af ac) != (wrap64 (ae + ((Zb ah (rd l1 aa)).f0))))=false:=bne_eq_false_iff_eq.mpr cg);(clear cg);(replace H:=Option.bind_eq_some_iff.mp H);(obtain⟨br,dm,H⟩:=H);(replace H:(Zr1.l0 k2 br l1 (l1.length:Int) (wrap64 (aa + 1)) ae am ai ah)=some (r1,r2):=H);(have ir:=Za.mk dm);(clear dm);(have H':=Za.mk H);(clear H);(obtain⟨jv,jw,iu⟩:=Kd.R_slice ag.out);(subst iu);(have ak:0≤(ac:Int):=zD);(have al:ac < (af.length:Int):=zD);(obtain⟨au,av,an⟩:=Kd.at_int (Kd.R_reads' ag.out).2.2 ac ak al);(cases av);(replace ak:=eq_true ak);(replace al:=eq_true al);(obtain⟨gp,gq,gu,gv⟩:=zq4 ab.out);(obtain⟨gw,gx,gy,gz⟩:=zf4 ab.out);(have bk:0≤(ac:Int):=zD)
     (have bl:ac < (af.length:Int):=zD);(obtain⟨bq,ch,bv⟩:=Kd.at_int (Kd.R_reads' ag.out).2.2 ac bk bl);(obtain rfl:au=bq:=(by injection ch));(replace bk:=eq_true bk);(replace bl:=eq_true bl);(have bm:0≤((rd l1 aa):Int):=zD);(have bn:(rd l1 aa) < (ah.length:Int):=zD);(obtain⟨dl,ci,cj,ck,ao,ap,aq,ar⟩:=at_T41 bg.out (rd l1 aa) bm bn);(cases ck);(replace ao:=zX HB ao);(replace ap:=zX HB ap);(have bw:=Za.mk ar);(have bx:=Za.mk aq);(clear ar aq);(replace bm:=eq_true bm);(replace bn:=eq_true bn)
     go_wp2_with (first|(go_at_call 18;(with_reducible refine(Zi2.calls ae am ai _ _ ah _ _ af ac (rd l1 aa) br _ ?side1 ?side2 ?side3 ?side4 ir.out).mono ?_);(case side1=>exact zC bg HB);(case side2=>exact bo.out);(case side3=>repeat(first|exact(Kd.R_reads' ag.out).2.2|(with_reducible refine Kd.C_alloc ?_ _)|(with_reducible refine Kd.C_drewN ?_ _)|(with_reducible refine Kd.C_drew ?_)));(case side4=>exact(Kd.R_reads' ag.out).2.1);rintro e jc ⟨v407,rfl,ho0,hb⟩;have bs:=Za.mk (Kd.R_lower (Kd.R_new' ho0 (Kd.R_lt (zR ag))) (Zg (zH HB)));replace ag:=Za.mk (Kd.R_elder' (zR ag) (Kd.R_base ho0) hb);replace ab:=Za.mk (Zj (g:=aj) (zK ab) hb);replace HB:=Za.mk (Zh (zH HB) hb);(try clear hb);(try clear hb2);(try clear hk);(try clear hi);(try clear ho0)))
     repeat(go_quiet (first|(go_at_call 18;(with_reducible refine(Zi2.calls ae am ai _ _ ah _ _ af ac (rd l1 aa) br _ ?side1 ?side2 ?side3 ?side4 ir.out).mono ?_);(case side1=>exact zC bg HB);(case side2=>exact bo.out);(case side3=>repeat(first|exact(Kd.R_reads' ag.out).2.2|(with_reducible refine Kd.C_alloc ?_ _)|(with_reducible refine Kd.C_drewN ?_ _)|(with_reducible refine Kd.C_drew ?_)));(case side4=>exact(Kd.R_reads' ag.out).2.1);rintro e jc ⟨v407,rfl,ho0,hb⟩;have bs:=Za.mk (Kd.R_lower (Kd.R_new' ho0 (Kd.R_lt (zR ag))) (Zg (zH HB)));replace ag:=Za.mk (Kd.R_elder' (zR ag) (Kd.R_base ho0) hb);replace ab:=Za.mk (Zj (g:=aj) (zK ab) hb);replace HB:=Za.mk (Zh (zH HB) hb);(try clear hb);(try clear hb2);(try clear hk);(try clear hi);(try clear ho0)));try go_wp2_with (first|(go_at_call 18;(with_reducible refine(Zi2.calls ae am ai _ _ ah _ _ af ac (rd l1 aa) br _ ?side1 ?side2 ?side3 ?side4 ir.out).mono ?_);(case side1=>exact zC bg HB);(case side2=>exact bo.out);(case side3=>repeat(first|exact(Kd.R_reads' ag.out).2.2|(with_reducible refine Kd.C_alloc ?_ _)|(with_reducible refine Kd.C_drewN ?_ _)|(with_reducible refine Kd.C_drew ?_)));(case side4=>exact(Kd.R_reads' ag.out).2.1);rintro e jc ⟨v407,rfl,ho0,hb⟩;have n0_:=Za.mk (Kd.R_elder' (zR ag) (Kd.R_base ho0) hb);have n1_:=Za.mk (Kd.R_lower (Kd.R_new' ho0 (Kd.R_lt (zR ag))) (Zg (zH HB)));have n2_:=Za.mk (Zj (g:=aj) (zK ab) hb);have n3_:=Za.mk (Zh (zH HB) hb);clear ag;clear ab;clear HB;have ag:=n0_;have bs:=n1_;have ab:=n2_;have HB:=n3_;clear n0_ n1_ n2_ n3_;(try clear hb);(try clear hb2);(try clear hk);(try clear hi);(try clear ho0))))
     go_roundg k2
     case measure=>have:=dn.out;have:=dp.out;omega
     case rel=>exact⟨(br),(wrap64 (aa + 1)),(by first|rfl|(simp;done)|(simp [*];done)),H',⟨by have:=dn.out;have:=dp.out;omega⟩,⟨by (with_reducible repeat(first|apply Kd.R_alloc|apply Kd.R_drewN|apply Kd.R_drew));exact Kd.R_mono bs.out (fun _ hk=>trivial)⟩,⟨zK ab⟩,⟨zH HB⟩⟩
end Go.Proofs.Ytbifocddbgleeaa.PAheadParses
