-- By a program.
import Derived.Test.YtbifocddbgleeaaQPAheadParsesx0
import Derived.Test.YtbifocddbgleeaaQPAheadParsesx5
import Derived.Test.YtbifocddbgleeaaQPAheadParsesx6
import Derived.Test.YtbifocddbgleeaaQPAheadParsesx8
namespace Go.Proofs.Ytbifocddbgleeaa.PAheadParses
set_option maxHeartbeats 8000000
set_option maxRecDepth 100000
open Go.RowKit Go.Proofs.YtbifocddbgleeaaW.PrintWords Go.Proofs.YtbifocddbgleeaaW.PrintLast Go.Proofs.YtbifocddbgleeaaW.PrintMore
attribute [local go_sem] max2_int min2_int max_two min_two max_three min_three max_four min_four
set_option linter.unusedVariables false
set_option linter.unusedSimpArgs false
def Zu1.l0:Nat→Int→List Int→List Int→List Int→List (S41)→Int→Int→Int→Int→Int→List (S41)→Option (List Int)
  |0,_,_,_,_,_,_,_,_,_,_,_=>none
  |k + 1,x3,x4,x5,x6,x21,x22,x23,x209000,x209001,x209002,x209003=>if x23 < x22 then(if 0≤x23 then(if x23 < (x21.length:Int) then((Zm1.f k x209000 x209001 x209002 x209003 x4 x3 ((Zb x21 x23).f1)).bind fun bt218=>(if bt218.2=true then(if 0≤((Zb x21 x23).f0) then(if((Zb x21 x23).f0) < (x5.length:Int) then(if x6.length < 35184372088832 then(Zu1.l0 k x3 x4 x5 (x6++[Go.bits .or .u32 bt218.1 (rd x5 ((Zb x21 x23).f0))]) x21 x22 (wrap64 (x23 + 1)) x209000 x209001 x209002 x209003) else(none)) else(none)) else(none)) else(if x6.length < 35184372088832 then(Zu1.l0 k x3 x4 x5 (x6++[bt218.1]) x21 x22 (wrap64 (x23 + 1)) x209000 x209001 x209002 x209003) else(none)))) else(none)) else(none)) else(some x6)
def Zu1.f (k:Nat) (a0_0:Int) (a0_1:Int) (a0_2:Int) (l0_3:List (S41)):Option (List Int):=(Zt1.f k a0_0 a0_1 a0_2 l0_3 false).bind fun t209=>((Zn1.f k a0_0 a0_1 a0_2 l0_3 t209).bind fun t210=>((Zp.f k a0_0 a0_1 a0_2 l0_3 t210 t209).bind fun t213=>(Zu1.l0 k t209 t210 t213 ([] :List Int) l0_3 (l0_3.length:Int) 0 a0_0 a0_1 a0_2 l0_3)))
theorem Zu1.mono_l: ∀k,(∀y0 y1 y2 y3 y4 y5 y6 y7 y8 y9 y10,LeO (Zu1.l0 k y0 y1 y2 y3 y4 y5 y6 y7 y8 y9 y10) (Zu1.l0 (k + 1) y0 y1 y2 y3 y4 y5 y6 y7 y8 y9 y10))
  |0=>fun _ _ _ _ _ _ _ _ _ _ _ r h=>by simp [Zu1.l0] at h
  |k + 1=>by
    have ih0:=Zu1.mono_l k
    · intro y0 y1 y2 y3 y4 y5 y6 y7 y8 y9 y10
      unfold Zu1.l0
      repeat' (with_reducible first|apply ih0|apply Zm1.mono|apply Zn1.mono|apply Zp.mono|apply Zt1.mono|exact LeO.refl _|exact LeO.none _|refine LeO.ite ?_ ?_|refine LeO.bind ?_ (fun _=>?_))
theorem Zu1.mono: ∀a0 a1 a2 a3 k,LeO (Zu1.f k a0 a1 a2 a3) (Zu1.f (k + 1) a0 a1 a2 a3):=by
  intro a0 a1 a2 a3 k
  have ih0:=Zu1.mono_l k
  unfold Zu1.f
  repeat' (with_reducible first|apply ih0|apply Zm1.mono|apply Zn1.mono|apply Zp.mono|apply Zt1.mono|exact LeO.refl _|exact LeO.none _|refine LeO.ite ?_ ?_|refine LeO.bind ?_ (fun _=>?_))
theorem Zu1.calls (k : Nat) (ag : Int) (ah : Int) (ai : Int) (bn : Option Addr) (aw : Nat) (aa : List (S41)) (r : List Int) (w : World) (ci : Kd.C k41 w bn aa.length aa) (cj : aa.length ≤ aw) (h : Zu1.f k ag ah ai aa = some r) :
    Calls Try.prog 11 #[.agg #[.int .i64 ag,.int .i64 ah,.int .i64 ai,.slice bn aa.length aw]] w fun e w'=>∃v0_:Value,e= .returned (v0_)∧Kd.R (Kd.int .u32) 42 w' w.heap.size (fun _=>True) v0_ r∧Below w.heap.size w w':=by
 (have il:=Try.underlying24);(have io:=Try.underlying41);(have ir:=Try.underlying3);(have ip:=Try.underlying42);(have bf:=Za.mk ci);(have bk:=Za.mk cj);(clear ci cj);(have HB:=Za.mk (Below.refl w.heap.size w));(have H:((Zt1.f k ag ah ai aa false).bind fun ap=>((Zn1.f k ag ah ai aa ap).bind fun aj=>((Zp.f k ag ah ai aa aj ap).bind fun al=>(Zu1.l0 k ap aj al ([] :List Int) aa (aa.length:Int) 0 ag ah ai aa))))=some r:=h);(clear h);(replace H:=Option.bind_eq_some_iff.mp H);(obtain⟨ap,gq,H⟩:=H);(replace H:((Zn1.f k ag ah ai aa ap).bind fun aj=>((Zp.f k ag ah ai aa aj ap).bind fun al=>(Zu1.l0 k ap aj al ([] :List Int) aa (aa.length:Int) 0 ag ah ai aa)))=some r:=H);(have A2:=Za.mk gq);(clear gq);(replace H:=Option.bind_eq_some_iff.mp H);(obtain⟨aj,gu,H⟩:=H);(replace H:((Zp.f k ag ah ai aa aj ap).bind fun al=>(Zu1.l0 k ap aj al ([] :List Int) aa (aa.length:Int) 0 ag ah ai aa))=some r:=H);(have A3:=Za.mk gu);(clear gu);(replace H:=Option.bind_eq_some_iff.mp H);(obtain⟨al,gv,H⟩:=H);(replace H:(Zu1.l0 k ap aj al ([] :List Int) aa (aa.length:Int) 0 ag ah ai aa)=some r:=H);(have A4:=Za.mk gv);(clear gv);(have H':=Za.mk H);(clear H)
 go_enter Try.func11,Try.ntmps11
 go_wp2_with (first|((with_reducible refine Zs (N:=1) rfl ?_);refine Zx ?hg (N:=1) ?hd (cs:=#[.int .i64 ag,.int .i64 ah,.int .i64 ai,.slice bn aa.length aw]) (t:=24) ?hr ?_;(case hd=>rfl);(case hg=>rfl);(case hr=>first|(go_simp;done)|(go_simp;rfl));intro ak hg w5 hbox hb;have ac:=Za.mk (hbox);have gw:=Za.mk ((by rw [hg];exact(Zg (zH HB)):w.heap.size≤ak));have gx:=Za.mk ((by rw [hg];exact(Zg (zH HB)):w.heap.size≤ak));replace HB:=Za.mk (Zh (zH HB) hb);clear hb hbox hg;obtain⟨cm,cn,co,cp⟩:=zq4 ac.out;obtain⟨cq,cu,cw,cy⟩:=zf4 ac.out)|((with_reducible refine Zl1 (f:=20) rfl ?_);refine goesL_ (some 12) rfl rfl Try.func20 (by kernel_rfl) rfl #[.agg #[.int .i64 ag,.int .i64 ah,.int .i64 ai,.slice bn aa.length aw],.bool false] rfl (by (try simp only [List.map_toArray,List.map_cons,List.map_nil]);first|done|rfl|(simp only [List.length_drop,List.length_take];rfl)) ?_;(with_reducible refine(Zt1.calls k ag ah ai _ _ aa false ap _ ?side1 ?side2 A2.out).mono ?_);(case side1=>exact zC bf HB);(case side2=>exact bk.out);rintro e w7 ⟨rfl,hb⟩;refine⟨_,rfl,?_⟩;replace ac:=Za.mk (Zj (g:=ak) (zK ac) hb);replace HB:=Za.mk (Zh (zH HB) hb);(try clear hb);(try clear hb2);(try clear hk);(try clear hi);obtain⟨da,db,dc,dd⟩:=zq4 ac.out;obtain⟨de,df,dg,dh⟩:=zf4 ac.out)|((with_reducible refine Zl1 (f:=21) rfl ?_);refine goesL_ (some 15) rfl rfl Try.func21 (by kernel_rfl) rfl #[.agg #[.int .i64 ag,.int .i64 ah,.int .i64 ai,.slice bn aa.length aw],.int .u32 ap] rfl (by (try simp only [List.map_toArray,List.map_cons,List.map_nil]);first|done|rfl|(simp only [List.length_drop,List.length_take];rfl)) ?_;(with_reducible refine(Zn1.calls k ag ah ai _ _ aa ap aj _ ?side1 ?side2 A3.out).mono ?_);(case side1=>exact zC bf HB);(case side2=>exact bk.out);rintro e w9 ⟨v211,rfl,ho0,hb⟩;refine⟨_,rfl,?_⟩;have bg:=Za.mk (Kd.R_lower ho0 (Zg (zH HB)));replace ac:=Za.mk (Zj (g:=ak) (zK ac) hb);replace HB:=Za.mk (Zh (zH HB) hb);(try clear hb);(try clear hb2);(try clear hk);(try clear hi);(try clear ho0);obtain⟨bq,br,bs,bt⟩:=zq4 ac.out;obtain⟨bu,bv,bw,bx⟩:=zf4 ac.out;obtain⟨bh,bd,gm⟩:=Kd.R_slice bg.out;subst gm)|((with_reducible refine Zl1 (f:=22) rfl ?_);refine goesL_ (some 19) rfl rfl Try.func22 (by kernel_rfl) rfl #[.agg #[.int .i64 ag,.int .i64 ah,.int .i64 ai,.slice bn aa.length aw],.slice bh aj.length bd,.int .u32 ap] rfl (by (try simp only [List.map_toArray,List.map_cons,List.map_nil]);first|done|rfl|(simp only [List.length_drop,List.length_take];rfl)) ?_;(with_reducible refine(Zp.calls k ag ah ai _ _ aa _ _ aj ap al _ ?side1 ?side2 ?side3 ?side4 A4.out).mono ?_);(case side1=>exact zC bf HB);(case side2=>exact bk.out);(case side3=>repeat(first|exact(Kd.R_reads' bg.out).2.2|(with_reducible refine Kd.C_alloc ?_ _)|(with_reducible refine Kd.C_drewN ?_ _)|(with_reducible refine Kd.C_drew ?_)));(case side4=>exact(Kd.R_reads' bg.out).2.1);rintro e iu ⟨v214,rfl,ho0,hb⟩;refine⟨_,rfl,?_⟩;have dm:=Za.mk (Kd.R_lower (Kd.R_new' ho0 (Kd.R_lt (zR bg))) (Zg (zH HB)));replace bg:=Za.mk (Kd.R_elder' (zR bg) (Kd.R_base ho0) hb);replace ac:=Za.mk (Zj (g:=ak) (zK ac) hb);replace HB:=Za.mk (Zh (zH HB) hb);(try clear hb);(try clear hb2);(try clear hk);(try clear hi);(try clear ho0);obtain⟨bz,ca,cb,cd⟩:=zq4 ac.out;obtain⟨ce,cf,cg,ch⟩:=zf4 ac.out))
 go_loopg [6,23] k (fun kq v6 v23 w'=>∃(au:List Int) (ab:Int),v23= .int .i64 ab∧Za (Zu1.l0 kq ap aj al au aa (aa.length:Int) ab ag ah ai aa=some r)∧Za (kq≤k)∧Za (Kd.R (Kd.int .u32) 42 w' w.heap.size (fun k_=>some k_≠(v214:Value).ownBlock∧some k_≠(v6:Value).ownBlock) (.slice bh aj.length bd) aj)∧Za (Kd.R (Kd.int .u32) 42 w' w.heap.size (fun k_=>some k_≠((.slice bh aj.length bd):Value).ownBlock∧some k_≠(v6:Value).ownBlock) v214 al)∧Za (Kd.R (Kd.int .u32) 42 w' w.heap.size (fun k_=>some k_≠((.slice bh aj.length bd):Value).ownBlock∧some k_≠(v214:Value).ownBlock) v6 au)∧Za (w'.heap[ak]? =some (.cells #[.int .i64 ag,.int .i64 ah,.int .i64 ai,(.slice bn aa.length aw)] 24 (0,0)))∧Za (Below w.heap.size w w'))
 case atStart=>exact⟨(([] :List Int)),(0),(by first|rfl|(simp;done)|(simp [*];done)),H',⟨Nat.le_refl _⟩,⟨by (with_reducible repeat(first|apply Kd.R_alloc|apply Kd.R_drewN|apply Kd.R_drew));exact Kd.R_mono bg.out (fun _ hk=>⟨hk.2,(by simp [Value.ownBlock])⟩)⟩,⟨by (with_reducible repeat(first|apply Kd.R_alloc|apply Kd.R_drewN|apply Kd.R_drew));exact Kd.R_mono dm.out (fun _ hk=>⟨hk.2,(by simp [Value.ownBlock])⟩)⟩,⟨by first|exact Kd.R_nil _ _ _ _ _|exact Kd.N_nil _ _ _ _ _|exact Kd.V_nil _ _ _ _ _|exact Kd.Q_nil _ _ _ _ _|exact Kd.S_nil _ _ _ _ _|(go_simp;exact Kd.R_nil _ _ _ _ _)⟩,⟨zK ac⟩,⟨zH HB⟩⟩
 case round=>
  (clear H');(try clear c1);(try clear c2);(try clear p2);(try clear iv);(try clear bq br bs bt bz ca cb cd cm cn co cp da db dc dd bu bv bw bx ce cf cg ch cq cu cw cy de df dg dh);(obtain⟨au,ab,rfl,HA,ef,aq,ar,av,ac,HB⟩:=hrel)
  cases gk with
  |zero=>exact absurd HA.out (by simp [Zu1.l0])
  |succ k1=>
   (have H:=HA.out);(clear HA);(simp only [Zu1.l0] at H)
   by_cases dl:ab < (aa.length:Int)
   rotate_left
   ·rw [if_neg dl] at H
    (have dn:decide (ab < (aa.length:Int))=false:=decide_eq_false dl);(clear dl);(obtain rfl:=Option.some.inj H)
    go_wp2
    go_ret
    exact⟨_,by first|rfl|(simp [Zl,Zk] <;> rfl)|(simp [*,Zl,Zk] <;> rfl),by (with_reducible repeat(first|apply Kd.R_alloc|apply Kd.R_drewN|apply Kd.R_drew));exact Kd.R_mono av.out (fun _ hk=>trivial),zH HB⟩
   (rw [if_pos dl] at H);(have dn:decide (ab < (aa.length:Int))=true:=decide_eq_true dl);(clear dl)
   by_cases eh:0≤ab
   rotate_left
   ·rw [if_neg eh] at H
    exact absurd H (by simp)
   (rw [if_pos eh] at H);(have gy:decide (0≤ab)=true:=decide_eq_true eh);(clear eh)
   by_cases ei:ab < (aa.length:Int)
   rotate_left
   ·rw [if_neg ei] at H
    exact absurd H (by simp)
   (rw [if_pos ei] at H);(have gz:decide (ab < (aa.length:Int))=true:=decide_eq_true ei);(clear ei);(replace H:=Option.bind_eq_some_iff.mp H);(obtain⟨⟨be,dp⟩,dq,H⟩:=H);(replace H:(if dp=true then(if 0≤((Zb aa ab).f0) then(if((Zb aa ab).f0) < (al.length:Int) then(if au.length < 35184372088832 then(Zu1.l0 k1 ap aj al (au++[Go.bits .or .u32 be (rd al ((Zb aa ab).f0))]) aa (aa.length:Int) (wrap64 (ab + 1)) ag ah ai aa) else(none)) else(none)) else(none)) else(if au.length < 35184372088832 then(Zu1.l0 k1 ap aj al (au++[be]) aa (aa.length:Int) (wrap64 (ab + 1)) ag ah ai aa) else(none)))=some r:=H);(have ia:=Za.mk dq);(clear dq)
   by_cases ek:dp=true
   rotate_left
   ·replace ek:=Bool.eq_false_iff.mpr ek
    (subst ek);(have H1:(if au.length < 35184372088832 then(Zu1.l0 k1 ap aj al (au++[be]) aa (aa.length:Int) (wrap64 (ab + 1)) ag ah ai aa) else(none))=some r:=by rw [if_neg (show ¬ (false=true) by decide)] at H;exact H);(clear H);(have H:=H1);(clear H1)
    by_cases eo:au.length < 35184372088832
    rotate_left
    ·rw [if_neg eo] at H
     exact absurd H (by simp)
    (rw [if_pos eo] at H);(have dr:=Za.mk eo);(clear eo);(obtain⟨dt,bl⟩ : ∃y_:List Int,y_=(au++[be]):=⟨_,rfl⟩);(replace H:(Zu1.l0 k1 ap aj al dt aa (aa.length:Int) (wrap64 (ab + 1)) ag ah ai aa)=some r:=by first|(rw [bl];with_reducible exact H)|(have H2_:=(Option.bind_some _ _).symm.trans H;rw [bl];with_reducible exact H2_)|(have H2_:=(Option.bind_some _ _).symm.trans H;with_reducible exact H2_)|with_reducible exact H|(rw [bl];exact H)|exact H);(have du:=Za.mk bl);(clear bl);(have H':=Za.mk H);(clear H);(have bo:0≤(ab:Int):=zD);(have bp:ab < (aa.length:Int):=zD);(obtain⟨ax,am,an,di,ay,az,ba,bb⟩:=at_T41 bf.out ab bo bp);(cases di);(replace ay:=zX HB ay);(replace az:=zX HB az);(have bi:=Za.mk bb);(have bj:=Za.mk ba);(clear bb ba);(replace bo:=eq_true bo);(replace bp:=eq_true bp)
    go_wp2_with (first|((with_reducible refine Zs (N:=8) rfl ?_);refine Zx ?hg (N:=8) ?hd (cs:=#[.int .i64 0,.slice none 0 0]) (t:=41) ?hr ?_;(case hd=>rfl);(case hg=>rfl);(case hr=>first|(go_simp;done)|(go_simp;rfl));intro ae hg iw hbox hb;replace aq:=Za.mk (Kd.R_below (zR aq) hb);replace ar:=Za.mk (Kd.R_below (zR ar) hb);replace av:=Za.mk (Kd.R_below (zR av) hb);have af:=Za.mk (hbox);have dv:=Za.mk ((by rw [hg];exact(Zg (zH HB)):w.heap.size≤ae));have dw:=Za.mk ((by rw [hg];exact(Zg (zH HB)):w.heap.size≤ae));replace HB:=Za.mk (Zh (zH HB) hb);have ao:=Za.mk ((by rw [hg];exact Nat.ne_of_lt (Zu (g:=ak) (o:= .cells #[.int .i64 ag,.int .i64 ah,.int .i64 ai,.slice (some ax) aa.length aw] 24 (0,0)) (zK ac)):ak≠ae));have bc:=Za.mk ((by rw [hg];exact Nat.ne_of_gt (Zu (g:=ak) (o:= .cells #[.int .i64 ag,.int .i64 ah,.int .i64 ai,.slice (some ax) aa.length aw] 24 (0,0)) (zK ac)):ae≠ak));replace ac:=Za.mk (Zj (g:=ak) (zK ac) hb);clear hb hbox hg;have ib:=bc.out;have ic:=ao.out;obtain⟨es,eu⟩:=zq2 af.out;obtain⟨ey,ez⟩:=zf2 af.out;obtain⟨fa,fb,fc,fd⟩:=zq4 ac.out;obtain⟨fe,ff,fg,fh⟩:=zf4 ac.out)|((with_reducible refine Zl1 (f:=23) rfl ?_);refine goesL_ (some 33) rfl rfl Try.func23 (by kernel_rfl) rfl #[.agg #[.int .i64 ag,.int .i64 ah,.int .i64 ai,.slice (some ax) aa.length aw],.slice bh aj.length bd,.int .u32 ap,.slice am ((Zb aa ab).f1).length an] rfl (by (try simp only [List.map_toArray,List.map_cons,List.map_nil]);first|done|rfl|(simp only [List.length_drop,List.length_take];rfl)) ?_;(with_reducible refine(Zm1.calls k1 ag ah ai _ _ aa _ _ aj ap _ _ ((Zb aa ab).f1) be false _ ?side1 ?side2 ?side3 ?side4 ?side5 ?side6 ia.out).mono ?_);(case side1=>exact Kd.C_below bf.out (zH HB));(case side2=>exact bk.out);(case side3=>refine(Kd.R_reads' (e:=42) (base:=w.heap.size) (ok:=fun k_=>(some k_≠(v214:Value).ownBlock∧some k_≠(u6:Value).ownBlock)) (n:=aj.length) (c:=bd) ?_).2.2;exact(by (with_reducible repeat(first|apply Kd.R_alloc|apply Kd.R_drewN|apply Kd.R_drew));exact(Kd.R_mono (Kd.R_far (p:=⟨ae,1,none⟩) (Kd.R_far (p:=⟨ae,0,none⟩) (Kd.R_types aq.out af.out (by decide)) (fun _ hk=>hk.2) (.int .i64 ((Zb aa ab).f0))) (fun _ hk=>hk.2) (.slice am ((Zb aa ab).f1).length an)) (fun _ h_=>h_.1))));(case side4=>exact(Kd.R_reads' aq.out).2.1);(case side5=>exact Kd.C_below bi.out (zH HB));(case side6=>exact bj.out);rintro e ix ⟨rfl,hb⟩;refine⟨_,rfl,?_⟩;replace aq:=Za.mk (Kd.R_below (by (with_reducible repeat(first|apply Kd.R_alloc|apply Kd.R_drewN|apply Kd.R_drew));exact(Kd.R_mono (Kd.R_far (p:=⟨ae,1,none⟩) (Kd.R_far (p:=⟨ae,0,none⟩) (Kd.R_types aq.out af.out (by decide)) (fun _ hk=>hk.2) (.int .i64 ((Zb aa ab).f0))) (fun _ hk=>hk.2) (.slice am ((Zb aa ab).f1).length an)) (fun _ h_=>h_.1))) hb);replace ar:=Za.mk (Kd.R_below (by (with_reducible repeat(first|apply Kd.R_alloc|apply Kd.R_drewN|apply Kd.R_drew));exact(Kd.R_mono (Kd.R_far (p:=⟨ae,1,none⟩) (Kd.R_far (p:=⟨ae,0,none⟩) (Kd.R_types ar.out af.out (by decide)) (fun _ hk=>hk.2) (.int .i64 ((Zb aa ab).f0))) (fun _ hk=>hk.2) (.slice am ((Zb aa ab).f1).length an)) (fun _ h_=>h_.1))) hb);replace av:=Za.mk (Kd.R_below (by (with_reducible repeat(first|apply Kd.R_alloc|apply Kd.R_drewN|apply Kd.R_drew));exact(Kd.R_mono (Kd.R_far (p:=⟨ae,1,none⟩) (Kd.R_far (p:=⟨ae,0,none⟩) (Kd.R_types av.out af.out (by decide)) (fun _ hk=>hk.2) (.int .i64 ((Zb aa ab).f0))) (fun _ hk=>hk.2) (.slice am ((Zb aa ab).f1).length an)) (fun _ h_=>h_.1))) hb);replace ac:=Za.mk (Zj (g:=ak) (o:= .cells #[.int .i64 ag,.int .i64 ah,.int .i64 ai,.slice (some ax) aa.length aw] 24 (0,0)) (by (with_reducible repeat(first|refine Zn ?_ _|refine Zi ?_|refine Zm ?_ _));refine Zv ?_ ao.out _;(with_reducible repeat(first|refine Zn ?_ _|refine Zi ?_|refine Zm ?_ _));refine Zv ?_ ao.out _;(with_reducible repeat(first|apply zb3|apply zb2|apply zb1));exact ac.out) hb);replace af:=Za.mk (Zj (g:=ae) (o:= .cells #[.int .i64 ((Zb aa ab).f0),.slice am ((Zb aa ab).f1).length an] 41 (0,0)) (by (with_reducible repeat(first|refine Zn ?_ _|refine Zi ?_|refine Zm ?_ _));refine Zs1 (cs:=#[.int .i64 ((Zb aa ab).f0),.slice none 0 0]) ?_ 1 _ rfl;(with_reducible repeat(first|refine Zn ?_ _|refine Zi ?_|refine Zm ?_ _));refine Zs1 (cs:=#[.int .i64 0,.slice none 0 0]) ?_ 0 _ rfl;(with_reducible repeat(first|apply zb3|apply zb2|apply zb1));exact af.out) hb);replace HB:=Za.mk (Zh (zH HB) hb);(try clear hb);(try clear hb2);(try clear hk);(try clear hi))|((with_reducible refine gate_builtin (b:= .append) (xs:=#[.tmp 44,.tmp 46]) rfl ?_);at_builtin;refine Kd.R_append (Kd.int .u32) (w0:=w) w.heap.size rfl (.tmp 44) (.tmp 46) 37 42 (.int .u32 0) 4 rfl Try.underlying37 info42 rfl (by decide) (by omega) u6 au be [.int .u32 be] (fun k_=>some k_≠(.slice bh aj.length bd:Value).ownBlock∧some k_≠(v214:Value).ownBlock) (fun _=>False) rfl rfl ?aP (fun _ hk=>hk.elim) ?aF ?aO ?aB ?aS ?aL ?_;(case aP=>exact rfl);(case aB=>exact(zH HB));(case aF=>exact(fun k_ hk=>⟨Kd.fresh' (Kd.R_lt (zR aq)) k_ hk,Kd.fresh' (Kd.R_lt (zR ar)) k_ hk⟩));(case aO=>exact(zR av));(case aS=>exact(Zg (zH HB)));(case aL=>have:=dr.out;omega);intro v225 iy ho hb hg hat;rw [← du.out] at ho;replace aq:=Za.mk (Kd.R_after (ok:=(fun k_=>some k_≠(v214:Value).ownBlock)) (zR aq) hg hat);replace ar:=Za.mk (Kd.R_after (ok:=(fun k_=>some k_≠(.slice bh aj.length bd:Value).ownBlock)) (zR ar) hg hat);replace ac:=Za.mk (Zv1 (g:=ak) (zK ac) hg (Kd.R_ne av.out ac.out (by decide)));replace af:=Za.mk (Zv1 (g:=ae) (zK af) hg (Kd.R_ne av.out af.out (by decide)));replace HB:=Za.mk (hb);have dx:=Za.mk (ho);clear av;clear ho hb hg hat))
    go_roundg k1
    case measure=>have:=ef.out;omega
    case rel=>exact⟨(dt),(wrap64 (ab + 1)),(by first|rfl|(simp;done)|(simp [*];done)),H',⟨by have:=ef.out;omega⟩,⟨zR aq⟩,⟨zR ar⟩,⟨zR dx⟩,⟨zK ac⟩,⟨zH HB⟩⟩
   (subst ek);(have H1:(if 0≤((Zb aa ab).f0) then(if((Zb aa ab).f0) < (al.length:Int) then(if au.length < 35184372088832 then(Zu1.l0 k1 ap aj al (au++[Go.bits .or .u32 be (rd al ((Zb aa ab).f0))]) aa (aa.length:Int) (wrap64 (ab + 1)) ag ah ai aa) else(none)) else(none)) else(none))=some r:=by rw [if_pos rfl] at H;exact H);(clear H);(have H:=H1);(clear H1)
   by_cases fi:0≤((Zb aa ab).f0)
   rotate_left
   ·rw [if_neg fi] at H
    exact absurd H (by simp)
   (rw [if_pos fi] at H);(have ie:decide (0≤((Zb aa ab).f0))=true:=decide_eq_true fi);(clear fi)
   by_cases fj:((Zb aa ab).f0) < (al.length:Int)
   rotate_left
   ·rw [if_neg fj] at H
    exact absurd H (by simp)
   (rw [if_pos fj] at H);(have ig:decide (((Zb aa ab).f0) < (al.length:Int))=true:=decide_eq_true fj);(clear fj)
   by_cases fk:au.length < 35184372088832
   rotate_left
   ·rw [if_neg fk] at H
    exact absurd H (by simp)
   (rw [if_pos fk] at H);(have dy:=Za.mk fk);(clear fk);(obtain⟨dz,bm⟩ : ∃y_:List Int,y_=(au++[Go.bits .or .u32 be (rd al ((Zb aa ab).f0))]):=⟨_,rfl⟩);(replace H:(Zu1.l0 k1 ap aj al dz aa (aa.length:Int) (wrap64 (ab + 1)) ag ah ai aa)=some r:=by first|(rw [bm];with_reducible exact H)|(have H2_:=(Option.bind_some _ _).symm.trans H;rw [bm];with_reducible exact H2_)|(have H2_:=(Option.bind_some _ _).symm.trans H;with_reducible exact H2_)|with_reducible exact H|(rw [bm];exact H)|exact H);(have ea:=Za.mk bm);(clear bm);(have H':=Za.mk H);(clear H);(have bo:0≤(ab:Int):=zD);(have bp:ab < (aa.length:Int):=zD);(obtain⟨ax,am,an,di,ay,az,ba,bb⟩:=at_T41 bf.out ab bo bp);(cases di);(replace ay:=zX HB ay);(replace az:=zX HB az);(have bi:=Za.mk bb);(have bj:=Za.mk ba);(clear bb ba);(replace bo:=eq_true bo);(replace bp:=eq_true bp)
   go_wp2_with (first|((with_reducible refine Zs (N:=8) rfl ?_);refine Zx ?hg (N:=8) ?hd (cs:=#[.int .i64 0,.slice none 0 0]) (t:=41) ?hr ?_;(case hd=>rfl);(case hg=>rfl);(case hr=>first|(go_simp;done)|(go_simp;rfl));intro ae hg iz hbox hb;replace aq:=Za.mk (Kd.R_below (zR aq) hb);replace ar:=Za.mk (Kd.R_below (zR ar) hb);replace av:=Za.mk (Kd.R_below (zR av) hb);have af:=Za.mk (hbox);have dv:=Za.mk ((by rw [hg];exact(Zg (zH HB)):w.heap.size≤ae));have dw:=Za.mk ((by rw [hg];exact(Zg (zH HB)):w.heap.size≤ae));replace HB:=Za.mk (Zh (zH HB) hb);have ao:=Za.mk ((by rw [hg];exact Nat.ne_of_lt (Zu (g:=ak) (o:= .cells #[.int .i64 ag,.int .i64 ah,.int .i64 ai,.slice (some ax) aa.length aw] 24 (0,0)) (zK ac)):ak≠ae));have bc:=Za.mk ((by rw [hg];exact Nat.ne_of_gt (Zu (g:=ak) (o:= .cells #[.int .i64 ag,.int .i64 ah,.int .i64 ai,.slice (some ax) aa.length aw] 24 (0,0)) (zK ac)):ae≠ak));replace ac:=Za.mk (Zj (g:=ak) (zK ac) hb);clear hb hbox hg;have ii:=bc.out;have ik:=ao.out;obtain⟨fm,fo⟩:=zq2 af.out;obtain⟨fp,fq⟩:=zf2 af.out;obtain⟨ft,fu,fv,fw⟩:=zq4 ac.out;obtain⟨fx,fy,fz,ga⟩:=zf4 ac.out)|((with_reducible refine Zl1 (f:=23) rfl ?_);refine goesL_ (some 33) rfl rfl Try.func23 (by kernel_rfl) rfl #[.agg #[.int .i64 ag,.int .i64 ah,.int .i64 ai,.slice (some ax) aa.length aw],.slice bh aj.length bd,.int .u32 ap,.slice am ((Zb aa ab).f1).length an] rfl (by (try simp only [List.map_toArray,List.map_cons,List.map_nil]);first|done|rfl|(simp only [List.length_drop,List.length_take];rfl)) ?_;(with_reducible refine(Zm1.calls k1 ag ah ai _ _ aa _ _ aj ap _ _ ((Zb aa ab).f1) be true _ ?side1 ?side2 ?side3 ?side4 ?side5 ?side6 ia.out).mono ?_);(case side1=>exact Kd.C_below bf.out (zH HB));(case side2=>exact bk.out);(case side3=>refine(Kd.R_reads' (e:=42) (base:=w.heap.size) (ok:=fun k_=>(some k_≠(v214:Value).ownBlock∧some k_≠(u6:Value).ownBlock)) (n:=aj.length) (c:=bd) ?_).2.2;exact(by (with_reducible repeat(first|apply Kd.R_alloc|apply Kd.R_drewN|apply Kd.R_drew));exact(Kd.R_mono (Kd.R_far (p:=⟨ae,1,none⟩) (Kd.R_far (p:=⟨ae,0,none⟩) (Kd.R_types aq.out af.out (by decide)) (fun _ hk=>hk.2) (.int .i64 ((Zb aa ab).f0))) (fun _ hk=>hk.2) (.slice am ((Zb aa ab).f1).length an)) (fun _ h_=>h_.1))));(case side4=>exact(Kd.R_reads' aq.out).2.1);(case side5=>exact Kd.C_below bi.out (zH HB));(case side6=>exact bj.out);rintro e ja ⟨rfl,hb⟩;refine⟨_,rfl,?_⟩;replace aq:=Za.mk (Kd.R_below (by (with_reducible repeat(first|apply Kd.R_alloc|apply Kd.R_drewN|apply Kd.R_drew));exact(Kd.R_mono (Kd.R_far (p:=⟨ae,1,none⟩) (Kd.R_far (p:=⟨ae,0,none⟩) (Kd.R_types aq.out af.out (by decide)) (fun _ hk=>hk.2) (.int .i64 ((Zb aa ab).f0))) (fun _ hk=>hk.2) (.slice am ((Zb aa ab).f1).length an)) (fun _ h_=>h_.1))) hb);replace ar:=Za.mk (Kd.R_below (by (with_reducible repeat(first|apply Kd.R_alloc|apply Kd.R_drewN|apply Kd.R_drew));exact(Kd.R_mono (Kd.R_far (p:=⟨ae,1,none⟩) (Kd.R_far (p:=⟨ae,0,none⟩) (Kd.R_types ar.out af.out (by decide)) (fun _ hk=>hk.2) (.int .i64 ((Zb aa ab).f0))) (fun _ hk=>hk.2) (.slice am ((Zb aa ab).f1).length an)) (fun _ h_=>h_.1))) hb);replace av:=Za.mk (Kd.R_below (by (with_reducible repeat(first|apply Kd.R_alloc|apply Kd.R_drewN|apply Kd.R_drew));exact(Kd.R_mono (Kd.R_far (p:=⟨ae,1,none⟩) (Kd.R_far (p:=⟨ae,0,none⟩) (Kd.R_types av.out af.out (by decide)) (fun _ hk=>hk.2) (.int .i64 ((Zb aa ab).f0))) (fun _ hk=>hk.2) (.slice am ((Zb aa ab).f1).length an)) (fun _ h_=>h_.1))) hb);replace ac:=Za.mk (Zj (g:=ak) (o:= .cells #[.int .i64 ag,.int .i64 ah,.int .i64 ai,.slice (some ax) aa.length aw] 24 (0,0)) (by (with_reducible repeat(first|refine Zn ?_ _|refine Zi ?_|refine Zm ?_ _));refine Zv ?_ ao.out _;(with_reducible repeat(first|refine Zn ?_ _|refine Zi ?_|refine Zm ?_ _));refine Zv ?_ ao.out _;(with_reducible repeat(first|apply zb3|apply zb2|apply zb1));exact ac.out) hb);replace af:=Za.mk (Zj (g:=ae) (o:= .cells #[.int .i64 ((Zb aa ab).f0),.slice am ((Zb aa ab).f1).length an] 41 (0,0)) (by (with_reducible repeat(first|refine Zn ?_ _|refine Zi ?_|refine Zm ?_ _));refine Zs1 (cs:=#[.int .i64 ((Zb aa ab).f0),.slice none 0 0]) ?_ 1 _ rfl;(with_reducible repeat(first|refine Zn ?_ _|refine Zi ?_|refine Zm ?_ _));refine Zs1 (cs:=#[.int .i64 0,.slice none 0 0]) ?_ 0 _ rfl;(with_reducible repeat(first|apply zb3|apply zb2|apply zb1));exact af.out) hb);replace HB:=Za.mk (Zh (zH HB) hb);(try clear hb);(try clear hb2);(try clear hk);(try clear hi);obtain⟨gc,gh⟩:=zq2 af.out;obtain⟨gi,gj⟩:=zf2 af.out;obtain⟨iq,ec,gn⟩:=Kd.R_slice ar.out;subst gn;have dj:0≤(((Zb aa ab).f0):Int):=zD;have dk:((Zb aa ab).f0) < (al.length:Int):=zD;obtain⟨ck,gp,gl⟩:=Kd.at_int (Kd.R_reads' ar.out).2.2 ((Zb aa ab).f0) dj dk;cases gp;replace dj:=eq_true dj;replace dk:=eq_true dk)|((with_reducible refine gate_builtin (b:= .append) (xs:=#[.tmp 44,.tmp 46]) rfl ?_);at_builtin;refine Kd.R_append (Kd.int .u32) (w0:=w) w.heap.size rfl (.tmp 44) (.tmp 46) 37 42 (.int .u32 0) 4 rfl Try.underlying37 info42 rfl (by decide) (by omega) u6 au (Go.bits .or .u32 be (rd al ((Zb aa ab).f0))) [.int .u32 (Go.bits .or .u32 be (rd al ((Zb aa ab).f0)))] (fun k_=>some k_≠(.slice bh aj.length bd:Value).ownBlock∧some k_≠(.slice (some ck) al.length ec:Value).ownBlock) (fun _=>False) rfl rfl ?aP (fun _ hk=>hk.elim) ?aF ?aO ?aB ?aS ?aL ?_;(case aP=>exact rfl);(case aB=>exact(zH HB));(case aF=>exact(fun k_ hk=>⟨Kd.fresh' (Kd.R_lt (zR aq)) k_ hk,Kd.fresh' (Kd.R_lt (zR ar)) k_ hk⟩));(case aO=>exact(zR av));(case aS=>exact(Zg (zH HB)));(case aL=>have:=dy.out;omega);intro v222 jb ho hb hg hat;rw [← ea.out] at ho;replace aq:=Za.mk (Kd.R_after (ok:=(fun k_=>some k_≠(.slice (some ck) al.length ec:Value).ownBlock)) (zR aq) hg hat);replace ar:=Za.mk (Kd.R_after (ok:=(fun k_=>some k_≠(.slice bh aj.length bd:Value).ownBlock)) (zR ar) hg hat);replace ac:=Za.mk (Zv1 (g:=ak) (zK ac) hg (Kd.R_ne av.out ac.out (by decide)));replace af:=Za.mk (Zv1 (g:=ae) (zK af) hg (Kd.R_ne av.out af.out (by decide)));replace HB:=Za.mk (hb);have ee:=Za.mk (ho);clear av;clear ho hb hg hat))
   go_roundg k1
   case measure=>have:=ef.out;omega
   case rel=>exact⟨(dz),(wrap64 (ab + 1)),(by first|rfl|(simp;done)|(simp [*];done)),H',⟨by have:=ef.out;omega⟩,⟨zR aq⟩,⟨zR ar⟩,⟨zR ee⟩,⟨zK ac⟩,⟨zH HB⟩⟩
mutual
def Zo1.l0:Nat→List Int→List (S41)→Int→Int→Int→Int→Int→List (S41)→Option (Bool)
  |0,_,_,_,_,_,_,_,_=>none
  |k + 1,x1,x9,x10,x11,x228000,x228001,x228002,x228003=>if x11 < x10 then(if 0≤x11 then(if x11 < (x9.length:Int) then(Zo1.l1 k x1 x11 x9 x10 x11 x11 0 x228000 x228001 x228002 x228003 ((Zb x9 x11).f0) ((Zb x9 x11).f1)) else(none)) else(none)) else(some true)
def Zo1.l1:Nat→List Int→Int→List (S41)→Int→Int→Int→Int→Int→Int→Int→List (S41)→Int→List Int→Option (Bool)
  |0,_,_,_,_,_,_,_,_,_,_,_,_,_=>none
  |k + 1,x1,x5,x9,x10,x11,x16,x17,x228000,x228001,x228002,x228003,x230000,x230001=>if x17 < x16 then(if 0≤x17 then(if x17 < (x228003.length:Int) then(if((Zb x228003 x17).f0)=x230000 then(if 0≤x5 then(if x5 < (x1.length:Int) then(if x17 < (x1.length:Int) then(if(Go.bits .and .u32 (rd x1 x5) (rd x1 x17))=0 then(Zo1.l1 k x1 x5 x9 x10 x11 x16 (wrap64 (x17 + 1)) x228000 x228001 x228002 x228003 x230000 x230001) else(some false)) else(none)) else(none)) else(none)) else(Zo1.l1 k x1 x5 x9 x10 x11 x16 (wrap64 (x17 + 1)) x228000 x228001 x228002 x228003 x230000 x230001)) else(none)) else(none)) else(Zo1.l0 k x1 x9 x10 (wrap64 (x11 + 1)) x228000 x228001 x228002 x228003)
end
def Zo1.f (k:Nat) (a0_0:Int) (a0_1:Int) (a0_2:Int) (l0_3:List (S41)) (l1:List Int):Option (Bool):=Zo1.l0 k l1 l0_3 (l0_3.length:Int) 0 a0_0 a0_1 a0_2 l0_3
theorem Zo1.mono_l: ∀k,(∀y0 y1 y2 y3 y4 y5 y6 y7,LeO (Zo1.l0 k y0 y1 y2 y3 y4 y5 y6 y7) (Zo1.l0 (k + 1) y0 y1 y2 y3 y4 y5 y6 y7))∧(∀y0 y1 y2 y3 y4 y5 y6 y7 y8 y9 y10 y11 y12,LeO (Zo1.l1 k y0 y1 y2 y3 y4 y5 y6 y7 y8 y9 y10 y11 y12) (Zo1.l1 (k + 1) y0 y1 y2 y3 y4 y5 y6 y7 y8 y9 y10 y11 y12))
  |0=>⟨fun _ _ _ _ _ _ _ _ r h=>by simp [Zo1.l0] at h,fun _ _ _ _ _ _ _ _ _ _ _ _ _ r h=>by simp [Zo1.l1] at h⟩
  |k + 1=>by
    obtain⟨ih0,ih1⟩:=Zo1.mono_l k
    refine⟨?_,?_⟩
    · intro y0 y1 y2 y3 y4 y5 y6 y7
      unfold Zo1.l0
      repeat' (with_reducible first|apply ih0|apply ih1|exact LeO.refl _|exact LeO.none _|refine LeO.ite ?_ ?_|refine LeO.bind ?_ (fun _=>?_))
    · intro y0 y1 y2 y3 y4 y5 y6 y7 y8 y9 y10 y11 y12
      unfold Zo1.l1
      repeat' (with_reducible first|apply ih0|apply ih1|exact LeO.refl _|exact LeO.none _|refine LeO.ite ?_ ?_|refine LeO.bind ?_ (fun _=>?_))
theorem Zo1.mono: ∀a0 a1 a2 a3 a4 k,LeO (Zo1.f k a0 a1 a2 a3 a4) (Zo1.f (k + 1) a0 a1 a2 a3 a4):=by
  intro a0 a1 a2 a3 a4 k
  obtain⟨ih0,ih1⟩:=Zo1.mono_l k
  unfold Zo1.f
  repeat' (with_reducible first|apply ih0|apply ih1|exact LeO.refl _|exact LeO.none _|refine LeO.ite ?_ ?_|refine LeO.bind ?_ (fun _=>?_))
theorem Zo1.calls (k : Nat) (aq : Int) (ar : Int) (au : Int) (ca : Option Addr) (ay : Nat) (ac : List (S41)) (A1 : Option Addr) (c1 : Nat) (l1 : List Int) (r : Bool) (w : World) (cj : Kd.C k41 w ca ac.length ac) (ck : ac.length ≤ ay) (ga : Kd.C (Kd.int .u32) w A1 l1.length l1) (gc : l1.length ≤ c1) (h : Zo1.f k aq ar au ac l1 = some r) :
    Calls Try.prog 12 #[.agg #[.int .i64 aq,.int .i64 ar,.int .i64 au,.slice ca ac.length ay],.slice A1 l1.length c1] w fun e w'=>e= .returned (.bool r)∧Below w.heap.size w w':=by
 (have gy:=Try.underlying24);(have gz:=Try.underlying41);(have ib:=Try.underlying3);(have ia:=Try.underlying42);(have bq:=Za.mk cj);(have gh:=Za.mk ck);(clear cj ck);(have dj:=Za.mk ga);(have ic:=Za.mk gc);(clear ga gc);(have HB:=Za.mk (Below.refl w.heap.size w));(have H:(Zo1.l0 k l1 ac (ac.length:Int) 0 aq ar au ac)=some r:=h);(clear h);(have H':=Za.mk H);(clear H)
 go_enter Try.func12,Try.ntmps12
 go_wp2_with (first|((with_reducible refine Zs (N:=2) rfl ?_);refine Zx ?hg (N:=2) ?hd (cs:=#[.int .i64 aq,.int .i64 ar,.int .i64 au,.slice ca ac.length ay]) (t:=24) ?hr ?_;(case hd=>rfl);(case hg=>rfl);(case hr=>first|(go_simp;done)|(go_simp;rfl));intro ah hg w3 hbox hb;have ae:=Za.mk (hbox);have cy:=Za.mk ((by rw [hg];exact(Zg (zH HB)):w.heap.size≤ah));have da:=Za.mk ((by rw [hg];exact(Zg (zH HB)):w.heap.size≤ah));replace HB:=Za.mk (Zh (zH HB) hb);clear hb hbox hg;obtain⟨be,bf,bg,bh⟩:=zq4 ae.out;obtain⟨bi,bj,bk,bl⟩:=zf4 ae.out))
 repeat(go_quiet (first|((with_reducible refine Zs (N:=2) rfl ?_);refine Zx ?hg (N:=2) ?hd (cs:=#[.int .i64 aq,.int .i64 ar,.int .i64 au,.slice ca ac.length ay]) (t:=24) ?hr ?_;(case hd=>rfl);(case hg=>rfl);(case hr=>first|(go_simp;done)|(go_simp;rfl));intro ah hg w3 hbox hb;have ae:=Za.mk (hbox);have cy:=Za.mk ((by rw [hg];exact(Zg (zH HB)):w.heap.size≤ah));have da:=Za.mk ((by rw [hg];exact(Zg (zH HB)):w.heap.size≤ah));replace HB:=Za.mk (Zh (zH HB) hb);clear hb hbox hg;obtain⟨be,bf,bg,bh⟩:=zq4 ae.out;obtain⟨bi,bj,bk,bl⟩:=zf4 ae.out));try go_wp2)
 go_loopg [11] k (fun kq v11 w'=>∃(aa:Int),v11= .int .i64 aa∧Za (Zo1.l0 kq l1 ac (ac.length:Int) aa aq ar au ac=some r)∧Za (kq≤k)∧Za (w'.heap[ah]? =some (.cells #[.int .i64 aq,.int .i64 ar,.int .i64 au,(.slice ca ac.length ay)] 24 (0,0)))∧Za (Below w.heap.size w w'))
 case atStart=>exact⟨(0),(by first|rfl|(simp;done)|(simp [*];done)),H',⟨Nat.le_refl _⟩,⟨zK ae⟩,⟨zH HB⟩⟩
 case round=>
  (clear H');(try clear c1);(try clear p2);(try clear be bf bg bh bi bj bk bl);(obtain⟨aa,rfl,HA,cq,ae,HB⟩:=hrel)
  cases gk with
  |zero=>exact absurd HA.out (by simp [Zo1.l0])
  |succ k1=>
   (have H:=HA.out);(clear HA);(simp only [Zo1.l0] at H)
   by_cases c5:aa < (ac.length:Int)
   rotate_left
   ·rw [if_neg c5] at H
    (have db:decide (aa < (ac.length:Int))=false:=decide_eq_false c5);(clear c5);(obtain rfl:=Option.some.inj H)
    go_wp2
    repeat(go_quiet (fail);try go_wp2)
    go_ret
    exact⟨by first|rfl|(simp [Zl,Zk] <;> rfl)|(simp [*,Zl,Zk] <;> rfl),zH HB⟩
   (rw [if_pos c5] at H);(have db:decide (aa < (ac.length:Int))=true:=decide_eq_true c5);(clear c5)
   by_cases c6:0≤aa
   rotate_left
   ·rw [if_neg c6] at H
    exact absurd H (by simp)
   (rw [if_pos c6] at H);(have fv:decide (0≤aa)=true:=decide_eq_true c6);(clear c6)
   by_cases c7:aa < (ac.length:Int)
   rotate_left
   ·rw [if_neg c7] at H
    exact absurd H (by simp)
   (rw [if_pos c7] at H);(have fw:decide (aa < (ac.length:Int))=true:=decide_eq_true c7);(clear c7);(have H':=Za.mk H);(clear H);(have ch:0≤(aa:Int):=zD);(have ci:aa < (ac.length:Int):=zD);(obtain⟨av,az,ba,fx,bb,bc,br,bs⟩:=at_T41 bq.out aa ch ci);(cases fx);(replace bb:=zX HB bb);(replace bc:=zX HB bc);(have dk:=Za.mk bs);(have dl:=Za.mk br);(clear bs br);(replace ch:=eq_true ch);(replace ci:=eq_true ci)
   go_wp2_with (first|((with_reducible refine Zs (N:=6) rfl ?_);refine Zx ?hg (N:=6) ?hd (cs:=#[.int .i64 0,.slice none 0 0]) (t:=41) ?hr ?_;(case hd=>rfl);(case hg=>rfl);(case hr=>first|(go_simp;done)|(go_simp;rfl));intro an hg w8 hbox hb;have ag:=Za.mk (hbox);have dc:=Za.mk ((by rw [hg];exact(Zg (zH HB)):w.heap.size≤an));have dd:=Za.mk ((by rw [hg];exact(Zg (zH HB)):w.heap.size≤an));replace HB:=Za.mk (Zh (zH HB) hb);have af:=Za.mk ((by rw [hg];exact Nat.ne_of_lt (Zu (g:=ah) (o:= .cells #[.int .i64 aq,.int .i64 ar,.int .i64 au,.slice (some av) ac.length ay] 24 (0,0)) (zK ae)):ah≠an));have ai:=Za.mk ((by rw [hg];exact Nat.ne_of_gt (Zu (g:=ah) (o:= .cells #[.int .i64 aq,.int .i64 ar,.int .i64 au,.slice (some av) ac.length ay] 24 (0,0)) (zK ae)):an≠ah));replace ae:=Za.mk (Zj (g:=ah) (zK ae) hb);clear hb hbox hg;have fy:=ai.out;have fz:=af.out;obtain⟨bt,bu⟩:=zq2 ag.out;obtain⟨bv,bw⟩:=zf2 ag.out))
   repeat(go_quiet (first|((with_reducible refine Zs (N:=6) rfl ?_);refine Zx ?hg (N:=6) ?hd (cs:=#[.int .i64 0,.slice none 0 0]) (t:=41) ?hr ?_;(case hd=>rfl);(case hg=>rfl);(case hr=>first|(go_simp;done)|(go_simp;rfl));intro an hg w8 hbox hb;have ag:=Za.mk (hbox);have dc:=Za.mk ((by rw [hg];exact(Zg (zH HB)):w.heap.size≤an));have dd:=Za.mk ((by rw [hg];exact(Zg (zH HB)):w.heap.size≤an));replace HB:=Za.mk (Zh (zH HB) hb);have af:=Za.mk ((by rw [hg];exact Nat.ne_of_lt (Zu (g:=ah) (o:= .cells #[.int .i64 aq,.int .i64 ar,.int .i64 au,.slice (some av) ac.length ay] 24 (0,0)) (zK ae)):ah≠an));have ai:=Za.mk ((by rw [hg];exact Nat.ne_of_gt (Zu (g:=ah) (o:= .cells #[.int .i64 aq,.int .i64 ar,.int .i64 au,.slice (some av) ac.length ay] 24 (0,0)) (zK ae)):an≠ah));replace ae:=Za.mk (Zj (g:=ah) (zK ae) hb);clear hb hbox hg;have fy:=ai.out;have fz:=af.out;obtain⟨bt,bu⟩:=zq2 ag.out;obtain⟨bv,bw⟩:=zf2 ag.out));try go_wp2)
   go_loopg [17] k1 (fun kq v17 w'=>∃(ab:Int),v17= .int .i64 ab∧Za (Zo1.l1 kq l1 aa ac (ac.length:Int) aa aa ab aq ar au ac ((Zb ac aa).f0) ((Zb ac aa).f1)=some r)∧Za (kq≤k1)∧Za (w'.heap[ah]? =some (.cells #[.int .i64 aq,.int .i64 ar,.int .i64 au,(.slice (some av) ac.length ay)] 24 (0,0)))∧Za (w'.heap[an]? =some (.cells #[.int .i64 ((Zb ac aa).f0),(.slice az ((Zb ac aa).f1).length ba)] 41 (0,0)))∧Za (Below w.heap.size w w'))
   case atStart=>exact⟨(0),(by first|rfl|(simp;done)|(simp [*];done)),H',⟨Nat.le_refl _⟩,⟨by (with_reducible repeat(first|refine Zn ?_ _|refine Zi ?_|refine Zm ?_ _));refine Zv ?_ af.out _;(with_reducible repeat(first|refine Zn ?_ _|refine Zi ?_|refine Zm ?_ _));refine Zv ?_ af.out _;(with_reducible repeat(first|apply zb3|apply zb2|apply zb1));exact ae.out⟩,⟨by (with_reducible repeat(first|refine Zn ?_ _|refine Zi ?_|refine Zm ?_ _));refine Zs1 (cs:=#[.int .i64 ((Zb ac aa).f0),.slice none 0 0]) ?_ 1 _ rfl;(with_reducible repeat(first|refine Zn ?_ _|refine Zi ?_|refine Zm ?_ _));refine Zs1 (cs:=#[.int .i64 0,.slice none 0 0]) ?_ 0 _ rfl;(with_reducible repeat(first|apply zb3|apply zb2|apply zb1));exact ag.out⟩,⟨zH HB⟩⟩
   case round=>
    (clear H');(try clear c1);(try clear c2);(try clear p2);(try clear q2);(try clear ie);(try clear db);(try clear fv);(try clear fw);(try clear c9);(try clear bt bu be bf bg bh bv bw bi bj bk bl);(try clear bb);(try clear bc);(try clear p2);(try clear ch);(try clear ci);(obtain⟨ab,rfl,HA,cu,ae,ag,HB⟩:=hrel)
    cases gk with
    |zero=>exact absurd HA.out (by simp [Zo1.l1])
    |succ k2=>
     (have H:=HA.out);(clear HA);(simp only [Zo1.l1] at H)
     by_cases cw:ab < aa
     rotate_left
     ·rw [if_neg cw] at H
      (have de:decide (ab < aa)=false:=decide_eq_false cw);(clear cw);(have H':=Za.mk H);(clear H)
      go_wp2
      repeat(go_quiet (fail);try go_wp2)
      go_roundg k2
      case measure=>have:=cq.out;have:=cu.out;omega
      case rel=>exact⟨(wrap64 (aa + 1)),(by first|rfl|(simp;done)|(simp [*];done)),H',⟨by have:=cq.out;have:=cu.out;omega⟩,⟨zK ae⟩,⟨zH HB⟩⟩
     (rw [if_pos cw] at H);(have de:decide (ab < aa)=true:=decide_eq_true cw);(clear cw)
     by_cases dm:0≤ab
     rotate_left
     ·rw [if_neg dm] at H
      exact absurd H (by simp)
     (rw [if_pos dm] at H);(have gi:decide (0≤ab)=true:=decide_eq_true dm);(clear dm)
     by_cases dn:ab < (ac.length:Int)
     rotate_left
     ·rw [if_neg dn] at H
      exact absurd H (by simp)
     (rw [if_pos dn] at H);(have gj:decide (ab < (ac.length:Int))=true:=decide_eq_true dn);(clear dn)
     by_cases cm:((Zb ac ab).f0)=((Zb ac aa).f0)
     rotate_left
     ·rw [if_neg cm] at H
      (have df:(((Zb ac ab).f0) == ((Zb ac aa).f0))=false:=beq_eq_false_iff_ne.mpr cm);(have dg:(((Zb ac ab).f0) != ((Zb ac aa).f0))=true:=bne_iff_ne.mpr cm);(have H':=Za.mk H);(clear H);(have gl:=af.out);(have gm:=ai.out);(obtain⟨dp,dq,dr,dt⟩:=zq4 ae.out);(obtain⟨du,dv,dw,dx⟩:=zf4 ae.out);(have aw:0≤(ab:Int):=zD);(have ax:ab < (ac.length:Int):=zD);(obtain⟨bd,cb,cd,ce,aj,ak,al,am⟩:=at_T41 bq.out ab aw ax);(obtain rfl:av=bd:=(by injection ce));(replace aj:=zX HB aj);(replace ak:=zX HB ak);(have bx:=Za.mk am);(have bz:=Za.mk al);(clear am al);(replace aw:=eq_true aw);(replace ax:=eq_true ax);(have dy:=zj ag 0 (.int .i64 ((Zb ac aa).f0)))
      (have dz:=zj ag 1 (.slice az ((Zb ac aa).f1).length ba));(obtain⟨ea,ec⟩:=zf2 ag.out)
      go_wp2
      repeat(go_quiet (fail);try go_wp2)
      go_roundg k2
      case measure=>have:=cq.out;have:=cu.out;omega
      case rel=>exact⟨(wrap64 (ab + 1)),(by first|rfl|(simp;done)|(simp [*];done)),H',⟨by have:=cq.out;have:=cu.out;omega⟩,⟨zK ae⟩,⟨zK ag⟩,⟨zH HB⟩⟩
     (rw [if_pos cm] at H);(have df:(((Zb ac ab).f0) == ((Zb ac aa).f0))=true:=beq_iff_eq.mpr cm);(have dg:(((Zb ac ab).f0) != ((Zb ac aa).f0))=false:=bne_eq_false_iff_eq.mpr cm);(clear cm)
     by_cases ee:0≤aa
     rotate_left
     ·rw [if_neg ee] at H
      exact absurd H (by simp)
     (rw [if_pos ee] at H);(have gn:decide (0≤aa)=true:=decide_eq_true ee);(clear ee)
     by_cases ef:aa < (l1.length:Int)
     rotate_left
     ·rw [if_neg ef] at H
      exact absurd H (by simp)
     (rw [if_pos ef] at H);(have gp:decide (aa < (l1.length:Int))=true:=decide_eq_true ef);(clear ef)
     by_cases eh:ab < (l1.length:Int)
     rotate_left
     ·rw [if_neg eh] at H
      exact absurd H (by simp)
     (rw [if_pos eh] at H);(have gq:decide (ab < (l1.length:Int))=true:=decide_eq_true eh);(clear eh)
     by_cases cn:(Go.bits .and .u32 (rd l1 aa) (rd l1 ab))=0
     rotate_left
     ·rw [if_neg cn] at H
      (have dh:((Go.bits .and .u32 (rd l1 aa) (rd l1 ab)) == 0)=false:=beq_eq_false_iff_ne.mpr cn);(have di:((Go.bits .and .u32 (rd l1 aa) (rd l1 ab)) != 0)=true:=bne_iff_ne.mpr cn);(obtain rfl:=Option.some.inj H);(have gu:=af.out);(have gv:=ai.out);(obtain⟨ei,ek,eo,es⟩:=zq4 ae.out);(obtain⟨eu,ey,ez,fa⟩:=zf4 ae.out);(have aw:0≤(ab:Int):=zD);(have ax:ab < (ac.length:Int):=zD);(obtain⟨bd,cb,cd,ce,aj,ak,al,am⟩:=at_T41 bq.out ab aw ax);(obtain rfl:av=bd:=(by injection ce));(replace aj:=zX HB aj);(replace ak:=zX HB ak);(have bx:=Za.mk am);(have bz:=Za.mk al);(clear am al);(replace aw:=eq_true aw);(replace ax:=eq_true ax);(have fb:=zj ag 0 (.int .i64 ((Zb ac aa).f0)))
      (have fc:=zj ag 1 (.slice az ((Zb ac aa).f1).length ba));(obtain⟨fd,fe⟩:=zf2 ag.out);(have bm:0≤(aa:Int):=zD);(have bn:aa < (l1.length:Int):=zD);(obtain⟨cf,co,ao⟩:=Kd.at_int dj.out aa bm bn);(cases co);(replace ao:=zX HB ao);(replace bm:=eq_true bm);(replace bn:=eq_true bn);(have bo:0≤(ab:Int):=zD);(have bp:ab < (l1.length:Int):=zD);(obtain⟨cg,cp,ap⟩:=Kd.at_int dj.out ab bo bp);(obtain rfl:cf=cg:=(by injection cp));(replace ap:=zX HB ap);(replace bo:=eq_true bo);(replace bp:=eq_true bp)
      go_wp2
      repeat(go_quiet (fail);try go_wp2)
      go_ret
      exact⟨by first|rfl|(simp [Zl,Zk] <;> rfl)|(simp [*,Zl,Zk] <;> rfl),zH HB⟩
     (rw [if_pos cn] at H);(have dh:((Go.bits .and .u32 (rd l1 aa) (rd l1 ab)) == 0)=true:=beq_iff_eq.mpr cn);(have di:((Go.bits .and .u32 (rd l1 aa) (rd l1 ab)) != 0)=false:=bne_eq_false_iff_eq.mpr cn);(clear cn);(have H':=Za.mk H);(clear H);(have gw:=af.out);(have gx:=ai.out);(obtain⟨ff,fg,fh,fi⟩:=zq4 ae.out);(obtain⟨fj,fk,fm,fo⟩:=zf4 ae.out);(have aw:0≤(ab:Int):=zD);(have ax:ab < (ac.length:Int):=zD);(obtain⟨bd,cb,cd,ce,aj,ak,al,am⟩:=at_T41 bq.out ab aw ax);(obtain rfl:av=bd:=(by injection ce));(replace aj:=zX HB aj);(replace ak:=zX HB ak);(have bx:=Za.mk am);(have bz:=Za.mk al);(clear am al);(replace aw:=eq_true aw);(replace ax:=eq_true ax);(have fp:=zj ag 0 (.int .i64 ((Zb ac aa).f0)))
     (have fq:=zj ag 1 (.slice az ((Zb ac aa).f1).length ba));(obtain⟨ft,fu⟩:=zf2 ag.out);(have bm:0≤(aa:Int):=zD);(have bn:aa < (l1.length:Int):=zD);(obtain⟨cf,co,ao⟩:=Kd.at_int dj.out aa bm bn);(cases co);(replace ao:=zX HB ao);(replace bm:=eq_true bm);(replace bn:=eq_true bn);(have bo:0≤(ab:Int):=zD);(have bp:ab < (l1.length:Int):=zD);(obtain⟨cg,cp,ap⟩:=Kd.at_int dj.out ab bo bp);(obtain rfl:cf=cg:=(by injection cp));(replace ap:=zX HB ap);(replace bo:=eq_true bo);(replace bp:=eq_true bp)
     go_wp2
     repeat(go_quiet (fail);try go_wp2)
     go_roundg k2
     case measure=>have:=cq.out;have:=cu.out;omega
     case rel=>exact⟨(wrap64 (ab + 1)),(by first|rfl|(simp;done)|(simp [*];done)),H',⟨by have:=cq.out;have:=cu.out;omega⟩,⟨zK ae⟩,⟨zK ag⟩,⟨zH HB⟩⟩
end Go.Proofs.Ytbifocddbgleeaa.PAheadParses
