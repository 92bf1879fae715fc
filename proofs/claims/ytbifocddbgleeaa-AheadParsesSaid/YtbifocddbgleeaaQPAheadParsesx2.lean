-- By a program.
import Derived.Test.YtbifocddbgleeaaQPAheadParsesx0
import Derived.Test.YtbifocddbgleeaaQPAheadParsesx1
namespace Go.Proofs.Ytbifocddbgleeaa.PAheadParses
set_option maxHeartbeats 8000000
set_option maxRecDepth 100000
open Go.RowKit Go.Proofs.YtbifocddbgleeaaW.PrintWords Go.Proofs.YtbifocddbgleeaaW.PrintLast Go.Proofs.YtbifocddbgleeaaW.PrintMore
attribute [local go_sem] max2_int min2_int max_two min_two max_three min_three max_four min_four
set_option linter.unusedVariables false
set_option linter.unusedSimpArgs false
mutual
def Zb1.j0:Nat→Bool→Int→Int→Int→List (S41)→Option (Int)
  |0,_,_,_,_,_=>none
  |k + 1,x35,x105000,x105001,x105002,x105003=>if x35=true then(some 1) else(if x105002 < 0 then(Zb1.j1 k true x105000 x105001 x105002 x105003) else(Zb1.j1 k (decide (x105002≥x105001)) x105000 x105001 x105002 x105003))
def Zb1.j1:Nat→Bool→Int→Int→Int→List (S41)→Option (Int)
  |0,_,_,_,_,_=>none
  |k + 1,x45,x105000,x105001,x105002,x105003=>if x45=true then(some 2) else(Zb1.l0 k x105003 (x105003.length:Int) 0 x105000 x105001 x105002 x105003)
def Zb1.l0:Nat→List (S41)→Int→Int→Int→Int→Int→List (S41)→Option (Int)
  |0,_,_,_,_,_,_,_=>none
  |k + 1,x47,x48,x49,x105000,x105001,x105002,x105003=>if x49 < x48 then(if 0≤x49 then(if x49 < (x47.length:Int) then(if((Zb x47 x49).f0) < 0 then(some 2) else(if((Zb x47 x49).f0)≥x105001 then(some 2) else((grammar_signs.f x105000 x105001 x105002 x105003 ((Zb x47 x49).f1)).bind fun t108=>(if t108=true then(Zb1.l0 k x47 x48 (wrap64 (x49 + 1)) x105000 x105001 x105002 x105003) else(some 2))))) else(none)) else(none)) else(some 0)
end
def Zb1.f (k:Nat) (a0_0:Int) (a0_1:Int) (a0_2:Int) (l0_3:List (S41)):Option (Int):=if a0_0 < 1 then(Zb1.j0 k true a0_0 a0_1 a0_2 l0_3) else(if a0_0 > 3 then(Zb1.j0 k true a0_0 a0_1 a0_2 l0_3) else(if a0_1 < 1 then(Zb1.j0 k true a0_0 a0_1 a0_2 l0_3) else(if a0_1 > 5 then(Zb1.j0 k true a0_0 a0_1 a0_2 l0_3) else(if(l0_3.length:Int) > 10 then(Zb1.j0 k true a0_0 a0_1 a0_2 l0_3) else((grammar_Check_1_any.f l0_3).bind fun t105=>(Zb1.j0 k t105 a0_0 a0_1 a0_2 l0_3))))))
theorem Zb1.mono_l: ∀k,(∀y0 y1 y2 y3 y4,LeO (Zb1.j0 k y0 y1 y2 y3 y4) (Zb1.j0 (k + 1) y0 y1 y2 y3 y4))∧(∀y0 y1 y2 y3 y4,LeO (Zb1.j1 k y0 y1 y2 y3 y4) (Zb1.j1 (k + 1) y0 y1 y2 y3 y4))∧(∀y0 y1 y2 y3 y4 y5 y6,LeO (Zb1.l0 k y0 y1 y2 y3 y4 y5 y6) (Zb1.l0 (k + 1) y0 y1 y2 y3 y4 y5 y6))
  |0=>⟨fun _ _ _ _ _ r h=>by simp [Zb1.j0] at h,fun _ _ _ _ _ r h=>by simp [Zb1.j1] at h,fun _ _ _ _ _ _ _ r h=>by simp [Zb1.l0] at h⟩
  |k + 1=>by
    obtain⟨ih0,ih1,ih2⟩:=Zb1.mono_l k
    refine⟨?_,?_,?_⟩
    · intro y0 y1 y2 y3 y4
      unfold Zb1.j0
      repeat' (with_reducible first|apply ih0|apply ih1|apply ih2|exact LeO.refl _|exact LeO.none _|refine LeO.ite ?_ ?_|refine LeO.bind ?_ (fun _=>?_))
    · intro y0 y1 y2 y3 y4
      unfold Zb1.j1
      repeat' (with_reducible first|apply ih0|apply ih1|apply ih2|exact LeO.refl _|exact LeO.none _|refine LeO.ite ?_ ?_|refine LeO.bind ?_ (fun _=>?_))
    · intro y0 y1 y2 y3 y4 y5 y6
      unfold Zb1.l0
      repeat' (with_reducible first|apply ih0|apply ih1|apply ih2|exact LeO.refl _|exact LeO.none _|refine LeO.ite ?_ ?_|refine LeO.bind ?_ (fun _=>?_))
theorem Zb1.mono: ∀a0 a1 a2 a3 k,LeO (Zb1.f k a0 a1 a2 a3) (Zb1.f (k + 1) a0 a1 a2 a3):=by
  intro a0 a1 a2 a3 k
  obtain⟨ih0,ih1,ih2⟩:=Zb1.mono_l k
  unfold Zb1.f
  repeat' (with_reducible first|apply ih0|apply ih1|apply ih2|exact LeO.refl _|exact LeO.none _|refine LeO.ite ?_ ?_|refine LeO.bind ?_ (fun _=>?_))
theorem Zb1.calls (k : Nat) (ag : Int) (ae : Int) (ai : Int) (ek : Option Addr) (ar : Nat) (ab : List (S41)) (r : Int) (w : World) (fj : Kd.C k41 w ek ab.length ab) (fk : ab.length ≤ ar) (h : Zb1.f k ag ae ai ab = some r) :
    Calls Try.prog 40 #[.agg #[.int .i64 ag,.int .i64 ae,.int .i64 ai,.slice ek ab.length ar]] w fun e w'=>e= .returned (.int .i64 r)∧Below w.heap.size w w':=by
 (have kj:=Try.underlying24);(have kn:=Try.underlying41);(have ay:=Za.mk fj);(have eo:=Za.mk fk);(clear fj fk);(have HB:=Za.mk (Below.refl w.heap.size w));(have H:(if ag < 1 then(Zb1.j0 k true ag ae ai ab) else(if ag > 3 then(Zb1.j0 k true ag ae ai ab) else(if ae < 1 then(Zb1.j0 k true ag ae ai ab) else(if ae > 5 then(Zb1.j0 k true ag ae ai ab) else(if(ab.length:Int) > 10 then(Zb1.j0 k true ag ae ai ab) else((grammar_Check_1_any.f ab).bind fun es=>(Zb1.j0 k es ag ae ai ab)))))))=some r:=h);(clear h);(have jp:=Za.mk H);(clear H)
 go_enter Try.func40,Try.ntmps40
 go_upto_region 2 with (first|((with_reducible refine Zs (N:=1) rfl ?_);(try(refine gate_guard (by rfl) ?_;dsimp only));refine Zx ?hg (N:=1) ?hd (cs:=#[.int .i64 ag,.int .i64 ae,.int .i64 ai,.slice ek ab.length ar]) (t:=24) ?hr ?_;(case hd=>rfl);(case hg=>rfl);(case hr=>first|(go_simp;done)|(go_simp;rfl));intro af hg w3 hbox hb;have n0_:=Za.mk (Zh (zH HB) hb);have n1_:=Za.mk (hbox);have n2_:=Za.mk ((by rw [hg];exact(Zg (zH HB)):w.heap.size≤af));have n3_:=Za.mk ((by rw [hg];exact(Zg (zH HB)):w.heap.size≤af));clear HB;have HB:=n0_;have aa:=n1_;have jr:=n2_;have js:=n3_;clear n0_ n1_ n2_ n3_;clear hb hbox hg))
 (try simp only [Act.put,zp1,zp2,zp3])
 go_cut [35] (fun v35 wc=>∃(kq:Nat) (dk:Bool),v35= .bool dk∧Za (Zb1.j0 kq dk ag ae ai ab=some r)∧Za (kq≤k)∧Za (wc.heap[af]? =some (.cells #[.int .i64 ag,.int .i64 ae,.int .i64 ai,(.slice ek ab.length ar)] 24 (0,0)))∧Za (Below w.heap.size w wc))
 case first=>
  (have H:=jp.out);(clear jp)
  by_cases c4:ag < 1
  ·rw [if_pos c4] at H
   (have cd:decide (ag < 1)=true:=decide_eq_true c4);(clear c4)
   (first|rw [cd]|(simp only [Zc,Zd];rw [cd])|skip)
   (have H':=Za.mk H);(clear H);(obtain⟨ce,cf,cg,ch⟩:=zq4 aa.out);(obtain⟨ci,cj,ck,cm⟩:=zf4 aa.out)
   go_wp2
   go_meet
   case rel=>exact⟨_,(true),(by first|rfl|(simp;done)|(simp [*];done)),H',⟨by first|omega|exact Nat.le_refl _⟩,⟨zK aa⟩,⟨zH HB⟩⟩
  (rw [if_neg c4] at H);(have cd:decide (ag < 1)=false:=decide_eq_false c4);(clear c4)
  (first|rw [cd]|(simp only [Zc,Zd];rw [cd])|skip)
  by_cases c6:ag > 3
  ·rw [if_pos c6] at H
   (have ez:decide (3 < ag)=true:=decide_eq_true c6);(clear c6);(have H':=Za.mk H);(clear H);(obtain⟨cn,co,cp,cq⟩:=zq4 aa.out);(obtain⟨cu,cw,cy,da⟩:=zf4 aa.out)
   go_wp2
   go_meet
   case rel=>exact⟨_,(true),(by first|rfl|(simp;done)|(simp [*];done)),H',⟨by first|omega|exact Nat.le_refl _⟩,⟨zK aa⟩,⟨zH HB⟩⟩
  (rw [if_neg c6] at H);(have ez:decide (3 < ag)=false:=decide_eq_false c6);(clear c6)
  by_cases c8:ae < 1
  ·rw [if_pos c8] at H
   (have fa:decide (ae < 1)=true:=decide_eq_true c8);(clear c8);(have H':=Za.mk H);(clear H);(obtain⟨db,dc,dd,de⟩:=zq4 aa.out);(obtain⟨df,dg,dh,di⟩:=zf4 aa.out)
   go_wp2
   go_meet
   case rel=>exact⟨_,(true),(by first|rfl|(simp;done)|(simp [*];done)),H',⟨by first|omega|exact Nat.le_refl _⟩,⟨zK aa⟩,⟨zH HB⟩⟩
  (rw [if_neg c8] at H);(have fa:decide (ae < 1)=false:=decide_eq_false c8);(clear c8)
  by_cases c10:ae > 5
  ·rw [if_pos c10] at H
   (have dl:decide (5 < ae)=true:=decide_eq_true c10);(clear c10);(have H':=Za.mk H);(clear H);(obtain⟨bc,bd,be,bf⟩:=zq4 aa.out);(obtain⟨bg,bh,bi,bj⟩:=zf4 aa.out)
   go_wp2
   go_meet
   case rel=>exact⟨_,(true),(by first|rfl|(simp;done)|(simp [*];done)),H',⟨by first|omega|exact Nat.le_refl _⟩,⟨zK aa⟩,⟨zH HB⟩⟩
  (rw [if_neg c10] at H);(have dl:decide (5 < ae)=false:=decide_eq_false c10);(clear c10)
  by_cases fp:(ab.length:Int) > 10
  ·rw [if_pos fp] at H
   (have dm:decide (10 < (ab.length:Int))=true:=decide_eq_true fp);(have dn:decide (10 < ab.length)=true:=decide_eq_true (by omega));(clear fp);(have H':=Za.mk H);(clear H);(obtain⟨bk,bl,bm,bn⟩:=zq4 aa.out);(obtain⟨bo,bp,bq,br⟩:=zf4 aa.out)
   go_wp2
   go_meet
   case rel=>exact⟨_,(true),(by first|rfl|(simp;done)|(simp [*];done)),H',⟨by first|omega|exact Nat.le_refl _⟩,⟨zK aa⟩,⟨zH HB⟩⟩
  (rw [if_neg fp] at H);(have dm:decide (10 < (ab.length:Int))=false:=decide_eq_false fp);(have dn:decide (10 < ab.length)=false:=decide_eq_false (by omega));(clear fp);(replace H:=Option.bind_eq_some_iff.mp H);(obtain⟨es,fx,H⟩:=H);(replace H:(Zb1.j0 k es ag ae ai ab)=some r:=H);(have kp:=Za.mk fx);(clear fx);(have H':=Za.mk H);(clear H);(obtain⟨bs,bt,bu,bv⟩:=zq4 aa.out);(obtain⟨bw,bx,bz,ca⟩:=zf4 aa.out)
  go_wp2_with (first|(go_at_call 46;(with_reducible refine(grammar_Check_1_any.calls _ _ ab es _ ?side1 ?side2 kp.out).mono ?_);(case side1=>exact zC ay HB);(case side2=>exact eo.out);rintro e kr ⟨rfl,hb⟩;replace aa:=Za.mk (Zj (g:=af) (zK aa) hb);replace HB:=Za.mk (Zh (zH HB) hb);(try clear hb);(try clear hb2);(try clear hk);(try clear hi)))
  go_meet
  case rel=>exact⟨_,(es),(by first|rfl|(simp;done)|(simp [*];done)),H',⟨by first|omega|exact Nat.le_refl _⟩,⟨zK aa⟩,⟨zH HB⟩⟩
 case rest=>
  (clear jp);(try clear c1);(try clear p2);(try clear cd);(try clear ez);(try clear fa);(try clear dl);(try clear dm);(try clear dn);(try clear bc bd be bf bk bl bm bn bs bt bu bv ce cf cg ch cn co cp cq db dc dd de bg bh bi bj bo bp bq br bw bx bz ca ci cj ck cm cu cw cy da df dg dh di);(obtain⟨kq,dk,rfl,HA,gl,aa,HB⟩:=hcut)
  cases kq with
  |zero=>exact absurd HA.out (by simp [Zb1.j0])
  |succ jq=>
   (have H:=HA.out);(clear HA);(simp only [Zb1.j0] at H)
   by_cases fq:dk=true
   ·subst fq
    (have H1:(some 1)=some r:=by rw [if_pos rfl] at H;exact H);(clear H);(have H:=H1);(clear H1);(obtain rfl:=Option.some.inj H)
    go_wp2
    go_ret
    exact⟨by first|rfl|(simp [Zl,Zk] <;> rfl)|(simp [*,Zl,Zk] <;> rfl),zH HB⟩
   (replace fq:=Bool.eq_false_iff.mpr fq);(subst fq);(have H1:(if ai < 0 then(Zb1.j1 jq true ag ae ai ab) else(Zb1.j1 jq (decide (ai≥ae)) ag ae ai ab))=some r:=by rw [if_neg (show ¬ (false=true) by decide)] at H;exact H);(clear H);(have H:=H1);(clear H1);(have fm:=Za.mk H);(clear H)
   go_upto_region 4 with (fail)
   go_cut [45] (fun v45 wc=>∃(kq:Nat) (cb:Bool),v45= .bool cb∧Za (Zb1.j1 kq cb ag ae ai ab=some r)∧Za (kq≤jq)∧Za (wc.heap[af]? =some (.cells #[.int .i64 ag,.int .i64 ae,.int .i64 ai,(.slice ek ab.length ar)] 24 (0,0)))∧Za (Below w.heap.size w wc))
   case first=>
    (have H:=fm.out);(clear fm)
    by_cases ft:ai < 0
    ·rw [if_pos ft] at H
     (have az:decide (ai < 0)=true:=decide_eq_true ft);(clear ft)
     (first|rw [az]|(simp only [Zc,Zd];rw [az])|skip)
     (have H':=Za.mk H);(clear H);(obtain⟨dp,dq,dr,dt⟩:=zq4 aa.out);(obtain⟨du,dv,dw,dx⟩:=zf4 aa.out)
     go_wp2
     go_meet
     case rel=>exact⟨_,(true),(by first|rfl|(simp;done)|(simp [*];done)),H',⟨by have:=gl.out;first|omega|exact Nat.le_refl _⟩,⟨zK aa⟩,⟨zH HB⟩⟩
    (rw [if_neg ft] at H);(have az:decide (ai < 0)=false:=decide_eq_false ft);(clear ft)
    (first|rw [az]|(simp only [Zc,Zd];rw [az])|skip)
    (have H':=Za.mk H);(clear H);(obtain⟨dy,dz,ea,ec⟩:=zq4 aa.out);(obtain⟨ee,ef,eh,ei⟩:=zf4 aa.out)
    go_wp2
    go_meet
    case rel=>exact⟨_,(decide (ai≥ae)),(by first|rfl|(simp;done)|(simp [*];done)),H',⟨by have:=gl.out;first|omega|exact Nat.le_refl _⟩,⟨zK aa⟩,⟨zH HB⟩⟩
   case rest=>
    (clear fm);(try clear c1);(try clear p2);(try clear cd);(try clear ez);(try clear fa);(try clear dl);(try clear dm);(try clear dn);(try clear fq);(try clear az);(try clear bc bd be bf bk bl bm bn bs bt bu bv dp dq dr dt dy dz ea ec ce cf cg ch cn co cp cq db dc dd de bg bh bi bj bo bp bq br bw bx bz ca du dv dw dx ee ef eh ei ci cj ck cm cu cw cy da df dg dh di);(try clear p2);(obtain⟨kq,cb,rfl,HA,fy,aa,HB⟩:=hcut)
    cases kq with
    |zero=>exact absurd HA.out (by simp [Zb1.j1])
    |succ fo=>
     (have H:=HA.out);(clear HA);(simp only [Zb1.j1] at H)
     by_cases fz:cb=true
     ·subst fz
      (have H1:(some 2)=some r:=by rw [if_pos rfl] at H;exact H);(clear H);(have H:=H1);(clear H1);(obtain rfl:=Option.some.inj H)
      go_wp2
      go_ret
      exact⟨by first|rfl|(simp [Zl,Zk] <;> rfl)|(simp [*,Zl,Zk] <;> rfl),zH HB⟩
     (replace fz:=Bool.eq_false_iff.mpr fz);(subst fz);(have H1:(Zb1.l0 fo ab (ab.length:Int) 0 ag ae ai ab)=some r:=by rw [if_neg (show ¬ (false=true) by decide)] at H;exact H);(clear H);(have H:=H1);(clear H1);(have H':=Za.mk H);(clear H);(obtain⟨fb,fc,fd,fe⟩:=zq4 aa.out);(obtain⟨ff,fg,fh,fi⟩:=zf4 aa.out)
     go_wp2
     go_loopg [49] fo (fun kq v49 w'=>∃(ac:Int),v49= .int .i64 ac∧Za (Zb1.l0 kq ab (ab.length:Int) ac ag ae ai ab=some r)∧Za (kq≤fo)∧Za (w'.heap[af]? =some (.cells #[.int .i64 ag,.int .i64 ae,.int .i64 ai,(.slice ek ab.length ar)] 24 (0,0)))∧Za (Below w.heap.size w w'))
     case atStart=>exact⟨(0),(by first|rfl|(simp;done)|(simp [*];done)),H',⟨Nat.le_refl _⟩,⟨zK aa⟩,⟨zH HB⟩⟩
     case round=>
      (clear H');(try clear c1);(try clear c2);(try clear p2);(try clear cd);(try clear ez);(try clear fa);(try clear dl);(try clear dm);(try clear dn);(try clear fq);(try clear az);(try clear fz);(try clear bc bd be bf bk bl bm bn bs bt bu bv dp dq dr dt dy dz ea ec fb fc fd fe ce cf cg ch cn co cp cq db dc dd de bg bh bi bj bo bp bq br bw bx bz ca du dv dw dx ee ef eh ei ff fg fh fi ci cj ck cm cu cw cy da df dg dh di);(try clear p2);(obtain⟨ac,rfl,HA,jt,aa,HB⟩:=hrel)
      cases gk with
      |zero=>exact absurd HA.out (by simp [Zb1.l0])
      |succ k3=>
       (have H:=HA.out);(clear HA);(simp only [Zb1.l0] at H)
       by_cases fu:ac < (ab.length:Int)
       rotate_left
       ·rw [if_neg fu] at H
        (have ga:decide (ac < (ab.length:Int))=false:=decide_eq_false fu);(clear fu);(obtain rfl:=Option.some.inj H)
        go_wp2
        go_ret
        exact⟨by first|rfl|(simp [Zl,Zk] <;> rfl)|(simp [*,Zl,Zk] <;> rfl),zH HB⟩
       (rw [if_pos fu] at H);(have ga:decide (ac < (ab.length:Int))=true:=decide_eq_true fu);(clear fu)
       by_cases gm:0≤ac
       rotate_left
       ·rw [if_neg gm] at H
        exact absurd H (by simp)
       (rw [if_pos gm] at H);(have ju:decide (0≤ac)=true:=decide_eq_true gm);(clear gm)
       by_cases gn:ac < (ab.length:Int)
       rotate_left
       ·rw [if_neg gn] at H
        exact absurd H (by simp)
       (rw [if_pos gn] at H);(have jv:decide (ac < (ab.length:Int))=true:=decide_eq_true gn);(clear gn)
       by_cases fv:((Zb ab ac).f0) < 0
       ·rw [if_pos fv] at H
        (have gc:decide (((Zb ab ac).f0) < 0)=true:=decide_eq_true fv);(clear fv);(obtain rfl:=Option.some.inj H);(have au:0≤(ac:Int):=zD);(have av:ac < (ab.length:Int):=zD);(obtain⟨aq,ba,bb,dj,ak,al,am,an⟩:=at_T41 ay.out ac au av);(cases dj);(replace ak:=zX HB ak);(replace al:=zX HB al);(have aw:=Za.mk an);(have ax:=Za.mk am);(clear an am);(replace au:=eq_true au);(replace av:=eq_true av)
        go_wp2_with (first|((with_reducible refine Zs (N:=5) rfl ?_);(try(refine gate_guard (by rfl) ?_;dsimp only));refine Zx ?hg (N:=5) ?hd (cs:=#[.int .i64 0,.slice none 0 0]) (t:=41) ?hr ?_;(case hd=>rfl);(case hg=>rfl);(case hr=>first|(go_simp;done)|(go_simp;rfl));intro aj hg kt hbox hb;have ap:=Za.mk (hbox);have eu:=Za.mk ((by rw [hg];exact(Zg (zH HB)):w.heap.size≤aj));have ey:=Za.mk ((by rw [hg];exact(Zg (zH HB)):w.heap.size≤aj));replace HB:=Za.mk (Zh (zH HB) hb);have ah:=Za.mk ((by rw [hg];exact Nat.ne_of_lt (Zu (g:=af) (o:= .cells #[.int .i64 ag,.int .i64 ae,.int .i64 ai,.slice (some aq) ab.length ar] 24 (0,0)) (zK aa)):af≠aj));have ao:=Za.mk ((by rw [hg];exact Nat.ne_of_gt (Zu (g:=af) (o:= .cells #[.int .i64 ag,.int .i64 ae,.int .i64 ai,.slice (some aq) ab.length ar] 24 (0,0)) (zK aa)):aj≠af));replace aa:=Za.mk (Zj (g:=af) (zK aa) hb);clear hb hbox hg;have jw:=ao.out;have jx:=ah.out;obtain⟨gp,gq⟩:=zq2 ap.out;obtain⟨gu,gv⟩:=zf2 ap.out))
        go_ret
        exact⟨by first|rfl|(simp [Zl,Zk] <;> rfl)|(simp [*,Zl,Zk] <;> rfl),zH HB⟩
       (rw [if_neg fv] at H);(have gc:decide (((Zb ab ac).f0) < 0)=false:=decide_eq_false fv);(clear fv)
       by_cases fw:((Zb ab ac).f0)≥ae
       ·rw [if_pos fw] at H
        (have gh:decide (ae≤((Zb ab ac).f0))=true:=decide_eq_true fw);(clear fw);(obtain rfl:=Option.some.inj H);(have au:0≤(ac:Int):=zD);(have av:ac < (ab.length:Int):=zD);(obtain⟨aq,ba,bb,dj,ak,al,am,an⟩:=at_T41 ay.out ac au av);(cases dj);(replace ak:=zX HB ak);(replace al:=zX HB al);(have aw:=Za.mk an);(have ax:=Za.mk am);(clear an am);(replace au:=eq_true au);(replace av:=eq_true av)
        go_wp2_with (first|((with_reducible refine Zs (N:=5) rfl ?_);(try(refine gate_guard (by rfl) ?_;dsimp only));refine Zx ?hg (N:=5) ?hd (cs:=#[.int .i64 0,.slice none 0 0]) (t:=41) ?hr ?_;(case hd=>rfl);(case hg=>rfl);(case hr=>first|(go_simp;done)|(go_simp;rfl));intro aj hg ku hbox hb;have ap:=Za.mk (hbox);have eu:=Za.mk ((by rw [hg];exact(Zg (zH HB)):w.heap.size≤aj));have ey:=Za.mk ((by rw [hg];exact(Zg (zH HB)):w.heap.size≤aj));replace HB:=Za.mk (Zh (zH HB) hb);have ah:=Za.mk ((by rw [hg];exact Nat.ne_of_lt (Zu (g:=af) (o:= .cells #[.int .i64 ag,.int .i64 ae,.int .i64 ai,.slice (some aq) ab.length ar] 24 (0,0)) (zK aa)):af≠aj));have ao:=Za.mk ((by rw [hg];exact Nat.ne_of_gt (Zu (g:=af) (o:= .cells #[.int .i64 ag,.int .i64 ae,.int .i64 ai,.slice (some aq) ab.length ar] 24 (0,0)) (zK aa)):aj≠af));replace aa:=Za.mk (Zj (g:=af) (zK aa) hb);clear hb hbox hg;have jy:=ao.out;have jz:=ah.out;obtain⟨gw,gx⟩:=zq2 ap.out;obtain⟨gy,gz⟩:=zf2 ap.out;obtain⟨ia,ib,ic,ie⟩:=zq4 aa.out;obtain⟨ig,ii,ik,il⟩:=zf4 aa.out))
        go_ret
        exact⟨by first|rfl|(simp [Zl,Zk] <;> rfl)|(simp [*,Zl,Zk] <;> rfl),zH HB⟩
       (rw [if_neg fw] at H);(have gh:decide (ae≤((Zb ab ac).f0))=false:=decide_eq_false fw);(clear fw);(replace H:=Option.bind_eq_some_iff.mp H);(obtain⟨gi,gj,H⟩:=H);(replace H:(if gi=true then(Zb1.l0 k3 ab (ab.length:Int) (wrap64 (ac + 1)) ag ae ai ab) else(some 2))=some r:=H);(have ka:=Za.mk gj);(clear gj)
       by_cases io:gi=true
       rotate_left
       ·replace io:=Bool.eq_false_iff.mpr io
        (subst io);(have H1:(some 2)=some r:=by rw [if_neg (show ¬ (false=true) by decide)] at H;exact H);(clear H);(have H:=H1);(clear H1);(obtain rfl:=Option.some.inj H);(have au:0≤(ac:Int):=zD);(have av:ac < (ab.length:Int):=zD);(obtain⟨aq,ba,bb,dj,ak,al,am,an⟩:=at_T41 ay.out ac au av);(cases dj);(replace ak:=zX HB ak);(replace al:=zX HB al);(have aw:=Za.mk an);(have ax:=Za.mk am);(clear an am);(replace au:=eq_true au);(replace av:=eq_true av)
        go_wp2_with (first|((with_reducible refine Zs (N:=5) rfl ?_);(try(refine gate_guard (by rfl) ?_;dsimp only));refine Zx ?hg (N:=5) ?hd (cs:=#[.int .i64 0,.slice none 0 0]) (t:=41) ?hr ?_;(case hd=>rfl);(case hg=>rfl);(case hr=>first|(go_simp;done)|(go_simp;rfl));intro aj hg kv hbox hb;have ap:=Za.mk (hbox);have eu:=Za.mk ((by rw [hg];exact(Zg (zH HB)):w.heap.size≤aj));have ey:=Za.mk ((by rw [hg];exact(Zg (zH HB)):w.heap.size≤aj));replace HB:=Za.mk (Zh (zH HB) hb);have ah:=Za.mk ((by rw [hg];exact Nat.ne_of_lt (Zu (g:=af) (o:= .cells #[.int .i64 ag,.int .i64 ae,.int .i64 ai,.slice (some aq) ab.length ar] 24 (0,0)) (zK aa)):af≠aj));have ao:=Za.mk ((by rw [hg];exact Nat.ne_of_gt (Zu (g:=af) (o:= .cells #[.int .i64 ag,.int .i64 ae,.int .i64 ai,.slice (some aq) ab.length ar] 24 (0,0)) (zK aa)):aj≠af));replace aa:=Za.mk (Zj (g:=af) (zK aa) hb);clear hb hbox hg;have kd:=ao.out;have ke:=ah.out;obtain⟨ip,iq⟩:=zq2 ap.out;obtain⟨ir,iu⟩:=zf2 ap.out;obtain⟨iv,iw,ix,iy⟩:=zq4 aa.out;obtain⟨iz,ja,jb,jc⟩:=zf4 aa.out)|(go_at_call 47;(with_reducible refine(grammar_signs.calls ag ae ai _ _ ab _ _ ((Zb ab ac).f1) false _ ?side1 ?side2 ?side3 ?side4 ka.out).mono ?_);(case side1=>exact Kd.C_below ay.out (zH HB));(case side2=>exact eo.out);(case side3=>exact Kd.C_below aw.out (zH HB));(case side4=>exact ax.out);rintro e kw ⟨rfl,hb⟩;replace aa:=Za.mk (Zj (g:=af) (o:= .cells #[.int .i64 ag,.int .i64 ae,.int .i64 ai,.slice (some aq) ab.length ar] 24 (0,0)) (by (with_reducible repeat(first|refine Zn ?_ _|refine Zi ?_|refine Zm ?_ _));refine Zv ?_ ah.out _;(with_reducible repeat(first|refine Zn ?_ _|refine Zi ?_|refine Zm ?_ _));refine Zv ?_ ah.out _;(with_reducible repeat(first|apply zb3|apply zb2|apply zb1));exact aa.out) hb);replace ap:=Za.mk (Zj (g:=aj) (o:= .cells #[.int .i64 ((Zb ab ac).f0),.slice ba ((Zb ab ac).f1).length bb] 41 (0,0)) (by (with_reducible repeat(first|refine Zn ?_ _|refine Zi ?_|refine Zm ?_ _));refine Zs1 (cs:=#[.int .i64 ((Zb ab ac).f0),.slice none 0 0]) ?_ 1 _ rfl;(with_reducible repeat(first|refine Zn ?_ _|refine Zi ?_|refine Zm ?_ _));refine Zs1 (cs:=#[.int .i64 0,.slice none 0 0]) ?_ 0 _ rfl;(with_reducible repeat(first|apply zb3|apply zb2|apply zb1));exact ap.out) hb);replace HB:=Za.mk (Zh (zH HB) hb);(try clear hb);(try clear hb2);(try clear hk);(try clear hi)))
        go_ret
        exact⟨by first|rfl|(simp [Zl,Zk] <;> rfl)|(simp [*,Zl,Zk] <;> rfl),zH HB⟩
       (subst io);(have H1:(Zb1.l0 k3 ab (ab.length:Int) (wrap64 (ac + 1)) ag ae ai ab)=some r:=by rw [if_pos rfl] at H;exact H);(clear H);(have H:=H1);(clear H1);(have H':=Za.mk H);(clear H);(have au:0≤(ac:Int):=zD);(have av:ac < (ab.length:Int):=zD);(obtain⟨aq,ba,bb,dj,ak,al,am,an⟩:=at_T41 ay.out ac au av);(cases dj);(replace ak:=zX HB ak);(replace al:=zX HB al);(have aw:=Za.mk an);(have ax:=Za.mk am);(clear an am);(replace au:=eq_true au);(replace av:=eq_true av)
       go_wp2_with (first|((with_reducible refine Zs (N:=5) rfl ?_);(try(refine gate_guard (by rfl) ?_;dsimp only));refine Zx ?hg (N:=5) ?hd (cs:=#[.int .i64 0,.slice none 0 0]) (t:=41) ?hr ?_;(case hd=>rfl);(case hg=>rfl);(case hr=>first|(go_simp;done)|(go_simp;rfl));intro aj hg kx hbox hb;have ap:=Za.mk (hbox);have eu:=Za.mk ((by rw [hg];exact(Zg (zH HB)):w.heap.size≤aj));have ey:=Za.mk ((by rw [hg];exact(Zg (zH HB)):w.heap.size≤aj));replace HB:=Za.mk (Zh (zH HB) hb);have ah:=Za.mk ((by rw [hg];exact Nat.ne_of_lt (Zu (g:=af) (o:= .cells #[.int .i64 ag,.int .i64 ae,.int .i64 ai,.slice (some aq) ab.length ar] 24 (0,0)) (zK aa)):af≠aj));have ao:=Za.mk ((by rw [hg];exact Nat.ne_of_gt (Zu (g:=af) (o:= .cells #[.int .i64 ag,.int .i64 ae,.int .i64 ai,.slice (some aq) ab.length ar] 24 (0,0)) (zK aa)):aj≠af));replace aa:=Za.mk (Zj (g:=af) (zK aa) hb);clear hb hbox hg;have kf:=ao.out;have ki:=ah.out;obtain⟨jd,je⟩:=zq2 ap.out;obtain⟨jf,jg⟩:=zf2 ap.out;obtain⟨jh,ji,jj,jk⟩:=zq4 aa.out;obtain⟨jl,jm,jn,jo⟩:=zf4 aa.out)|(go_at_call 47;(with_reducible refine(grammar_signs.calls ag ae ai _ _ ab _ _ ((Zb ab ac).f1) true _ ?side1 ?side2 ?side3 ?side4 ka.out).mono ?_);(case side1=>exact Kd.C_below ay.out (zH HB));(case side2=>exact eo.out);(case side3=>exact Kd.C_below aw.out (zH HB));(case side4=>exact ax.out);rintro e ky ⟨rfl,hb⟩;replace aa:=Za.mk (Zj (g:=af) (o:= .cells #[.int .i64 ag,.int .i64 ae,.int .i64 ai,.slice (some aq) ab.length ar] 24 (0,0)) (by (with_reducible repeat(first|refine Zn ?_ _|refine Zi ?_|refine Zm ?_ _));refine Zv ?_ ah.out _;(with_reducible repeat(first|refine Zn ?_ _|refine Zi ?_|refine Zm ?_ _));refine Zv ?_ ah.out _;(with_reducible repeat(first|apply zb3|apply zb2|apply zb1));exact aa.out) hb);replace ap:=Za.mk (Zj (g:=aj) (o:= .cells #[.int .i64 ((Zb ab ac).f0),.slice ba ((Zb ab ac).f1).length bb] 41 (0,0)) (by (with_reducible repeat(first|refine Zn ?_ _|refine Zi ?_|refine Zm ?_ _));refine Zs1 (cs:=#[.int .i64 ((Zb ab ac).f0),.slice none 0 0]) ?_ 1 _ rfl;(with_reducible repeat(first|refine Zn ?_ _|refine Zi ?_|refine Zm ?_ _));refine Zs1 (cs:=#[.int .i64 0,.slice none 0 0]) ?_ 0 _ rfl;(with_reducible repeat(first|apply zb3|apply zb2|apply zb1));exact ap.out) hb);replace HB:=Za.mk (Zh (zH HB) hb);(try clear hb);(try clear hb2);(try clear hk);(try clear hi)))
       go_roundg k3
       case measure=>have:=gl.out;have:=fy.out;have:=jt.out;omega
       case rel=>exact⟨(wrap64 (ac + 1)),(by first|rfl|(simp;done)|(simp [*];done)),H',⟨by have:=gl.out;have:=fy.out;have:=jt.out;omega⟩,⟨zK aa⟩,⟨zH HB⟩⟩
def machine_Words_1.f (a0:Int) (a1_0:Int):Option (Bool):=if a0 < 0 then(some true) else(some (decide (a0≥a1_0)))
theorem machine_Words_1.calls (a0 : Int) (aa : Int) (g1 : Nat) (r : Bool) (w : World) (hbk1 : w.heap[g1]? = some (.cells #[.int .i64 aa] 3 (0, 0))) (h : machine_Words_1.f a0 aa = some r) :
    Calls Try.prog 48 #[.int .i64 a0,.pointer (some ⟨g1,0,none⟩)] w fun e w'=>e= .returned (.bool r)∧Zf1 w w':=by
 (have ag:=Try.underlying3);(have af:=Za.mk hbk1);(clear hbk1);(have H:(if a0 < 0 then(some true) else(some (decide (a0≥aa))))=some r:=h);(clear h)
 by_cases c3:a0 < 0
 ·rw [if_pos c3] at H
  (have ab:decide (a0 < 0)=true:=decide_eq_true c3);(clear c3);(obtain rfl:=Option.some.inj H)
  go_enter Try.func48,Try.ntmps48
  go_wp2
  go_ret
  exact⟨by first|rfl|(simp;done)|(simp [*];done),by repeat(first|exact Zf1.refl _|apply Zf1.step)⟩
 (rw [if_neg c3] at H);(have ab:decide (a0 < 0)=false:=decide_eq_false c3);(clear c3);(obtain rfl:=Option.some.inj H);(have ac:=zj af 0 (.int .i64 aa));(have ae:=blk_frozen af.out 0)
 go_enter Try.func48,Try.ntmps48
 go_wp2
 go_ret
 exact⟨by first|rfl|(simp;done)|(simp [*];done),by repeat(first|exact Zf1.refl _|apply Zf1.step)⟩
def machine_Words_1_any.f (l0:List Int) (a1_0:Int):Option Bool:=anyO (fun x:Int=>machine_Words_1.f x a1_0) l0
theorem machine_Words_1_any.calls (A0 : Option Addr) (c0 : Nat) (l0 : List Int) (aa : Int) (g1 : Nat) (r : Bool) (w : World) (ab : Kd.C (Kd.int .i64) w A0 l0.length l0) (ac : l0.length ≤ c0) (hbk1 : w.heap[g1]? = some (.cells #[.int .i64 aa] 3 (0, 0))) (h : machine_Words_1_any.f l0 aa = some r) :
    Calls Try.prog 33 #[.slice A0 l0.length c0,.func (.func 48) #[] #[.pointer (some ⟨g1,0,none⟩)]] w fun e w'=>e= .returned (.bool r)∧Below w.heap.size w w':=by
 refine slices_ContainsFunc_Sint_int.anyO (fun x:Int=>machine_Words_1.f x aa) 48 #[.pointer (some ⟨g1,0,none⟩)] (enters_of Try.func48 (by kernel_rfl) rfl) A0 c0 l0 w r h ab ?_
 intro W x cs b hx hB hK hp
 obtain rfl:=hK
 refine(machine_Words_1.calls x aa g1 b W (Zj hbk1 hB) hp).mono ?_
 rintro e w' ⟨rfl,h2⟩
 exact⟨rfl,Zh hB h2.below⟩
def machine_Words.f (a0:Int) (l1:List Int):Option (Int):=if(l1.length:Int) > 12 then(some 1) else((machine_Words_1_any.f l1 a0).bind fun t110=>(if t110=true then(some 2) else(some 0)))
theorem machine_Words.calls (a0 : Int) (A1 : Option Addr) (c1 : Nat) (l1 : List Int) (r : Int) (w : World) (ai : Kd.C (Kd.int .i64) w A1 l1.length l1) (aj : l1.length ≤ c1) (h : machine_Words.f a0 l1 = some r) :
    Calls Try.prog 41 #[.int .i64 a0,.slice A1 l1.length c1] w fun e w'=>e= .returned (.int .i64 r)∧Below w.heap.size w w':=by
 (have an:=Try.underlying3);(have ak:=Za.mk ai);(have al:=Za.mk aj);(clear ai aj);(have HB:=Za.mk (Below.refl w.heap.size w));(have H:(if(l1.length:Int) > 12 then(some 1) else((machine_Words_1_any.f l1 a0).bind fun ac=>(if ac=true then(some 2) else(some 0))))=some r:=h);(clear h)
 by_cases c3:(l1.length:Int) > 12
 ·rw [if_pos c3] at H
  (have ag:decide (12 < (l1.length:Int))=true:=decide_eq_true c3);(have ah:decide (12 < l1.length)=true:=decide_eq_true (by omega));(clear c3);(obtain rfl:=Option.some.inj H)
  go_enter Try.func41,Try.ntmps41
  go_wp2_with (first|((with_reducible refine Zs (N:=2) rfl ?_);refine Zx ?hg (N:=2) ?hd (cs:=#[.int .i64 a0]) (t:=3) ?hr ?_;(case hd=>rfl);(case hg=>rfl);(case hr=>first|(go_simp;done)|(go_simp;rfl));intro aa hg w4 hbox hb;have ab:=Za.mk (hbox);have ae:=Za.mk ((by rw [hg];exact(Zg (zH HB)):w.heap.size≤aa));have af:=Za.mk ((by rw [hg];exact(Zg (zH HB)):w.heap.size≤aa));replace HB:=Za.mk (Zh (zH HB) hb);clear hb hbox hg))
  go_ret
  exact⟨by first|rfl|(simp [Zl,Zk] <;> rfl)|(simp [*,Zl,Zk] <;> rfl),zH HB⟩
 (rw [if_neg c3] at H);(have ag:decide (12 < (l1.length:Int))=false:=decide_eq_false c3);(have ah:decide (12 < l1.length)=false:=decide_eq_false (by omega));(clear c3);(replace H:=Option.bind_eq_some_iff.mp H);(obtain⟨ac,am,H⟩:=H);(replace H:(if ac=true then(some 2) else(some 0))=some r:=H);(have A5:=Za.mk am);(clear am)
 by_cases c6:ac=true
 ·subst c6
  (have H1:(some 2)=some r:=by rw [if_pos rfl] at H;exact H);(clear H);(have H:=H1);(clear H1);(obtain rfl:=Option.some.inj H)
  go_enter Try.func41,Try.ntmps41
  go_wp2_with (first|((with_reducible refine Zs (N:=2) rfl ?_);refine Zx ?hg (N:=2) ?hd (cs:=#[.int .i64 a0]) (t:=3) ?hr ?_;(case hd=>rfl);(case hg=>rfl);(case hr=>first|(go_simp;done)|(go_simp;rfl));intro aa hg w7 hbox hb;have ab:=Za.mk (hbox);have ae:=Za.mk ((by rw [hg];exact(Zg (zH HB)):w.heap.size≤aa));have af:=Za.mk ((by rw [hg];exact(Zg (zH HB)):w.heap.size≤aa));replace HB:=Za.mk (Zh (zH HB) hb);clear hb hbox hg)|((with_reducible refine Zl1 (f:=33) rfl ?_);refine goesL_ (some 10) rfl rfl Try.func33 (by kernel_rfl) rfl #[.slice A1 l1.length c1,.func (.func 48) #[] #[.pointer (some ⟨aa,0,none⟩)]] rfl (by (try simp only [List.map_toArray,List.map_cons,List.map_nil]);first|done|rfl|(simp only [List.length_drop,List.length_take];rfl)) ?_;(with_reducible refine(machine_Words_1_any.calls _ _ l1 a0 aa true _ ?side1 ?side2 ?side3 A5.out).mono ?_);(case side1=>exact zC ak HB);(case side2=>exact al.out);(case side3=>exact(zK ab));rintro e w8 ⟨rfl,hb⟩;refine⟨_,rfl,?_⟩;replace ab:=Za.mk (Zj (g:=aa) (zK ab) hb);replace HB:=Za.mk (Zh (zH HB) hb);(try clear hb);(try clear hb2);(try clear hk);(try clear hi)))
  go_ret
  exact⟨by first|rfl|(simp [Zl,Zk] <;> rfl)|(simp [*,Zl,Zk] <;> rfl),zH HB⟩
 (replace c6:=Bool.eq_false_iff.mpr c6);(subst c6);(have H1:(some 0)=some r:=by rw [if_neg (show ¬ (false=true) by decide)] at H;exact H);(clear H);(have H:=H1);(clear H1);(obtain rfl:=Option.some.inj H)
 go_enter Try.func41,Try.ntmps41
 go_wp2_with (first|((with_reducible refine Zs (N:=2) rfl ?_);refine Zx ?hg (N:=2) ?hd (cs:=#[.int .i64 a0]) (t:=3) ?hr ?_;(case hd=>rfl);(case hg=>rfl);(case hr=>first|(go_simp;done)|(go_simp;rfl));intro aa hg w9 hbox hb;have ab:=Za.mk (hbox);have ae:=Za.mk ((by rw [hg];exact(Zg (zH HB)):w.heap.size≤aa));have af:=Za.mk ((by rw [hg];exact(Zg (zH HB)):w.heap.size≤aa));replace HB:=Za.mk (Zh (zH HB) hb);clear hb hbox hg)|((with_reducible refine Zl1 (f:=33) rfl ?_);refine goesL_ (some 10) rfl rfl Try.func33 (by kernel_rfl) rfl #[.slice A1 l1.length c1,.func (.func 48) #[] #[.pointer (some ⟨aa,0,none⟩)]] rfl (by (try simp only [List.map_toArray,List.map_cons,List.map_nil]);first|done|rfl|(simp only [List.length_drop,List.length_take];rfl)) ?_;(with_reducible refine(machine_Words_1_any.calls _ _ l1 a0 aa false _ ?side1 ?side2 ?side3 A5.out).mono ?_);(case side1=>exact zC ak HB);(case side2=>exact al.out);(case side3=>exact(zK ab));rintro e ao ⟨rfl,hb⟩;refine⟨_,rfl,?_⟩;replace ab:=Za.mk (Zj (g:=aa) (zK ab) hb);replace HB:=Za.mk (Zh (zH HB) hb);(try clear hb);(try clear hb2);(try clear hk);(try clear hi)))
 go_ret
 exact⟨by first|rfl|(simp [Zl,Zk] <;> rfl)|(simp [*,Zl,Zk] <;> rfl),zH HB⟩
def table_wrong.f (k:Nat) (a0_0:Int) (a0_1:Int) (a0_2:Int) (l0_3:List (S41)) (l1:List Int):Option (Int):=(Zb1.f k a0_0 a0_1 a0_2 l0_3).bind fun t112=>(if t112=0 then((machine_Words.f a0_0 l1).bind fun t113=>(some t113)) else(some t112))
theorem table_wrong.mono: ∀a0 a1 a2 a3 a4 k,LeO (table_wrong.f k a0 a1 a2 a3 a4) (table_wrong.f (k + 1) a0 a1 a2 a3 a4):=by
  intro a0 a1 a2 a3 a4 k
  unfold table_wrong.f
  repeat' (with_reducible first|apply Zb1.mono|exact LeO.refl _|exact LeO.none _|refine LeO.ite ?_ ?_|refine LeO.bind ?_ (fun _=>?_))
theorem table_wrong.calls (k : Nat) (ab : Int) (ag : Int) (ah : Int) (ai : Option Addr) (aj : Nat) (ae : List (S41)) (A1 : Option Addr) (c1 : Nat) (l1 : List Int) (r : Int) (w : World) (al : Kd.C k41 w ai ae.length ae) (am : ae.length ≤ aj) (bt : Kd.C (Kd.int .i64) w A1 l1.length l1) (bu : l1.length ≤ c1) (h : table_wrong.f k ab ag ah ae l1 = some r) :
    Calls Try.prog 30 #[.agg #[.int .i64 ab,.int .i64 ag,.int .i64 ah,.slice ai ae.length aj],.slice A1 l1.length c1] w fun e w'=>e= .returned (.int .i64 r)∧Below w.heap.size w w':=by
 (have bx:=Try.underlying24);(have cb:=Try.underlying3);(have an:=Za.mk al);(have ao:=Za.mk am);(clear al am);(have bz:=Za.mk bt);(have ca:=Za.mk bu);(clear bt bu);(have HB:=Za.mk (Below.refl w.heap.size w));(have H:((Zb1.f k ab ag ah ae).bind fun af=>(if af=0 then((machine_Words.f ab l1).bind fun ak=>(some ak)) else(some af)))=some r:=h);(clear h);(replace H:=Option.bind_eq_some_iff.mp H);(obtain⟨af,bv,H⟩:=H);(replace H:(if af=0 then((machine_Words.f ab l1).bind fun ak=>(some ak)) else(some af))=some r:=H);(have A3:=Za.mk bv);(clear bv)
 by_cases c4:af=0
 rotate_left
 ·rw [if_neg c4] at H
  (have bb:(af == 0)=false:=beq_eq_false_iff_ne.mpr c4);(have bc:(af != 0)=true:=bne_iff_ne.mpr c4);(obtain rfl:=Option.some.inj H)
  go_enter Try.func30,Try.ntmps30
  go_wp2_with (first|((with_reducible refine Zs (N:=2) rfl ?_);refine Zx ?hg (N:=2) ?hd (cs:=#[.int .i64 ab,.int .i64 ag,.int .i64 ah,.slice ai ae.length aj]) (t:=24) ?hr ?_;(case hd=>rfl);(case hg=>rfl);(case hr=>first|(go_simp;done)|(go_simp;rfl));intro ac hg cd hbox hb;have aa:=Za.mk (hbox);have ap:=Za.mk ((by rw [hg];exact(Zg (zH HB)):w.heap.size≤ac));have aq:=Za.mk ((by rw [hg];exact(Zg (zH HB)):w.heap.size≤ac));replace HB:=Za.mk (Zh (zH HB) hb);clear hb hbox hg;obtain⟨ar,au,av,aw⟩:=zq4 aa.out;obtain⟨ax,ay,az,ba⟩:=zf4 aa.out)|((with_reducible refine Zl1 (f:=40) rfl ?_);refine goesL_ (some 7) rfl rfl Try.func40 (by kernel_rfl) rfl #[.agg #[.int .i64 ab,.int .i64 ag,.int .i64 ah,.slice ai ae.length aj]] rfl (by (try simp only [List.map_toArray,List.map_cons,List.map_nil]);first|done|rfl|(simp only [List.length_drop,List.length_take];rfl)) ?_;(with_reducible refine(Zb1.calls k ab ag ah _ _ ae af _ ?side1 ?side2 A3.out).mono ?_);(case side1=>exact zC an HB);(case side2=>exact ao.out);rintro e ce ⟨rfl,hb⟩;refine⟨_,rfl,?_⟩;replace aa:=Za.mk (Zj (g:=ac) (zK aa) hb);replace HB:=Za.mk (Zh (zH HB) hb);(try clear hb);(try clear hb2);(try clear hk);(try clear hi)))
  go_ret
  exact⟨by first|rfl|(simp [Zl,Zk] <;> rfl)|(simp [*,Zl,Zk] <;> rfl),zH HB⟩
 (rw [if_pos c4] at H);(have bb:(af == 0)=true:=beq_iff_eq.mpr c4);(have bc:(af != 0)=false:=bne_eq_false_iff_eq.mpr c4);(clear c4);(replace H:=Option.bind_eq_some_iff.mp H);(obtain⟨ak,bw,H⟩:=H);(replace H:(some ak)=some r:=H);(have A5:=Za.mk bw);(clear bw);(obtain rfl:=Option.some.inj H)
 go_enter Try.func30,Try.ntmps30
 go_wp2_with (first|((with_reducible refine Zs (N:=2) rfl ?_);refine Zx ?hg (N:=2) ?hd (cs:=#[.int .i64 ab,.int .i64 ag,.int .i64 ah,.slice ai ae.length aj]) (t:=24) ?hr ?_;(case hd=>rfl);(case hg=>rfl);(case hr=>first|(go_simp;done)|(go_simp;rfl));intro ac hg w6 hbox hb;have aa:=Za.mk (hbox);have ap:=Za.mk ((by rw [hg];exact(Zg (zH HB)):w.heap.size≤ac));have aq:=Za.mk ((by rw [hg];exact(Zg (zH HB)):w.heap.size≤ac));replace HB:=Za.mk (Zh (zH HB) hb);clear hb hbox hg;obtain⟨bd,be,bf,bg⟩:=zq4 aa.out;obtain⟨bh,bi,bj,bk⟩:=zf4 aa.out)|((with_reducible refine Zl1 (f:=40) rfl ?_);refine goesL_ (some 7) rfl rfl Try.func40 (by kernel_rfl) rfl #[.agg #[.int .i64 ab,.int .i64 ag,.int .i64 ah,.slice ai ae.length aj]] rfl (by (try simp only [List.map_toArray,List.map_cons,List.map_nil]);first|done|rfl|(simp only [List.length_drop,List.length_take];rfl)) ?_;(with_reducible refine(Zb1.calls k ab ag ah _ _ ae af _ ?side1 ?side2 A3.out).mono ?_);(case side1=>exact zC an HB);(case side2=>exact ao.out);rintro e w8 ⟨rfl,hb⟩;refine⟨_,rfl,?_⟩;replace aa:=Za.mk (Zj (g:=ac) (zK aa) hb);replace HB:=Za.mk (Zh (zH HB) hb);(try clear hb);(try clear hb2);(try clear hk);(try clear hi);obtain⟨bl,bm,bn,bo⟩:=zq4 aa.out;obtain⟨bp,bq,br,bs⟩:=zf4 aa.out)|((with_reducible refine Zl1 (f:=41) rfl ?_);refine goesL_ (some 14) rfl rfl Try.func41 (by kernel_rfl) rfl #[.int .i64 ab,.slice A1 l1.length c1] rfl (by (try simp only [List.map_toArray,List.map_cons,List.map_nil]);first|done|rfl|(simp only [List.length_drop,List.length_take];rfl)) ?_;(with_reducible refine(machine_Words.calls ab _ _ l1 ak _ ?side1 ?side2 A5.out).mono ?_);(case side1=>exact zC bz HB);(case side2=>exact ca.out);rintro e cf ⟨rfl,hb⟩;refine⟨_,rfl,?_⟩;replace aa:=Za.mk (Zj (g:=ac) (zK aa) hb);replace HB:=Za.mk (Zh (zH HB) hb);(try clear hb);(try clear hb2);(try clear hk);(try clear hi)))
 go_ret
 exact⟨by first|rfl|(simp [Zl,Zk] <;> rfl)|(simp [*,Zl,Zk] <;> rfl),zH HB⟩
end Go.Proofs.Ytbifocddbgleeaa.PAheadParses
