-- By a program.
import Derived.Test.YtbifocddbgleeaaQPAheadParsesx0
import Derived.Test.YtbifocddbgleeaaQPAheadParsesx2
namespace Go.Proofs.Ytbifocddbgleeaa.PAheadParses
open Go.RowKit Go.Proofs.YtbifocddbgleeaaW.PrintWords Go.Proofs.YtbifocddbgleeaaW.PrintLast Go.Proofs.YtbifocddbgleeaaW.PrintMore
attribute [local go_sem] max2_int min2_int max_two min_two max_three min_three max_four min_four
set_option linter.unusedVariables false
set_option linter.unusedSimpArgs false
mutual
def Zh1.l0:Nat→Int→Int→Int→Int→Int→Int→List (S41)→Option (Int × Int)
  |0,_,_,_,_,_,_,_=>none
  |k + 1,x5,x19,x20,x177000,x177001,x177002,x177003=>if x20 < x19 then(Zh1.l1 k x5 x19 x20 x177003 (x177003.length:Int) 0 x177000 x177001 x177002 x177003) else(some (x5,0))
def Zh1.l1:Nat→Int→Int→Int→List (S41)→Int→Int→Int→Int→Int→List (S41)→Option (Int × Int)
  |0,_,_,_,_,_,_,_,_,_,_=>none
  |k + 1,x5,x19,x20,x23,x24,x25,x177000,x177001,x177002,x177003=>if x25 < x24 then(if 0≤x25 then(if x25 < (x23.length:Int) then(Zh1.l2 k x5 x19 x20 x23 x24 x25 ((Zb x23 x25).f1) (((Zb x23 x25).f1).length:Int) 0 x177000 x177001 x177002 x177003 ((Zb x23 x25).f0) ((Zb x23 x25).f1)) else(none)) else(none)) else(Zh1.l0 k x5 x19 (wrap64 (x20 + 1)) x177000 x177001 x177002 x177003)
def Zh1.l2:Nat→Int→Int→Int→List (S41)→Int→Int→List Int→Int→Int→Int→Int→Int→List (S41)→Int→List Int→Option (Int × Int)
  |0,_,_,_,_,_,_,_,_,_,_,_,_,_,_,_=>none
  |k + 1,x5,x19,x20,x23,x24,x25,x30,x31,x32,x177000,x177001,x177002,x177003,x180000,x180001=>if x32 < x31 then(if 0≤x32 then(if x32 < (x30.length:Int) then(if 0≤x180000 then(if(Go.bits .and .u32 (shr .u32 x5 x180000) 1)=1 then(if(rd x30 x32)≥x177000 then(if 0≤(wrap64 ((rd x30 x32) - x177000)) then(Zh1.l2 k (Go.bits .or .u32 x5 (shl .u32 1 (wrap64 ((rd x30 x32) - x177000)))) x19 x20 x23 x24 x25 x30 x31 (wrap64 (x32 + 1)) x177000 x177001 x177002 x177003 x180000 x180001) else(none)) else(Zh1.l2 k x5 x19 x20 x23 x24 x25 x30 x31 (wrap64 (x32 + 1)) x177000 x177001 x177002 x177003 x180000 x180001)) else(Zh1.l2 k x5 x19 x20 x23 x24 x25 x30 x31 (wrap64 (x32 + 1)) x177000 x177001 x177002 x177003 x180000 x180001)) else(none)) else(none)) else(none)) else(Zh1.l1 k x5 x19 x20 x23 x24 (wrap64 (x25 + 1)) x177000 x177001 x177002 x177003)
end
def Zh1.f (k:Nat) (a0_0:Int) (a0_1:Int) (a0_2:Int) (l0_3:List (S41)):Option (Int × Int):=(Zb1.f k a0_0 a0_1 a0_2 l0_3).bind fun t177=>(if t177=0 then(if 0≤a0_2 then(Zh1.l0 k (shl .u32 1 a0_2) a0_1 0 a0_0 a0_1 a0_2 l0_3) else(none)) else(some (0,t177)))
theorem Zh1.mono_l: ∀k,(∀y0 y1 y2 y3 y4 y5 y6,LeO (Zh1.l0 k y0 y1 y2 y3 y4 y5 y6) (Zh1.l0 (k + 1) y0 y1 y2 y3 y4 y5 y6))∧(∀y0 y1 y2 y3 y4 y5 y6 y7 y8 y9,LeO (Zh1.l1 k y0 y1 y2 y3 y4 y5 y6 y7 y8 y9) (Zh1.l1 (k + 1) y0 y1 y2 y3 y4 y5 y6 y7 y8 y9))∧(∀y0 y1 y2 y3 y4 y5 y6 y7 y8 y9 y10 y11 y12 y13 y14,LeO (Zh1.l2 k y0 y1 y2 y3 y4 y5 y6 y7 y8 y9 y10 y11 y12 y13 y14) (Zh1.l2 (k + 1) y0 y1 y2 y3 y4 y5 y6 y7 y8 y9 y10 y11 y12 y13 y14))
  |0=>⟨fun _ _ _ _ _ _ _ r h=>by simp [Zh1.l0] at h,fun _ _ _ _ _ _ _ _ _ _ r h=>by simp [Zh1.l1] at h,fun _ _ _ _ _ _ _ _ _ _ _ _ _ _ _ r h=>by simp [Zh1.l2] at h⟩
  |k + 1=>by
    obtain⟨ih0,ih1,ih2⟩:=Zh1.mono_l k
    refine⟨?_,?_,?_⟩
    · intro y0 y1 y2 y3 y4 y5 y6
      unfold Zh1.l0
      repeat' (with_reducible first|apply ih0|apply ih1|apply ih2|apply Zb1.mono|exact LeO.refl _|exact LeO.none _|refine LeO.ite ?_ ?_|refine LeO.bind ?_ (fun _=>?_))
    · intro y0 y1 y2 y3 y4 y5 y6 y7 y8 y9
      unfold Zh1.l1
      repeat' (with_reducible first|apply ih0|apply ih1|apply ih2|apply Zb1.mono|exact LeO.refl _|exact LeO.none _|refine LeO.ite ?_ ?_|refine LeO.bind ?_ (fun _=>?_))
    · intro y0 y1 y2 y3 y4 y5 y6 y7 y8 y9 y10 y11 y12 y13 y14
      unfold Zh1.l2
      repeat' (with_reducible first|apply ih0|apply ih1|apply ih2|apply Zb1.mono|exact LeO.refl _|exact LeO.none _|refine LeO.ite ?_ ?_|refine LeO.bind ?_ (fun _=>?_))
theorem Zh1.mono: ∀a0 a1 a2 a3 k,LeO (Zh1.f k a0 a1 a2 a3) (Zh1.f (k + 1) a0 a1 a2 a3):=by
  intro a0 a1 a2 a3 k
  obtain⟨ih0,ih1,ih2⟩:=Zh1.mono_l k
  unfold Zh1.f
  repeat' (with_reducible first|apply ih0|apply ih1|apply ih2|apply Zb1.mono|exact LeO.refl _|exact LeO.none _|refine LeO.ite ?_ ?_|refine LeO.bind ?_ (fun _=>?_))
set_option maxHeartbeats 8000000 in
set_option maxRecDepth 100000 in
theorem Zh1.calls (k : Nat) (ah : Int) (af : Int) (ag : Int) (bd : Option Addr) (aw : Nat) (ab : List (S41)) (r1 : Int) (r2 : Int) (w : World) (dj : Kd.C k41 w bd ab.length ab) (dk : ab.length ≤ aw) (h : Zh1.f k ah af ag ab = some (r1, r2)) :
    Calls Try.prog 34 #[.agg #[.int .i64 ah,.int .i64 af,.int .i64 ag,.slice bd ab.length aw]] w fun e w'=>e= .returned (.tuple #[.int .u32 r1,.int .i64 r2])∧Below w.heap.size w w':=by
 (have jj:=Try.underlying24);(have jm:=Try.underlying3);(have jk:=Try.underlying41);(have co:=Za.mk dj);(have dl:=Za.mk dk);(clear dj dk);(have HB:=Za.mk (Below.refl w.heap.size w));(have H:((Zb1.f k ah af ag ab).bind fun au=>(if au=0 then(if 0≤ag then(Zh1.l0 k (shl .u32 1 ag) af 0 ah af ag ab) else(none)) else(some (0,au))))=some (r1,r2):=h);(clear h);(replace H:=Option.bind_eq_some_iff.mp H);(obtain⟨au,io,H⟩:=H);(replace H:(if au=0 then(if 0≤ag then(Zh1.l0 k (shl .u32 1 ag) af 0 ah af ag ab) else(none)) else(some (0,au)))=some (r1,r2):=H);(have A2:=Za.mk io);(clear io)
 by_cases c3:au=0
 rotate_left
 ·rw [if_neg c3] at H
  (have da:(au == 0)=false:=beq_eq_false_iff_ne.mpr c3);(have db:(au != 0)=true:=bne_iff_ne.mpr c3);(simp only [Option.some.injEq,Prod.mk.injEq] at H);(obtain⟨rfl,rfl⟩:=H)
  go_enter Try.func34,Try.ntmps34
  go_wp2_with (first|((with_reducible refine Zs (N:=1) rfl ?_);refine Zx ?hg (N:=1) ?hd (cs:=#[.int .i64 ah,.int .i64 af,.int .i64 ag,.slice bd ab.length aw]) (t:=24) ?hr ?_;(case hd=>rfl);(case hg=>rfl);(case hr=>first|(go_simp;done)|(go_simp;rfl));intro ak hg jn hbox hb;have ae:=Za.mk (hbox);have dz:=Za.mk ((by rw [hg];exact(Zg (zH HB)):w.heap.size≤ak));have ea:=Za.mk ((by rw [hg];exact(Zg (zH HB)):w.heap.size≤ak));replace HB:=Za.mk (Zh (zH HB) hb);clear hb hbox hg;obtain⟨ez,fa,fb,fc⟩:=zq4 ae.out;obtain⟨fd,fe,ff,fg⟩:=zf4 ae.out)|((with_reducible refine Zl1 (f:=40) rfl ?_);refine goesL_ (some 11) rfl rfl Try.func40 (by kernel_rfl) rfl #[.agg #[.int .i64 ah,.int .i64 af,.int .i64 ag,.slice bd ab.length aw]] rfl (by (try simp only [List.map_toArray,List.map_cons,List.map_nil]);first|done|rfl|(simp only [List.length_drop,List.length_take];rfl)) ?_;(with_reducible refine(Zb1.calls k ah af ag _ _ ab au _ ?side1 ?side2 A2.out).mono ?_);(case side1=>exact zC co HB);(case side2=>exact dl.out);rintro e jo ⟨rfl,hb⟩;refine⟨_,rfl,?_⟩;replace ae:=Za.mk (Zj (g:=ak) (zK ae) hb);replace HB:=Za.mk (Zh (zH HB) hb);(try clear hb);(try clear hb2);(try clear hk);(try clear hi)))
  go_ret2
  exact⟨by first|rfl|(simp [Zl,Zk] <;> rfl)|(simp [*,Zl,Zk] <;> rfl),zH HB⟩
 (rw [if_pos c3] at H);(have da:(au == 0)=true:=beq_iff_eq.mpr c3);(have db:(au != 0)=false:=bne_eq_false_iff_eq.mpr c3);(clear c3)
 by_cases c4:0≤ag
 rotate_left
 ·rw [if_neg c4] at H
  exact absurd H (by simp)
 (rw [if_pos c4] at H);(have dn:=eq_true c4);(have dp:decide (0≤ag)=true:=decide_eq_true c4);(clear c4);(obtain⟨dv,ap⟩ : ∃j_:Int,(shl .u32 1 ag)=j_:=⟨_,rfl⟩);(replace H:(Zh1.l0 k dv af 0 ah af ag ab)=some (r1,r2):=by first|(rw [ap] at H;exact H)|(simp only [ap] at H ⊢;exact H));((try rw [ap] at A2));(have ec:(IntKind.u32.wrap (1 * 2 ^ min ag.toNat 32))=dv:=ap);(have ee:ag≤32→(IntKind.u32.wrap (1 * 2 ^ ag.toNat))=dv:=shl_small ap);(have ip:(IntKind.u32.wrap (2 ^ min ag.toNat 32))=dv:=by have h_:=ec;rw [Int.one_mul] at h_;exact h_);(have iq:ag≤32→(IntKind.u32.wrap (2 ^ ag.toNat))=dv:=fun hle_=>by have h_:=ee hle_;rw [Int.one_mul] at h_;exact h_);(have H':=Za.mk H);(clear H)
 go_enter Try.func34,Try.ntmps34
 go_wp2_with (first|((with_reducible refine Zs (N:=1) rfl ?_);refine Zx ?hg (N:=1) ?hd (cs:=#[.int .i64 ah,.int .i64 af,.int .i64 ag,.slice bd ab.length aw]) (t:=24) ?hr ?_;(case hd=>rfl);(case hg=>rfl);(case hr=>first|(go_simp;done)|(go_simp;rfl));intro ak hg w6 hbox hb;have ae:=Za.mk (hbox);have dz:=Za.mk ((by rw [hg];exact(Zg (zH HB)):w.heap.size≤ak));have ea:=Za.mk ((by rw [hg];exact(Zg (zH HB)):w.heap.size≤ak));replace HB:=Za.mk (Zh (zH HB) hb);clear hb hbox hg;obtain⟨bg,bh,bi,bj⟩:=zq4 ae.out;obtain⟨bk,bl,bm,bn⟩:=zf4 ae.out)|((with_reducible refine Zl1 (f:=40) rfl ?_);refine goesL_ (some 11) rfl rfl Try.func40 (by kernel_rfl) rfl #[.agg #[.int .i64 ah,.int .i64 af,.int .i64 ag,.slice bd ab.length aw]] rfl (by (try simp only [List.map_toArray,List.map_cons,List.map_nil]);first|done|rfl|(simp only [List.length_drop,List.length_take];rfl)) ?_;(with_reducible refine(Zb1.calls k ah af ag _ _ ab au _ ?side1 ?side2 A2.out).mono ?_);(case side1=>exact zC co HB);(case side2=>exact dl.out);rintro e w8 ⟨rfl,hb⟩;refine⟨_,rfl,?_⟩;replace ae:=Za.mk (Zj (g:=ak) (zK ae) hb);replace HB:=Za.mk (Zh (zH HB) hb);(try clear hb);(try clear hb2);(try clear hk);(try clear hi);obtain⟨bo,bp,bq,br⟩:=zq4 ae.out;obtain⟨bs,bt,bu,bv⟩:=zf4 ae.out))
 go_loopg [5,20] k (fun kq v5 v20 w'=>∃(dc:Int) (al:Int),v5= .int .u32 dc∧v20= .int .i64 al∧Za (Zh1.l0 kq dc af al ah af ag ab=some (r1,r2))∧Za (kq≤k)∧Za (w'.heap[ak]? =some (.cells #[.int .i64 ah,.int .i64 af,.int .i64 ag,(.slice bd ab.length aw)] 24 (0,0)))∧Za (Below w.heap.size w w'))
 case atStart=>exact⟨(dv),(0),(by first|rfl|(simp;done)|(simp only [← ap] <;> (first|rfl|simp))|(simp [*];done)),(by first|rfl|(simp;done)|(simp [*];done)),H',⟨Nat.le_refl _⟩,⟨zK ae⟩,⟨zH HB⟩⟩
 case round=>
  (clear H');(try clear p2);(try clear da);(try clear db);(try clear dn);(try clear dp);(try clear bg bh bi bj bo bp bq br bk bl bm bn bs bt bu bv);(obtain⟨dc,al,rfl,rfl,HA,bw,ae,HB⟩:=hrel)
  cases gk with
  |zero=>exact absurd HA.out (by simp [Zh1.l0])
  |succ k1=>
   (have H:=HA.out);(clear HA);(simp only [Zh1.l0] at H)
   by_cases c10:al < af
   rotate_left
   ·rw [if_neg c10] at H
    (have cp:decide (al < af)=false:=decide_eq_false c10);(clear c10);(simp only [Option.some.injEq,Prod.mk.injEq] at H);(obtain⟨rfl,rfl⟩:=H)
    go_wp2
    go_ret2
    exact⟨by first|rfl|(simp [Zl,Zk] <;> rfl)|(simp only [← ap];first|rfl|(simp [Zl,Zk] <;> rfl))|(simp [*,Zl,Zk] <;> rfl),zH HB⟩
   (rw [if_pos c10] at H);(have cp:decide (al < af)=true:=decide_eq_true c10);(clear c10);(have H':=Za.mk H);(clear H);(obtain⟨bz,ca,cb,cd⟩:=zq4 ae.out);(obtain⟨ce,cf,cg,ch⟩:=zf4 ae.out)
   go_wp2
   go_loopg [5,25] k1 (fun kq v5 v25 w'=>∃(ck:Int) (aa:Int),v5= .int .u32 ck∧v25= .int .i64 aa∧Za (Zh1.l1 kq ck af al ab (ab.length:Int) aa ah af ag ab=some (r1,r2))∧Za (kq≤k1)∧Za (w'.heap[ak]? =some (.cells #[.int .i64 ah,.int .i64 af,.int .i64 ag,(.slice bd ab.length aw)] 24 (0,0)))∧Za (Below w.heap.size w w'))
   case atStart=>exact⟨(dc),(0),(by first|rfl|(simp;done)|(simp [*];done)),(by first|rfl|(simp;done)|(simp [*];done)),H',⟨Nat.le_refl _⟩,⟨zK ae⟩,⟨zH HB⟩⟩
   case round=>
    (clear H');(try clear c1);(try clear p2);(try clear da);(try clear db);(try clear dn);(try clear dp);(try clear cp);(try clear bz ca cb cd bg bh bi bj bo bp bq br ce cf cg ch bk bl bm bn bs bt bu bv);(try clear p2);(obtain⟨ck,aa,rfl,rfl,HA,bx,ae,HB⟩:=hrel)
    cases gk with
    |zero=>exact absurd HA.out (by simp [Zh1.l1])
    |succ k2=>
     (have H:=HA.out);(clear HA);(simp only [Zh1.l1] at H)
     by_cases dw:aa < (ab.length:Int)
     rotate_left
     ·rw [if_neg dw] at H
      (have dm:decide (aa < (ab.length:Int))=false:=decide_eq_false dw);(clear dw);(have H':=Za.mk H);(clear H)
      go_wp2
      (first|go_roundg k2|(simp only [← ap];go_roundg k2))
      case measure=>have:=bw.out;have:=bx.out;omega
      case rel=>first|exact⟨(ck),(wrap64 (al + 1)),(by first|rfl|(simp;done)|(simp [*];done)),(by first|rfl|(simp;done)|(simp [*];done)),H',⟨by have:=bw.out;have:=bx.out;omega⟩,⟨zK ae⟩,⟨zH HB⟩⟩|(subst ap;exact⟨(ck),(wrap64 (al + 1)),(by first|rfl|(simp;done)|(simp [*];done)),(by first|rfl|(simp;done)|(simp [*];done)),H',⟨by have:=bw.out;have:=bx.out;omega⟩,⟨zK ae⟩,⟨zH HB⟩⟩)
     (rw [if_pos dw] at H);(have dm:decide (aa < (ab.length:Int))=true:=decide_eq_true dw);(clear dw)
     by_cases fh:0≤aa
     rotate_left
     ·rw [if_neg fh] at H
      exact absurd H (by simp)
     (rw [if_pos fh] at H);(have ef:decide (0≤aa)=true:=decide_eq_true fh);(clear fh)
     by_cases fi:aa < (ab.length:Int)
     rotate_left
     ·rw [if_neg fi] at H
      exact absurd H (by simp)
     (rw [if_pos fi] at H);(have eh:decide (aa < (ab.length:Int))=true:=decide_eq_true fi);(clear fi);(have H':=Za.mk H);(clear H);(have dd:0≤(aa:Int):=zD);(have de:aa < (ab.length:Int):=zD);(obtain⟨cq,dq,cu,ic,ba,bb,ci,cj⟩:=at_T41 co.out aa dd de);(cases ic);(replace ba:=zX HB ba);(replace bb:=zX HB bb);(have bc:=Za.mk cj);(have fj:=Za.mk ci);(clear cj ci);(replace dd:=eq_true dd);(replace de:=eq_true de)
     go_wp2_with (first|((with_reducible refine Zs (N:=7) rfl ?_);refine Zx ?hg (N:=7) ?hd (cs:=#[.int .i64 0,.slice none 0 0]) (t:=41) ?hr ?_;(case hd=>rfl);(case hg=>rfl);(case hr=>first|(go_simp;done)|(go_simp;rfl));intro be hg jp hbox hb;have ai:=Za.mk (hbox);have ir:=Za.mk ((by rw [hg];exact(Zg (zH HB)):w.heap.size≤be));have iu:=Za.mk ((by rw [hg];exact(Zg (zH HB)):w.heap.size≤be));replace HB:=Za.mk (Zh (zH HB) hb);have aj:=Za.mk ((by rw [hg];exact Nat.ne_of_lt (Zu (g:=ak) (o:= .cells #[.int .i64 ah,.int .i64 af,.int .i64 ag,.slice (some cq) ab.length aw] 24 (0,0)) (zK ae)):ak≠be));have ar:=Za.mk ((by rw [hg];exact Nat.ne_of_gt (Zu (g:=ak) (o:= .cells #[.int .i64 ah,.int .i64 af,.int .i64 ag,.slice (some cq) ab.length aw] 24 (0,0)) (zK ae)):be≠ak));replace ae:=Za.mk (Zj (g:=ak) (zK ae) hb);clear hb hbox hg;have iv:=ar.out;have iw:=aj.out;obtain⟨df,dg⟩:=zq2 ai.out;obtain⟨dh,di⟩:=zf2 ai.out))
     go_loopg [5,32] k2 (fun kq v5 v32 w'=>∃(ao:Int) (ac:Int),v5= .int .u32 ao∧v32= .int .i64 ac∧Za (Zh1.l2 kq ao af al ab (ab.length:Int) aa ((Zb ab aa).f1) (((Zb ab aa).f1).length:Int) ac ah af ag ab ((Zb ab aa).f0) ((Zb ab aa).f1)=some (r1,r2))∧Za (kq≤k2)∧Za (w'.heap[ak]? =some (.cells #[.int .i64 ah,.int .i64 af,.int .i64 ag,(.slice (some cq) ab.length aw)] 24 (0,0)))∧Za (w'.heap[be]? =some (.cells #[.int .i64 ((Zb ab aa).f0),(.slice dq ((Zb ab aa).f1).length cu)] 41 (0,0)))∧Za (Below w.heap.size w w'))
     case atStart=>exact⟨(ck),(0),(by first|rfl|(simp;done)|(simp [*];done)),(by first|rfl|(simp;done)|(simp [*];done)),H',⟨Nat.le_refl _⟩,⟨by (with_reducible repeat(first|refine Zn ?_ _|refine Zi ?_|refine Zm ?_ _));refine Zv ?_ aj.out _;(with_reducible repeat(first|refine Zn ?_ _|refine Zi ?_|refine Zm ?_ _));refine Zv ?_ aj.out _;(with_reducible repeat(first|apply zb3|apply zb2|apply zb1));exact ae.out⟩,⟨by (with_reducible repeat(first|refine Zn ?_ _|refine Zi ?_|refine Zm ?_ _));refine Zs1 (cs:=#[.int .i64 ((Zb ab aa).f0),.slice none 0 0]) ?_ 1 _ rfl;(with_reducible repeat(first|refine Zn ?_ _|refine Zi ?_|refine Zm ?_ _));refine Zs1 (cs:=#[.int .i64 0,.slice none 0 0]) ?_ 0 _ rfl;(with_reducible repeat(first|apply zb3|apply zb2|apply zb1));exact ai.out⟩,⟨zH HB⟩⟩
     case round=>
      (clear H');(try clear c1);(try clear p1);(try clear q1);(try clear jq);(try clear p2);(try clear da);(try clear db);(try clear dn);(try clear dp);(try clear cp);(try clear dm);(try clear ef);(try clear eh);(try clear jr);(try clear js);(try clear jt);(try clear ju);(try clear jl);(try clear bz ca cb cd df dg bg bh bi bj bo bp bq br ce cf cg ch dh di bk bl bm bn bs bt bu bv);(try clear ba);(try clear bb);(try clear dd);(try clear p2);(try clear de);(obtain⟨ao,ac,rfl,rfl,HA,cn,ae,ai,HB⟩:=hrel)
      cases gk with
      |zero=>exact absurd HA.out (by simp [Zh1.l2])
      |succ k3=>
       (have H:=HA.out);(clear HA);(simp only [Zh1.l2] at H)
       by_cases dx:ac < (((Zb ab aa).f1).length:Int)
       rotate_left
       ·rw [if_neg dx] at H
        (have ei:decide (ac < (((Zb ab aa).f1).length:Int))=false:=decide_eq_false dx);(clear dx);(have H':=Za.mk H);(clear H)
        go_wp2
        (first|go_roundg k3|(simp only [← ap];go_roundg k3))
        case measure=>have:=bw.out;have:=bx.out;have:=cn.out;omega
        case rel=>first|exact⟨(ao),(wrap64 (aa + 1)),(by first|rfl|(simp;done)|(simp [*];done)),(by first|rfl|(simp;done)|(simp [*];done)),H',⟨by have:=bw.out;have:=bx.out;have:=cn.out;omega⟩,⟨zK ae⟩,⟨zH HB⟩⟩|(subst ap;exact⟨(ao),(wrap64 (aa + 1)),(by first|rfl|(simp;done)|(simp [*];done)),(by first|rfl|(simp;done)|(simp [*];done)),H',⟨by have:=bw.out;have:=bx.out;have:=cn.out;omega⟩,⟨zK ae⟩,⟨zH HB⟩⟩)
       (rw [if_pos dx] at H);(have ei:decide (ac < (((Zb ab aa).f1).length:Int))=true:=decide_eq_true dx);(clear dx)
       by_cases fk:0≤ac
       rotate_left
       ·rw [if_neg fk] at H
        exact absurd H (by simp)
       (rw [if_pos fk] at H);(have ix:decide (0≤ac)=true:=decide_eq_true fk);(clear fk)
       by_cases fm:ac < (((Zb ab aa).f1).length:Int)
       rotate_left
       ·rw [if_neg fm] at H
        exact absurd H (by simp)
       (rw [if_pos fm] at H);(have iy:decide (ac < (((Zb ab aa).f1).length:Int))=true:=decide_eq_true fm);(clear fm)
       by_cases ek:0≤((Zb ab aa).f0)
       rotate_left
       ·rw [if_neg ek] at H
        exact absurd H (by simp)
       (rw [if_pos ek] at H);(have iz:=eq_true ek);(have ja:decide (0≤((Zb ab aa).f0))=true:=decide_eq_true ek);(clear ek);(obtain⟨bf,an⟩ : ∃j_:Int,(shr .u32 ao ((Zb ab aa).f0))=j_:=⟨_,rfl⟩);(replace H:(if(Go.bits .and .u32 (bf) 1)=1 then(if(rd ((Zb ab aa).f1) ac)≥ah then(if 0≤(wrap64 ((rd ((Zb ab aa).f1) ac) - ah)) then(Zh1.l2 k3 (Go.bits .or .u32 ao (shl .u32 1 (wrap64 ((rd ((Zb ab aa).f1) ac) - ah)))) af al ab (ab.length:Int) aa ((Zb ab aa).f1) (((Zb ab aa).f1).length:Int) (wrap64 (ac + 1)) ah af ag ab ((Zb ab aa).f0) ((Zb ab aa).f1)) else(none)) else(Zh1.l2 k3 ao af al ab (ab.length:Int) aa ((Zb ab aa).f1) (((Zb ab aa).f1).length:Int) (wrap64 (ac + 1)) ah af ag ab ((Zb ab aa).f0) ((Zb ab aa).f1))) else(Zh1.l2 k3 ao af al ab (ab.length:Int) aa ((Zb ab aa).f1) (((Zb ab aa).f1).length:Int) (wrap64 (ac + 1)) ah af ag ab ((Zb ab aa).f0) ((Zb ab aa).f1)))=some (r1,r2):=by first|(rw [an] at H;exact H)|(simp only [an] at H ⊢;exact H));(have ie:(ao / 2 ^ min ((Zb ab aa).f0).toNat 32)=bf:=an);(have ig:((Zb ab aa).f0)≤32→(ao / 2 ^ ((Zb ab aa).f0).toNat)=bf:=shr_small an)
       by_cases dr:(Go.bits .and .u32 (bf) 1)=1
       rotate_left
       ·rw [if_neg dr] at H
        (have eo:((Go.bits .and .u32 (bf) 1) == 1)=false:=beq_eq_false_iff_ne.mpr dr);(have es:((Go.bits .and .u32 (bf) 1) != 1)=true:=bne_iff_ne.mpr dr);(have H':=Za.mk H);(clear H);(have ax:0≤(ac:Int):=zD);(have ay:ac < (((Zb ab aa).f1).length:Int):=zD);(obtain⟨cw,cy,am⟩:=Kd.at_int bc.out ac ax ay);(cases cy);(replace am:=zX HB am);(replace ax:=eq_true ax);(replace ay:=eq_true ay);(have jb:=ar.out);(have jc:=aj.out);(obtain⟨fo,fp⟩:=zq2 ai.out);(obtain⟨fq,ft⟩:=zf2 ai.out)
        go_wp2
        (first|go_roundg k3|(simp only [← an];go_roundg k3)|(simp only [← ap,← an];go_roundg k3))
        case measure=>have:=bw.out;have:=bx.out;have:=cn.out;omega
        case rel=>first|exact⟨(ao),(wrap64 (ac + 1)),(by first|rfl|(simp;done)|(simp [*];done)),(by first|rfl|(simp;done)|(simp [*];done)),H',⟨by have:=bw.out;have:=bx.out;have:=cn.out;omega⟩,⟨zK ae⟩,⟨zK ai⟩,⟨zH HB⟩⟩|(subst an;subst ap;exact⟨(ao),(wrap64 (ac + 1)),(by first|rfl|(simp;done)|(simp [*];done)),(by first|rfl|(simp;done)|(simp [*];done)),H',⟨by have:=bw.out;have:=bx.out;have:=cn.out;omega⟩,⟨zK ae⟩,⟨zK ai⟩,⟨zH HB⟩⟩)
       (rw [if_pos dr] at H);(have eo:((Go.bits .and .u32 (bf) 1) == 1)=true:=beq_iff_eq.mpr dr);(have es:((Go.bits .and .u32 (bf) 1) != 1)=false:=bne_eq_false_iff_eq.mpr dr);(clear dr)
       by_cases dy:(rd ((Zb ab aa).f1) ac)≥ah
       rotate_left
       ·rw [if_neg dy] at H
        (have eu:decide (ah≤(rd ((Zb ab aa).f1) ac))=false:=decide_eq_false dy);(clear dy);(have H':=Za.mk H);(clear H);(have ax:0≤(ac:Int):=zD);(have ay:ac < (((Zb ab aa).f1).length:Int):=zD);(obtain⟨cw,cy,am⟩:=Kd.at_int bc.out ac ax ay);(cases cy);(replace am:=zX HB am);(replace ax:=eq_true ax);(replace ay:=eq_true ay);(have jd:=ar.out);(have je:=aj.out);(obtain⟨fu,fv⟩:=zq2 ai.out);(obtain⟨fw,fx⟩:=zf2 ai.out);(obtain⟨fy,fz,ga,gc⟩:=zq4 ae.out);(obtain⟨gh,gi,gj,gl⟩:=zf4 ae.out)
        go_wp2
        (first|go_roundg k3|(simp only [← an];go_roundg k3)|(simp only [← ap,← an];go_roundg k3))
        case measure=>have:=bw.out;have:=bx.out;have:=cn.out;omega
        case rel=>first|exact⟨(ao),(wrap64 (ac + 1)),(by first|rfl|(simp;done)|(simp [*];done)),(by first|rfl|(simp;done)|(simp [*];done)),H',⟨by have:=bw.out;have:=bx.out;have:=cn.out;omega⟩,⟨zK ae⟩,⟨zK ai⟩,⟨zH HB⟩⟩|(subst an;subst ap;exact⟨(ao),(wrap64 (ac + 1)),(by first|rfl|(simp;done)|(simp [*];done)),(by first|rfl|(simp;done)|(simp [*];done)),H',⟨by have:=bw.out;have:=bx.out;have:=cn.out;omega⟩,⟨zK ae⟩,⟨zK ai⟩,⟨zH HB⟩⟩)
       (rw [if_pos dy] at H);(have eu:decide (ah≤(rd ((Zb ab aa).f1) ac))=true:=decide_eq_true dy);(clear dy);(obtain⟨av,az⟩ : ∃j_:Int,(wrap64 ((rd ((Zb ab aa).f1) ac) - ah))=j_:=⟨_,rfl⟩);(replace H:(if 0≤(av) then(Zh1.l2 k3 (Go.bits .or .u32 ao (shl .u32 1 (av))) af al ab (ab.length:Int) aa ((Zb ab aa).f1) (((Zb ab aa).f1).length:Int) (wrap64 (ac + 1)) ah af ag ab ((Zb ab aa).f0) ((Zb ab aa).f1)) else(none))=some (r1,r2):=by first|(rw [az] at H;exact H)|(simp only [az] at H ⊢;exact H));(have ii:(IntKind.i64.wrap ((rd ((Zb ab aa).f1) ac) - ah))=av:=(Zc _).trans az)
       by_cases ey:0≤(av)
       rotate_left
       ·rw [if_neg ey] at H
        exact absurd H (by simp)
       (rw [if_pos ey] at H);(have jf:=eq_true ey);(have jg:decide (0≤(av))=true:=decide_eq_true ey);(clear ey);(obtain⟨cm,aq⟩ : ∃j_:Int,(shl .u32 1 (av))=j_:=⟨_,rfl⟩);(replace H:(Zh1.l2 k3 (Go.bits .or .u32 ao (cm)) af al ab (ab.length:Int) aa ((Zb ab aa).f1) (((Zb ab aa).f1).length:Int) (wrap64 (ac + 1)) ah af ag ab ((Zb ab aa).f0) ((Zb ab aa).f1))=some (r1,r2):=by first|(rw [aq] at H;exact H)|(simp only [aq] at H ⊢;exact H));(have dt:(IntKind.u32.wrap (1 * 2 ^ min (av).toNat 32))=cm:=aq);(have du:(av)≤32→(IntKind.u32.wrap (1 * 2 ^ (av).toNat))=cm:=shl_small aq);(have ik:(IntKind.u32.wrap (2 ^ min (av).toNat 32))=cm:=by have h_:=dt;rw [Int.one_mul] at h_;exact h_);(have il:(av)≤32→(IntKind.u32.wrap (2 ^ (av).toNat))=cm:=fun hle_=>by have h_:=du hle_;rw [Int.one_mul] at h_;exact h_);(have H':=Za.mk H);(clear H);(have ax:0≤(ac:Int):=zD);(have ay:ac < (((Zb ab aa).f1).length:Int):=zD);(obtain⟨cw,cy,am⟩:=Kd.at_int bc.out ac ax ay);(cases cy);(replace am:=zX HB am);(replace ax:=eq_true ax);(replace ay:=eq_true ay);(have jh:=ar.out);(have ji:=aj.out);(have gm:=zj ai 0 (.int .i64 ((Zb ab aa).f0)))
       (have gn:=zj ai 1 (.slice (some cw) ((Zb ab aa).f1).length cu));(obtain⟨gp,gq⟩:=zf2 ai.out);(obtain⟨gu,gv,gw,gx⟩:=zq4 ae.out);(obtain⟨gy,gz,ia,ib⟩:=zf4 ae.out)
       go_wp2
       (first|go_roundg k3|(simp only [← aq];go_roundg k3)|(simp only [← az,← aq];go_roundg k3)|(simp only [← an,← az,← aq];go_roundg k3)|(simp only [← ap,← an,← az,← aq];go_roundg k3))
       case measure=>have:=bw.out;have:=bx.out;have:=cn.out;omega
       case rel=>first|exact⟨(Go.bits .or .u32 ao (cm)),(wrap64 (ac + 1)),(by first|rfl|(simp;done)|(simp only [← aq] <;> (first|rfl|simp))|(simp [*];done)),(by first|rfl|(simp;done)|(simp [*];done)),H',⟨by have:=bw.out;have:=bx.out;have:=cn.out;omega⟩,⟨zK ae⟩,⟨zK ai⟩,⟨zH HB⟩⟩|(subst aq;subst az;subst an;subst ap;exact⟨(Go.bits .or .u32 ao (shl .u32 1 (wrap64 ((rd ((Zb ab aa).f1) ac) - ah)))),(wrap64 (ac + 1)),(by first|rfl|(simp;done)|(simp only [← aq] <;> (first|rfl|simp))|(simp [*];done)),(by first|rfl|(simp;done)|(simp [*];done)),H',⟨by have:=bw.out;have:=bx.out;have:=cn.out;omega⟩,⟨zK ae⟩,⟨zK ai⟩,⟨zH HB⟩⟩)
end Go.Proofs.Ytbifocddbgleeaa.PAheadParses
