-- By a program.
import Derived.Test.YtbifocddbgleeaaQPAheadParsesx0
namespace Go.Proofs.Ytbifocddbgleeaa.PAheadParses
open Go.RowKit Go.Proofs.YtbifocddbgleeaaW.PrintWords Go.Proofs.YtbifocddbgleeaaW.PrintLast Go.Proofs.YtbifocddbgleeaaW.PrintMore
attribute [local go_sem] max2_int min2_int max_two min_two max_three min_three max_four min_four
set_option linter.unusedVariables false
set_option linter.unusedSimpArgs false
def Zy1.l0:Nat→List Int→Int→Int→Int→Int→Int→List (S41)→Option (Bool)
  |0,_,_,_,_,_,_,_=>none
  |k + 1,x7,x8,x9,x259000,x259001,x259002,x259003=>if x9 < x8 then(if 0≤x9 then(if x9 < (x7.length:Int) then(if(rd x7 x9) < 0 then(some false) else(if(rd x7 x9)≥(wrap64 (x259000 + x259001)) then(some false) else(Zy1.l0 k x7 x8 (wrap64 (x9 + 1)) x259000 x259001 x259002 x259003))) else(none)) else(none)) else(some true)
def Zy1.f (k:Nat) (a0_0:Int) (a0_1:Int) (a0_2:Int) (l0_3:List (S41)) (l1:List Int):Option (Bool):=Zy1.l0 k l1 (l1.length:Int) 0 a0_0 a0_1 a0_2 l0_3
theorem Zy1.mono_l: ∀k,(∀y0 y1 y2 y3 y4 y5 y6,LeO (Zy1.l0 k y0 y1 y2 y3 y4 y5 y6) (Zy1.l0 (k + 1) y0 y1 y2 y3 y4 y5 y6))
  |0=>fun _ _ _ _ _ _ _ r h=>by simp [Zy1.l0] at h
  |k + 1=>by
    have ih0:=Zy1.mono_l k
    · intro y0 y1 y2 y3 y4 y5 y6
      unfold Zy1.l0
      repeat' (with_reducible first|apply ih0|exact LeO.refl _|exact LeO.none _|refine LeO.ite ?_ ?_|refine LeO.bind ?_ (fun _=>?_))
theorem Zy1.mono: ∀a0 a1 a2 a3 a4 k,LeO (Zy1.f k a0 a1 a2 a3 a4) (Zy1.f (k + 1) a0 a1 a2 a3 a4):=by
  intro a0 a1 a2 a3 a4 k
  have ih0:=Zy1.mono_l k
  unfold Zy1.f
  repeat' (with_reducible first|apply ih0|exact LeO.refl _|exact LeO.none _|refine LeO.ite ?_ ?_|refine LeO.bind ?_ (fun _=>?_))
set_option maxHeartbeats 8000000 in
set_option maxRecDepth 100000 in
theorem Zy1.calls (k : Nat) (ag : Int) (ah : Int) (aj : Int) (am : Option Addr) (an : Nat) (ai : List (S41)) (A1 : Option Addr) (c1 : Nat) (l1 : List Int) (r : Bool) (w : World) (ao : Kd.C k41 w am ai.length ai) (ap : ai.length ≤ an) (bn : Kd.C (Kd.int .i64) w A1 l1.length l1) (bo : l1.length ≤ c1) (h : Zy1.f k ag ah aj ai l1 = some r) :
    Calls Try.prog 25 #[.agg #[.int .i64 ag,.int .i64 ah,.int .i64 aj,.slice am ai.length an],.slice A1 l1.length c1] w fun e w'=>e= .returned (.bool r)∧Below w.heap.size w w':=by
 (have bu:=Try.underlying24);(have bx:=Try.underlying3);(have bp:=Za.mk ao);(have bq:=Za.mk ap);(clear ao ap);(have bb:=Za.mk bn);(have bz:=Za.mk bo);(clear bn bo);(have HB:=Za.mk (Below.refl w.heap.size w));(have H:(Zy1.l0 k l1 (l1.length:Int) 0 ag ah aj ai)=some r:=h);(clear h);(have H':=Za.mk H);(clear H)
 go_enter Try.func25,Try.ntmps25
 go_wp2_with (first|((with_reducible refine Zs (N:=2) rfl ?_);refine Zx ?hg (N:=2) ?hd (cs:=#[.int .i64 ag,.int .i64 ah,.int .i64 aj,.slice am ai.length an]) (t:=24) ?hr ?_;(case hd=>rfl);(case hg=>rfl);(case hr=>first|(go_simp;done)|(go_simp;rfl));intro ak hg w3 hbox hb;have ac:=Za.mk (hbox);have br:=Za.mk ((by rw [hg];exact(Zg (zH HB)):w.heap.size≤ak));have bs:=Za.mk ((by rw [hg];exact(Zg (zH HB)):w.heap.size≤ak));replace HB:=Za.mk (Zh (zH HB) hb);clear hb hbox hg))
 go_loopg [9] k (fun kq v9 w'=>∃(aa:Int),v9= .int .i64 aa∧Za (Zy1.l0 kq l1 (l1.length:Int) aa ag ah aj ai=some r)∧Za (kq≤k)∧Za (w'.heap[ak]? =some (.cells #[.int .i64 ag,.int .i64 ah,.int .i64 aj,(.slice am ai.length an)] 24 (0,0)))∧Za (Below w.heap.size w w'))
 case atStart=>exact⟨(0),(by first|rfl|(simp;done)|(simp [*];done)),H',⟨Nat.le_refl _⟩,⟨zK ac⟩,⟨zH HB⟩⟩
 case round=>
  (clear H');(try clear c1);(try clear c2);(try clear p2);(obtain⟨aa,rfl,HA,bt,ac,HB⟩:=hrel)
  cases gk with
  |zero=>exact absurd HA.out (by simp [Zy1.l0])
  |succ k1=>
   (have H:=HA.out);(clear HA);(simp only [Zy1.l0] at H)
   by_cases c4:aa < (l1.length:Int)
   rotate_left
   ·rw [if_neg c4] at H
    (have bc:decide (aa < (l1.length:Int))=false:=decide_eq_false c4);(clear c4);(obtain rfl:=Option.some.inj H)
    go_wp2
    go_ret
    exact⟨by first|rfl|(simp [Zl,Zk] <;> rfl)|(simp [*,Zl,Zk] <;> rfl),zH HB⟩
   (rw [if_pos c4] at H);(have bc:decide (aa < (l1.length:Int))=true:=decide_eq_true c4);(clear c4)
   by_cases c5:0≤aa
   rotate_left
   ·rw [if_neg c5] at H
    exact absurd H (by simp)
   (rw [if_pos c5] at H);(have bv:decide (0≤aa)=true:=decide_eq_true c5);(clear c5)
   by_cases c6:aa < (l1.length:Int)
   rotate_left
   ·rw [if_neg c6] at H
    exact absurd H (by simp)
   (rw [if_pos c6] at H);(have bw:decide (aa < (l1.length:Int))=true:=decide_eq_true c6);(clear c6)
   by_cases c7:(rd l1 aa) < 0
   ·rw [if_pos c7] at H
    (have bd:decide ((rd l1 aa) < 0)=true:=decide_eq_true c7);(clear c7);(obtain rfl:=Option.some.inj H);(have ae:0≤(aa:Int):=zD);(have af:aa < (l1.length:Int):=zD);(obtain⟨aq,al,ab⟩:=Kd.at_int bb.out aa ae af);(cases al);(replace ab:=zX HB ab);(replace ae:=eq_true ae);(replace af:=eq_true af)
    go_wp2
    go_ret
    exact⟨by first|rfl|(simp [Zl,Zk] <;> rfl)|(simp [*,Zl,Zk] <;> rfl),zH HB⟩
   (rw [if_neg c7] at H);(have bd:decide ((rd l1 aa) < 0)=false:=decide_eq_false c7);(clear c7)
   by_cases c8:(rd l1 aa)≥(wrap64 (ag + ah))
   ·rw [if_pos c8] at H
    (have be:decide ((wrap64 (ag + ah))≤(rd l1 aa))=true:=decide_eq_true c8);(clear c8);(obtain rfl:=Option.some.inj H);(have ae:0≤(aa:Int):=zD);(have af:aa < (l1.length:Int):=zD);(obtain⟨aq,al,ab⟩:=Kd.at_int bb.out aa ae af);(cases al);(replace ab:=zX HB ab);(replace ae:=eq_true ae);(replace af:=eq_true af);(obtain⟨bf,bg,bh,bi⟩:=zq4 ac.out);(obtain⟨bj,bk,bl,bm⟩:=zf4 ac.out)
    go_wp2
    go_ret
    exact⟨by first|rfl|(simp [Zl,Zk] <;> rfl)|(simp [*,Zl,Zk] <;> rfl),zH HB⟩
   (rw [if_neg c8] at H);(have be:decide ((wrap64 (ag + ah))≤(rd l1 aa))=false:=decide_eq_false c8);(clear c8);(have H':=Za.mk H);(clear H);(have ae:0≤(aa:Int):=zD);(have af:aa < (l1.length:Int):=zD);(obtain⟨aq,al,ab⟩:=Kd.at_int bb.out aa ae af);(cases al);(replace ab:=zX HB ab);(replace ae:=eq_true ae);(replace af:=eq_true af);(obtain⟨ar,au,av,aw⟩:=zq4 ac.out);(obtain⟨ax,ay,az,ba⟩:=zf4 ac.out)
   go_wp2
   go_roundg k1
   case measure=>have:=bt.out;omega
   case rel=>exact⟨(wrap64 (aa + 1)),(by first|rfl|(simp;done)|(simp [*];done)),H',⟨by have:=bt.out;omega⟩,⟨zK ac⟩,⟨zH HB⟩⟩
end Go.Proofs.Ytbifocddbgleeaa.PAheadParses
