-- By a program.
import Derived.Test.YtbifocddbgleeaaProg
import Derived.Below
import Derived.Deep.Draws
import Derived.Deep.AppendLies
import Derived.Maps.AppendAt
import Derived.OwnWalk
import Derived.Laws.BytesArg
import Derived.Laws.MakeOwn
import Derived.Laws.OwnMore
import Derived.Deep.OwnRows
import Derived.Tactics
import Derived.Lib.ConvBytes
import Derived.Laws.Slices
import Derived.WalkKit
import Derived.KernelRfl
import Derived.RowKit3
import Derived.Deep.LoopGhost
import Derived.Deep.QuietTactic
import Derived.BigQuiet
import Derived.WideLaws
import Derived.Deep.DeepCutAuto
import Derived.Deep.CutBlock
import Derived.Deep.RegionHeld3
import Derived.Laws.Rows
import Derived.Lib.AppendStr
import Derived.ArgAppend
import Derived.Laws.IdiomCopy
import Derived.OrdersHeld
import Derived.Laws.BitsLemmas
import Derived.Lib.SliceRun
import Derived.Lib.BytesEntry
import Derived.Lib.SlBy
import Derived.Shelf.Abstract
import Derived.Maps.OwnSet
import Derived.RowKit
import Derived.Test.YtbifocddbgleeaaQWWords
import Derived.Test.YtbifocddbgleeaaQWLast
import Derived.Test.YtbifocddbgleeaaQWTab
import Derived.Test.YtbifocddbgleeaaQWFour
import Derived.Test.YtbifocddbgleeaaQWQPut
import Derived.Test.YtbifocddbgleeaaQWApart
import Derived.Test.YtbifocddbgleeaaQWArr
import Derived.Test.YtbifocddbgleeaaQWZeros
import Derived.Test.YtbifocddbgleeaaQWFoot
import Derived.Test.YtbifocddbgleeaaQWKept
import Derived.Test.YtbifocddbgleeaaQWShare
import Derived.Test.YtbifocddbgleeaaQWN
import Derived.Test.YtbifocddbgleeaaQWFootNe
import Derived.Test.YtbifocddbgleeaaQWAt
import Derived.Test.YtbifocddbgleeaaQWEqStruct
import Derived.Test.YtbifocddbgleeaaQWRepsOne
import Derived.Test.YtbifocddbgleeaaQWInv
import Derived.Test.YtbifocddbgleeaaQWInvWords
import Derived.Test.YtbifocddbgleeaaQWGuard
import Derived.Test.YtbifocddbgleeaaQWNEv
import Derived.Test.YtbifocddbgleeaaQWMore
namespace Go.Proofs.Ytbifocddbgleeaa.PAheadParses
open Go.RowKit Go.Proofs.YtbifocddbgleeaaW.PrintWords Go.Proofs.YtbifocddbgleeaaW.PrintLast Go.Proofs.YtbifocddbgleeaaW.PrintMore
attribute [local go_sem] max2_int min2_int max_two min_two max_three min_three max_four min_four
set_option linter.unusedVariables false
set_option linter.unusedSimpArgs false
def anyO {α:Type} (p:α→Option Bool):List α→Option Bool
  | []=>some false
  |x :: l=>(p x).bind fun b=>if b=true then some true else anyO p l
def idxO {α:Type} (p:α→Option Bool):List α→Int→Option Int
  | [],_=>some (-1)
  |x :: l,i=>(p x).bind fun b=>if b=true then some i else idxO p l (i + 1)
theorem idx_anyO {α:Type} (p:α→Option Bool): ∀(l:List α) (i:Int) (q:Bool),0≤i→anyO p l=some q→∃j,idxO p l i=some j∧q=decide (0≤j)
  | [],i,q,_,h=>⟨-1,rfl,by cases h;rfl⟩
  |x :: l,i,q,h0,h=>by
    unfold anyO at h;unfold idxO
    cases hp:p x with
    |none=>rw [hp] at h;cases h
    |some b=>
      rw [hp] at h;simp only [Option.bind_some] at h ⊢
      cases b with
      |true=>refine⟨i,rfl,?_⟩;cases h;simp [h0]
      |false=>exact idx_anyO p l (i + 1) q (by omega) h
theorem LeO.anyO {α:Type} {p q:α→Option Bool} (h: ∀x,LeO (p x) (q x)): ∀l:List α,LeO (anyO p l) (anyO q l)
  | []=>LeO.refl _
  |x :: l=>LeO.bind (h x) (fun _=>LeO.ite (LeO.refl _) (LeO.anyO h l))
def errW:Option Int→Value
  |none=> .nilIface
  |some c=> .iface 0 (.int .i64 c)
theorem Zl:errW none= .nilIface:=rfl
theorem Zk (c:Int):errW (some c)= .iface 0 (.int .i64 c):=rfl
theorem info3:(Try.prog.info? 3).map (fun i=>(i.zero,i.size,i.bytes))=some (some (.int .i64 0),1,8):=by kernel_rfl
theorem info4:(Try.prog.info? 4).map (fun i=>(i.zero,i.size,i.bytes))=some (some (.bool false),1,1):=by kernel_rfl
theorem info37:(Try.prog.info? 37).map (fun i=>(i.zero,i.size,i.bytes))=some (some (.slice none 0 0),1,24):=by kernel_rfl
theorem info42:(Try.prog.info? 42).map (fun i=>(i.zero,i.size,i.bytes))=some (some (.int .u32 0),1,4):=by kernel_rfl
theorem info49:(Try.prog.info? 49).map (fun i=>(i.zero,i.size,i.bytes))=some (some (.slice none 0 0),1,24):=by kernel_rfl
theorem info50:(Try.prog.info? 50).map (fun i=>(i.zero,i.size,i.bytes))=some (some (.slice none 0 0),1,24):=by kernel_rfl
structure S41 where
  f0:Int
  f1:(List Int)
def z41:S41:=⟨(0:Int),([] :List Int)⟩
def k41:Kd S41:=Kd.iso (Kd.pair (Kd.int .i64) (Kd.slice 3 (Kd.int .i64))) (fun x:S41=>(x.f0,x.f1))
theorem k41_open {w:World} {x:S41} {cs:List Value} (h:k41.K w x cs): ∃A1 c1,cs= [.int .i64 x.f0,.slice A1 x.f1.length c1]∧x.f1.length≤c1∧(Kd.int .i64).C w A1 x.f1.length x.f1:=by
  obtain⟨_,_,rfl,rfl,⟨A1,c1,rfl,l1,g1⟩⟩:=h
  exact⟨A1,c1,rfl,l1,g1⟩
def Zb (xs:List S41) (i:Int):S41:=xs.getD i.toNat z41
theorem at_T41 {w:World} {A:Option Addr} {n:Nat} {xs:List S41} (h:Kd.C k41 w A n xs) (i:Int) (h0:0≤i) (h1:i < n): ∃ad A1 c1,A=some ad∧w.cell? (ad.add (i.toNat * 2))=some (.int .i64 (Zb xs i).f0)∧w.cell? ⟨(ad.add (i.toNat * 2)).block,(ad.add (i.toNat * 2)).off + 1,none⟩=some (.slice A1 (Zb xs i).f1.length c1)∧(Zb xs i).f1.length≤c1∧(Kd.int .i64).C w A1 (Zb xs i).f1.length (Zb xs i).f1:=by
  obtain⟨ad,c,e,_,hK,hc0⟩:=Kd.C_get h z41 i h0 h1
  have hc: ∀j u,c[j]? =some u→w.cell? (ad.add (i.toNat * 2 + j))=some u:=hc0
  obtain⟨A1,c1,rfl,l1,g1⟩:=k41_open hK
  exact⟨ad,A1,c1,e,hc 0 _ rfl,by rw [← add_field _ _ 1 (by omega)];exact hc 1 _ rfl,l1,g1⟩
def Zt (xs:List (List Int)) (i:Int):(List Int):=xs.getD i.toNat ([] :List Int)
theorem at_L4 {w:World} {A:Option Addr} {n:Nat} {xs:List (List Int)} (h:Kd.C (Kd.slice 42 (Kd.int .u32)) w A n xs) (i:Int) (h0:0≤i) (h1:i < n): ∃ad A0 c0,A=some ad∧w.cell? (ad.add i.toNat)=some (.slice A0 (Zt xs i).length c0)∧(Zt xs i).length≤c0∧(Kd.int .u32).C w A0 (Zt xs i).length (Zt xs i):=by
  obtain⟨ad,c,e,_,hK,hc0⟩:=Kd.C_get h ([] :List Int) i h0 h1
  have hc: ∀j u,c[j]? =some u→w.cell? (ad.add (i.toNat * 1 + j))=some u:=hc0
  obtain⟨A0,c0,rfl,l0,g0⟩:=hK
  exact⟨ad,A0,c0,e,by have hq:=hc 0 _ rfl;rwa [Nat.mul_one,Nat.add_zero] at hq,l0,g0⟩
def rd_L6 (xs:List (List Bool)) (i:Int):(List Bool):=xs.getD i.toNat ([] :List Bool)
theorem at_L6 {w:World} {A:Option Addr} {n:Nat} {xs:List (List Bool)} (h:Kd.C (Kd.slice 4 Kd.bool) w A n xs) (i:Int) (h0:0≤i) (h1:i < n): ∃ad A0 c0,A=some ad∧w.cell? (ad.add i.toNat)=some (.slice A0 (rd_L6 xs i).length c0)∧(rd_L6 xs i).length≤c0∧Kd.bool.C w A0 (rd_L6 xs i).length (rd_L6 xs i):=by
  obtain⟨ad,c,e,_,hK,hc0⟩:=Kd.C_get h ([] :List Bool) i h0 h1
  have hc: ∀j u,c[j]? =some u→w.cell? (ad.add (i.toNat * 1 + j))=some u:=hc0
  obtain⟨A0,c0,rfl,l0,g0⟩:=hK
  exact⟨ad,A0,c0,e,by have hq:=hc 0 _ rfl;rwa [Nat.mul_one,Nat.add_zero] at hq,l0,g0⟩
def rd_L7 (xs:List (List (List Bool))) (i:Int):(List (List Bool)):=xs.getD i.toNat ([] :List (List Bool))
theorem at_L7 {w:World} {A:Option Addr} {n:Nat} {xs:List (List (List Bool))} (h:Kd.C (Kd.slice 49 (Kd.slice 4 Kd.bool)) w A n xs) (i:Int) (h0:0≤i) (h1:i < n): ∃ad A0 c0,A=some ad∧w.cell? (ad.add i.toNat)=some (.slice A0 (rd_L7 xs i).length c0)∧(rd_L7 xs i).length≤c0∧(Kd.slice 4 Kd.bool).C w A0 (rd_L7 xs i).length (rd_L7 xs i):=by
  obtain⟨ad,c,e,_,hK,hc0⟩:=Kd.C_get h ([] :List (List Bool)) i h0 h1
  have hc: ∀j u,c[j]? =some u→w.cell? (ad.add (i.toNat * 1 + j))=some u:=hc0
  obtain⟨A0,c0,rfl,l0,g0⟩:=hK
  exact⟨ad,A0,c0,e,by have hq:=hc 0 _ rfl;rwa [Nat.mul_one,Nat.add_zero] at hq,l0,g0⟩
theorem zb1 {w:World} {g:Nat} {o o':Obj} (h:w.heap[g]? =some o):(w.alloc o').heap[g]? =some o:=Zm h o'
theorem zb2 {w:World} {g:Nat} {o:Obj} (h:w.heap[g]? =some o):w.drew.heap[g]? =some o:=h
theorem zb3 {w:World} {g:Nat} {o:Obj} {n:Nat} (h:w.heap[g]? =some o):(w.drewN n).heap[g]? =some o:=h
theorem zc1 {w W:World} {o:Obj} (h:Below w.heap.size w W):Below w.heap.size w (W.alloc o):=below_alloc h o
theorem zc2 {w W:World} {n:Nat} (h:Below w.heap.size w W):Below w.heap.size w (W.drewN n):=pw_below_drewN h n
theorem zc3 {w W:World} (h:Below w.heap.size w W):Below w.heap.size w W.drew:=Zz1 h
theorem zc4 {w W:World} {g j:Nat} {v:Value} (h:Below w.heap.size w W) (hg:Za (w.heap.size≤g)):Below w.heap.size w (W.setCell ⟨g,j,none⟩ v):=below_set h hg.out
theorem zH {w W W':World} (h:Za (Below w.heap.size w W)) (k:Below w.heap.size w W→Below w.heap.size w W':=by (intro h;repeat(first|(with_reducible first|exact h|apply zc1|apply zc2|apply zc3|refine zc4 ?_ (by assumption))|exact h))):Below w.heap.size w W':=k h.out
theorem zK {w W:World} {g:Nat} {o:Obj} (h:Za (w.heap[g]? =some o)) (k:w.heap[g]? =some o→W.heap[g]? =some o:=by (intro h;(with_reducible repeat(first|apply zb3|apply zb2|apply zb1));exact h)):W.heap[g]? =some o:=k h.out
theorem zR {α:Type} {d:Kd α} {e:Nat} {w W:World} {b:Nat} {ok:Nat→Prop} {v:Value} {xs:List α} (h:Za (Kd.R d e w b ok v xs)) (k:Kd.R d e w b ok v xs→Kd.R d e W b ok v xs:=by (intro h;(with_reducible repeat(first|apply Kd.R_alloc|apply Kd.R_drewN|apply Kd.R_drew));exact h)):Kd.R d e W b ok v xs:=k h.out
theorem zC {α:Type} {d:Kd α} {w W W':World} {A:Option Addr} {n:Nat} {xs:List α} (h:Za (Kd.C d w A n xs)) (hb:Za (Below w.heap.size w W)) (k:Kd.C d W A n xs→Kd.C d W' A n xs:=by (intro h;repeat(first|exact h|(with_reducible refine Kd.C_alloc ?_ _)|(with_reducible refine Kd.C_drewN ?_ _)|(with_reducible refine Kd.C_drew ?_)))):Kd.C d W' A n xs:=k (Kd.C_below h.out hb.out)
theorem zj {W:World} {g t:Nat} {cs:Array Value} (h:Za (W.heap[g]? =some (.cells cs t (0,0)))) (j:Nat) (v:Value) (e:cs[j]? =some v:=by rfl):W.cell? ⟨g,j,none⟩=some v:=(Zf h.out j).trans e
theorem zX {w W:World} {a:Addr} {v:Value} (hb:Za (Below w.heap.size w W)) (h:w.cell? a=some v):W.cell? a=some v:=(hb.out.cell (World.block_lt_of_cell? w _ h)).trans h
theorem zD {p:Prop} [Decidable p] (h:decide p=true:=by assumption):p:=of_decide_eq_true h
theorem zq2 {W:World} {g t:Nat} {a0 a1:Value} {l:List Value} (h:W.heap[g]? =some (.cells (List.toArray (a0 :: a1 :: l)) t (0,0))):W.cell? ⟨g,0,none⟩=some a0∧W.cell? ⟨g,1,none⟩=some a1:=⟨(Zf h 0).trans rfl,(Zf h 1).trans rfl⟩
theorem zf2 {W:World} {g t:Nat} {a0 a1:Value} {l:List Value} (h:W.heap[g]? =some (.cells (List.toArray (a0 :: a1 :: l)) t (0,0))):W.frozen? ⟨g,0,none⟩=false∧W.frozen? ⟨g,1,none⟩=false:=⟨blk_frozen h 0,blk_frozen h 1⟩
theorem zq3 {W:World} {g t:Nat} {a0 a1 a2:Value} {l:List Value} (h:W.heap[g]? =some (.cells (List.toArray (a0 :: a1 :: a2 :: l)) t (0,0))):W.cell? ⟨g,0,none⟩=some a0∧W.cell? ⟨g,1,none⟩=some a1∧W.cell? ⟨g,2,none⟩=some a2:=⟨(Zf h 0).trans rfl,(Zf h 1).trans rfl,(Zf h 2).trans rfl⟩
theorem zq4 {W:World} {g t:Nat} {a0 a1 a2 a3:Value} {l:List Value} (h:W.heap[g]? =some (.cells (List.toArray (a0 :: a1 :: a2 :: a3 :: l)) t (0,0))):W.cell? ⟨g,0,none⟩=some a0∧W.cell? ⟨g,1,none⟩=some a1∧W.cell? ⟨g,2,none⟩=some a2∧W.cell? ⟨g,3,none⟩=some a3:=⟨(Zf h 0).trans rfl,(Zf h 1).trans rfl,(Zf h 2).trans rfl,(Zf h 3).trans rfl⟩
theorem zf4 {W:World} {g t:Nat} {a0 a1 a2 a3:Value} {l:List Value} (h:W.heap[g]? =some (.cells (List.toArray (a0 :: a1 :: a2 :: a3 :: l)) t (0,0))):W.frozen? ⟨g,0,none⟩=false∧W.frozen? ⟨g,1,none⟩=false∧W.frozen? ⟨g,2,none⟩=false∧W.frozen? ⟨g,3,none⟩=false:=⟨blk_frozen h 0,blk_frozen h 1,blk_frozen h 2,blk_frozen h 3⟩
end Go.Proofs.Ytbifocddbgleeaa.PAheadParses
