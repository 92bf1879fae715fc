-- By a program.
import Derived.Test.YtbifocddbgleeaaQPAheadParsesx0
import Derived.Test.YtbifocddbgleeaaQPAheadParsesx5
import Derived.Test.YtbifocddbgleeaaQPAheadParsesx9
import Derived.RangeFuncNested
import Derived.RangeFuncBound
import Derived.RangeFuncLeaves
import Derived.RangeFuncFrom
import Derived.Maps.OwnIn
import Derived.OwnWalkIn
import Derived.TacticsInMore
import Derived.LoopNIn
import Derived.LoopIn
namespace Go.Proofs.Ytbifocddbgleeaa.PAheadParses
open Go.RowKit Go.Shelf Go.Proofs.YtbifocddbgleeaaW.PrintWords Go.Proofs.YtbifocddbgleeaaW.PrintLast Go.Proofs.YtbifocddbgleeaaW.PrintMore
attribute [local go_sem] max2_int min2_int max_two min_two max_three min_three max_four min_four
set_option linter.unusedVariables false
set_option linter.unusedSimpArgs false
attribute [local go_sem] Oper.semAt_some
def mkD (D:Nat):Deferred:={target:= .collected D,args:=#[]}
def Marks (B:Nat) (ds:List Deferred) (W:World):Prop:=∃Ds:List Nat,ds=Ds.map mkD∧Ds.Nodup∧∀D∈Ds,B≤D∧W.heap[D]? =some (.deferred (some []))
section
variable {B:Nat} {ds:List Deferred} {W W1:World}
theorem Marks.nil (B:Nat) (W:World):Marks B [] W:=⟨[],rfl,List.nodup_nil,by simp⟩
theorem Marks.keeps (h:Marks B ds W) (k:KeepsOthers W W1):Marks B ds W1:=by
  obtain⟨Ds,e,n,f⟩:=h
  exact⟨Ds,e,n,fun D hD=>⟨(f D hD).1,k.same D _ (f D hD).2 rfl⟩⟩
theorem Marks.below (h:Marks B ds W) (hb:Below W.heap.size W W1):Marks B ds W1:=h.keeps ⟨hb.size,fun k o hk _=>(hb.block k (Array.getElem?_eq_some_iff.1 hk).1).trans hk⟩
theorem Marks.alloc (h:Marks B ds W) {o:Obj} :Marks B ds (W.alloc o):=h.keeps (KeepsOthers.alloc W o)
theorem Marks.drew (h:Marks B ds W):Marks B ds W.drew:=h.keeps (KeepsOthers.drew W)
theorem Marks.drewN (h:Marks B ds W) {q:Nat} :Marks B ds (W.drewN q):=h.keeps ⟨Nat.le_refl _,fun _ _ h _=>h⟩
theorem Marks.set (h:Marks B ds W) {p:Addr} {v:Value} :Marks B ds (W.setCell p v):=h.keeps (KeepsOthers.setCell W p v)
theorem Marks.grown (h:Marks B ds W) {row:Option Nat} (hg:W.grownBy W1 row) {e:Nat} (hr: ∀k,row=some k→∃cells,W.heap[k]? =some (.cells cells e (0,0))):Marks B ds W1:=
  h.keeps (KeepsOthers.of_grownBy hg (fun j o e ho=>by
    obtain⟨c,hc⟩:=hr j e
    rw [ho] at hc
    cases hc
    rfl))
theorem Marks.lt (h:Marks B ds W): ∀d∈ds,∃D,d=mkD D∧D < W.heap.size:=by
  obtain⟨Ds,rfl,n,f⟩:=h
  intro d hd
  obtain⟨D,hD,rfl⟩:=List.mem_map.1 hd
  exact⟨D,rfl,(Array.getElem?_eq_some_iff.1 (f D hD).2).1⟩
theorem Marks.cons {S D:Nat} (h:Marks B ds W) (hl: ∀d∈ds,∃D,d=mkD D∧D < S) (hS:S≤D) (hB:B≤D) (hD:W.heap[D]? =some (.deferred (some []))):Marks B ({target:= .collected D,args:=#[]} :: ds) W:=by
  obtain⟨Ds,rfl,n,f⟩:=h
  refine⟨D :: Ds,rfl,List.nodup_cons.2 ⟨fun hm=>?_,n⟩,fun E hE=>?_⟩
  · obtain⟨E,hE,hl⟩:=hl (mkD D) (List.mem_map.2 ⟨D,hm,rfl⟩)
    have:D=E:=by simpa [mkD] using hE
    omega
  · rcases List.mem_cons.1 hE with rfl|hE
    · exact⟨hB,hD⟩
    · exact f E hE
end
structure MT (B:Nat) (W W1:World):Prop where
  hb:Below B W W1
  kc: ∀(b:Nat) (o:Obj),W.heap[b]? =some o→o.isCells=true→W1.heap[b]? =some o
theorem leaves_marks {w0:World} {F:Fence} {n:Nat} {P:Program} {fn:Func} {tmps:Array Value} {R:Ending→World→Prop} : ∀(ds:List Deferred) (W:World),Marks w0.heap.size ds W→(∀W1,MT w0.heap.size W W1→∃v,(results fn tmps).run P W1= .ok v W1∧R (.returned v) W1)→LeavesInM F n P fn tmps R ds .returning W
  | [],W,_,h=>h W ⟨Below.refl _ _,fun _ _ q _=>q⟩
  |d :: ds,W,hm,h=>by
    obtain⟨Ds,e,nd,f⟩:=hm
    cases Ds with
    |nil=>simp at e
    |cons D Ds=>
      simp only [List.map_cons,List.cons.injEq] at e
      obtain⟨rfl,rfl⟩:=e
      have hD:=f D (by simp)
      have hlt:D < W.heap.size:=(Array.getElem?_eq_some_iff.1 hD.2).1
      refine⟨by simp,.inl ⟨D,_,rfl,run_takeDeferred hD.2,leaves_marks (Ds.map mkD) _ ⟨Ds,rfl,(List.nodup_cons.1 nd).2,fun E hE=>⟨(f E (by simp [hE])).1,(World.putObj_heap_other (fun q=>?_)).trans (f E (by simp [hE])).2⟩⟩ (fun W1 h1=>h W1 ?_)⟩⟩
      · first
          |(subst q;exact(List.nodup_cons.1 nd).1 hE)
          |(rw [q] at nd;exact(List.nodup_cons.1 nd).1 hE)
          |(rw [← q] at nd;exact(List.nodup_cons.1 nd).1 hE)
      · refine⟨(belowK_b (w:=w0) (Nat.le_refl _) W D _ _ hD.1 hD.2 rfl rfl).trans h1.hb,fun b o hb ho=>h1.kc b o ((World.putObj_heap_other (fun q=>?_)).trans hb) ho⟩
        first
          |(subst q;rw [hD.2] at hb;cases hb;cases ho)
          |(rw [q,hD.2] at hb;cases hb;cases ho)
          |(rw [← q,hD.2] at hb;cases hb;cases ho)
theorem R_cells {α:Type} {d:Kd α} {e:Nat} {W W1:World} {base:Nat} {ok:Nat→Prop} {v:Value} {xs:List α} (h:d.R e W base ok v xs) (kc: ∀(b:Nat) (o:Obj),W.heap[b]? =some o→o.isCells=true→W1.heap[b]? =some o):d.R e W1 base ok v xs:=
  Kd.R_mono (Kd.R_move (Kd.R_bound h) (fun k hk=>by
    obtain⟨_,_,_,q,_,cells,hc⟩:=hk
    rw [kc _ _ hc rfl,hc])) (fun _ hk=>hk.1)
theorem R_others {α:Type} {d:Kd α} {e:Nat} {W W1:World} {base:Nat} {ok:Nat→Prop} {v:Value} {xs:List α} (h:d.R e W base ok v xs) {row:Option Nat} (hg:W.grownBy W1 row) (hr: ∀r,row=some r→∃o:Obj,W.heap[r]? =some o∧o.isCells=false):d.R e W1 base ok v xs:=
  Kd.R_mono (Kd.R_grown (Kd.R_bound h) hg (fun k hk e=>by
    obtain⟨_,_,_,q,_,cells,hc⟩:=hk
    obtain⟨o,ho,hn⟩:=hr k e.symm
    rw [hc] at ho
    cases ho
    cases hn)) (fun _ hk=>hk.1)
theorem blk_others {W W1:World} {g:Nat} {o:Obj} (h:W.heap[g]? =some o) (ho:o.isCells=true) {row:Option Nat} (hg:W.grownBy W1 row) (hr: ∀r,row=some r→∃o:Obj,W.heap[r]? =some o∧o.isCells=false):W1.heap[g]? =some o:=
  (hg.block g (Array.getElem?_eq_some_iff.1 h).1 (fun e=>by
    obtain⟨o2,h2,hn⟩:=hr g e.symm
    rw [h] at h2
    cases h2
    rw [ho] at hn
    cases hn)).trans h
def backL (xs:List Int) (k:Nat):List (Int × Int):=(List.range k).map fun j:Nat=>((xs.length:Int) - 1 - (j:Int),rd xs ((xs.length:Int) - 1 - (j:Int)))
theorem backL_succ (xs:List Int) (k:Nat):backL xs (k + 1)=backL xs k++[((xs.length:Int) - 1 - (k:Int),rd xs ((xs.length:Int) - 1 - (k:Int)))]:=by simp [backL,List.range_succ]
theorem backL_length (xs:List Int) (k:Nat):(backL xs k).length=k:=by simp [backL]
theorem backL_all (xs:List Int):(backL xs xs.length).map Prod.snd=xs.reverse:=by
  apply List.ext_getElem
  · simp [backL]
  · intro i h1 h2
    simp only [backL,List.map_map,List.getElem_map,List.getElem_range,List.getElem_reverse,Function.comp]
    have hi:i < xs.length:=by simpa [backL] using h1
    unfold rd
    rw [List.getD_eq_getElem?_getD,show((xs.length:Int) - 1 - (i:Int)).toNat=xs.length - 1 - i by omega,List.getElem?_eq_getElem (by omega)]
    rfl
set_option maxRecDepth 100000 in
set_option maxHeartbeats 2000000 in
theorem back1_in (n : Nat) (hn : 1 ≤ n) (l Bs : Nat) (w0 : World) (A : Option Addr) (cap : Nat) (xs : List Int) (hC : Kd.C (Kd.int .i64) w0 A xs.length xs) (hlen : xs.length < 17592186044416) (Kp : World → World → Prop) (hKp : ∀ W W1, Kp W W1 → Below w0.heap.size W W1 ∧ W1.heap[Bs]? = W.heap[Bs]?) (J Jx : List (Int × Int) → World → Prop)
    (hY: ∀pre x W,J pre W→pre.length < xs.length→YieldAt Fence.wide (n - 1) Try.prog l #[.int .i64 x.1,.int .i64 x.2] W fun e W1=>
      (e= .returned (.bool true)∧J (pre++[x]) W1∧Kp W W1)∨(e= .returned (.bool false)∧Jx (pre++[x]) W1))
    (W:World) (hB:Below w0.heap.size w0 W) (hBs:W.heap[Bs]? =some (.cells #[.slice A xs.length cap] 25 (0,0))) (h0:J [] W):
    CallsIn Fence.wide n Try.prog 24 #[.func (.yield l) #[] #[],.pointer (some ⟨Bs,0,none⟩)] W fun e W1=>(∃v,e= .returned v)∧
      ((∃ys,ys=backL xs xs.length∧J ys W1)∨(∃pre,True∧Jx pre W1)):=by
  refine callsIn_of_wp Try.func24 rfl trivial ?_ rfl
  simp only [Try.ntmps24,List.size_toArray,List.length_cons,List.length_nil,Nat.reduceAdd,Nat.reduceSub,Array.replicate_succ,Array.replicate_zero,List.push_toArray,List.append_toArray,List.nil_append,List.cons_append]
  have hcb:W.cell? ⟨Bs,0,none⟩=some (.slice A xs.length cap):=(Zf hBs 0).trans rfl
  have ew:IntKind.i64.wrap ((xs.length:Int) - 1)=(xs.length:Int) - 1:=by rw [Zc];unfold wrap64;omega
  have hu25:=Try.underlying25
  have HB:=Za.mk hB
  have HBS:=Za.mk hBs
  have HL:=Za.mk hlen
  clear hB hBs hlen
  gi_wp2
  gi_loopw [3] (fun i wr=>∃k:Nat,i= .int .i64 ((xs.length:Int) - 1 - (k:Int))∧Za (k≤xs.length)∧Za (J (backL xs k) wr)∧Za (wr.heap[Bs]? =some (.cells #[.slice A xs.length cap] 25 (0,0)))∧Za (Below w0.heap.size w0 wr))
    (fun i _=>(intOf i + 1).toNat)
  case atStart=>exact⟨0,by first|simp|(rw [ew];simp),⟨Nat.zero_le _⟩,⟨h0⟩,HBS,HB⟩
  case round=>
    obtain⟨k,rfl,HK,HJ,HBS,HB⟩:=hrel
    have hcb2:wr.cell? ⟨Bs,0,none⟩=some (.slice A xs.length cap):=(Zf HBS.out 0).trans rfl
    by_cases hlt:k < xs.length
    · have c0:decide ((xs.length:Int) - 1 - (k:Int)≥0)=true:=decide_eq_true (by omega)
      have c1:decide (0≤(xs.length:Int) - 1 - (k:Int))=true:=decide_eq_true (by omega)
      have c2:decide ((k:Int)≤(xs.length:Int) - 1)=true:=decide_eq_true (by omega)
      have c3:=eq_true (show(k:Int)≤(xs.length:Int) - 1 by omega)
      have p:=eq_true (show 0≤(xs.length:Int) - 1 - (k:Int) by omega)
      have q:=eq_true (show(xs.length:Int) - 1 - (k:Int) < (xs.length:Int) by omega)
      obtain⟨ad,rfl,hx⟩:=Kd.at_int hC ((xs.length:Int) - 1 - (k:Int)) (by omega) (by omega)
      have hx2:=(HB.out.cell (World.block_lt_of_cell? w0 _ hx)).trans hx
      rw [show((xs.length:Int) - 1 - (k:Int)).toNat=xs.length - 1 - k by omega] at hx2
      obtain⟨fn,tmps,assign,body,hy,hR⟩:=hY _ ((xs.length:Int) - 1 - (k:Int),rd xs ((xs.length:Int) - 1 - (k:Int))) wr HJ.out (by rw [backL_length];exact hlt)
      dsimp only at hy
      have ew2:IntKind.i64.wrap ((xs.length:Int) - 1 - (k:Int) - 1)=(xs.length:Int) - 1 - ((k + 1:Nat):Int):=by have:=HL.out;rw [Zc];unfold wrap64;omega
      have HLT:=Za.mk hlt
      clear hlt hx ew
      gi_wp2
      refine hR.mono ?_
      rintro e W3 (⟨rfl,hJ3,hk3⟩|⟨rfl,hJx3⟩)
      · obtain⟨hb3,hbs3⟩:=hKp _ _ hk3
        have HJ3:=Za.mk hJ3
        have HB3:=Za.mk (HB.out.trans hb3)
        have HBS3:=Za.mk (hbs3.trans HBS.out)
        clear hJ3 hk3 hb3 hbs3 HBS HB HJ hcb2 hx2
        gi_wp2
        go_roundw
        case rel=>exact⟨k + 1,by first|rfl|rw [ew2]|(simp [ew2];done)|(simp;omega),⟨by have:=HLT.out;omega⟩,⟨by rw [backL_succ];exact HJ3.out⟩,HBS3,HB3⟩
        case measure=>have:=HLT.out;first|(simp only [intOf];omega)|(simp only [intOf,ew2];omega)|(simp [intOf];omega)
      · gi_wp2
        refine bodyPost_ret (results_none rfl _ _ _) rfl ?_
        exact⟨⟨_,rfl⟩,.inr ⟨_,trivial,hJx3⟩⟩
    · obtain rfl:k=xs.length:=by have:=HK.out;omega
      have c2:decide ((xs.length:Int)≤(xs.length:Int) - 1)=false:=decide_eq_false (by omega)
      have c3:=eq_false (show ¬ (xs.length:Int)≤(xs.length:Int) - 1 by omega)
      have c0:decide ((xs.length:Int) - 1 - (xs.length:Int)≥0)=false:=decide_eq_false (by omega)
      have c1:decide (0≤(xs.length:Int) - 1 - (xs.length:Int))=false:=decide_eq_false (by omega)
      gi_wp2
      all_goals first|(exfalso;omega)|skip
      go_end0
      exact⟨⟨_,rfl⟩,.inl ⟨_,rfl,HJ.out⟩⟩
theorem back_in (A:Option Addr) (len cap:Nat) (w:World):Calls Try.prog 13 #[.slice A len cap] w fun e w1=>e= .returned (.func (.func 24) #[] #[.pointer (some ⟨w.heap.size,0,none⟩)])∧w1=w.alloc (.cells #[.slice A len cap] 25):=by
  go_enter Try.func13,Try.ntmps13
  go_wp2
  go_ret
  exact⟨rfl,rfl⟩
theorem back_stops (n : Nat) (hn : 1 ≤ n) (Bs : Nat) (w0 : World) (A : Option Addr) (cap : Nat) (xs : List Int) (hC : Kd.C (Kd.int .i64) w0 A xs.length xs) (hlen : xs.length < 17592186044416) (Kp : World → World → Prop) (hKp : ∀ W W1, Kp W W1 → Below w0.heap.size W W1 ∧ W1.heap[Bs]? = W.heap[Bs]?)
    (w:World) (hB:Below w0.heap.size w0 w) (hBs:w.heap[Bs]? =some (.cells #[.slice A xs.length cap] 25 (0,0))):
    SeqStopsK Fence.wide n Try.prog 24 #[.pointer (some ⟨Bs,0,none⟩)] (fun x:Int × Int=>#[Value.int .i64 x.1,Value.int .i64 x.2]) Kp (fun ys=>ys=backL xs xs.length) (fun _=>True) xs.length w:=fun l J Jx W hW _ _ hY h0=>
  back1_in n hn l Bs w0 A cap xs hC hlen Kp hKp J Jx hY W (hB.trans (hW.mono hB.size)) ((hW.block Bs (Array.getElem?_eq_some_iff.1 hBs).1).trans hBs) h0
theorem Marks.others {B S:Nat} {ds:List Deferred} {W W1:World} (h:Marks B ds W) (hl: ∀d∈ds,∃D,d=mkD D∧D < S) {row:Option Nat} (hg:W.grownBy W1 row) (hr: ∀r,row=some r→S≤r):Marks B ds W1:=by
  obtain⟨Ds,rfl,n,f⟩:=h
  refine⟨Ds,rfl,n,fun D hD=>⟨(f D hD).1,(hg.block D (Array.getElem?_eq_some_iff.1 (f D hD).2).1 (fun e=>?_)).trans (f D hD).2⟩⟩
  obtain⟨E,hE,hl⟩:=hl (mkD D) (List.mem_map.2 ⟨D,hD,rfl⟩)
  have:D=E:=by simpa [mkD] using hE
  have:=hr D e.symm
  omega
structure PBv (w0:World) (ds:List Deferred) (gg:Nat) (G:Array Value) (gs gb:Nat) (vb v8:Value) (l8:List Int) (v9:Value) (l9:List Int) (v:Value) (st:List Int) (W:World):Prop where
  r8:Kd.R (Kd.int .u32) 42 W w0.heap.size (fun _=>True) v8 l8
  r9:Kd.R (Kd.int .i64) 3 W w0.heap.size (fun k=>some k≠v.ownBlock) v9 l9
  rs:Kd.R (Kd.int .i64) 3 W w0.heap.size (fun k=>some k≠v9.ownBlock) v st
  kg:W.heap[gg]? =some (.cells G 24 (0,0))
  ks:W.heap[gs]? =some (.cells #[v] 25 (0,0))
  kb:W.heap[gb]? =some (.cells #[vb] 25 (0,0))
  hb:Below w0.heap.size w0 W
  hm:Marks w0.heap.size ds W
  ne:gs≠gb
  gs0:w0.heap.size≤gs
section
variable {w0:World} {ds:List Deferred} {gg:Nat} {G:Array Value} {gs gb:Nat} {vb v8:Value} {l8:List Int} {v9:Value} {l9:List Int} {v:Value} {st:List Int} {W W1:World}
theorem PBv.others {S:Nat} (h:PBv w0 ds gg G gs gb vb v8 l8 v9 l9 v st W) (hS:w0.heap.size≤S) (hl: ∀d∈ds,∃D,d=mkD D∧D < S) {row:Option Nat} (hg:W.grownBy W1 row) (hr: ∀r,row=some r→S≤r∧∃o:Obj,W.heap[r]? =some o∧o.isCells=false):PBv w0 ds gg G gs gb vb v8 l8 v9 l9 v st W1:=
  have hr2:=fun r e=>(hr r e).2
  ⟨R_others h.r8 hg hr2,R_others h.r9 hg hr2,R_others h.rs hg hr2,blk_others h.kg rfl hg hr2,blk_others h.ks rfl hg hr2,blk_others h.kb rfl hg hr2,h.hb.grown hg h.hb.size (fun k e=>Nat.le_trans hS (hr k e).1),h.hm.others hl hg (fun r e=>(hr r e).1),h.ne,h.gs0⟩
theorem PBv.row {x : Int} {W2 : World} {v1 : Value} (h : PBv w0 ds gg G gs gb vb v8 l8 v9 l9 v st W) (hs : W.heap.size ≤ W2.heap.size) (ho : W1.ownsRow w0.heap.size 3 1 v1 (st.length + 1) (encs (Value.int .i64) st ++ [.int .i64 x])) (hat : v1.ownBlock = v.ownBlock ∨ v1.ownBlock = some W2.heap.size) :
    Kd.R (Kd.int .i64) 3 W1 w0.heap.size (fun k=>some k≠v9.ownBlock) v1 (st++[x]):=by
  refine Kd.R_of_own (by rw [List.length_append, List.length_singleton]; have e : encs (Value.int .i64) (st ++ [x]) = encs (Value.int .i64) st ++ [.int .i64 x] := by simp [encs]
                         rw [e];exact ho) (fun k hk e=>?_)
  rcases hat with q|q
  · exact h.rs.1 k (by rw [← q];exact hk) e
  · rw [q] at hk
    injection hk with hk
    have:=Kd.R_lt h.r9 k e.symm
    omega
theorem PBv.step {o : Obj} {v1 : Value} {m : List Int} (h : PBv w0 ds gg G gs gb vb v8 l8 v9 l9 v st W) (hR : Kd.R (Kd.int .i64) 3 W1 w0.heap.size (fun k => some k ≠ v9.ownBlock) v1 m) (hg : (W.alloc o).grownBy W1 v.ownBlock) (hat : v1.ownBlock = v.ownBlock ∨ v1.ownBlock = some (W.alloc o).heap.size) :
    PBv w0 ds gg G gs gb vb v8 l8 v9 l9 v1 m (W1.setCell ⟨gs,0,none⟩ v1)∧KeepsOthers W (W1.setCell ⟨gs,0,none⟩ v1)∧Below w0.heap.size W (W1.setCell ⟨gs,0,none⟩ v1)∧(W1.setCell ⟨gs,0,none⟩ v1).heap[gb]? =W.heap[gb]?:=by
  have a8:=Kd.R_alloc (o:=o) h.r8
  have a9:=Kd.R_alloc (o:=o) h.r9
  have as_:=Kd.R_alloc (o:=o) h.rs
  have kg:=Zv1 (Zm h.kg o) hg (Kd.R_ne as_ (Zm h.kg o) (by decide))
  have ks:=Zv1 (Zm h.ks o) hg (Kd.R_ne as_ (Zm h.ks o) (by decide))
  have kb:=Zv1 (Zm h.kb o) hg (Kd.R_ne as_ (Zm h.kb o) (by decide))
  have hb0:Below w0.heap.size W W1:=((Below.refl w0.heap.size W).alloc h.hb.size o).grown hg (by have:=h.hb.size;simp;omega) (Kd.R_base as_)
  have ko:KeepsOthers W W1:=(KeepsOthers.alloc W o).trans (KeepsOthers.of_grownBy hg (fun j ob e hj=>by
    obtain⟨c,hc⟩:=Kd.R_typed as_ j e
    rw [hj] at hc
    cases hc
    rfl))
  have far: ∀{g t:Nat} {cells:Array Value},W1.heap[g]? =some (.cells cells t (0,0))→g≠gs→(W1.setCell ⟨gs,0,none⟩ v1).heap[g]? =some (.cells cells t (0,0)):=fun hk hn=>(Below.heap_setCell W1 ⟨gs,0,none⟩ v1 _ hn).trans hk
  have nk:gg≠gs:=by
    intro e
    rw [e] at kg
    rw [ks] at kg
    injection kg with kg
    injection kg with _ kg
    revert kg
    decide
  refine⟨⟨Kd.R_set (Kd.R_over' a8 (Kd.R_typed as_) (by decide) hg) ks (by decide) 0 v1,?_,Kd.R_set hR ks (by decide) 0 v1,far kg nk,Zs1 ks 0 v1 rfl,far kb (Ne.symm h.ne),(h.hb.trans hb0).setCell h.gs0 v1,((h.hm.keeps ko).set),h.ne,h.gs0⟩,ko.trans (KeepsOthers.setCell _ _ _),hb0.setCell h.gs0 v1,(far kb (Ne.symm h.ne)).trans h.kb.symm⟩
  have hs:=Kd.R_grown (Kd.R_bound a9) hg (fun k hk=>hk.1)
  refine Kd.R_set (Kd.R_mono hs (fun k hk e=>?_)) ks (by decide) 0 v1
  rcases hat with q|q
  · exact hk.1 (by rw [← q];exact e)
  · rw [q] at e;cases e
    have:=hk.2.2.1;omega
end
set_option maxRecDepth 100000 in
set_option maxHeartbeats 4000000 in
theorem parse_back {Q : Exit → Act → World → Prop} {w0 W0 : World} {ds : List Deferred} {gg : Nat} {G : Array Value} {gs gb : Nat} {v8 : Value} {l8 : List Int} {v9 : Value} {l9 : List Int} {v0 : Value} {st : List Int} {A : Option Addr} {cap : Nat} {xs : List Int} {t0 t1 t2 t3 t4 t5 t6 t7 t8 t9 t11 t12 t13 t14 t15 t16 t17 t18 t19 t20 t21 t22 t23 t24 t25 t26 t27 t28 t29 t30 t31 t32 t33 t34 t35 t36 t37 t38 t39 t40 t41 t42 t43 t44 t45 t46 t47 t48 t49 t50 t51 t52 t53 t54 t55 t56 t57 t58 t59 t60 t61 t62 t63 t64 t65 t66 t67 t68 t69 t70 t71 t72 t73 t74 t75 t76 t77 t78 t79 t80 t81 t82 t83 t84 t85 t86 t87 t88 t89 t90 t91 t92 t93 t94 t95 t96 t97 t98 t99 t100 t101 t103 t104 t105 t106 t107 t108 t109 t110 : Value}
    (hC:Kd.C (Kd.int .i64) w0 A xs.length xs) (hlm:st.length + xs.length < 17592186044416) (hP:PBv w0 ds gg G gs gb (.slice A xs.length cap) v8 l8 v9 l9 v0 st W0)
    (hdone: ∀(D:Nat) (v:Value) (W:World),PBv w0 ds gg G gs gb (.slice A xs.length cap) v8 l8 v9 l9 v (st++xs.reverse) W→Marks w0.heap.size ({target:= .collected D,args:=#[]} :: ds) W→Q .normal {tmps:=#[t0,t1,t2,t3,t4,t5,t6,t7,t8,t9,.pointer (some ⟨gs,0,none⟩),t11,t12,t13,t14,t15,t16,t17,t18,t19,t20,t21,t22,t23,t24,t25,t26,t27,t28,t29,t30,t31,t32,t33,t34,t35,t36,t37,t38,t39,t40,t41,t42,t43,t44,t45,t46,t47,t48,t49,t50,t51,t52,t53,t54,t55,t56,t57,t58,t59,t60,t61,t62,t63,t64,t65,t66,t67,t68,t69,t70,t71,t72,t73,t74,t75,t76,t77,t78,t79,t80,t81,t82,t83,t84,t85,t86,t87,t88,t89,t90,t91,t92,t93,t94,t95,t96,t97,t98,t99,t100,t101,.func (.func 24) #[] #[.pointer (some ⟨gb,0,none⟩)],t103,t104,t105,t106,t107,t108,t109,t110],defers:={target:= .collected D,args:=#[]} :: ds} W):
    Code.wp Try.prog (Code.rangeFunc (Operand.tmp 102) #[103,104] (Code.region 26 #[{dst:=some 17,op:=Op.assign (Operand.tmp 104),type:=3,pos:= "ahead.go:150",after:=#[],guard:=none}] false) (Code.block 5 (Code.region 27 #[{dst:=some 105,op:=Op.load 25 (Operand.tmp 10),type:=25,pos:= "ahead.go:151",after:=#[],guard:=none},{dst:=some 106,op:=Op.move (Operand.tmp 17),type:=3,pos:= "ahead.go:151",after:=#[],guard:=none},{dst:=some 107,op:=Op.buildSlice 25 1 #[(0,Operand.tmp 106)],type:=25,pos:= "ahead.go:151",after:=#[{on:=1,ground:=Ground.data}],guard:=none},{dst:=some 108,op:=Op.call {callee:=Callee.builtin Builtin.append,args:=#[Operand.tmp 105,Operand.tmp 107],argTypes:=#[25,25]},type:=25,pos:= "ahead.go:151",after:=#[{on:=0,ground:=Ground.data},{on:=2,ground:=Ground.data}],guard:=none},{dst:=none,op:=Op.store 25 (Operand.tmp 10) (Operand.tmp 108),type:=0,pos:= "ahead.go:151",after:=#[{on:=3,ground:=Ground.data},{on:=3,ground:=Ground.chain},{on:=0,ground:=Ground.phase},{on:=1,ground:=Ground.phase},{on:=2,ground:=Ground.phase},{on:=3,ground:=Ground.phase}],guard:=none}] false))) Q {tmps:=#[t0,t1,t2,t3,t4,t5,t6,t7,t8,t9,.pointer (some ⟨gs,0,none⟩),t11,t12,t13,t14,t15,t16,t17,t18,t19,t20,t21,t22,t23,t24,t25,t26,t27,t28,t29,t30,t31,t32,t33,t34,t35,t36,t37,t38,t39,t40,t41,t42,t43,t44,t45,t46,t47,t48,t49,t50,t51,t52,t53,t54,t55,t56,t57,t58,t59,t60,t61,t62,t63,t64,t65,t66,t67,t68,t69,t70,t71,t72,t73,t74,t75,t76,t77,t78,t79,t80,t81,t82,t83,t84,t85,t86,t87,t88,t89,t90,t91,t92,t93,t94,t95,t96,t97,t98,t99,t100,t101,.func (.func 24) #[] #[.pointer (some ⟨gb,0,none⟩)],t103,t104,t105,t106,t107,t108,t109,t110],defers:=ds} W0:=by
  have hu25:=Try.underlying25
  have HDL:=Marks.lt hP.hm
  refine(wpIn_wide (n:=5)).1 ?_
  refine wpIn_rangeFunc_ownF (F:=Fence.wide) (n:=5) (w0:=W0) (α:=Int × Int) rfl (by omega) (gf:=24) (lb:=#[.pointer (some ⟨gb,0,none⟩)]) rfl trivial (enters_of Try.func24 (by kernel_rfl) rfl)
    (encs:=fun x:Int × Int=>#[Value.int .i64 x.1,Value.int .i64 x.2]) (Kp:=fun W W1=>Below w0.heap.size W W1∧W1.heap[gb]? =W.heap[gb]?)
    (back_stops (5 - 1) (by omega) gb w0 A cap xs hC (by omega) _ (fun _ _ h=>h) W0 hP.hb hP.kb)
    (fun h k=>⟨h.1.trans k.1,k.2.trans h.2⟩)
    (fun W l_ o o' hl h hc hw=>⟨belowK_b (w:=W0) hP.hb.size W l_ o o' hl h hc hw,World.putObj_heap_other (by have:=Zu hP.kb;omega)⟩)
    (Below.refl _ _) (fun _=>rfl)
    (fun pre W=>∃v,PBv w0 ds gg G gs gb (.slice A xs.length cap) v8 l8 v9 l9 v (st++pre.map Prod.snd) W∧W0.heap.size≤W.heap.size)
    (fun _ _ _=>False)
    (fun s A_ B_ row hs hg hr=>by
      obtain⟨v,hp,hz⟩:=hs
      exact⟨v,hp.others hP.hb.size HDL hg hr,Nat.le_trans hz hg.size⟩)
    (fun _ _ _ _ _ hs _ _=>hs)
    ⟨_,by simpa using hP,Nat.le_refl _⟩
    ?a1 ?assign ?body ?done ?stop
  case assign=>
    intro l_ x W K hK
    gi_wp2
    exact hK
  case body=>
    rintro l_ pre x W ⟨v,hp,hz⟩ hlt
    obtain⟨m,hm⟩ : ∃m_,m_=st++pre.map Prod.snd:=⟨_,rfl⟩
    rw [← hm] at hp
    have HM_:=Za.mk hm
    have HML:=Za.mk ((by rw [hm];simp only [List.length_append,List.length_map];omega):m.length + 1≤st.length + xs.length)
    clear hm
    obtain⟨Av,cv,rfl⟩:=Kd.R_slice hp.rs
    have HP:=Za.mk hp
    have HZ:=Za.mk hz
    have HLT:=Za.mk hlt
    have HLM:=Za.mk hlm
    have hcs:W.cell? ⟨gs,0,none⟩=some (.slice Av m.length cv):=(Zf hp.ks 0).trans rfl
    have hfs:=blk_frozen hp.ks 0
    obtain⟨i0,hi,hz0,hz1,hz2⟩:=info_parts info3
    clear hp hz hlt hlm hP hC HDL hdone
    gi_wp2_with (gi_at_builtin;refine wpListIn_append_own_at _ rfl (.tmp 105) (.tmp 107) 25 rfl w0.heap.size 3 i0 (.int .i64 0) 1 8 Try.underlying25 hi hz0 hz1 hz2 rfl (by decide) (.slice Av m.length cv) m.length (encs (Value.int .i64) m) rfl ((Kd.own_of_R HP.out.rs).alloc _) ⟨W.heap.size,0,none⟩ 1 1 [.int .i64 x.2] rfl rfl (cell_one_new _ _ _) (by simp [Value.oneCell']) (by have:=HLM.out;have:=HML.out;simp only [maxLen];omega) (by have:=HLM.out;have:=HML.out;omega) (by have:=HP.out.hb.size;simp;omega) ?_;intro v1 w1 hown1 hg1 _ hat1;have HR1_:=PBv.row (x:=x.2) (W2:=W.alloc (.cells #[.int .i64 x.2] 3)) HP.out (by simp) hown1 hat1;obtain⟨hp1,hk1,hb1,he1⟩:=HP.out.step HR1_ hg1 hat1;obtain⟨Av1,cv1,rfl⟩:=Kd.R_slice HR1_;have HP1:=Za.mk hp1;have HK1_:=Za.mk hk1;have HB1_:=Za.mk hb1;have HE1_:=Za.mk he1;have k0:=Zv1 (Zm HP.out.ks (.cells #[.int .i64 x.2] 3)) hg1 (Kd.R_ne (Kd.R_alloc (o:= .cells #[.int .i64 x.2] 3) HP.out.rs) (Zm HP.out.ks (.cells #[.int .i64 x.2] 3)) (by decide));clear hcs hfs;have hcs1:w1.cell? ⟨gs,0,none⟩=some (.slice Av m.length cv):=(Zf k0 0).trans rfl;have hfs1:=blk_frozen k0 0;clear hp1 hk1 hb1 he1 k0 hown1 hg1 hat1 HR1_)
    have eL:(m++[x.2]).length=m.length + 1:=by simp
    rw [eL] at HK1_ HB1_ HE1_ HP1
    exact⟨HK1_.out,⟨HB1_.out,HE1_.out⟩,_,by rw [List.map_append,← List.append_assoc,← HM_.out];exact HP1.out,Nat.le_trans HZ.out HK1_.out.size⟩
  case done=>
    rintro D ys W hD rfl ⟨v,hp,hz⟩ hK
    rw [backL_all] at hp
    exact hdone D v W hp (Marks.cons hp.hm HDL hD (Nat.le_trans hP.hb.size hD) hK)
  case stop=>
    rintro D c pre W _ _ h _
    exact h.elim
mutual
def Ze1.l0:Nat→List Int→List Int→List Int→Int→Int→Int→Int→List (S41)→List Int→Option (List Int × Int)
  |0,_,_,_,_,_,_,_,_,_=>none
  |k + 1,x1,x8,x9,x11,x234000,x234001,x234002,x234003,x244000=>if(x244000.length:Int) > 0 then(if 0≤(wrap64 ((x244000.length:Int) - 1)) then(if(wrap64 ((x244000.length:Int) - 1)) < (x244000.length:Int) then(if(wrap64 ((x244000.length:Int) - 1))≤(x244000.length:Int) then((some (x244000.take ((wrap64 ((x244000.length:Int) - 1)):Int).toNat:List Int)).bind fun y245=>(if(rd x244000 (wrap64 ((x244000.length:Int) - 1))) < x234000 then(Ze1.l0 k x1 x8 x9 (wrap64 (x11 + 1)) x234000 x234001 x234002 x234003 y245) else(if x11 < (x1.length:Int) then(if 0≤x11 then(Ze1.j1 k x1 x8 x9 x11 (rd x244000 (wrap64 ((x244000.length:Int) - 1))) (rd x1 x11) x234000 x234001 x234002 x234003 y245) else(none)) else(Ze1.j1 k x1 x8 x9 x11 (rd x244000 (wrap64 ((x244000.length:Int) - 1))) x234000 x234000 x234001 x234002 x234003 y245)))) else(none)) else(none)) else(none)) else(some (x9,0))
def Ze1.j1:Nat→List Int→List Int→List Int→Int→Int→Int→Int→Int→Int→List (S41)→List Int→Option (List Int × Int)
  |0,_,_,_,_,_,_,_,_,_,_,_=>none
  |k + 1,x1,x8,x9,x11,x12,x13,x234000,x234001,x234002,x234003,x244000=>Ze1.l1 k x1 x8 x9 x11 x12 x13 x234003 (x234003.length:Int) 0 x234000 x234001 x234002 x234003 x244000
def Ze1.l1:Nat→List Int→List Int→List Int→Int→Int→Int→List (S41)→Int→Int→Int→Int→Int→List (S41)→List Int→Option (List Int × Int)
  |0,_,_,_,_,_,_,_,_,_,_,_,_,_,_=>none
  |k + 1,x1,x8,x9,x11,x12,x13,x72,x73,x74,x234000,x234001,x234002,x234003,x244000=>if x74 < x73 then(if 0≤x74 then(if x74 < (x72.length:Int) then(if((Zb x72 x74).f0)=(wrap64 (x12 - x234000)) then(if x74 < (x8.length:Int) then(if 0≤x13 then(if(Go.bits .and .u32 (shr .u32 (rd x8 x74) x13) 1)=1 then(if x9.length < 17592186044416 then(if x244000.length + ((Zb x72 x74).f1).length < 17592186044416 then(Ze1.l0 k x1 x8 (x9++[x74]) x11 x234000 x234001 x234002 x234003 (x244000++((Zb x72 x74).f1).reverse)) else(none)) else(none)) else(Ze1.l1 k x1 x8 x9 x11 x12 x13 x72 x73 (wrap64 (x74 + 1)) x234000 x234001 x234002 x234003 x244000)) else(none)) else(none)) else(Ze1.l1 k x1 x8 x9 x11 x12 x13 x72 x73 (wrap64 (x74 + 1)) x234000 x234001 x234002 x234003 x244000)) else(none)) else(none)) else(Ze1.l0 k x1 x8 x9 x11 x234000 x234001 x234002 x234003 x244000)
end
def Ze1.f (k:Nat) (a0_0:Int) (a0_1:Int) (a0_2:Int) (l0_3:List (S41)) (l1:List Int):Option (List Int × Int):=(table_Takes.f k a0_0 a0_1 a0_2 l0_3 l1).bind fun bt234=>(if bt234.2=0 then((Zu1.f k a0_0 a0_1 a0_2 l0_3).bind fun t236=>((Zo1.f k a0_0 a0_1 a0_2 l0_3 t236).bind fun t239=>(if t239=true then(if bt234.1=true then(Ze1.l0 k l1 t236 ([] :List Int) 0 a0_0 a0_1 a0_2 l0_3 (([wrap64 (a0_0 + a0_2)] :List Int))) else(some (([] :List Int),5))) else(some (([] :List Int),3))))) else(some (([] :List Int),bt234.2)))
theorem Ze1.mono_l: ∀k,(∀y0 y1 y2 y3 y4 y5 y6 y7 y8,LeO (Ze1.l0 k y0 y1 y2 y3 y4 y5 y6 y7 y8) (Ze1.l0 (k + 1) y0 y1 y2 y3 y4 y5 y6 y7 y8))∧(∀y0 y1 y2 y3 y4 y5 y6 y7 y8 y9 y10,LeO (Ze1.j1 k y0 y1 y2 y3 y4 y5 y6 y7 y8 y9 y10) (Ze1.j1 (k + 1) y0 y1 y2 y3 y4 y5 y6 y7 y8 y9 y10))∧(∀y0 y1 y2 y3 y4 y5 y6 y7 y8 y9 y10 y11 y12 y13,LeO (Ze1.l1 k y0 y1 y2 y3 y4 y5 y6 y7 y8 y9 y10 y11 y12 y13) (Ze1.l1 (k + 1) y0 y1 y2 y3 y4 y5 y6 y7 y8 y9 y10 y11 y12 y13))
  |0=>⟨fun _ _ _ _ _ _ _ _ _ r h=>by simp [Ze1.l0] at h,fun _ _ _ _ _ _ _ _ _ _ _ r h=>by simp [Ze1.j1] at h,fun _ _ _ _ _ _ _ _ _ _ _ _ _ _ r h=>by simp [Ze1.l1] at h⟩
  |k + 1=>by
    obtain⟨ih0,ih1,ih2⟩:=Ze1.mono_l k
    refine⟨?_,?_,?_⟩
    · intro y0 y1 y2 y3 y4 y5 y6 y7 y8
      unfold Ze1.l0
      repeat' (with_reducible first|apply ih0|apply ih1|apply ih2|apply Zo1.mono|apply Zu1.mono|apply table_Takes.mono|exact LeO.refl _|exact LeO.none _|refine LeO.ite ?_ ?_|refine LeO.bind ?_ (fun _=>?_))
    · intro y0 y1 y2 y3 y4 y5 y6 y7 y8 y9 y10
      unfold Ze1.j1
      repeat' (with_reducible first|apply ih0|apply ih1|apply ih2|apply Zo1.mono|apply Zu1.mono|apply table_Takes.mono|exact LeO.refl _|exact LeO.none _|refine LeO.ite ?_ ?_|refine LeO.bind ?_ (fun _=>?_))
    · intro y0 y1 y2 y3 y4 y5 y6 y7 y8 y9 y10 y11 y12 y13
      unfold Ze1.l1
      repeat' (with_reducible first|apply ih0|apply ih1|apply ih2|apply Zo1.mono|apply Zu1.mono|apply table_Takes.mono|exact LeO.refl _|exact LeO.none _|refine LeO.ite ?_ ?_|refine LeO.bind ?_ (fun _=>?_))
theorem Ze1.mono: ∀a0 a1 a2 a3 a4 k,LeO (Ze1.f k a0 a1 a2 a3 a4) (Ze1.f (k + 1) a0 a1 a2 a3 a4):=by
  intro a0 a1 a2 a3 a4 k
  obtain⟨ih0,ih1,ih2⟩:=Ze1.mono_l k
  unfold Ze1.f
  repeat' (with_reducible first|apply ih0|apply ih1|apply ih2|apply Zo1.mono|apply Zu1.mono|apply table_Takes.mono|exact LeO.refl _|exact LeO.none _|refine LeO.ite ?_ ?_|refine LeO.bind ?_ (fun _=>?_))
set_option maxHeartbeats 8000000 in
set_option maxRecDepth 100000 in
theorem Ze1.calls (k : Nat) (ah : Int) (al : Int) (aj : Int) (bf : Option Addr) (ba : Nat) (ae : List (S41)) (A1 : Option Addr) (c1 : Nat) (l1 : List Int) (r1 : List Int) (r2 : Int) (w : World) (jg : Kd.C k41 w bf ae.length ae) (jh : ae.length ≤ ba) (ri : Kd.C (Kd.int .i64) w A1 l1.length l1) (rj : l1.length ≤ c1) (h : Ze1.f k ah al aj ae l1 = some (r1, r2)) :
    Calls Try.prog 4 #[.agg #[.int .i64 ah,.int .i64 al,.int .i64 aj,.slice bf ae.length ba],.slice A1 l1.length c1] w fun e w'=>∃v0_:Value,e= .returned (.tuple #[v0_,.int .i64 r2])∧Kd.R (Kd.int .i64) 3 w' w.heap.size (fun _=>True) v0_ r1∧Below w.heap.size w w':=by
 (have tf:=Try.underlying24);(have tw:=Try.underlying3);(have tg:=Try.underlying25);(have th:=Try.underlying41);(have ti:=Try.underlying42);(have bp:=Za.mk jg);(have bv:=Za.mk jh);(clear jg jh);(have kp:=Za.mk ri);(have lq:=Za.mk rj);(clear ri rj);(have HB:=Za.mk (Below.refl w.heap.size w));(have H:((table_Takes.f k ah al aj ae l1).bind fun gu=>(if gu.2=0 then((Zu1.f k ah al aj ae).bind fun aw=>((Zo1.f k ah al aj ae aw).bind fun eh=>(if eh=true then(if gu.1=true then(Ze1.l0 k l1 aw ([] :List Int) 0 ah al aj ae (([wrap64 (ah + aj)] :List Int))) else(some (([] :List Int),5))) else(some (([] :List Int),3))))) else(some (([] :List Int),gu.2))))=some (r1,r2):=h);(clear h);(replace H:=Option.bind_eq_some_iff.mp H);(obtain⟨⟨fb,bu⟩,rk,H⟩:=H);(replace H:(if bu=0 then((Zu1.f k ah al aj ae).bind fun aw=>((Zo1.f k ah al aj ae aw).bind fun eh=>(if eh=true then(if fb=true then(Ze1.l0 k l1 aw ([] :List Int) 0 ah al aj ae (([wrap64 (ah + aj)] :List Int))) else(some (([] :List Int),5))) else(some (([] :List Int),3))))) else(some (([] :List Int),bu)))=some (r1,r2):=H);(have A3:=Za.mk rk);(clear rk)
 by_cases c4:bu=0
 rotate_left
 ·rw [if_neg c4] at H
  (have ie:(bu == 0)=false:=beq_eq_false_iff_ne.mpr c4);(have ig:(bu != 0)=true:=bne_iff_ne.mpr c4);(simp only [Option.some.injEq,Prod.mk.injEq] at H);(obtain⟨rfl,rfl⟩:=H)
  go_enter Try.func4,Try.ntmps4
  go_wp2_with (first|((with_reducible refine Zs (N:=2) rfl ?_);refine Zx ?hg (N:=2) ?hd (cs:=#[.int .i64 ah,.int .i64 al,.int .i64 aj,.slice bf ae.length ba]) (t:=24) ?hr ?_;(case hd=>rfl);(case hg=>rfl);(case hr=>first|(go_simp;done)|(go_simp;rfl));intro ak hg tx hbox hb;have ab:=Za.mk (hbox);have gv:=Za.mk ((by rw [hg];exact(Zg (zH HB)):w.heap.size≤ak));have gw:=Za.mk ((by rw [hg];exact(Zg (zH HB)):w.heap.size≤ak));replace HB:=Za.mk (Zh (zH HB) hb);clear hb hbox hg;obtain⟨lr,ls,lu,lv⟩:=zq4 ab.out;obtain⟨lw,lx,ly,lz⟩:=zf4 ab.out)|((with_reducible refine Zl1 (f:=10) rfl ?_);refine goesL_ (some 21) rfl rfl Try.func10 (by kernel_rfl) rfl #[.agg #[.int .i64 ah,.int .i64 al,.int .i64 aj,.slice bf ae.length ba],.slice A1 l1.length c1] rfl (by (try simp only [List.map_toArray,List.map_cons,List.map_nil]);first|done|rfl|(simp only [List.length_drop,List.length_take];rfl)) ?_;(with_reducible refine(table_Takes.calls k ah al aj _ _ ae _ _ l1 fb bu _ ?side1 ?side2 ?side3 ?side4 A3.out).mono ?_);(case side1=>exact zC bp HB);(case side2=>exact bv.out);(case side3=>exact zC kp HB);(case side4=>exact lq.out);rintro e tj ⟨rfl,hb⟩;refine⟨_,rfl,?_⟩;replace ab:=Za.mk (Zj (g:=ak) (zK ab) hb);replace HB:=Za.mk (Zh (zH HB) hb);(try clear hb);(try clear hb2);(try clear hk);(try clear hi)))
  go_ret2
  exact⟨_,by first|rfl|(simp [Zl,Zk] <;> rfl)|(simp [*,Zl,Zk] <;> rfl),by first|exact Kd.R_nil _ _ _ _ _|exact Kd.N_nil _ _ _ _ _|exact Kd.V_nil _ _ _ _ _|exact Kd.Q_nil _ _ _ _ _|exact Kd.S_nil _ _ _ _ _|(go_simp;exact Kd.R_nil _ _ _ _ _),zH HB⟩
 (rw [if_pos c4] at H);(have ie:(bu == 0)=true:=beq_iff_eq.mpr c4);(have ig:(bu != 0)=false:=bne_eq_false_iff_eq.mpr c4);(clear c4);(replace H:=Option.bind_eq_some_iff.mp H);(obtain⟨aw,rm,H⟩:=H);(replace H:((Zo1.f k ah al aj ae aw).bind fun eh=>(if eh=true then(if fb=true then(Ze1.l0 k l1 aw ([] :List Int) 0 ah al aj ae (([wrap64 (ah + aj)] :List Int))) else(some (([] :List Int),5))) else(some (([] :List Int),3))))=some (r1,r2):=H);(have A5:=Za.mk rm);(clear rm);(replace H:=Option.bind_eq_some_iff.mp H);(obtain⟨eh,rn,H⟩:=H);(replace H:(if eh=true then(if fb=true then(Ze1.l0 k l1 aw ([] :List Int) 0 ah al aj ae (([wrap64 (ah + aj)] :List Int))) else(some (([] :List Int),5))) else(some (([] :List Int),3)))=some (r1,r2):=H);(have A6:=Za.mk rn);(clear rn)
 by_cases c7:eh=true
 rotate_left
 ·replace c7:=Bool.eq_false_iff.mpr c7
  (subst c7);(have H1:(some (([] :List Int),3))=some (r1,r2):=by rw [if_neg (show ¬ (false=true) by decide)] at H;exact H);(clear H);(have H:=H1);(clear H1);(simp only [Option.some.injEq,Prod.mk.injEq] at H);(obtain⟨rfl,rfl⟩:=H)
  go_enter Try.func4,Try.ntmps4
  go_wp2_with (first|((with_reducible refine Zs (N:=2) rfl ?_);refine Zx ?hg (N:=2) ?hd (cs:=#[.int .i64 ah,.int .i64 al,.int .i64 aj,.slice bf ae.length ba]) (t:=24) ?hr ?_;(case hd=>rfl);(case hg=>rfl);(case hr=>first|(go_simp;done)|(go_simp;rfl));intro ak hg tz hbox hb;have ab:=Za.mk (hbox);have gv:=Za.mk ((by rw [hg];exact(Zg (zH HB)):w.heap.size≤ak));have gw:=Za.mk ((by rw [hg];exact(Zg (zH HB)):w.heap.size≤ak));replace HB:=Za.mk (Zh (zH HB) hb);clear hb hbox hg;obtain⟨ma,mb,mc,me⟩:=zq4 ab.out;obtain⟨mf,mg,mh,mi⟩:=zf4 ab.out)|((with_reducible refine Zl1 (f:=10) rfl ?_);refine goesL_ (some 21) rfl rfl Try.func10 (by kernel_rfl) rfl #[.agg #[.int .i64 ah,.int .i64 al,.int .i64 aj,.slice bf ae.length ba],.slice A1 l1.length c1] rfl (by (try simp only [List.map_toArray,List.map_cons,List.map_nil]);first|done|rfl|(simp only [List.length_drop,List.length_take];rfl)) ?_;(with_reducible refine(table_Takes.calls k ah al aj _ _ ae _ _ l1 fb bu _ ?side1 ?side2 ?side3 ?side4 A3.out).mono ?_);(case side1=>exact zC bp HB);(case side2=>exact bv.out);(case side3=>exact zC kp HB);(case side4=>exact lq.out);rintro e ua ⟨rfl,hb⟩;refine⟨_,rfl,?_⟩;replace ab:=Za.mk (Zj (g:=ak) (zK ab) hb);replace HB:=Za.mk (Zh (zH HB) hb);(try clear hb);(try clear hb2);(try clear hk);(try clear hi);obtain⟨ml,mm,mn,mo⟩:=zq4 ab.out;obtain⟨mq,mr,ms,mt⟩:=zf4 ab.out)|((with_reducible refine Zl1 (f:=11) rfl ?_);refine goesL_ (some 28) rfl rfl Try.func11 (by kernel_rfl) rfl #[.agg #[.int .i64 ah,.int .i64 al,.int .i64 aj,.slice bf ae.length ba]] rfl (by (try simp only [List.map_toArray,List.map_cons,List.map_nil]);first|done|rfl|(simp only [List.length_drop,List.length_take];rfl)) ?_;(with_reducible refine(Zu1.calls k ah al aj _ _ ae aw _ ?side1 ?side2 A5.out).mono ?_);(case side1=>exact zC bp HB);(case side2=>exact bv.out);rintro e ub ⟨v237,rfl,ho0,hb⟩;refine⟨_,rfl,?_⟩;have bb:=Za.mk (Kd.R_lower ho0 (Zg (zH HB)));replace ab:=Za.mk (Zj (g:=ak) (zK ab) hb);replace HB:=Za.mk (Zh (zH HB) hb);(try clear hb);(try clear hb2);(try clear hk);(try clear hi);(try clear ho0);obtain⟨mu,mv,mw,my⟩:=zq4 ab.out;obtain⟨mz,na,nb,nc⟩:=zf4 ab.out;obtain⟨qo,qp,qq⟩:=Kd.R_slice bb.out;subst qq)|((with_reducible refine Zl1 (f:=12) rfl ?_);refine goesL_ (some 31) rfl rfl Try.func12 (by kernel_rfl) rfl #[.agg #[.int .i64 ah,.int .i64 al,.int .i64 aj,.slice bf ae.length ba],.slice qo aw.length qp] rfl (by (try simp only [List.map_toArray,List.map_cons,List.map_nil]);first|done|rfl|(simp only [List.length_drop,List.length_take];rfl)) ?_;(with_reducible refine(Zo1.calls k ah al aj _ _ ae _ _ aw false _ ?side1 ?side2 ?side3 ?side4 A6.out).mono ?_);(case side1=>exact zC bp HB);(case side2=>exact bv.out);(case side3=>repeat(first|exact(Kd.R_reads' bb.out).2.2|(with_reducible refine Kd.C_alloc ?_ _)|(with_reducible refine Kd.C_drewN ?_ _)|(with_reducible refine Kd.C_drew ?_)));(case side4=>exact(Kd.R_reads' bb.out).2.1);rintro e uc ⟨rfl,hb⟩;refine⟨_,rfl,?_⟩;replace bb:=Za.mk (Kd.R_below (zR bb) hb);replace ab:=Za.mk (Zj (g:=ak) (zK ab) hb);replace HB:=Za.mk (Zh (zH HB) hb);(try clear hb);(try clear hb2);(try clear hk);(try clear hi)))
  go_ret2
  exact⟨_,by first|rfl|(simp [Zl,Zk] <;> rfl)|(simp [*,Zl,Zk] <;> rfl),by first|exact Kd.R_nil _ _ _ _ _|exact Kd.N_nil _ _ _ _ _|exact Kd.V_nil _ _ _ _ _|exact Kd.Q_nil _ _ _ _ _|exact Kd.S_nil _ _ _ _ _|(go_simp;exact Kd.R_nil _ _ _ _ _),zH HB⟩
 (subst c7);(have H1:(if fb=true then(Ze1.l0 k l1 aw ([] :List Int) 0 ah al aj ae (([wrap64 (ah + aj)] :List Int))) else(some (([] :List Int),5)))=some (r1,r2):=by rw [if_pos rfl] at H;exact H);(clear H);(have H:=H1);(clear H1)
 by_cases c8:fb=true
 rotate_left
 ·replace c8:=Bool.eq_false_iff.mpr c8
  (subst c8);(have H1:(some (([] :List Int),5))=some (r1,r2):=by rw [if_neg (show ¬ (false=true) by decide)] at H;exact H);(clear H);(have H:=H1);(clear H1);(simp only [Option.some.injEq,Prod.mk.injEq] at H);(obtain⟨rfl,rfl⟩:=H)
  go_enter Try.func4,Try.ntmps4
  go_wp2_with (first|((with_reducible refine Zs (N:=2) rfl ?_);refine Zx ?hg (N:=2) ?hd (cs:=#[.int .i64 ah,.int .i64 al,.int .i64 aj,.slice bf ae.length ba]) (t:=24) ?hr ?_;(case hd=>rfl);(case hg=>rfl);(case hr=>first|(go_simp;done)|(go_simp;rfl));intro ak hg ud hbox hb;have ab:=Za.mk (hbox);have gv:=Za.mk ((by rw [hg];exact(Zg (zH HB)):w.heap.size≤ak));have gw:=Za.mk ((by rw [hg];exact(Zg (zH HB)):w.heap.size≤ak));replace HB:=Za.mk (Zh (zH HB) hb);clear hb hbox hg;obtain⟨nf,ng,nh,ni⟩:=zq4 ab.out;obtain⟨nj,nl,nm,nn⟩:=zf4 ab.out)|((with_reducible refine Zl1 (f:=10) rfl ?_);refine goesL_ (some 21) rfl rfl Try.func10 (by kernel_rfl) rfl #[.agg #[.int .i64 ah,.int .i64 al,.int .i64 aj,.slice bf ae.length ba],.slice A1 l1.length c1] rfl (by (try simp only [List.map_toArray,List.map_cons,List.map_nil]);first|done|rfl|(simp only [List.length_drop,List.length_take];rfl)) ?_;(with_reducible refine(table_Takes.calls k ah al aj _ _ ae _ _ l1 false bu _ ?side1 ?side2 ?side3 ?side4 A3.out).mono ?_);(case side1=>exact zC bp HB);(case side2=>exact bv.out);(case side3=>exact zC kp HB);(case side4=>exact lq.out);rintro e ue ⟨rfl,hb⟩;refine⟨_,rfl,?_⟩;replace ab:=Za.mk (Zj (g:=ak) (zK ab) hb);replace HB:=Za.mk (Zh (zH HB) hb);(try clear hb);(try clear hb2);(try clear hk);(try clear hi);obtain⟨no,np,nq,nr⟩:=zq4 ab.out;obtain⟨nt,nu,nv,nw⟩:=zf4 ab.out)|((with_reducible refine Zl1 (f:=11) rfl ?_);refine goesL_ (some 28) rfl rfl Try.func11 (by kernel_rfl) rfl #[.agg #[.int .i64 ah,.int .i64 al,.int .i64 aj,.slice bf ae.length ba]] rfl (by (try simp only [List.map_toArray,List.map_cons,List.map_nil]);first|done|rfl|(simp only [List.length_drop,List.length_take];rfl)) ?_;(with_reducible refine(Zu1.calls k ah al aj _ _ ae aw _ ?side1 ?side2 A5.out).mono ?_);(case side1=>exact zC bp HB);(case side2=>exact bv.out);rintro e uf ⟨v237,rfl,ho0,hb⟩;refine⟨_,rfl,?_⟩;have bb:=Za.mk (Kd.R_lower ho0 (Zg (zH HB)));replace ab:=Za.mk (Zj (g:=ak) (zK ab) hb);replace HB:=Za.mk (Zh (zH HB) hb);(try clear hb);(try clear hb2);(try clear hk);(try clear hi);(try clear ho0);obtain⟨nx,ny,nz,oa⟩:=zq4 ab.out;obtain⟨oc,od,oe,oh⟩:=zf4 ab.out;obtain⟨qr,qt,qu⟩:=Kd.R_slice bb.out;subst qu)|((with_reducible refine Zl1 (f:=12) rfl ?_);refine goesL_ (some 31) rfl rfl Try.func12 (by kernel_rfl) rfl #[.agg #[.int .i64 ah,.int .i64 al,.int .i64 aj,.slice bf ae.length ba],.slice qr aw.length qt] rfl (by (try simp only [List.map_toArray,List.map_cons,List.map_nil]);first|done|rfl|(simp only [List.length_drop,List.length_take];rfl)) ?_;(with_reducible refine(Zo1.calls k ah al aj _ _ ae _ _ aw true _ ?side1 ?side2 ?side3 ?side4 A6.out).mono ?_);(case side1=>exact zC bp HB);(case side2=>exact bv.out);(case side3=>repeat(first|exact(Kd.R_reads' bb.out).2.2|(with_reducible refine Kd.C_alloc ?_ _)|(with_reducible refine Kd.C_drewN ?_ _)|(with_reducible refine Kd.C_drew ?_)));(case side4=>exact(Kd.R_reads' bb.out).2.1);rintro e ug ⟨rfl,hb⟩;refine⟨_,rfl,?_⟩;replace bb:=Za.mk (Kd.R_below (zR bb) hb);replace ab:=Za.mk (Zj (g:=ak) (zK ab) hb);replace HB:=Za.mk (Zh (zH HB) hb);(try clear hb);(try clear hb2);(try clear hk);(try clear hi)))
  go_ret2
  exact⟨_,by first|rfl|(simp [Zl,Zk] <;> rfl)|(simp [*,Zl,Zk] <;> rfl),by first|exact Kd.R_nil _ _ _ _ _|exact Kd.N_nil _ _ _ _ _|exact Kd.V_nil _ _ _ _ _|exact Kd.Q_nil _ _ _ _ _|exact Kd.S_nil _ _ _ _ _|(go_simp;exact Kd.R_nil _ _ _ _ _),zH HB⟩
 (subst c8);(have H1:(Ze1.l0 k l1 aw ([] :List Int) 0 ah al aj ae (([wrap64 (ah + aj)] :List Int)))=some (r1,r2):=by rw [if_pos rfl] at H;exact H);(clear H);(have H:=H1);(clear H1);(obtain⟨gp,ei⟩ : ∃y_:List Int,y_=(([wrap64 (ah + aj)] :List Int)):=⟨_,rfl⟩);(replace H:(Ze1.l0 k l1 aw ([] :List Int) 0 ah al aj ae gp)=some (r1,r2):=by first|(rw [ei];with_reducible exact H)|(have H2_:=(Option.bind_some _ _).symm.trans H;rw [ei];with_reducible exact H2_)|(have H2_:=(Option.bind_some _ _).symm.trans H;with_reducible exact H2_)|with_reducible exact H|(rw [ei];exact H)|exact H);(have ji:=Za.mk ei);(clear ei);(have H':=Za.mk H);(clear H)
 refine callsIn_wide.1 (callsIn_of_wp_marks (F:=Fence.wide) (n:=5) Try.func4 rfl trivial (wpIn_wide.2 ?_) rfl)
 simp only [Try.ntmps4,List.size_toArray,List.length_cons,List.length_nil,Nat.reduceAdd,Nat.reduceSub,Array.replicate_succ,Array.replicate_zero,List.push_toArray,List.append_toArray,List.nil_append,List.cons_append]
 go_wp2_with (first|((with_reducible refine Zs (N:=2) rfl ?_);refine Zx ?hg (N:=2) ?hd (cs:=#[.int .i64 ah,.int .i64 al,.int .i64 aj,.slice bf ae.length ba]) (t:=24) ?hr ?_;(case hd=>rfl);(case hg=>rfl);(case hr=>first|(go_simp;done)|(go_simp;rfl));intro ak hg w9 hbox hb;have ab:=Za.mk (hbox);have gv:=Za.mk ((by rw [hg];exact(Zg (zH HB)):w.heap.size≤ak));have gw:=Za.mk ((by rw [hg];exact(Zg (zH HB)):w.heap.size≤ak));replace HB:=Za.mk (Zh (zH HB) hb);clear hb hbox hg;obtain⟨cj,ck,cm,cn⟩:=zq4 ab.out;obtain⟨co,cp,cq,cu⟩:=zf4 ab.out)|((with_reducible refine Zl1 (f:=10) rfl ?_);refine goesL_ (some 21) rfl rfl Try.func10 (by kernel_rfl) rfl #[.agg #[.int .i64 ah,.int .i64 al,.int .i64 aj,.slice bf ae.length ba],.slice A1 l1.length c1] rfl (by (try simp only [List.map_toArray,List.map_cons,List.map_nil]);first|done|rfl|(simp only [List.length_drop,List.length_take];rfl)) ?_;(with_reducible refine(table_Takes.calls k ah al aj _ _ ae _ _ l1 true bu _ ?side1 ?side2 ?side3 ?side4 A3.out).mono ?_);(case side1=>exact zC bp HB);(case side2=>exact bv.out);(case side3=>exact zC kp HB);(case side4=>exact lq.out);rintro e uh ⟨rfl,hb⟩;refine⟨_,rfl,?_⟩;replace ab:=Za.mk (Zj (g:=ak) (zK ab) hb);replace HB:=Za.mk (Zh (zH HB) hb);(try clear hb);(try clear hb2);(try clear hk);(try clear hi);obtain⟨cw,cy,da,db⟩:=zq4 ab.out;obtain⟨dc,dd,de,df⟩:=zf4 ab.out)|((with_reducible refine Zl1 (f:=11) rfl ?_);refine goesL_ (some 28) rfl rfl Try.func11 (by kernel_rfl) rfl #[.agg #[.int .i64 ah,.int .i64 al,.int .i64 aj,.slice bf ae.length ba]] rfl (by (try simp only [List.map_toArray,List.map_cons,List.map_nil]);first|done|rfl|(simp only [List.length_drop,List.length_take];rfl)) ?_;(with_reducible refine(Zu1.calls k ah al aj _ _ ae aw _ ?side1 ?side2 A5.out).mono ?_);(case side1=>exact zC bp HB);(case side2=>exact bv.out);rintro e ui ⟨v237,rfl,ho0,hb⟩;refine⟨_,rfl,?_⟩;have bb:=Za.mk (Kd.R_lower ho0 (Zg (zH HB)));replace ab:=Za.mk (Zj (g:=ak) (zK ab) hb);replace HB:=Za.mk (Zh (zH HB) hb);(try clear hb);(try clear hb2);(try clear hk);(try clear hi);(try clear ho0);obtain⟨dg,dh,di,dj⟩:=zq4 ab.out;obtain⟨dk,dl,dm,dn⟩:=zf4 ab.out;obtain⟨fc,fd,qv⟩:=Kd.R_slice bb.out;subst qv)|((with_reducible refine Zl1 (f:=12) rfl ?_);refine goesL_ (some 31) rfl rfl Try.func12 (by kernel_rfl) rfl #[.agg #[.int .i64 ah,.int .i64 al,.int .i64 aj,.slice bf ae.length ba],.slice fc aw.length fd] rfl (by (try simp only [List.map_toArray,List.map_cons,List.map_nil]);first|done|rfl|(simp only [List.length_drop,List.length_take];rfl)) ?_;(with_reducible refine(Zo1.calls k ah al aj _ _ ae _ _ aw true _ ?side1 ?side2 ?side3 ?side4 A6.out).mono ?_);(case side1=>exact zC bp HB);(case side2=>exact bv.out);(case side3=>repeat(first|exact(Kd.R_reads' bb.out).2.2|(with_reducible refine Kd.C_alloc ?_ _)|(with_reducible refine Kd.C_drewN ?_ _)|(with_reducible refine Kd.C_drew ?_)));(case side4=>exact(Kd.R_reads' bb.out).2.1);rintro e uj ⟨rfl,hb⟩;refine⟨_,rfl,?_⟩;replace bb:=Za.mk (Kd.R_below (zR bb) hb);replace ab:=Za.mk (Zj (g:=ak) (zK ab) hb);replace HB:=Za.mk (Zh (zH HB) hb);(try clear hb);(try clear hb2);(try clear hk);(try clear hi);obtain⟨dp,dq,dr,dt⟩:=zq4 ab.out;obtain⟨du,dv,dw,dx⟩:=zf4 ab.out)|((with_reducible refine Zs (N:=40) rfl ?_);refine Kd.R_lit (Kd.int .i64) _ 3 ?hg (N:=40) ?hd (xs:=([wrap64 (ah + aj)] :List Int)) (inner:=[.int .i64 (wrap64 (ah + aj))]) (ok:=fun _=>True) (okp:=fun _=>True) ?hr ?hp (fun _ hk=>hk) trivial (Below.refl _ _) (Nat.le_refl _) (by simp) ?_;(case hd=>rfl);(case hg=>rfl);(case hr=>first|(go_simp;done)|(go_simp;rfl));(case hp=>exact(Reps.one (show Kd.M (Kd.int .i64) _ _ _ (wrap64 (ah + aj)) [.int .i64 (wrap64 (ah + aj))] from rfl) (Reps.none _ _)));intro v241 uk ho19 hb hg_ hnew_;clear hg_ hnew_;(first|rw [← ji.out] at ho19|(simp only [Int.reduceToNat] at ho19;rw [← ji.out] at ho19));replace bb:=Za.mk (Kd.R_below (zR bb) hb);have fg:=Za.mk (Kd.R_lower ho19 (Zg (zH HB)));replace ab:=Za.mk (Zj (g:=ak) (zK ab) hb);replace HB:=Za.mk (Zh (zH HB) hb);clear hb ho19)|((with_reducible refine Zs (N:=10) rfl ?_);refine Zx ?hg (N:=10) ?hd (cs:=#[.slice none 0 0]) (t:=25) ?hr ?_;(case hd=>rfl);(case hg=>rfl);(case hr=>first|(go_simp;done)|(go_simp;rfl));intro am hg ul hbox hb;replace bb:=Za.mk (Kd.R_below (zR bb) hb);replace fg:=Za.mk (Kd.R_below (zR fg) hb);have ai:=Za.mk (hbox);have kr:=Za.mk ((by rw [hg];exact(Zg (zH HB)):w.heap.size≤am));have kt:=Za.mk ((by rw [hg];exact(Zg (zH HB)):w.heap.size≤am));replace HB:=Za.mk (Zh (zH HB) hb);have ax:=Za.mk ((by rw [hg];exact Nat.ne_of_lt (Zu (g:=ak) (o:= .cells #[.int .i64 ah,.int .i64 al,.int .i64 aj,.slice bf ae.length ba] 24 (0,0)) (zK ab)):ak≠am));have be:=Za.mk ((by rw [hg];exact Nat.ne_of_gt (Zu (g:=ak) (o:= .cells #[.int .i64 ah,.int .i64 al,.int .i64 aj,.slice bf ae.length ba] 24 (0,0)) (zK ab)):am≠ak));replace ab:=Za.mk (Zj (g:=ak) (zK ab) hb);clear hb hbox hg;obtain⟨ii,ik,qw⟩:=Kd.R_slice fg.out;subst qw;have ro:=be.out;have rp:=ax.out;have dy:=zj ai 0 (.slice none 0 0);have dz:=blk_frozen ai.out 0))
 refine wp_loop_ghost_k (fun kq a' w'=>∃(ds:List Deferred) (u9 u11 u12 u13 u14 u15 u17 u41 u42 u43 u44 u45 u46 u47 u48 u49 u50 u51 u52 u53 u54 u55 u56 u57 u58 u59 u60 u61 u62 u63 u64 u65 u66 u67 u68 u69 u70 u71 u72 u73 u74 u75 u76 u77 u78 u79 u80 u81 u82 u83 u84 u85 u86 u87 u88 u89 u90 u91 u92 u93 u94 u95 u96 u97 u98 u99 u100 u101 u102 u103 u104 u105 u106 u107 u108 u109:Value),(∃(bz:List Int) (aq:Int) (aa:List Int) (u244000:Value),u11= .int .i64 aq∧Za (Ze1.l0 kq l1 aw bz aq ah al aj ae aa=some (r1,r2))∧Za (kq≤k)∧Za (Kd.R (Kd.int .u32) 42 w' w.heap.size (fun _=>True) (.slice fc aw.length fd) aw)∧Za (Kd.R (Kd.int .i64) 3 w' w.heap.size (fun k_=>some k_≠(u244000:Value).ownBlock) u9 bz)∧Za (Kd.R (Kd.int .i64) 3 w' w.heap.size (fun k_=>some k_≠(u9:Value).ownBlock) u244000 aa)∧Za (w'.heap[ak]? =some (.cells #[.int .i64 ah,.int .i64 al,.int .i64 aj,(.slice bf ae.length ba)] 24 (0,0)))∧Za (w'.heap[am]? =some (.cells #[u244000] 25 (0,0)))∧Za (Below w.heap.size w w')∧Za (Marks w.heap.size ds w'))∧a'= {tmps:=#[Value.agg #[Value.int IntKind.i64 ah,Value.int IntKind.i64 al,Value.int IntKind.i64 aj,Value.slice bf ae.length ba],Value.slice A1 l1.length c1,Value.pointer (some {block:=ak,off:=0}),undef,Value.slice none 0 0,Value.int IntKind.i64 0,Value.bool true,Value.int IntKind.i64 bu,Value.slice fc aw.length fd,u9,Value.pointer (some {block:=am,off:=0}),u11,u12,u13,u14,u15,undef,u17,Value.tuple #[Value.bool true,Value.int IntKind.i64 bu],Value.agg #[Value.int IntKind.i64 ah,Value.int IntKind.i64 al,Value.int IntKind.i64 aj,Value.slice bf ae.length ba],Value.slice A1 l1.length c1,Value.tuple #[Value.bool true,Value.int IntKind.i64 bu],Value.bool true,Value.int IntKind.i64 bu,Value.int IntKind.i64 bu,Value.bool false,undef,Value.agg #[Value.int IntKind.i64 ah,Value.int IntKind.i64 al,Value.int IntKind.i64 aj,Value.slice bf ae.length ba],Value.slice fc aw.length fd,Value.agg #[Value.int IntKind.i64 ah,Value.int IntKind.i64 al,Value.int IntKind.i64 aj,Value.slice bf ae.length ba],Value.slice fc aw.length fd,Value.bool true,Value.bool false,Value.bool true,Value.bool false,Value.pointer (some {block:=ak,off:=0}),Value.int IntKind.i64 ah,Value.pointer (some {block:=ak,off:=2}),Value.int IntKind.i64 aj,Value.int IntKind.i64 (wrap64 (ah + aj)),Value.slice ii gp.length ik,u41,u42,u43,u44,u45,u46,u47,u48,u49,u50,u51,u52,u53,u54,u55,u56,u57,u58,u59,u60,u61,u62,u63,u64,u65,u66,u67,u68,u69,u70,u71,u72,u73,u74,u75,u76,u77,u78,u79,u80,u81,u82,u83,u84,u85,u86,u87,u88,u89,u90,u91,u92,u93,u94,u95,u96,u97,u98,u99,u100,u101,u102,u103,u104,u105,u106,u107,u108,u109,undef],defers:=ds}) k ?atStart ?round
 case atStart=>
  refine⟨[],_,_,_,_,_,_,_,_,_,_,_,_,_,_,_,_,_,_,_,_,_,_,_,_,_,_,_,_,_,_,_,_,_,_,_,_,_,_,_,_,_,_,_,_,_,_,_,_,_,_,_,_,_,_,_,_,_,_,_,_,_,_,_,_,_,_,_,_,_,_,_,_,_,_,_,_,?_,rfl⟩
  exact⟨(([] :List Int)),(0),(gp),(.slice ii gp.length ik),(by first|rfl|(simp;done)|(simp [*];done)),H',⟨Nat.le_refl _⟩,⟨by (with_reducible repeat(first|apply Kd.R_alloc|apply Kd.R_drewN|apply Kd.R_drew));exact Kd.R_mono (Kd.R_far (p:=⟨am,0,none⟩) (Kd.R_types bb.out ai.out (by decide)) (fun _ hk=>hk.2) (.slice ii gp.length ik)) (fun _ hk=>trivial)⟩,⟨by first|exact Kd.R_nil _ _ _ _ _|exact Kd.N_nil _ _ _ _ _|exact Kd.V_nil _ _ _ _ _|exact Kd.Q_nil _ _ _ _ _|exact Kd.S_nil _ _ _ _ _|(go_simp;exact Kd.R_nil _ _ _ _ _)⟩,⟨by (with_reducible repeat(first|apply Kd.R_alloc|apply Kd.R_drewN|apply Kd.R_drew));exact Kd.R_mono (Kd.R_far (p:=⟨am,0,none⟩) (Kd.R_types fg.out ai.out (by decide)) (fun _ hk=>hk.2) (.slice ii gp.length ik)) (fun _ hk=>(by simp [Value.ownBlock]))⟩,⟨by (with_reducible repeat(first|refine Zn ?_ _|refine Zi ?_|refine Zm ?_ _));refine Zv ?_ ax.out _;(with_reducible repeat(first|apply zb3|apply zb2|apply zb1));exact ab.out⟩,⟨by (with_reducible repeat(first|refine Zn ?_ _|refine Zi ?_|refine Zm ?_ _));refine Zs1 (cs:=#[.slice none 0 0]) ?_ 0 _ rfl;(with_reducible repeat(first|apply zb3|apply zb2|apply zb1));exact ai.out⟩,⟨zH HB⟩,⟨Marks.nil _ _⟩⟩
 case round=>
  intro gk a0_ wr hinv
  (obtain⟨ds,u9,u11,u12,u13,u14,u15,u17,u41,u42,u43,u44,u45,u46,u47,u48,u49,u50,u51,u52,u53,u54,u55,u56,u57,u58,u59,u60,u61,u62,u63,u64,u65,u66,u67,u68,u69,u70,u71,u72,u73,u74,u75,u76,u77,u78,u79,u80,u81,u82,u83,u84,u85,u86,u87,u88,u89,u90,u91,u92,u93,u94,u95,u96,u97,u98,u99,u100,u101,u102,u103,u104,u105,u106,u107,u108,u109,hrel,ha⟩:=hinv);(subst ha)
  try dsimp only
  intro J_ K_ hJ_ hK_
  (clear H');(try clear c1);(try clear c2);(try clear p2);(try clear ie);(try clear ig);(try clear p6);(try clear c7);(try clear c8);(try clear c10);(try clear rq);(try clear rr);(try clear rt);(try clear cj ck cm cn cw cy da db dg dh di dj dp dq dr dt dy co cp cq cu dc dd de df dk dl dm dn du dv dw dx dz);(obtain⟨bz,aq,aa,u244000,rfl,HA,ek,bd,bg,af,ab,ai,HB,HM⟩:=hrel)
  cases gk with
  |zero=>exact absurd HA.out (by simp [Ze1.l0])
  |succ k1=>
   (have H:=HA.out);(clear HA);(simp only [Ze1.l0] at H)
   by_cases ke:(aa.length:Int) > 0
   rotate_left
   ·rw [if_neg ke] at H
    (have gx:decide (0 < (aa.length:Int))=false:=decide_eq_false ke);(have gy:decide (0 < aa.length)=false:=decide_eq_false (by omega));(clear ke);(simp only [Option.some.injEq,Prod.mk.injEq] at H);(obtain⟨rfl,rfl⟩:=H);(have ru:=be.out);(have rv:=ax.out);(have ol:=zj ai 0 (u244000));(have om:=blk_frozen ai.out 0);(obtain⟨tk,tl,qx⟩:=Kd.R_slice af.out);(subst qx)
    go_wp2
    try simp only [Exit.inBlock,Exit.then]
    refine leaves_marks (w0:=w) _ _ (by (with_reducible repeat(first|apply Marks.alloc|apply Marks.drewN|apply Marks.drew|apply Marks.set));exact HM.out) (fun W1 h1=>⟨_,results_tmp2 rfl _ _ _,?_⟩)
    exact⟨_,by first|rfl|(simp;done)|(simp [*];done),R_cells (by (with_reducible repeat(first|apply Kd.R_alloc|apply Kd.R_drewN|apply Kd.R_drew));exact Kd.R_mono bg.out (fun _ hk=>trivial)) h1.kc,(zH HB:Below w.heap.size w _).trans h1.hb⟩
   (rw [if_pos ke] at H);(have gx:decide (0 < (aa.length:Int))=true:=decide_eq_true ke);(have gy:decide (0 < aa.length)=true:=decide_eq_true (by omega));(clear ke);(obtain⟨ay,bq⟩ : ∃j_:Int,(wrap64 ((aa.length:Int) - 1))=j_:=⟨_,rfl⟩);(replace H:(if 0≤(ay) then(if(ay) < (aa.length:Int) then(if(ay)≤(aa.length:Int) then((some (aa.take ((ay):Int).toNat:List Int)).bind fun bc=>(if(rd aa (ay)) < ah then(Ze1.l0 k1 l1 aw bz (wrap64 (aq + 1)) ah al aj ae bc) else(if aq < (l1.length:Int) then(if 0≤aq then(Ze1.j1 k1 l1 aw bz aq (rd aa (ay)) (rd l1 aq) ah al aj ae bc) else(none)) else(Ze1.j1 k1 l1 aw bz aq (rd aa (ay)) ah ah al aj ae bc)))) else(none)) else(none)) else(none))=some (r1,r2):=by first|(rw [bq] at H;exact H)|(simp only [bq] at H ⊢;exact H));(have qy:(IntKind.i64.wrap ((aa.length:Int) - 1))=ay:=(Zc _).trans bq)
   by_cases oo:0≤(ay)
   rotate_left
   ·rw [if_neg oo] at H
    exact absurd H (by simp)
   (rw [if_pos oo] at H);(have jj:decide (0≤(ay))=true:=decide_eq_true oo);(clear oo)
   by_cases oq:(ay) < (aa.length:Int)
   rotate_left
   ·rw [if_neg oq] at H
    exact absurd H (by simp)
   (rw [if_pos oq] at H);(have jk:decide ((ay) < (aa.length:Int))=true:=decide_eq_true oq);(clear oq)
   by_cases ku:(ay)≤(aa.length:Int)
   rotate_left
   ·rw [if_neg ku] at H
    exact absurd H (by simp)
   (rw [if_pos ku] at H);(have jl:=eq_true ku);(have jm:decide ((ay)≤(aa.length:Int))=true:=decide_eq_true ku);(clear ku);(obtain⟨bc,eo⟩ : ∃y_:List Int,y_=(aa.take ((ay):Int).toNat):=⟨_,rfl⟩);(replace H:(if(rd aa (ay)) < ah then(Ze1.l0 k1 l1 aw bz (wrap64 (aq + 1)) ah al aj ae bc) else(if aq < (l1.length:Int) then(if 0≤aq then(Ze1.j1 k1 l1 aw bz aq (rd aa (ay)) (rd l1 aq) ah al aj ae bc) else(none)) else(Ze1.j1 k1 l1 aw bz aq (rd aa (ay)) ah ah al aj ae bc)))=some (r1,r2):=by first|(rw [eo];with_reducible exact H)|(have H2_:=(Option.bind_some _ _).symm.trans H;rw [eo];with_reducible exact H2_)|(have H2_:=(Option.bind_some _ _).symm.trans H;with_reducible exact H2_)|with_reducible exact H|(rw [eo];exact H)|exact H);(have fh:=Za.mk eo);(clear eo)
   by_cases kf:(rd aa (ay)) < ah
   ·rw [if_pos kf] at H
    (have gz:decide ((rd aa (ay)) < ah)=true:=decide_eq_true kf);(clear kf);(have H':=Za.mk H);(clear H);(have rx:=be.out);(have ry:=ax.out);(have fi:=zj ai 0 (u244000));(have fj:=blk_frozen ai.out 0);(obtain⟨tm,cf,qz⟩:=Kd.R_slice af.out);(subst qz);(have ea:0≤((ay):Int):=zD);(have ec:(ay) < (aa.length:Int):=zD);(obtain⟨az,js,ee⟩:=Kd.at_int (Kd.R_reads' af.out).2.2 (ay) ea ec);(cases js);(replace ea:=eq_true ea);(replace ec:=eq_true ec);(have jt:((ay):Int)≤((aa.length:Int):Int):=zD);(obtain⟨i033,jn,_,hsz33,_⟩:=info_parts info3);(have ju:=cut_to (P:=Try.prog) 25 3 .i64 Try.underlying25 jn (some az) aa.length cf (ay) (zD) jt (Kd.R_reads' af.out).2.1);(have il:=Kd.R_take (m:=((ay):Int).toNat) af.out (by omega));(have kv:bc.length=((ay):Int).toNat:=(by rw [fh.out,List.length_take];omega));(rw [← fh.out] at il);(rw [← kv] at il ju);(clear kv jn hsz33 af);(have es:=Za.mk il);(clear il);(replace jt:=eq_true jt);(obtain⟨fk,fm⟩:=zq2 ab.out)
    (have fo:=zj ab 2 (.int .i64 aj));(have fp:=zj ab 3 (.slice bf ae.length ba));(obtain⟨fq,ft,fu,fv⟩:=zf4 ab.out)
    go_wp2
    (first|go_roundg k1|(simp only [← bq];go_roundg k1))
    case measure=>have:=ek.out;omega
    case rel=>first|exact⟨(bz),(wrap64 (aq + 1)),(bc),(.slice (some az) bc.length cf),(by first|rfl|(simp;done)|(simp [*];done)),H',⟨by have:=ek.out;omega⟩,⟨by (with_reducible repeat(first|apply Kd.R_alloc|apply Kd.R_drewN|apply Kd.R_drew));exact Kd.R_mono (Kd.R_far (p:=⟨am,0,none⟩) (Kd.R_types bd.out ai.out (by decide)) (fun _ hk=>hk.2) (.slice (some az) bc.length cf)) (fun _ hk=>trivial)⟩,⟨by (with_reducible repeat(first|apply Kd.R_alloc|apply Kd.R_drewN|apply Kd.R_drew));exact Kd.R_mono (Kd.R_far (p:=⟨am,0,none⟩) (Kd.R_types bg.out ai.out (by decide)) (fun _ hk=>hk.2) (.slice (some az) bc.length cf)) (fun _ hk=>hk.1)⟩,⟨by (with_reducible repeat(first|apply Kd.R_alloc|apply Kd.R_drewN|apply Kd.R_drew));exact Kd.R_mono (Kd.R_far (p:=⟨am,0,none⟩) (Kd.R_types es.out ai.out (by decide)) (fun _ hk=>hk.2) (.slice (some az) bc.length cf)) (fun _ hk=>hk.1)⟩,⟨by (with_reducible repeat(first|refine Zn ?_ _|refine Zi ?_|refine Zm ?_ _));refine Zv ?_ ax.out _;(with_reducible repeat(first|apply zb3|apply zb2|apply zb1));exact ab.out⟩,⟨by (with_reducible repeat(first|refine Zn ?_ _|refine Zi ?_|refine Zm ?_ _));refine Zs1 (cs:=#[.slice (some az) aa.length cf]) ?_ 0 _ rfl;(with_reducible repeat(first|apply zb3|apply zb2|apply zb1));exact ai.out⟩,⟨zH HB⟩,⟨(by (with_reducible repeat(first|apply Marks.alloc|apply Marks.drewN|apply Marks.drew|apply Marks.set));exact HM.out)⟩⟩|(subst bq;exact⟨(bz),(wrap64 (aq + 1)),(bc),(.slice (some az) bc.length cf),(by first|rfl|(simp;done)|(simp [*];done)),H',⟨by have:=ek.out;omega⟩,⟨by (with_reducible repeat(first|apply Kd.R_alloc|apply Kd.R_drewN|apply Kd.R_drew));exact Kd.R_mono (Kd.R_far (p:=⟨am,0,none⟩) (Kd.R_types bd.out ai.out (by decide)) (fun _ hk=>hk.2) (.slice (some az) bc.length cf)) (fun _ hk=>trivial)⟩,⟨by (with_reducible repeat(first|apply Kd.R_alloc|apply Kd.R_drewN|apply Kd.R_drew));exact Kd.R_mono (Kd.R_far (p:=⟨am,0,none⟩) (Kd.R_types bg.out ai.out (by decide)) (fun _ hk=>hk.2) (.slice (some az) bc.length cf)) (fun _ hk=>hk.1)⟩,⟨by (with_reducible repeat(first|apply Kd.R_alloc|apply Kd.R_drewN|apply Kd.R_drew));exact Kd.R_mono (Kd.R_far (p:=⟨am,0,none⟩) (Kd.R_types es.out ai.out (by decide)) (fun _ hk=>hk.2) (.slice (some az) bc.length cf)) (fun _ hk=>hk.1)⟩,⟨by (with_reducible repeat(first|refine Zn ?_ _|refine Zi ?_|refine Zm ?_ _));refine Zv ?_ ax.out _;(with_reducible repeat(first|apply zb3|apply zb2|apply zb1));exact ab.out⟩,⟨by (with_reducible repeat(first|refine Zn ?_ _|refine Zi ?_|refine Zm ?_ _));refine Zs1 (cs:=#[.slice (some az) aa.length cf]) ?_ 0 _ rfl;(with_reducible repeat(first|apply zb3|apply zb2|apply zb1));exact ai.out⟩,⟨zH HB⟩,⟨(by (with_reducible repeat(first|apply Marks.alloc|apply Marks.drewN|apply Marks.drew|apply Marks.set));exact HM.out)⟩⟩)
   (rw [if_neg kf] at H);(have gz:decide ((rd aa (ay)) < ah)=false:=decide_eq_false kf);(clear kf);(have jv:=Za.mk H);(clear H);(have rz:=be.out);(have sa:=ax.out);(have fw:=zj ai 0 (u244000));(have fx:=blk_frozen ai.out 0);(obtain⟨tn,ca,ra⟩:=Kd.R_slice af.out);(subst ra);(have ea:0≤((ay):Int):=zD);(have ec:(ay) < (aa.length:Int):=zD);(obtain⟨az,js,ee⟩:=Kd.at_int (Kd.R_reads' af.out).2.2 (ay) ea ec);(cases js);(replace ea:=eq_true ea);(replace ec:=eq_true ec);(have jw:((ay):Int)≤((aa.length:Int):Int):=zD);(obtain⟨i039,jo,_,hsz39,_⟩:=info_parts info3);(have jx:=cut_to (P:=Try.prog) 25 3 .i64 Try.underlying25 jo (some az) aa.length ca (ay) (zD) jw (Kd.R_reads' af.out).2.1);(have io:=Kd.R_take (m:=((ay):Int).toNat) af.out (by omega));(have kw:bc.length=((ay):Int).toNat:=(by rw [fh.out,List.length_take];omega));(rw [← fh.out] at io);(rw [← kw] at io jx);(clear kw jo hsz39 af);(have es:=Za.mk io);(clear io);(replace jw:=eq_true jw);(obtain⟨fy,fz⟩:=zq2 ab.out)
   (have ga:=zj ab 2 (.int .i64 aj));(have gc:=zj ab 3 (.slice bf ae.length ba));(obtain⟨gh,gi,gj,gl⟩:=zf4 ab.out)
   go_upto_if 66 with (fail)
   let pp_:=bodyPost Try.prog Try.f4 (fun _ _=>True)
   go_cut [13] (fun v13 wc=>∃(kq:Nat) (bk:Int),v13= .int .i64 bk∧Za (Ze1.j1 kq l1 aw bz aq (rd aa (ay)) bk ah al aj ae bc=some (r1,r2))∧Za (kq≤k1)∧Za (Kd.R (Kd.int .u32) 42 wc w.heap.size (fun _=>True) (.slice fc aw.length fd) aw)∧Za (Kd.R (Kd.int .i64) 3 wc w.heap.size (fun k_=>some k_≠((.slice (some az) bc.length ca):Value).ownBlock) u9 bz)∧Za (Kd.R (Kd.int .i64) 3 wc w.heap.size (fun k_=>some k_≠(u9:Value).ownBlock) (.slice (some az) bc.length ca) bc)∧Za (wc.heap[ak]? =some (.cells #[.int .i64 ah,.int .i64 al,.int .i64 aj,(.slice bf ae.length ba)] 24 (0,0)))∧Za (wc.heap[am]? =some (.cells #[(.slice (some az) bc.length ca)] 25 (0,0)))∧Za (Below w.heap.size w wc)∧Za (Marks w.heap.size ds wc))
   case first=>
    (have H:=jv.out);(clear jv)
    by_cases ki:aq < (l1.length:Int)
    rotate_left
    ·rw [if_neg ki] at H
     (have cg:decide (aq < (l1.length:Int))=false:=decide_eq_false ki);(clear ki)
     (first|rw [cg]|(simp only [Zc,Zd];rw [cg])|skip)
     (have H':=Za.mk H);(clear H)
     go_wp2
     go_meet
     case rel=>exact⟨_,(ah),(by first|rfl|(simp;done)|(simp [*];done)),H',⟨by have:=ek.out;first|omega|exact Nat.le_refl _⟩,⟨by (with_reducible repeat(first|apply Kd.R_alloc|apply Kd.R_drewN|apply Kd.R_drew));exact Kd.R_mono (Kd.R_far (p:=⟨am,0,none⟩) (Kd.R_types bd.out ai.out (by decide)) (fun _ hk=>hk.2) (.slice (some az) bc.length ca)) (fun _ hk=>trivial)⟩,⟨by (with_reducible repeat(first|apply Kd.R_alloc|apply Kd.R_drewN|apply Kd.R_drew));exact Kd.R_mono (Kd.R_far (p:=⟨am,0,none⟩) (Kd.R_types bg.out ai.out (by decide)) (fun _ hk=>hk.2) (.slice (some az) bc.length ca)) (fun _ hk=>hk.1)⟩,⟨by (with_reducible repeat(first|apply Kd.R_alloc|apply Kd.R_drewN|apply Kd.R_drew));exact Kd.R_mono (Kd.R_far (p:=⟨am,0,none⟩) (Kd.R_types es.out ai.out (by decide)) (fun _ hk=>hk.2) (.slice (some az) bc.length ca)) (fun _ hk=>hk.1)⟩,⟨by (with_reducible repeat(first|refine Zn ?_ _|refine Zi ?_|refine Zm ?_ _));refine Zv ?_ ax.out _;(with_reducible repeat(first|apply zb3|apply zb2|apply zb1));exact ab.out⟩,⟨by (with_reducible repeat(first|refine Zn ?_ _|refine Zi ?_|refine Zm ?_ _));refine Zs1 (cs:=#[.slice (some az) aa.length ca]) ?_ 0 _ rfl;(with_reducible repeat(first|apply zb3|apply zb2|apply zb1));exact ai.out⟩,⟨zH HB⟩,⟨(by (with_reducible repeat(first|apply Marks.alloc|apply Marks.drewN|apply Marks.drew|apply Marks.set));exact HM.out)⟩⟩
    (rw [if_pos ki] at H);(have cg:decide (aq < (l1.length:Int))=true:=decide_eq_true ki);(clear ki)
    (first|rw [cg]|(simp only [Zc,Zd];rw [cg])|skip)
    by_cases ot:0≤aq
    rotate_left
    ·rw [if_neg ot] at H
     exact absurd H (by simp)
    (rw [if_pos ot] at H);(have jp:decide (0≤aq)=true:=decide_eq_true ot);(clear ot);(have H':=Za.mk H);(clear H);(have ia:0≤(aq:Int):=zD);(have ib:aq < (l1.length:Int):=zD);(obtain⟨kx,rb,bt⟩:=Kd.at_int kp.out aq ia ib);(cases rb);(have ce:kx.block≠am:=Nat.ne_of_lt (Nat.lt_of_lt_of_le (by have:=World.block_lt_of_cell? _ _ bt;first|rwa [Za2] at this|exact this) kr.out));(replace bt:=zX HB bt);(replace bt:=(cell_far (p:=⟨am,0,none⟩) (by first|(rw [Za2];exact ce)|(show(Addr.add _ _).block≠_;rw [Za2];exact ce)|exact ce) (.slice (some az) bc.length ca)).trans bt);(clear ce);(replace ia:=eq_true ia);(replace ib:=eq_true ib)
    go_wp2
    go_meet
    case rel=>exact⟨_,(rd l1 aq),(by first|rfl|(simp;done)|(simp [*];done)),H',⟨by have:=ek.out;first|omega|exact Nat.le_refl _⟩,⟨by (with_reducible repeat(first|apply Kd.R_alloc|apply Kd.R_drewN|apply Kd.R_drew));exact Kd.R_mono (Kd.R_far (p:=⟨am,0,none⟩) (Kd.R_types bd.out ai.out (by decide)) (fun _ hk=>hk.2) (.slice (some az) bc.length ca)) (fun _ hk=>trivial)⟩,⟨by (with_reducible repeat(first|apply Kd.R_alloc|apply Kd.R_drewN|apply Kd.R_drew));exact Kd.R_mono (Kd.R_far (p:=⟨am,0,none⟩) (Kd.R_types bg.out ai.out (by decide)) (fun _ hk=>hk.2) (.slice (some az) bc.length ca)) (fun _ hk=>hk.1)⟩,⟨by (with_reducible repeat(first|apply Kd.R_alloc|apply Kd.R_drewN|apply Kd.R_drew));exact Kd.R_mono (Kd.R_far (p:=⟨am,0,none⟩) (Kd.R_types es.out ai.out (by decide)) (fun _ hk=>hk.2) (.slice (some az) bc.length ca)) (fun _ hk=>hk.1)⟩,⟨by (with_reducible repeat(first|refine Zn ?_ _|refine Zi ?_|refine Zm ?_ _));refine Zv ?_ ax.out _;(with_reducible repeat(first|apply zb3|apply zb2|apply zb1));exact ab.out⟩,⟨by (with_reducible repeat(first|refine Zn ?_ _|refine Zi ?_|refine Zm ?_ _));refine Zs1 (cs:=#[.slice (some az) aa.length ca]) ?_ 0 _ rfl;(with_reducible repeat(first|apply zb3|apply zb2|apply zb1));exact ai.out⟩,⟨zH HB⟩,⟨(by (with_reducible repeat(first|apply Marks.alloc|apply Marks.drewN|apply Marks.drew|apply Marks.set));exact HM.out)⟩⟩
   case rest=>
    (clear jv);(try clear c1);(try clear c2);(try clear p2);(try clear q2);(try clear tp);(try clear c3);(try clear q3);(try clear ie);(try clear ig);(try clear p6);(try clear c7);(try clear c8);(try clear c10);(try clear rq);(try clear rr);(try clear rt);(try clear gx);(try clear gy);(try clear sb);(try clear sc);(try clear rc);(try clear jj);(try clear jk);(try clear jl);(try clear jm);(try clear gz);(try clear tq);(try clear jt);(try clear tr);(try clear jw);(try clear cg);(try clear jp);(try clear cj ck cm cn cw cy da db dg dh di dj dp dq dr dt dy fi fk fm fo fp fw fy fz ga gc co cp cq cu dc dd de df dk dl dm dn du dv dw dx dz fj fq ft fu fv fx gh gi gj gl);(try clear ee);(try clear bt);(try clear p2);(try clear ea);(try clear ia);(try clear p6);(try clear ec);(try clear ib);(try clear jt);(try clear jw);(obtain⟨kq,bk,rfl,HA,cd,bd,bg,af,ab,ai,HB,HM⟩:=hcut)
    cases kq with
    |zero=>exact absurd HA.out (by simp [Ze1.j1])
    |succ ky=>
     (have H:=HA.out);(clear HA);(simp only [Ze1.j1] at H);(have H':=Za.mk H);(clear H);(have sd:=ax.out);(have se:=be.out);(obtain⟨ip,iq,ir,iu⟩:=zq4 ab.out);(obtain⟨iv,iw,ix,iy⟩:=zf4 ab.out)
     go_wp2
     go_loopg [9,74] ky (fun kq v9 v74 w'=>∃(bx:List Int) (ac:Int) (an:List Int) (u244000:Value),v74= .int .i64 ac∧Za (Ze1.l1 kq l1 aw bx aq (rd aa (ay)) bk ae (ae.length:Int) ac ah al aj ae an=some (r1,r2))∧Za (kq≤ky)∧Za (Kd.R (Kd.int .u32) 42 w' w.heap.size (fun _=>True) (.slice fc aw.length fd) aw)∧Za (Kd.R (Kd.int .i64) 3 w' w.heap.size (fun k_=>some k_≠(u244000:Value).ownBlock) v9 bx)∧Za (Kd.R (Kd.int .i64) 3 w' w.heap.size (fun k_=>some k_≠(v9:Value).ownBlock) u244000 an)∧Za (w'.heap[ak]? =some (.cells #[.int .i64 ah,.int .i64 al,.int .i64 aj,(.slice bf ae.length ba)] 24 (0,0)))∧Za (w'.heap[am]? =some (.cells #[u244000] 25 (0,0)))∧Za (Below w.heap.size w w')∧Za (Marks w.heap.size ds w'))
     case atStart=>exact⟨(bz),(0),(bc),(.slice (some az) bc.length ca),(by first|rfl|(simp;done)|(simp [*];done)),H',⟨Nat.le_refl _⟩,⟨zR bd⟩,⟨zR bg⟩,⟨zR af⟩,⟨zK ab⟩,⟨zK ai⟩,⟨zH HB⟩,⟨(by (with_reducible repeat(first|apply Marks.alloc|apply Marks.drewN|apply Marks.drew|apply Marks.set));exact HM.out)⟩⟩
     case round=>
      (clear H');(try clear c1);(try clear c2);(try clear p2);(try clear q2);(try clear tp);(try clear c3);(try clear q3);(try clear ie);(try clear ig);(try clear p6);(try clear c7);(try clear c8);(try clear c10);(try clear rq);(try clear rr);(try clear rt);(try clear gx);(try clear gy);(try clear sb);(try clear sc);(try clear rc);(try clear jj);(try clear jk);(try clear jl);(try clear jm);(try clear gz);(try clear tq);(try clear jt);(try clear tr);(try clear jw);(try clear cg);(try clear jp);(try clear um);(try clear cj ck cm cn cw cy da db dg dh di dj dp dq dr dt dy fi fk fm fo fp fw fy fz ga gc ip iq ir iu co cp cq cu dc dd de df dk dl dm dn du dv dw dx dz fj fq ft fu fv fx gh gi gj gl iv iw ix iy);(try clear ee);(try clear bt);(try clear p2);(try clear sb);(try clear ea);(try clear ia);(try clear p6);(try clear q2);(try clear sc);(try clear ec);(try clear ib);(try clear q3);(try clear jt);(try clear jw);(obtain⟨bx,ac,an,u244000,rfl,HA,gq,bd,bg,af,ab,ai,HB,HM⟩:=hrel)
      cases gk with
      |zero=>exact absurd HA.out (by simp [Ze1.l1])
      |succ k3=>
       (have H:=HA.out);(clear HA);(simp only [Ze1.l1] at H)
       by_cases kj:ac < (ae.length:Int)
       rotate_left
       ·rw [if_neg kj] at H
        (have kz:decide (ac < (ae.length:Int))=false:=decide_eq_false kj);(clear kj);(have H':=Za.mk H);(clear H)
        go_wp2
        (first|go_roundg k3|(simp only [← bq];go_roundg k3))
        case measure=>have:=ek.out;have:=cd.out;have:=gq.out;omega
        case rel=>first|exact⟨(bx),(aq),(an),(u244000),(by first|rfl|(simp;done)|(simp [*];done)),H',⟨by have:=ek.out;have:=cd.out;have:=gq.out;omega⟩,⟨zR bd⟩,⟨zR bg⟩,⟨zR af⟩,⟨zK ab⟩,⟨zK ai⟩,⟨zH HB⟩,⟨(by (with_reducible repeat(first|apply Marks.alloc|apply Marks.drewN|apply Marks.drew|apply Marks.set));exact HM.out)⟩⟩|(subst bq;exact⟨(bx),(aq),(an),(u244000),(by first|rfl|(simp;done)|(simp [*];done)),H',⟨by have:=ek.out;have:=cd.out;have:=gq.out;omega⟩,⟨zR bd⟩,⟨zR bg⟩,⟨zR af⟩,⟨zK ab⟩,⟨zK ai⟩,⟨zH HB⟩,⟨(by (with_reducible repeat(first|apply Marks.alloc|apply Marks.drewN|apply Marks.drew|apply Marks.set));exact HM.out)⟩⟩)
       (rw [if_pos kj] at H);(have kz:decide (ac < (ae.length:Int))=true:=decide_eq_true kj);(clear kj)
       by_cases ou:0≤ac
       rotate_left
       ·rw [if_neg ou] at H
        exact absurd H (by simp)
       (rw [if_pos ou] at H);(have sf:decide (0≤ac)=true:=decide_eq_true ou);(clear ou)
       by_cases ov:ac < (ae.length:Int)
       rotate_left
       ·rw [if_neg ov] at H
        exact absurd H (by simp)
       (rw [if_pos ov] at H);(have sg:decide (ac < (ae.length:Int))=true:=decide_eq_true ov);(clear ov)
       by_cases jy:((Zb ae ac).f0)=(wrap64 ((rd aa (ay)) - ah))
       rotate_left
       ·rw [if_neg jy] at H
        (have la:(((Zb ae ac).f0) == (wrap64 ((rd aa (ay)) - ah)))=false:=beq_eq_false_iff_ne.mpr jy);(have lc:(((Zb ae ac).f0) != (wrap64 ((rd aa (ay)) - ah)))=true:=bne_iff_ne.mpr jy);(have H':=Za.mk H);(clear H);(have ch:0≤(ac:Int):=zD);(have ci:ac < (ae.length:Int):=zD);(obtain⟨cb,au,av,ic,bl,bm,bn,bo⟩:=at_T41 bp.out ac ch ci);(cases ic);(replace bl:=zX HB bl);(replace bm:=zX HB bm);(have ef:=Za.mk bo);(have gm:=Za.mk bn);(clear bo bn);(replace ch:=eq_true ch);(replace ci:=eq_true ci)
        go_wp2_with (first|((with_reducible refine Zs (N:=15) rfl ?_);refine Zx ?hg (N:=15) ?hd (cs:=#[.int .i64 0,.slice none 0 0]) (t:=41) ?hr ?_;(case hd=>rfl);(case hg=>rfl);(case hr=>first|(go_simp;done)|(go_simp;rfl));intro ag hg uo hbox hb;have nM_:=Za.mk (Marks.below (by (with_reducible repeat(first|apply Marks.alloc|apply Marks.drewN|apply Marks.drew|apply Marks.set));exact HM.out) hb);clear HM;have HM:=nM_;clear nM_;replace bd:=Za.mk (Kd.R_below (zR bd) hb);replace bg:=Za.mk (Kd.R_below (zR bg) hb);replace af:=Za.mk (Kd.R_below (zR af) hb);have ar:=Za.mk (hbox);have jq:=Za.mk ((by rw [hg];exact(Zg (zH HB)):w.heap.size≤ag));have jr:=Za.mk ((by rw [hg];exact(Zg (zH HB)):w.heap.size≤ag));replace HB:=Za.mk (Zh (zH HB) hb);have ao:=Za.mk ((by rw [hg];exact Nat.ne_of_lt (Zu (g:=ak) (o:= .cells #[.int .i64 ah,.int .i64 al,.int .i64 aj,.slice (some cb) ae.length ba] 24 (0,0)) (zK ab)):ak≠ag));have br:=Za.mk ((by rw [hg];exact Nat.ne_of_gt (Zu (g:=ak) (o:= .cells #[.int .i64 ah,.int .i64 al,.int .i64 aj,.slice (some cb) ae.length ba] 24 (0,0)) (zK ab)):ag≠ak));replace ab:=Za.mk (Zj (g:=ak) (zK ab) hb);have ap:=Za.mk ((by rw [hg];exact Nat.ne_of_lt (Zu (g:=am) (o:= .cells #[u244000] 25 (0,0)) (zK ai)):am≠ag));have bs:=Za.mk ((by rw [hg];exact Nat.ne_of_gt (Zu (g:=am) (o:= .cells #[u244000] 25 (0,0)) (zK ai)):ag≠am));replace ai:=Za.mk (Zj (g:=am) (zK ai) hb);clear hb hbox hg;have sh:=br.out;have si:=ao.out;have sj:=bs.out;have sk:=ap.out;obtain⟨ow,ox⟩:=zq2 ar.out;obtain⟨oy,oz⟩:=zf2 ar.out;have sl:=ax.out;have sm:=be.out;obtain⟨pa,pb,pd,pe⟩:=zq4 ab.out;obtain⟨pf,pg,ph,pi⟩:=zf4 ab.out))
        (first|go_roundg k3|(simp only [← bq];go_roundg k3))
        case measure=>have:=ek.out;have:=cd.out;have:=gq.out;omega
        case rel=>first|exact⟨(bx),(wrap64 (ac + 1)),(an),(u244000),(by first|rfl|(simp;done)|(simp [*];done)),H',⟨by have:=ek.out;have:=cd.out;have:=gq.out;omega⟩,⟨by (with_reducible repeat(first|apply Kd.R_alloc|apply Kd.R_drewN|apply Kd.R_drew));exact Kd.R_mono (Kd.R_far (p:=⟨ag,1,none⟩) (Kd.R_far (p:=⟨ag,0,none⟩) (Kd.R_types bd.out ar.out (by decide)) (fun _ hk=>hk.2) (.int .i64 ((Zb ae ac).f0))) (fun _ hk=>hk.2) (.slice au ((Zb ae ac).f1).length av)) (fun _ hk=>trivial)⟩,⟨by (with_reducible repeat(first|apply Kd.R_alloc|apply Kd.R_drewN|apply Kd.R_drew));exact Kd.R_mono (Kd.R_far (p:=⟨ag,1,none⟩) (Kd.R_far (p:=⟨ag,0,none⟩) (Kd.R_types bg.out ar.out (by decide)) (fun _ hk=>hk.2) (.int .i64 ((Zb ae ac).f0))) (fun _ hk=>hk.2) (.slice au ((Zb ae ac).f1).length av)) (fun _ hk=>hk.1)⟩,⟨by (with_reducible repeat(first|apply Kd.R_alloc|apply Kd.R_drewN|apply Kd.R_drew));exact Kd.R_mono (Kd.R_far (p:=⟨ag,1,none⟩) (Kd.R_far (p:=⟨ag,0,none⟩) (Kd.R_types af.out ar.out (by decide)) (fun _ hk=>hk.2) (.int .i64 ((Zb ae ac).f0))) (fun _ hk=>hk.2) (.slice au ((Zb ae ac).f1).length av)) (fun _ hk=>hk.1)⟩,⟨by (with_reducible repeat(first|refine Zn ?_ _|refine Zi ?_|refine Zm ?_ _));refine Zv ?_ ao.out _;(with_reducible repeat(first|refine Zn ?_ _|refine Zi ?_|refine Zm ?_ _));refine Zv ?_ ao.out _;(with_reducible repeat(first|apply zb3|apply zb2|apply zb1));exact ab.out⟩,⟨by (with_reducible repeat(first|refine Zn ?_ _|refine Zi ?_|refine Zm ?_ _));refine Zv ?_ ap.out _;(with_reducible repeat(first|refine Zn ?_ _|refine Zi ?_|refine Zm ?_ _));refine Zv ?_ ap.out _;(with_reducible repeat(first|apply zb3|apply zb2|apply zb1));exact ai.out⟩,⟨zH HB⟩,⟨(by (with_reducible repeat(first|apply Marks.alloc|apply Marks.drewN|apply Marks.drew|apply Marks.set));exact HM.out)⟩⟩|(subst bq;exact⟨(bx),(wrap64 (ac + 1)),(an),(u244000),(by first|rfl|(simp;done)|(simp [*];done)),H',⟨by have:=ek.out;have:=cd.out;have:=gq.out;omega⟩,⟨by (with_reducible repeat(first|apply Kd.R_alloc|apply Kd.R_drewN|apply Kd.R_drew));exact Kd.R_mono (Kd.R_far (p:=⟨ag,1,none⟩) (Kd.R_far (p:=⟨ag,0,none⟩) (Kd.R_types bd.out ar.out (by decide)) (fun _ hk=>hk.2) (.int .i64 ((Zb ae ac).f0))) (fun _ hk=>hk.2) (.slice au ((Zb ae ac).f1).length av)) (fun _ hk=>trivial)⟩,⟨by (with_reducible repeat(first|apply Kd.R_alloc|apply Kd.R_drewN|apply Kd.R_drew));exact Kd.R_mono (Kd.R_far (p:=⟨ag,1,none⟩) (Kd.R_far (p:=⟨ag,0,none⟩) (Kd.R_types bg.out ar.out (by decide)) (fun _ hk=>hk.2) (.int .i64 ((Zb ae ac).f0))) (fun _ hk=>hk.2) (.slice au ((Zb ae ac).f1).length av)) (fun _ hk=>hk.1)⟩,⟨by (with_reducible repeat(first|apply Kd.R_alloc|apply Kd.R_drewN|apply Kd.R_drew));exact Kd.R_mono (Kd.R_far (p:=⟨ag,1,none⟩) (Kd.R_far (p:=⟨ag,0,none⟩) (Kd.R_types af.out ar.out (by decide)) (fun _ hk=>hk.2) (.int .i64 ((Zb ae ac).f0))) (fun _ hk=>hk.2) (.slice au ((Zb ae ac).f1).length av)) (fun _ hk=>hk.1)⟩,⟨by (with_reducible repeat(first|refine Zn ?_ _|refine Zi ?_|refine Zm ?_ _));refine Zv ?_ ao.out _;(with_reducible repeat(first|refine Zn ?_ _|refine Zi ?_|refine Zm ?_ _));refine Zv ?_ ao.out _;(with_reducible repeat(first|apply zb3|apply zb2|apply zb1));exact ab.out⟩,⟨by (with_reducible repeat(first|refine Zn ?_ _|refine Zi ?_|refine Zm ?_ _));refine Zv ?_ ap.out _;(with_reducible repeat(first|refine Zn ?_ _|refine Zi ?_|refine Zm ?_ _));refine Zv ?_ ap.out _;(with_reducible repeat(first|apply zb3|apply zb2|apply zb1));exact ai.out⟩,⟨zH HB⟩,⟨(by (with_reducible repeat(first|apply Marks.alloc|apply Marks.drewN|apply Marks.drew|apply Marks.set));exact HM.out)⟩⟩)
       (rw [if_pos jy] at H);(have la:(((Zb ae ac).f0) == (wrap64 ((rd aa (ay)) - ah)))=true:=beq_iff_eq.mpr jy);(have lc:(((Zb ae ac).f0) != (wrap64 ((rd aa (ay)) - ah)))=false:=bne_eq_false_iff_eq.mpr jy);(clear jy)
       by_cases pj:ac < (aw.length:Int)
       rotate_left
       ·rw [if_neg pj] at H
        exact absurd H (by simp)
       (rw [if_pos pj] at H);(have sn:decide (ac < (aw.length:Int))=true:=decide_eq_true pj);(clear pj)
       by_cases ld:0≤bk
       rotate_left
       ·rw [if_neg ld] at H
        exact absurd H (by simp)
       (rw [if_pos ld] at H);(have so:=eq_true ld);(have sp:decide (0≤bk)=true:=decide_eq_true ld);(clear ld);(obtain⟨eu,bw⟩ : ∃j_:Int,(shr .u32 (rd aw ac) bk)=j_:=⟨_,rfl⟩);(replace H:(if(Go.bits .and .u32 (eu) 1)=1 then(if bx.length < 17592186044416 then(if an.length + ((Zb ae ac).f1).length < 17592186044416 then(Ze1.l0 k3 l1 aw (bx++[ac]) aq ah al aj ae (an++((Zb ae ac).f1).reverse)) else(none)) else(none)) else(Ze1.l1 k3 l1 aw bx aq (rd aa (ay)) bk ae (ae.length:Int) (wrap64 (ac + 1)) ah al aj ae an))=some (r1,r2):=by first|(rw [bw] at H;exact H)|(simp only [bw] at H ⊢;exact H));(have re:((rd aw ac) / 2 ^ min bk.toNat 32)=eu:=bw);(have rf:bk≤32→((rd aw ac) / 2 ^ bk.toNat)=eu:=shr_small bw)
       by_cases jz:(Go.bits .and .u32 (eu) 1)=1
       rotate_left
       ·rw [if_neg jz] at H
        (have lf:((Go.bits .and .u32 (eu) 1) == 1)=false:=beq_eq_false_iff_ne.mpr jz);(have lg:((Go.bits .and .u32 (eu) 1) != 1)=true:=bne_iff_ne.mpr jz);(have H':=Za.mk H);(clear H);(have ch:0≤(ac:Int):=zD);(have ci:ac < (ae.length:Int):=zD);(obtain⟨cb,au,av,ic,bl,bm,bn,bo⟩:=at_T41 bp.out ac ch ci);(cases ic);(replace bl:=zX HB bl);(replace bm:=zX HB bm);(have ef:=Za.mk bo);(have gm:=Za.mk bn);(clear bo bn);(replace ch:=eq_true ch);(replace ci:=eq_true ci)
        go_wp2_with (first|((with_reducible refine Zs (N:=15) rfl ?_);refine Zx ?hg (N:=15) ?hd (cs:=#[.int .i64 0,.slice none 0 0]) (t:=41) ?hr ?_;(case hd=>rfl);(case hg=>rfl);(case hr=>first|(go_simp;done)|(go_simp;rfl));intro ag hg uq hbox hb;have nM_:=Za.mk (Marks.below (by (with_reducible repeat(first|apply Marks.alloc|apply Marks.drewN|apply Marks.drew|apply Marks.set));exact HM.out) hb);clear HM;have HM:=nM_;clear nM_;replace bd:=Za.mk (Kd.R_below (zR bd) hb);replace bg:=Za.mk (Kd.R_below (zR bg) hb);replace af:=Za.mk (Kd.R_below (zR af) hb);have ar:=Za.mk (hbox);have jq:=Za.mk ((by rw [hg];exact(Zg (zH HB)):w.heap.size≤ag));have jr:=Za.mk ((by rw [hg];exact(Zg (zH HB)):w.heap.size≤ag));replace HB:=Za.mk (Zh (zH HB) hb);have ao:=Za.mk ((by rw [hg];exact Nat.ne_of_lt (Zu (g:=ak) (o:= .cells #[.int .i64 ah,.int .i64 al,.int .i64 aj,.slice (some cb) ae.length ba] 24 (0,0)) (zK ab)):ak≠ag));have br:=Za.mk ((by rw [hg];exact Nat.ne_of_gt (Zu (g:=ak) (o:= .cells #[.int .i64 ah,.int .i64 al,.int .i64 aj,.slice (some cb) ae.length ba] 24 (0,0)) (zK ab)):ag≠ak));replace ab:=Za.mk (Zj (g:=ak) (zK ab) hb);have ap:=Za.mk ((by rw [hg];exact Nat.ne_of_lt (Zu (g:=am) (o:= .cells #[u244000] 25 (0,0)) (zK ai)):am≠ag));have bs:=Za.mk ((by rw [hg];exact Nat.ne_of_gt (Zu (g:=am) (o:= .cells #[u244000] 25 (0,0)) (zK ai)):ag≠am));replace ai:=Za.mk (Zj (g:=am) (zK ai) hb);clear hb hbox hg;have sq:=br.out;have sr:=ao.out;have ss:=bs.out;have su:=ap.out;obtain⟨pk,pl⟩:=zq2 ar.out;obtain⟨pm,pn⟩:=zf2 ar.out;have sv:=ax.out;have sw:=be.out;obtain⟨po,pq,pr,pt⟩:=zq4 ab.out;obtain⟨pu,pv,pw,px⟩:=zf4 ab.out;have fe:0≤(ac:Int):=zD;have ff:ac < (aw.length:Int):=zD;obtain⟨ey,ka,bh⟩:=Kd.at_int (Kd.R_reads' bd.out).2.2 ac fe ff;cases ka;have bi:ey.block≠ag:=Kd.own_blk (Kd.R_ne bd.out ar.out (by decide));have bj:ey.block≠ag:=Kd.own_blk (Kd.R_ne bd.out ar.out (by decide));replace bh:=(cell_far (p:=⟨ag,0,none⟩) (by first|(rw [Za2];exact bi)|(show(Addr.add _ _).block≠_;rw [Za2];exact bi)|exact bi) (.int .i64 ((Zb ae ac).f0))).trans bh;replace bh:=(cell_far (p:=⟨ag,1,none⟩) (by first|(rw [Za2];exact bj)|(show(Addr.add _ _).block≠_;rw [Za2];exact bj)|exact bj) (.slice au ((Zb ae ac).f1).length av)).trans bh;clear bi;clear bj;replace fe:=eq_true fe;replace ff:=eq_true ff))
        (first|go_roundg k3|(simp only [← bw];go_roundg k3)|(simp only [← bq,← bw];go_roundg k3))
        case measure=>have:=ek.out;have:=cd.out;have:=gq.out;omega
        case rel=>first|exact⟨(bx),(wrap64 (ac + 1)),(an),(u244000),(by first|rfl|(simp;done)|(simp [*];done)),H',⟨by have:=ek.out;have:=cd.out;have:=gq.out;omega⟩,⟨by (with_reducible repeat(first|apply Kd.R_alloc|apply Kd.R_drewN|apply Kd.R_drew));exact Kd.R_mono (Kd.R_far (p:=⟨ag,1,none⟩) (Kd.R_far (p:=⟨ag,0,none⟩) (Kd.R_types bd.out ar.out (by decide)) (fun _ hk=>hk.2) (.int .i64 ((Zb ae ac).f0))) (fun _ hk=>hk.2) (.slice au ((Zb ae ac).f1).length av)) (fun _ hk=>trivial)⟩,⟨by (with_reducible repeat(first|apply Kd.R_alloc|apply Kd.R_drewN|apply Kd.R_drew));exact Kd.R_mono (Kd.R_far (p:=⟨ag,1,none⟩) (Kd.R_far (p:=⟨ag,0,none⟩) (Kd.R_types bg.out ar.out (by decide)) (fun _ hk=>hk.2) (.int .i64 ((Zb ae ac).f0))) (fun _ hk=>hk.2) (.slice au ((Zb ae ac).f1).length av)) (fun _ hk=>hk.1)⟩,⟨by (with_reducible repeat(first|apply Kd.R_alloc|apply Kd.R_drewN|apply Kd.R_drew));exact Kd.R_mono (Kd.R_far (p:=⟨ag,1,none⟩) (Kd.R_far (p:=⟨ag,0,none⟩) (Kd.R_types af.out ar.out (by decide)) (fun _ hk=>hk.2) (.int .i64 ((Zb ae ac).f0))) (fun _ hk=>hk.2) (.slice au ((Zb ae ac).f1).length av)) (fun _ hk=>hk.1)⟩,⟨by (with_reducible repeat(first|refine Zn ?_ _|refine Zi ?_|refine Zm ?_ _));refine Zv ?_ ao.out _;(with_reducible repeat(first|refine Zn ?_ _|refine Zi ?_|refine Zm ?_ _));refine Zv ?_ ao.out _;(with_reducible repeat(first|apply zb3|apply zb2|apply zb1));exact ab.out⟩,⟨by (with_reducible repeat(first|refine Zn ?_ _|refine Zi ?_|refine Zm ?_ _));refine Zv ?_ ap.out _;(with_reducible repeat(first|refine Zn ?_ _|refine Zi ?_|refine Zm ?_ _));refine Zv ?_ ap.out _;(with_reducible repeat(first|apply zb3|apply zb2|apply zb1));exact ai.out⟩,⟨zH HB⟩,⟨(by (with_reducible repeat(first|apply Marks.alloc|apply Marks.drewN|apply Marks.drew|apply Marks.set));exact HM.out)⟩⟩|(subst bw;subst bq;exact⟨(bx),(wrap64 (ac + 1)),(an),(u244000),(by first|rfl|(simp;done)|(simp [*];done)),H',⟨by have:=ek.out;have:=cd.out;have:=gq.out;omega⟩,⟨by (with_reducible repeat(first|apply Kd.R_alloc|apply Kd.R_drewN|apply Kd.R_drew));exact Kd.R_mono (Kd.R_far (p:=⟨ag,1,none⟩) (Kd.R_far (p:=⟨ag,0,none⟩) (Kd.R_types bd.out ar.out (by decide)) (fun _ hk=>hk.2) (.int .i64 ((Zb ae ac).f0))) (fun _ hk=>hk.2) (.slice au ((Zb ae ac).f1).length av)) (fun _ hk=>trivial)⟩,⟨by (with_reducible repeat(first|apply Kd.R_alloc|apply Kd.R_drewN|apply Kd.R_drew));exact Kd.R_mono (Kd.R_far (p:=⟨ag,1,none⟩) (Kd.R_far (p:=⟨ag,0,none⟩) (Kd.R_types bg.out ar.out (by decide)) (fun _ hk=>hk.2) (.int .i64 ((Zb ae ac).f0))) (fun _ hk=>hk.2) (.slice au ((Zb ae ac).f1).length av)) (fun _ hk=>hk.1)⟩,⟨by (with_reducible repeat(first|apply Kd.R_alloc|apply Kd.R_drewN|apply Kd.R_drew));exact Kd.R_mono (Kd.R_far (p:=⟨ag,1,none⟩) (Kd.R_far (p:=⟨ag,0,none⟩) (Kd.R_types af.out ar.out (by decide)) (fun _ hk=>hk.2) (.int .i64 ((Zb ae ac).f0))) (fun _ hk=>hk.2) (.slice au ((Zb ae ac).f1).length av)) (fun _ hk=>hk.1)⟩,⟨by (with_reducible repeat(first|refine Zn ?_ _|refine Zi ?_|refine Zm ?_ _));refine Zv ?_ ao.out _;(with_reducible repeat(first|refine Zn ?_ _|refine Zi ?_|refine Zm ?_ _));refine Zv ?_ ao.out _;(with_reducible repeat(first|apply zb3|apply zb2|apply zb1));exact ab.out⟩,⟨by (with_reducible repeat(first|refine Zn ?_ _|refine Zi ?_|refine Zm ?_ _));refine Zv ?_ ap.out _;(with_reducible repeat(first|refine Zn ?_ _|refine Zi ?_|refine Zm ?_ _));refine Zv ?_ ap.out _;(with_reducible repeat(first|apply zb3|apply zb2|apply zb1));exact ai.out⟩,⟨zH HB⟩,⟨(by (with_reducible repeat(first|apply Marks.alloc|apply Marks.drewN|apply Marks.drew|apply Marks.set));exact HM.out)⟩⟩)
       (rw [if_pos jz] at H);(have lf:((Go.bits .and .u32 (eu) 1) == 1)=true:=beq_iff_eq.mpr jz);(have lg:((Go.bits .and .u32 (eu) 1) != 1)=false:=bne_eq_false_iff_eq.mpr jz);(clear jz)
       by_cases py:bx.length < 17592186044416
       rotate_left
       ·rw [if_neg py] at H
        exact absurd H (by simp)
       (rw [if_pos py] at H);(have lh:=Za.mk py);(clear py);(obtain⟨iz,ez⟩ : ∃y_:List Int,y_=(bx++[ac]):=⟨_,rfl⟩);(replace H:(if an.length + ((Zb ae ac).f1).length < 17592186044416 then(Ze1.l0 k3 l1 aw iz aq ah al aj ae (an++((Zb ae ac).f1).reverse)) else(none))=some (r1,r2):=by first|(rw [ez];with_reducible exact H)|(have H2_:=(Option.bind_some _ _).symm.trans H;rw [ez];with_reducible exact H2_)|(have H2_:=(Option.bind_some _ _).symm.trans H;with_reducible exact H2_)|with_reducible exact H|(rw [ez];exact H)|exact H);(have ll:=Za.mk ez);(clear ez)
       by_cases pz:an.length + ((Zb ae ac).f1).length < 17592186044416
       rotate_left
       ·rw [if_neg pz] at H
        exact absurd H (by simp)
       (rw [if_pos pz] at H);(have lm:=Za.mk pz);(clear pz);(obtain⟨kd,fa⟩ : ∃y_:List Int,y_=(an++((Zb ae ac).f1).reverse):=⟨_,rfl⟩);(replace H:(Ze1.l0 k3 l1 aw iz aq ah al aj ae kd)=some (r1,r2):=by first|(rw [fa];with_reducible exact H)|(have H2_:=(Option.bind_some _ _).symm.trans H;rw [fa];with_reducible exact H2_)|(have H2_:=(Option.bind_some _ _).symm.trans H;with_reducible exact H2_)|with_reducible exact H|(rw [fa];exact H)|exact H);(have lp:=Za.mk fa);(clear fa);(have H':=Za.mk H);(clear H);(have ch:0≤(ac:Int):=zD);(have ci:ac < (ae.length:Int):=zD);(obtain⟨cb,au,av,ic,bl,bm,bn,bo⟩:=at_T41 bp.out ac ch ci);(cases ic);(replace bl:=zX HB bl);(replace bm:=zX HB bm);(have ef:=Za.mk bo);(have gm:=Za.mk bn);(clear bo bn);(replace ch:=eq_true ch);(replace ci:=eq_true ci)
       go_wp2_with (first|((with_reducible refine Zs (N:=15) rfl ?_);refine Zx ?hg (N:=15) ?hd (cs:=#[.int .i64 0,.slice none 0 0]) (t:=41) ?hr ?_;(case hd=>rfl);(case hg=>rfl);(case hr=>first|(go_simp;done)|(go_simp;rfl));intro ag hg ur hbox hb;have nM_:=Za.mk (Marks.below (by (with_reducible repeat(first|apply Marks.alloc|apply Marks.drewN|apply Marks.drew|apply Marks.set));exact HM.out) hb);clear HM;have HM:=nM_;clear nM_;replace bd:=Za.mk (Kd.R_below (zR bd) hb);replace bg:=Za.mk (Kd.R_below (zR bg) hb);replace af:=Za.mk (Kd.R_below (zR af) hb);have ar:=Za.mk (hbox);have jq:=Za.mk ((by rw [hg];exact(Zg (zH HB)):w.heap.size≤ag));have jr:=Za.mk ((by rw [hg];exact(Zg (zH HB)):w.heap.size≤ag));replace HB:=Za.mk (Zh (zH HB) hb);have ao:=Za.mk ((by rw [hg];exact Nat.ne_of_lt (Zu (g:=ak) (o:= .cells #[.int .i64 ah,.int .i64 al,.int .i64 aj,.slice (some cb) ae.length ba] 24 (0,0)) (zK ab)):ak≠ag));have br:=Za.mk ((by rw [hg];exact Nat.ne_of_gt (Zu (g:=ak) (o:= .cells #[.int .i64 ah,.int .i64 al,.int .i64 aj,.slice (some cb) ae.length ba] 24 (0,0)) (zK ab)):ag≠ak));replace ab:=Za.mk (Zj (g:=ak) (zK ab) hb);have ap:=Za.mk ((by rw [hg];exact Nat.ne_of_lt (Zu (g:=am) (o:= .cells #[u244000] 25 (0,0)) (zK ai)):am≠ag));have bs:=Za.mk ((by rw [hg];exact Nat.ne_of_gt (Zu (g:=am) (o:= .cells #[u244000] 25 (0,0)) (zK ai)):ag≠am));replace ai:=Za.mk (Zj (g:=am) (zK ai) hb);clear hb hbox hg;have sx:=br.out;have ta:=ao.out;have tb:=bs.out;have tc:=ap.out;obtain⟨qa,qb⟩:=zq2 ar.out;obtain⟨qc,qe⟩:=zf2 ar.out;have td:=ax.out;have te:=be.out;obtain⟨qf,qg,qi,qj⟩:=zq4 ab.out;obtain⟨qk,ql,qm,qn⟩:=zf4 ab.out;have fe:0≤(ac:Int):=zD;have ff:ac < (aw.length:Int):=zD;obtain⟨ey,ka,bh⟩:=Kd.at_int (Kd.R_reads' bd.out).2.2 ac fe ff;cases ka;have bi:ey.block≠ag:=Kd.own_blk (Kd.R_ne bd.out ar.out (by decide));have bj:ey.block≠ag:=Kd.own_blk (Kd.R_ne bd.out ar.out (by decide));replace bh:=(cell_far (p:=⟨ag,0,none⟩) (by first|(rw [Za2];exact bi)|(show(Addr.add _ _).block≠_;rw [Za2];exact bi)|exact bi) (.int .i64 ((Zb ae ac).f0))).trans bh;replace bh:=(cell_far (p:=⟨ag,1,none⟩) (by first|(rw [Za2];exact bj)|(show(Addr.add _ _).block≠_;rw [Za2];exact bj)|exact bj) (.slice au ((Zb ae ac).f1).length av)).trans bh;clear bi;clear bj;replace fe:=eq_true fe;replace ff:=eq_true ff)|((with_reducible refine gate_builtin (b:= .append) (xs:=#[.tmp 96,.tmp 98]) rfl ?_);at_builtin;refine Kd.R_append (Kd.int .i64) (w0:=w) w.heap.size rfl (.tmp 96) (.tmp 98) 25 3 (.int .i64 0) 8 rfl Try.underlying25 info3 rfl (by decide) (by omega) u9 bx ac [.int .i64 ac] (fun k_=>some k_≠(u244000:Value).ownBlock) (fun _=>False) rfl (by first|(go_simp;done)|(go_simp;rfl)) ?aP (fun _ hk=>hk.elim) ?aF ?aO ?aB ?aS ?aL ?_;(case aP=>exact rfl);(case aB=>exact(zH HB));(case aF=>exact(fun k_ hk=>Kd.fresh' (Kd.R_lt (by (with_reducible repeat(first|apply Kd.R_alloc|apply Kd.R_drewN|apply Kd.R_drew));exact(Kd.R_mono (Kd.R_far (p:=⟨ag,1,none⟩) (Kd.R_far (p:=⟨ag,0,none⟩) (Kd.R_types af.out ar.out (by decide)) (fun _ hk=>hk.2) (.int .i64 ((Zb ae ac).f0))) (fun _ hk=>hk.2) (.slice au ((Zb ae ac).f1).length av)) (fun _ h_=>h_.1)))) k_ hk));(case aO=>exact(by (with_reducible repeat(first|apply Kd.R_alloc|apply Kd.R_drewN|apply Kd.R_drew));exact Kd.R_mono (Kd.R_far (p:=⟨ag,1,none⟩) (Kd.R_far (p:=⟨ag,0,none⟩) (Kd.R_types bg.out ar.out (by decide)) (fun _ hk=>hk.2) (.int .i64 ((Zb ae ac).f0))) (fun _ hk=>hk.2) (.slice au ((Zb ae ac).f1).length av)) (fun _ hk=>hk.1)));(case aS=>exact(Zg (zH HB)));(case aL=>have:=lh.out;omega);intro v253 kn ho hb hg hat;rw [← ll.out] at ho;have nM_:=Za.mk (Marks.grown (by (with_reducible repeat(first|apply Marks.alloc|apply Marks.drewN|apply Marks.drew|apply Marks.set));exact HM.out) hg (Kd.R_typed (by (with_reducible repeat(first|apply Kd.R_alloc|apply Kd.R_drewN|apply Kd.R_drew));exact(Kd.R_mono (Kd.R_far (p:=⟨ag,1,none⟩) (Kd.R_far (p:=⟨ag,0,none⟩) (Kd.R_types bg.out ar.out (by decide)) (fun _ hk=>hk.2) (.int .i64 ((Zb ae ac).f0))) (fun _ hk=>hk.2) (.slice au ((Zb ae ac).f1).length av)) (fun _ h_=>h_.1)))));clear HM;have HM:=nM_;clear nM_;replace bd:=Za.mk (Kd.R_over' (by (with_reducible repeat(first|apply Kd.R_alloc|apply Kd.R_drewN|apply Kd.R_drew));exact(Kd.R_mono (Kd.R_far (p:=⟨ag,1,none⟩) (Kd.R_far (p:=⟨ag,0,none⟩) (Kd.R_types bd.out ar.out (by decide)) (fun _ hk=>hk.2) (.int .i64 ((Zb ae ac).f0))) (fun _ hk=>hk.2) (.slice au ((Zb ae ac).f1).length av)) (fun _ h_=>h_.1))) (Kd.R_typed (by (with_reducible repeat(first|apply Kd.R_alloc|apply Kd.R_drewN|apply Kd.R_drew));exact(Kd.R_mono (Kd.R_far (p:=⟨ag,1,none⟩) (Kd.R_far (p:=⟨ag,0,none⟩) (Kd.R_types bg.out ar.out (by decide)) (fun _ hk=>hk.2) (.int .i64 ((Zb ae ac).f0))) (fun _ hk=>hk.2) (.slice au ((Zb ae ac).f1).length av)) (fun _ h_=>h_.1)))) (by decide) hg);replace af:=Za.mk (Kd.R_after (ok:=(fun _=>True)) (by (with_reducible repeat(first|apply Kd.R_alloc|apply Kd.R_drewN|apply Kd.R_drew));exact Kd.R_mono (Kd.R_far (p:=⟨ag,1,none⟩) (Kd.R_far (p:=⟨ag,0,none⟩) (Kd.R_types af.out ar.out (by decide)) (fun _ hk=>hk.2) (.int .i64 ((Zb ae ac).f0))) (fun _ hk=>hk.2) (.slice au ((Zb ae ac).f1).length av)) (fun _ hk=>⟨trivial,hk.1⟩)) hg hat);replace ab:=Za.mk (Zv1 (g:=ak) (o:= .cells #[.int .i64 ah,.int .i64 al,.int .i64 aj,.slice (some cb) ae.length ba] 24 (0,0)) (by (with_reducible repeat(first|refine Zn ?_ _|refine Zi ?_|refine Zm ?_ _));refine Zv ?_ ao.out _;(with_reducible repeat(first|refine Zn ?_ _|refine Zi ?_|refine Zm ?_ _));refine Zv ?_ ao.out _;(with_reducible repeat(first|apply zb3|apply zb2|apply zb1));exact ab.out) hg (Kd.R_ne bg.out ab.out (by decide)));replace ai:=Za.mk (Zv1 (g:=am) (o:= .cells #[u244000] 25 (0,0)) (by (with_reducible repeat(first|refine Zn ?_ _|refine Zi ?_|refine Zm ?_ _));refine Zv ?_ ap.out _;(with_reducible repeat(first|refine Zn ?_ _|refine Zi ?_|refine Zm ?_ _));refine Zv ?_ ap.out _;(with_reducible repeat(first|apply zb3|apply zb2|apply zb1));exact ai.out) hg (Kd.R_ne bg.out ai.out (by decide)));replace ar:=Za.mk (Zv1 (g:=ag) (o:= .cells #[.int .i64 ((Zb ae ac).f0),.slice au ((Zb ae ac).f1).length av] 41 (0,0)) (by (with_reducible repeat(first|refine Zn ?_ _|refine Zi ?_|refine Zm ?_ _));refine Zs1 (cs:=#[.int .i64 ((Zb ae ac).f0),.slice none 0 0]) ?_ 1 _ rfl;(with_reducible repeat(first|refine Zn ?_ _|refine Zi ?_|refine Zm ?_ _));refine Zs1 (cs:=#[.int .i64 0,.slice none 0 0]) ?_ 0 _ rfl;(with_reducible repeat(first|apply zb3|apply zb2|apply zb1));exact ar.out) hg (Kd.R_ne bg.out ar.out (by decide)));replace HB:=Za.mk (hb);have gn:=Za.mk (ho);clear bg;clear ho hb hg hat;obtain⟨ja,jb⟩:=zq2 ar.out;obtain⟨jc,jd⟩:=zf2 ar.out;have je:=zj ai 0 (u244000);have jf:=blk_frozen ai.out 0)|(go_at_call 13;refine(back_in au ((Zb ae ac).f1).length av kn).mono ?_;rintro e rh ⟨rfl,hw62⟩;have hb:Below kn.heap.size kn rh:=(by rw [hw62];exact(Below.refl _ _).alloc (Nat.le_refl _) _);replace bd:=Za.mk (Kd.R_below bd.out hb);replace af:=Za.mk (Kd.R_below af.out hb);replace gn:=Za.mk (Kd.R_below gn.out hb);replace ab:=Za.mk (Zj ab.out hb);replace HB:=Za.mk (Zh HB.out hb);replace HM:=Za.mk (Marks.below HM.out hb);have BK_:=Za.mk ((by rw [hw62];exact World.alloc_heap_new kn _):rh.heap[kn.heap.size]? =some (.cells #[.slice au ((Zb ae ac).f1).length av] 25 (0,0)));have NE_:=Za.mk (Nat.ne_of_lt (Zu ai.out));replace ai:=Za.mk (Zj ai.out hb);have LT_:=Za.mk ((by rw [hw62];simp):kn.heap.size < rh.heap.size);clear ar hw62 hb ja jb jc jd je jf))
       (have HP0:=Za.mk (PBv.mk (vb:= .slice au ((Zb ae ac).f1).length av) (gg:=ak) (gs:=am) bd.out gn.out (Kd.R_mono af.out (fun _ hk=>hk.2)) ab.out ai.out BK_.out HB.out HM.out NE_.out kt.out));(clear bd af gn ab ai BK_ HB HM NE_ LT_)
       refine parse_back (w0:=w) ef.out lm.out HP0.out ?_
       intro D v W hp hm
       (rw [← lp.out] at hp);(obtain⟨tt,tu,rfl⟩:=Kd.R_slice hp.rs);(have HP:=Za.mk hp);(have HM2:=Za.mk hm);(clear hp hm HP0)
       go_wp2
       (first|go_roundg k3|(simp only [← bw];go_roundg k3)|(simp only [← bq,← bw];go_roundg k3))
       case measure=>have:=ek.out;have:=cd.out;have:=gq.out;omega
       case rel=>first|exact⟨(iz),(aq),(kd),_,(by first|rfl|(simp;done)|(simp [*];done)),H',⟨by have:=ek.out;have:=cd.out;have:=gq.out;omega⟩,⟨HP.out.r8⟩,⟨HP.out.r9⟩,⟨HP.out.rs⟩,⟨HP.out.kg⟩,⟨HP.out.ks⟩,⟨HP.out.hb⟩,HM2⟩|(subst bw;subst bq;exact⟨(iz),(aq),(kd),_,(by first|rfl|(simp;done)|(simp [*];done)),H',⟨by have:=ek.out;have:=cd.out;have:=gq.out;omega⟩,⟨HP.out.r8⟩,⟨HP.out.r9⟩,⟨HP.out.rs⟩,⟨HP.out.kg⟩,⟨HP.out.ks⟩,⟨HP.out.hb⟩,HM2⟩)
end Go.Proofs.Ytbifocddbgleeaa.PAheadParses
