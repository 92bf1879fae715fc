-- By a program.
import Derived.Test.YtbifocddbgleeaaQPAheadParsesx0
import Derived.Test.YtbifocddbgleeaaQPAheadParsesx20
namespace Go.Proofs.Ytbifocddbgleeaa.PAheadParses
set_option maxHeartbeats 8000000
set_option maxRecDepth 100000
open Go.RowKit Go.Proofs.YtbifocddbgleeaaW.PrintWords Go.Proofs.YtbifocddbgleeaaW.PrintLast Go.Proofs.YtbifocddbgleeaaW.PrintMore
attribute [local go_sem] max2_int min2_int max_two min_two max_three min_three max_four min_four
set_option linter.unusedVariables false
set_option linter.unusedSimpArgs false
def sliceS {α:Type} (e:Nat) (d:Kd α):Kd (List α) where
  sz:=1
  E:=e :: d.E
  K:=(Kd.slice e d).K
  M:=fun w base ok xs cs=>∃v,cs= [v]∧Kd.S d e w base ok v xs
  K_len:=(Kd.slice e d).K_len
  K_one:=(Kd.slice e d).K_one
  K_below:=(Kd.slice e d).K_below
  K_of_M:=by
    rintro w base ok x cs ⟨v,rfl,h⟩
    exact(Kd.slice e d).K_of_M ⟨v,rfl,Kd.S_R h⟩
  M_mono:=by
    rintro w base ok ok' x cs hok ⟨v,rfl,h⟩
    exact⟨v,rfl,Kd.S_mono h hok⟩
  M_bound:=by
    rintro w base ok x cs ⟨v,rfl,h⟩
    exact⟨v,rfl,Kd.S_bound h⟩
  M_move:=by
    rintro w w1 base ok x cs hm ⟨v,rfl,h⟩
    exact⟨v,rfl,Kd.S_move h hm⟩
  M_lower:=by
    rintro w base base' ok x cs hb ⟨v,rfl,h⟩
    exact⟨v,rfl,Kd.S_lower h hb⟩
theorem sliceS_R {α:Type} {d:Kd α} {e e1 base:Nat} {w:World} {ok:Nat→Prop} {v:Value} {xs:List (List α)} (h:(sliceS e d).R e1 w base ok v xs):(Kd.slice e d).R e1 w base ok v xs:=
  ⟨h.1,h.2.imp_ (fun _ _ ⟨v,hv,hs⟩=>⟨v,hv,Kd.S_R hs⟩)⟩
theorem sliceS_C {α:Type} {d:Kd α} {e:Nat} {w:World} {A:Option Addr} {n:Nat} {xs:List (List α)} (h:(sliceS e d).C w A n xs):(Kd.slice e d).C w A n xs:=h
section
variable {α:Type} {d:Kd α} {e1 e2 base g n cap:Nat} {W:World} {ok:Nat→Prop} {t:List (List α)}
theorem put_own {okg : Nat → Prop} (h : Kd.S (sliceS e2 d) e1 W base (fun k => ok k ∧ ¬ okg k) (.slice (some ⟨g, 0, none⟩) n cap) t) (i : Int) (h0 : 0 ≤ i) (h1 : i < n) {vz : Value} {z : List α}
    (hz:Kd.S d e2 W base okg vz z) (hg: ∀k,okg k→ok k∧k≠g):
    (∃A m c,W.cell? ⟨g,i.toNat,none⟩=some (.slice A m c))∧W.frozen? ⟨g,i.toNat,none⟩=false∧Kd.S (sliceS e2 d) e1 (W.setCell ⟨g,i.toNat,none⟩ vz) base ok (.slice (some ⟨g,0,none⟩) n cap) (t.set i.toNat z)∧W.grownBy (W.setCell ⟨g,i.toNat,none⟩ vz) (some g):=by
  obtain⟨oki,c,hcl,hM,hcc,hfr,hoki,hH⟩:=Kd.S_elem h [] i h0 h1
  obtain⟨v,rfl,hs0⟩:=hM
  obtain⟨A,c,rfl⟩:=Kd.S_slice hs0
  have hs:=Kd.S_seg (d:=sliceS e2 d) (okg:=okg) (seg:=[vz]) (j:=0) (x':=z) hH h0 h1 (show 0 + 1≤1 from Nat.le_refl _) (okp:=okg) (show(sliceS e2 d).M W base okg z ([_].take 0++[vz]++[_].drop 1) from⟨vz,rfl,hz⟩) (fun k hk=> .inr hk) hg
  have e0:i.toNat * (sliceS e2 d).sz + 0=i.toNat:=by show i.toNat * 1 + 0=_;omega
  have c0:=hcc 0 _ rfl
  rw [e0] at c0 hs
  have f0:=hfr 0
  rw [e0] at f0
  exact⟨⟨_,_,_,c0⟩,f0,hs⟩
theorem into_ {okg : Nat → Prop} (h : Kd.S (sliceS e2 d) e1 W base (fun k => ok k ∧ ¬ okg k) (.slice (some ⟨g, 0, none⟩) n cap) t) (i : Int) (h0 : 0 ≤ i) (h1 : i < n) (hg : ∀ k, okg k → ok k) :
    ∃(oki:Nat→Prop) (v2:Value),W.cell? ⟨g,i.toNat,none⟩=some v2∧Kd.S d e2 W base oki v2 (t.getD i.toNat [])∧(∀k,oki k→(ok k∧¬ okg k)∧k≠g)∧
      ∀{w1:World} {row:Option Nat} {x':List α},W.grownBy w1 row→(∀k,row=some k→oki k∨okg k)→Kd.S d e2 w1 base (fun k=>oki k∨okg k) v2 x'→Kd.S (sliceS e2 d) e1 w1 base ok (.slice (some ⟨g,0,none⟩) n cap) (t.set i.toNat x'):=by
  obtain⟨oki,c,hcl,hM,hcc,hfr,hoki,hH⟩:=Kd.S_elem h [] i h0 h1
  obtain⟨v2,rfl,hs⟩:=hM
  have e0:i.toNat * (sliceS e2 d).sz + 0=i.toNat:=by show i.toNat * 1 + 0=_;omega
  have c0:=hcc 0 _ rfl
  rw [e0] at c0
  exact⟨oki,v2,c0,hs,hoki,fun hg1 hrow hx=>Kd.H_back (Kd.H_grown (Kd.H_more hH hg) hg1 hrow) ⟨v2,rfl,hx⟩ (fun _ hk=>hk)⟩
end
section
variable {α:Type} {d:Kd α} {e1 e2 e3 base g n cap:Nat} {W:World} {ok:Nat→Prop} {t:List (List (List α))}
theorem put_row {okg : Nat → Prop} (h : Kd.S (sliceS e2 (Kd.slice e3 d)) e1 W base (fun k => ok k ∧ ¬ okg k) (.slice (some ⟨g, 0, none⟩) n cap) t) (i j : Int) (h0 : 0 ≤ i) (h1 : i < n) (j0 : 0 ≤ j) (j1 : j < ((t.getD i.toNat []).length : Int)) {vz : Value} {z : List α}
    (hz:d.R e3 W base okg vz z) (hg: ∀k,okg k→ok k∧k≠g):
    ∃g2 c2,W.cell? ⟨g,i.toNat,none⟩=some (.slice (some ⟨g2,0,none⟩) (t.getD i.toNat []).length c2)∧g2≠g∧g2 < W.heap.size∧base≤g2∧(∃cells,W.heap[g2]? =some (.cells cells e2 (0,0)))∧(∃A m c,W.cell? ⟨g2,j.toNat,none⟩=some (.slice A m c))∧W.frozen? ⟨g2,j.toNat,none⟩=false∧
      Kd.S (sliceS e2 (Kd.slice e3 d)) e1 (W.setCell ⟨g2,j.toNat,none⟩ vz) base ok (.slice (some ⟨g,0,none⟩) n cap) (t.set i.toNat ((t.getD i.toNat []).set j.toNat z))∧W.grownBy (W.setCell ⟨g2,j.toNat,none⟩ vz) (some g2):=by
  obtain⟨oki,v2,hc,hs,hoki,hb⟩:=into_ h i h0 h1 (fun k hk=>(hg k hk).1)
  obtain⟨g2,c2,rfl,hb2,hlt,cells,hcells⟩:=Kd.S_form hs (by omega)
  have ho2:oki g2:=(Kd.S_R hs).1 g2 (by simp [Value.ownBlock])
  have hs':Kd.S (Kd.slice e3 d) e2 W base (fun k=>(oki k∨okg k)∧¬ okg k) (.slice (some ⟨g2,0,none⟩) (t.getD i.toNat []).length c2) (t.getD i.toNat []):=Kd.S_mono hs (fun k hk=>⟨.inl hk,(hoki k hk).1.2⟩)
  obtain⟨oki2,c,hcl,hM,hcc,hfr,hoki2,hH⟩:=Kd.S_elem hs' [] j j0 j1
  obtain⟨v3,rfl,hs0⟩:=hM
  obtain⟨A,c,rfl⟩:=Kd.R_slice hs0
  have hg2: ∀k,okg k→(oki k∨okg k)∧k≠g2:=fun k hk=>⟨.inr hk,fun e=>(hoki g2 ho2).1.2 (by rw [← e];exact hk)⟩
  have hs2:=Kd.S_seg (d:=Kd.slice e3 d) (okg:=okg) (seg:=[vz]) (j:=0) (x':=z) hH j0 j1 (show 0 + 1≤1 from Nat.le_refl _) (okp:=okg) (show(Kd.slice e3 d).M W base okg z ([_].take 0++[vz]++[_].drop 1) from⟨vz,rfl,hz⟩) (fun k hk=> .inr hk) hg2
  have e0:j.toNat * (Kd.slice e3 d).sz + 0=j.toNat:=by show j.toNat * 1 + 0=_;omega
  have c0:=hcc 0 _ rfl
  rw [e0] at c0 hs2
  have f0:=hfr 0
  rw [e0] at f0
  refine⟨g2,c2,hc,(hoki g2 ho2).2,hlt,hb2,⟨cells,hcells⟩,⟨_,_,_,c0⟩,f0,hb hs2.2 (fun k hk=> .inl ?_) hs2.1,hs2.2⟩
  injection hk with hk
  rw [← hk];exact ho2
theorem put_cell {β : Type} {enc : β → Value} {hen : ∀ x, (enc x).oneCell' = true} {t : List (List (List β))} (z : β) (h : Kd.S (sliceS e2 (Kd.slice e3 (Kd.scalar enc hen))) e1 W base ok (.slice (some ⟨g, 0, none⟩) n cap) t) (i j l : Int) (h0 : 0 ≤ i) (h1 : i < n) (j0 : 0 ≤ j) (j1 : j < ((t.getD i.toNat []).length : Int)) (l0 : 0 ≤ l) (l1 : l < (((t.getD i.toNat []).getD j.toNat []).length : Int)) :
    ∃g2 c2 g3 c3,W.cell? ⟨g,i.toNat,none⟩=some (.slice (some ⟨g2,0,none⟩) (t.getD i.toNat []).length c2)∧W.cell? ⟨g2,j.toNat,none⟩=some (.slice (some ⟨g3,0,none⟩) ((t.getD i.toNat []).getD j.toNat []).length c3)∧
      W.cell? ⟨g3,l.toNat,none⟩=some (enc (rdOf z ((t.getD i.toNat []).getD j.toNat []) l))∧W.frozen? ⟨g3,l.toNat,none⟩=false∧base≤g3∧(∃cells,W.heap[g3]? =some (.cells cells e3 (0,0)))∧
      ∀x,Kd.S (sliceS e2 (Kd.slice e3 (Kd.scalar enc hen))) e1 (W.setCell ⟨g3,l.toNat,none⟩ (enc x)) base ok (.slice (some ⟨g,0,none⟩) n cap) (t.set i.toNat ((t.getD i.toNat []).set j.toNat (((t.getD i.toNat []).getD j.toNat []).set l.toNat x)))∧W.grownBy (W.setCell ⟨g3,l.toNat,none⟩ (enc x)) (some g3):=by
  obtain⟨oki,v2,hc,hs,hoki,hb⟩:=into_ (okg:=fun _=>False) (Kd.S_mono h (fun k hk=>⟨hk,fun q=>q⟩)) i h0 h1 (fun k hk=>hk.elim)
  obtain⟨g2,c2,rfl,hb2,hlt,cells,hcells⟩:=Kd.S_form hs (by omega)
  obtain⟨oki2,c,hcl,hM,hcc,hoki2,hback⟩:=Kd.S_borrow hs [] j j0 j1
  obtain⟨v3,rfl,hr⟩:=hM
  have e0:j.toNat * (Kd.slice e3 (Kd.scalar enc hen)).sz + 0=j.toNat:=by show j.toNat * 1 + 0=_;omega
  have c0:=hcc 0 _ rfl
  rw [e0,add_plain] at c0
  obtain⟨g3,c3,rfl,hb3,hlt3,cells3,hcells3⟩:=Kd.R_form hr (by omega)
  obtain⟨hy,hz⟩:=Kd.R_celln z hr l l0 l1
  refine⟨g2,c2,g3,c3,hc,c0,hy,hz,hb3,⟨cells3,hcells3⟩,fun x=>?_⟩
  obtain⟨p1,p2⟩:=Kd.R_putg hr l x
  have ho3:oki2 g3:=hr.1 g3 (by simp [Value.ownBlock])
  have q:=hback p2 (fun k hk=>by injection hk with hk;rw [← hk];exact ho3) (x':=((t.getD i.toNat []).getD j.toNat []).set l.toNat x) ⟨_,rfl,p1⟩
  exact⟨hb p2 (fun k hk=> .inl (by injection hk with hk;rw [← hk];exact(hoki2 g3 ho3).1)) (Kd.S_mono q (fun k hk=> .inl hk)),p2⟩
end
section
variable (a0_0 a0_1 a0_2:Int) (l0_3:List S41) (w1:List Int) (n:Int)
mutual
def Zw.l0:Nat→List (List (List Bool))→Int→Option (List (List (List Bool)))
  |0,_,_=>none
  |k + 1,t,a=>if a < a0_1 then(if 0≤n then(if(n:Int).toNat≤11728124029610 then(if 0≤a then(if a < (t.length:Int) then Zw.l1 k (t.set a.toNat (List.replicate n.toNat [])) a 0 else none) else none) else none) else none) else Zw.l2 k t true
def Zw.l1:Nat→List (List (List Bool))→Int→Int→Option (List (List (List Bool)))
  |0,_,_,_=>none
  |k + 1,t,a,i=>if i < n then(if 0≤a then(if a < (t.length:Int) then(if 0≤n then(if(n:Int).toNat≤281474976710656 then(if 0≤i then(if i < ((rd_L7 t a).length:Int) then Zw.l1 k (t.set a.toNat ((rd_L7 t a).set i.toNat (List.replicate n.toNat false))) a (wrap64 (i + 1)) else none) else none) else none) else none) else none) else none) else Zw.l0 k t (wrap64 (a + 1))
def Zw.l2:Nat→List (List (List Bool))→Bool→Option (List (List (List Bool)))
  |0,_,_=>none
  |k + 1,t,more=>if more=true then Zw.l3 k t false 0 else some t
def Zw.l3:Nat→List (List (List Bool))→Bool→Int→Option (List (List (List Bool)))
  |0,_,_,_=>none
  |k + 1,t,more,q=>if q < (l0_3.length:Int) then(if 0≤q then Zw.l4 k t more q 0 else none) else Zw.l2 k t more
def Zw.l4:Nat→List (List (List Bool))→Bool→Int→Int→Option (List (List (List Bool)))
  |0,_,_,_,_=>none
  |k + 1,t,more,q,i=>if i < n then Zw.l5 k t more q i i else Zw.l3 k t more (wrap64 (q + 1))
def Zw.l5:Nat→List (List (List Bool))→Bool→Int→Int→Int→Option (List (List (List Bool)))
  |0,_,_,_,_,_=>none
  | k + 1, t, more, q, i, j => if j < n then (if 0 ≤ (Zb l0_3 q).f0 then (if (Zb l0_3 q).f0 < (t.length : Int) then (if 0 ≤ i then (if i < ((rd_L7 t (Zb l0_3 q).f0).length : Int) then (if 0 ≤ j then (if j < ((rd_L6 (rd_L7 t (Zb l0_3 q).f0) i).length : Int) then
      (if rdOf false (rd_L6 (rd_L7 t (Zb l0_3 q).f0) i) j=true then Zw.l5 k t more q i (wrap64 (j + 1)) else
        ((Zr.f k a0_0 a0_1 a0_2 l0_3 w1 t (Zb l0_3 q).f1 i j).bind fun b=>if b=true then Zw.l5 k (t.set (Zb l0_3 q).f0.toNat ((rd_L7 t (Zb l0_3 q).f0).set i.toNat ((rd_L6 (rd_L7 t (Zb l0_3 q).f0) i).set j.toNat true))) true q i (wrap64 (j + 1)) else Zw.l5 k t more q i (wrap64 (j + 1))))
      else none) else none) else none) else none) else none) else none) else Zw.l4 k t more q (wrap64 (i + 1))
end
end
def Zw.f (k:Nat) (a0_0:Int) (a0_1:Int) (a0_2:Int) (l0_3:List S41) (l1:List Int):Option (List (List (List Bool))):=if 0≤a0_1 then(if(a0_1:Int).toNat≤11728124029610 then Zw.l0 a0_0 a0_1 a0_2 l0_3 l1 (wrap64 ((l1.length:Int) + 1)) k (List.replicate a0_1.toNat []) 0 else none) else none
theorem Zw.mono_l (a0_0 a0_1 a0_2:Int) (l0_3:List S41) (w1:List Int) (n:Int): ∀k,(∀y0 y1,LeO (Zw.l0 a0_0 a0_1 a0_2 l0_3 w1 n k y0 y1) (Zw.l0 a0_0 a0_1 a0_2 l0_3 w1 n (k + 1) y0 y1))∧(∀y0 y1 y2,LeO (Zw.l1 a0_0 a0_1 a0_2 l0_3 w1 n k y0 y1 y2) (Zw.l1 a0_0 a0_1 a0_2 l0_3 w1 n (k + 1) y0 y1 y2))∧(∀y0 y1,LeO (Zw.l2 a0_0 a0_1 a0_2 l0_3 w1 n k y0 y1) (Zw.l2 a0_0 a0_1 a0_2 l0_3 w1 n (k + 1) y0 y1))∧(∀y0 y1 y2,LeO (Zw.l3 a0_0 a0_1 a0_2 l0_3 w1 n k y0 y1 y2) (Zw.l3 a0_0 a0_1 a0_2 l0_3 w1 n (k + 1) y0 y1 y2))∧(∀y0 y1 y2 y3,LeO (Zw.l4 a0_0 a0_1 a0_2 l0_3 w1 n k y0 y1 y2 y3) (Zw.l4 a0_0 a0_1 a0_2 l0_3 w1 n (k + 1) y0 y1 y2 y3))∧(∀y0 y1 y2 y3 y4,LeO (Zw.l5 a0_0 a0_1 a0_2 l0_3 w1 n k y0 y1 y2 y3 y4) (Zw.l5 a0_0 a0_1 a0_2 l0_3 w1 n (k + 1) y0 y1 y2 y3 y4))
  |0=>⟨fun _ _ r h=>by simp [Zw.l0] at h,fun _ _ _ r h=>by simp [Zw.l1] at h,fun _ _ r h=>by simp [Zw.l2] at h,fun _ _ _ r h=>by simp [Zw.l3] at h,fun _ _ _ _ r h=>by simp [Zw.l4] at h,fun _ _ _ _ _ r h=>by simp [Zw.l5] at h⟩
  |k + 1=>by
    obtain⟨ih0,ih1,ih2,ih3,ih4,ih5⟩:=Zw.mono_l a0_0 a0_1 a0_2 l0_3 w1 n k
    refine⟨?_,?_,?_,?_,?_,?_⟩
    · intro y0 y1
      unfold Zw.l0
      repeat' (with_reducible first|apply ih0|apply ih1|apply ih2|apply ih3|apply ih4|apply ih5|apply Zr.mono|exact LeO.refl _|exact LeO.none _|refine LeO.ite ?_ ?_|refine LeO.bind ?_ (fun _=>?_))
    · intro y0 y1 y2
      unfold Zw.l1
      repeat' (with_reducible first|apply ih0|apply ih1|apply ih2|apply ih3|apply ih4|apply ih5|apply Zr.mono|exact LeO.refl _|exact LeO.none _|refine LeO.ite ?_ ?_|refine LeO.bind ?_ (fun _=>?_))
    · intro y0 y1
      unfold Zw.l2
      repeat' (with_reducible first|apply ih0|apply ih1|apply ih2|apply ih3|apply ih4|apply ih5|apply Zr.mono|exact LeO.refl _|exact LeO.none _|refine LeO.ite ?_ ?_|refine LeO.bind ?_ (fun _=>?_))
    · intro y0 y1 y2
      unfold Zw.l3
      repeat' (with_reducible first|apply ih0|apply ih1|apply ih2|apply ih3|apply ih4|apply ih5|apply Zr.mono|exact LeO.refl _|exact LeO.none _|refine LeO.ite ?_ ?_|refine LeO.bind ?_ (fun _=>?_))
    · intro y0 y1 y2 y3
      unfold Zw.l4
      repeat' (with_reducible first|apply ih0|apply ih1|apply ih2|apply ih3|apply ih4|apply ih5|apply Zr.mono|exact LeO.refl _|exact LeO.none _|refine LeO.ite ?_ ?_|refine LeO.bind ?_ (fun _=>?_))
    · intro y0 y1 y2 y3 y4
      unfold Zw.l5
      repeat' (with_reducible first|apply ih0|apply ih1|apply ih2|apply ih3|apply ih4|apply ih5|apply Zr.mono|exact LeO.refl _|exact LeO.none _|refine LeO.ite ?_ ?_|refine LeO.bind ?_ (fun _=>?_))
theorem Zw.mono: ∀a0 a1 a2 a3 a4 k,LeO (Zw.f k a0 a1 a2 a3 a4) (Zw.f (k + 1) a0 a1 a2 a3 a4):=by
  intro a0 a1 a2 a3 a4 k
  obtain⟨ih0,_⟩:=Zw.mono_l a0 a1 a2 a3 a4 (wrap64 ((a4.length:Int) + 1)) k
  unfold Zw.f
  exact LeO.ite (LeO.ite (ih0 _ _) (LeO.none _)) (LeO.none _)
def TabI (w W:World) (gb:Nat) (cs:Array Value) (v:Value) (t:List (List (List Bool))):Prop:=
  Kd.S (sliceS 49 (Kd.slice 4 Kd.bool)) 50 W w.heap.size (fun _=>True) v t∧W.heap[gb]? =some (.cells cs 24 (0,0))∧w.heap.size≤gb∧Below w.heap.size w W
section
variable {w W W1:World} {gb g n cap:Nat} {cs:Array Value} {v vz:Value} {t:List (List (List Bool))}
theorem TabI.below (h:TabI w W gb cs v t) (hb:Below W.heap.size W W1):TabI w W1 gb cs v t:=
  ⟨Kd.S_below h.1 hb,Zj h.2.1 hb,h.2.2.1,Zh h.2.2.2 hb⟩
theorem TabI.drew (h:TabI w W gb cs v t):TabI w W.drew gb cs v t:=h.below (below_drew (Below.refl _ _))
theorem TabI.drewN (h:TabI w W gb cs v t) (m:Nat):TabI w (W.drewN m) gb cs v t:=h.below (pw_below_drewN (Below.refl _ _) m)
theorem TabI.form (h:TabI w W gb cs v t) (hp:0 < t.length): ∃g cap,v= .slice (some ⟨g,0,none⟩) t.length cap:=by
  obtain⟨g,cap,e,_⟩:=Kd.S_form h.1 hp
  exact⟨g,cap,e⟩
theorem TabI.set (h : TabI w W gb cs v t) {g2 e' : Nat} (he : e' ≠ 24) (hc : ∃ cells, W.heap[g2]? = some (.cells cells e' (0, 0))) (hb : w.heap.size ≤ g2) {j : Nat} {x : Value} {t' : List (List (List Bool))}
    (hS:Kd.S (sliceS 49 (Kd.slice 4 Kd.bool)) 50 (W.setCell ⟨g2,j,none⟩ x) w.heap.size (fun _=>True) v t'):TabI w (W.setCell ⟨g2,j,none⟩ x) gb cs v t':=by
  refine⟨hS,Zv h.2.1 (fun q=>?_) _,h.2.2.1,below_set h.2.2.2 hb⟩
  obtain⟨cells,hc⟩:=hc
  rw [show g2=gb from q.symm,h.2.1] at hc
  injection hc with hc
  injection hc with _ hc _
  exact he hc.symm
theorem TabI.own (h : TabI w W gb cs (.slice (some ⟨g, 0, none⟩) n cap) t) (hb : Below W.heap.size W W1) {z : List (List Bool)} (hz : Kd.S (Kd.slice 4 Kd.bool) 49 W1 W.heap.size (fun k => k = W.heap.size) vz z) (i : Int) (h0 : 0 ≤ i) (h1 : i < n) :
    (∃A m c,W1.cell? ⟨g,i.toNat,none⟩=some (.slice A m c))∧W1.frozen? ⟨g,i.toNat,none⟩=false∧TabI w (W1.setCell ⟨g,i.toNat,none⟩ vz) gb cs (.slice (some ⟨g,0,none⟩) n cap) (t.set i.toNat z):=by
  have hn:=(Kd.S_reads' h.1).1
  obtain⟨g',cap',e,hbg,hlt,cells,hcells⟩:=Kd.S_form h.1 (by omega)
  injection e with e _ _
  injection e with e
  injection e with e _ _
  subst e
  have hs:Kd.S (sliceS 49 (Kd.slice 4 Kd.bool)) 50 W1 w.heap.size (fun k=>True∧¬ k=W.heap.size) (.slice (some ⟨g,0,none⟩) n cap) t:=Kd.S_mono (Kd.S_below (Kd.S_bound h.1) hb) (fun k hk=>⟨trivial,by have:=hk.2.2.1;omega⟩)
  have hz':=Kd.S_lower hz (Zg h.2.2.2)
  obtain⟨p1,p2,p3,p4⟩:=put_own hs i h0 h1 hz' (fun k hk=>⟨trivial,by omega⟩)
  exact⟨p1,p2,(h.below hb).set (e':=50) (by decide) ⟨cells,(hb.block g hlt).trans hcells⟩ hbg p3⟩
theorem TabI.row (h : TabI w W gb cs (.slice (some ⟨g, 0, none⟩) n cap) t) (hb : Below W.heap.size W W1) {z : List Bool} (hz : Kd.R Kd.bool 4 W1 W.heap.size (fun _ => True) vz z) (i j : Int) (h0 : 0 ≤ i) (h1 : i < n) (j0 : 0 ≤ j) (j1 : j < ((rd_L7 t i).length : Int)) :
    ∃g2 c2,W.cell? ⟨g,i.toNat,none⟩=some (.slice (some ⟨g2,0,none⟩) (rd_L7 t i).length c2)∧W1.cell? ⟨g,i.toNat,none⟩=some (.slice (some ⟨g2,0,none⟩) (rd_L7 t i).length c2)∧(∃A m c,W1.cell? ⟨g2,j.toNat,none⟩=some (.slice A m c))∧W1.frozen? ⟨g2,j.toNat,none⟩=false∧
      TabI w (W1.setCell ⟨g2,j.toNat,none⟩ vz) gb cs (.slice (some ⟨g,0,none⟩) n cap) (t.set i.toNat ((rd_L7 t i).set j.toNat z)):=by
  have hn:=(Kd.S_reads' h.1).1
  obtain⟨g',cap',e,hbg,hlt,cells,hcells⟩:=Kd.S_form h.1 (by omega)
  injection e with e _ _
  injection e with e
  injection e with e _ _
  subst e
  have hs:Kd.S (sliceS 49 (Kd.slice 4 Kd.bool)) 50 W1 w.heap.size (fun k=>True∧¬ W.heap.size≤k) (.slice (some ⟨g,0,none⟩) n cap) t:=Kd.S_mono (Kd.S_below (Kd.S_bound h.1) hb) (fun k hk=>⟨trivial,by have:=hk.2.2.1;omega⟩)
  have hz':Kd.R Kd.bool 4 W1 w.heap.size (fun k=>W.heap.size≤k) vz z:=Kd.R_mono (Kd.R_lower (Kd.R_bound hz) (Zg h.2.2.2)) (fun k hk=>hk.2.1)
  obtain⟨g2,c2,p0,p1,p2,p3,⟨cl,p4⟩,p5,p6,p7,p8⟩:=put_row hs i j h0 h1 j0 j1 hz' (fun k hk=>⟨trivial,by omega⟩)
  have pc:W.cell? ⟨g,i.toNat,none⟩=W1.cell? ⟨g,i.toNat,none⟩:=(hb.cell (p:=⟨g,i.toNat,none⟩) hlt).symm
  exact⟨g2,c2,pc.trans p0,p0,p5,p6,(h.below hb).set (e':=49) (by decide) ⟨cl,p4⟩ p3 p7⟩
theorem TabI.at (h : TabI w W gb cs (.slice (some ⟨g, 0, none⟩) n cap) t) (i j : Int) (h0 : 0 ≤ i) (h1 : i < n) (j0 : 0 ≤ j) (j1 : j < ((rd_L7 t i).length : Int)) :
    ∃g2 c2,W.cell? ⟨g,i.toNat,none⟩=some (.slice (some ⟨g2,0,none⟩) (rd_L7 t i).length c2):=by
  obtain⟨oki,v2,hc,hs,_⟩:=into_ (okg:=fun _=>False) (Kd.S_mono h.1 (fun k hk=>⟨hk,fun q=>q⟩)) i h0 h1 (fun k hk=>hk.elim)
  obtain⟨g2,c2,rfl,_⟩:=Kd.S_form hs (by have h_:j < ((t.getD i.toNat []).length:Int):=j1;omega)
  exact⟨g2,c2,hc⟩
theorem TabI.cell (h : TabI w W gb cs (.slice (some ⟨g, 0, none⟩) n cap) t) (i j l : Int) (h0 : 0 ≤ i) (h1 : i < n) (j0 : 0 ≤ j) (j1 : j < ((rd_L7 t i).length : Int)) (l0 : 0 ≤ l) (l1 : l < ((rd_L6 (rd_L7 t i) j).length : Int)) :
    ∃g2 c2 g3 c3,W.cell? ⟨g,i.toNat,none⟩=some (.slice (some ⟨g2,0,none⟩) (rd_L7 t i).length c2)∧W.cell? ⟨g2,j.toNat,none⟩=some (.slice (some ⟨g3,0,none⟩) (rd_L6 (rd_L7 t i) j).length c3)∧
      W.cell? ⟨g3,l.toNat,none⟩=some (.bool (rdOf false (rd_L6 (rd_L7 t i) j) l))∧W.frozen? ⟨g3,l.toNat,none⟩=false∧(∃cells,W.heap[g3]? =some (.cells cells 4 (0,0)))∧
      ∀x,TabI w (W.setCell ⟨g3,l.toNat,none⟩ (.bool x)) gb cs (.slice (some ⟨g,0,none⟩) n cap) (t.set i.toNat ((rd_L7 t i).set j.toNat ((rd_L6 (rd_L7 t i) j).set l.toNat x))):=by
  obtain⟨g2,c2,g3,c3,p1,p2,p3,p4,p5,p6,p7⟩:=put_cell false h.1 i j l h0 h1 j0 j1 l0 l1
  exact⟨g2,c2,g3,c3,p1,p2,p3,p4,p6,fun x=>h.set (e':=4) (by decide) p6 p5 (p7 x).1⟩
theorem TabI.box (h:TabI w W gb cs v t) {gr:Nat} {c2:Array Value} (hr:W.heap[gr]? =some (.cells c2 41 (0,0))) (hge:w.heap.size≤gr) (j:Nat) (u:Value):TabI w (W.setCell ⟨gr,j,none⟩ u) gb cs v t:=
  h.set (e':=41) (by decide) ⟨c2,hr⟩ hge (Kd.S_set h.1 hr (by decide) j u)
theorem blk_set_ {gr:Nat} {c2:Array Value} (hr:W.heap[gr]? =some (.cells c2 41 (0,0))) (j:Nat) (x:Value):(W.setCell ⟨gr,j,none⟩ x).heap[gr]? =some (.cells (c2.setIfInBounds j x) 41 (0,0)):=by
  unfold World.setCell
  simp [Array.getElem?_modify,hr]
theorem blk_set0 {gr:Nat} {u0 u1:Value} (hr:W.heap[gr]? =some (.cells #[u0,u1] 41 (0,0))) (x:Value):(W.setCell ⟨gr,0,none⟩ x).heap[gr]? =some (.cells #[x,u1] 41 (0,0)):=blk_set_ hr 0 x
theorem box_two {gr:Nat} {u0 u1:Value} (hr:W.heap[gr]? =some (.cells #[u0,u1] 41 (0,0))) (x y:Value):((W.setCell ⟨gr,0,none⟩ x).setCell ⟨gr,1,none⟩ y).heap[gr]? =some (.cells #[x,y] 41 (0,0)):=blk_set_ (blk_set0 hr x) 1 y
theorem box_set {gr:Nat} {c2 cells:Array Value} (hr:W.heap[gr]? =some (.cells c2 41 (0,0))) {g3 e':Nat} (he:e'≠41) (hc:W.heap[g3]? =some (.cells cells e' (0,0))) (j:Nat) (u:Value):(W.setCell ⟨g3,j,none⟩ u).heap[gr]? =some (.cells c2 41 (0,0)):=by
  refine Zv hr (fun q=>?_) _
  have q:gr=g3:=q
  rw [← q,hr] at hc
  injection hc with hc
  injection hc with _ hc _
  exact he hc.symm
end
theorem Zw.calls (k : Nat) (ac : Int) (ab : Int) (ae : Int) (ag : Option Addr) (af : Nat) (aa : List S41) (A1 : Option Addr) (c1 : Nat) (l1 : List Int) (r : List (List (List Bool))) (w : World) (am : Kd.C k41 w ag aa.length aa) (an : aa.length ≤ af) (ar : Kd.C (Kd.int .i64) w A1 l1.length l1) (ax : l1.length ≤ c1) (h : Zw.f k ac ab ae aa l1 = some r) :
    Calls Try.prog 17 #[.agg #[.int .i64 ac,.int .i64 ab,.int .i64 ae,.slice ag aa.length af],.slice A1 l1.length c1] w fun e w'=>∃v0_:Value,e= .returned (v0_)∧Kd.R (Kd.slice 49 (Kd.slice 4 Kd.bool)) 50 w' w.heap.size (fun _=>True) v0_ r∧Below w.heap.size w w':=by
 (have hu_:=Try.underlying24);(have ak:=Za.mk am);(have ao:=Za.mk an);(clear am an);(have ay:=Za.mk ar);(have az:=Za.mk ax);(clear ar ax);(unfold Zw.f at h)
 by_cases d1:0≤ab
 case neg=>rw [if_neg d1] at h;cases h
 rw [if_pos d1] at h
 by_cases d2:(ab:Int).toNat≤11728124029610
 case neg=>rw [if_neg d2] at h;cases h
 (rw [if_pos d2] at h);(have H:=Za.mk h);(clear h);(have D2:Za (ab.toNat * 24≤281474976710656):=⟨by omega⟩);(have D1:=Za.mk d1);(clear d1 d2)
 go_enter Try.func17,Try.ntmps17
 go_wp2_with (first
  |((with_reducible refine Zs (N:=2) rfl ?_);refine Zx ?hg (N:=2) ?hd (cs:=#[.int .i64 ac,.int .i64 ab,.int .i64 ae,.slice ag aa.length af]) (t:=24) ?hr ?_;(case hd=>rfl);(case hg=>rfl);(case hr=>first|(go_simp;done)|(go_simp;rfl));intro gb hg w4 hbox hb;have GE:=Za.mk (show w.heap.size≤gb by rw [hg];exact Nat.le_refl _);have BK:=Za.mk hbox;have HB:=Za.mk hb;have hcz_1:w4.cell? ⟨gb,1,none⟩=some (.int .i64 ab):=(Zf BK.out 1).trans rfl;clear hg hbox hb)
  |((with_reducible refine Zs (N:=19) rfl ?_);refine Kd.S_make (sliceS 49 (Kd.slice 4 Kd.bool)) _ 50 rfl (N:=19) rfl 64 _ _ rfl ab rfl rfl Try.underlying64 (.slice none 0 0) 24 info50 rfl (by decide) (by omega) [] (ok:=fun _=>True) (okp:=fun _=>False) ⟨_,rfl,Kd.S_nil _ _ _ _ _⟩ (fun _ hk=>hk.elim) trivial D1.out D2.out (Below.refl _ _) (Nat.le_refl _) ?_;intro v6 w5 ho hb hg_ hnew_;clear hg_ hnew_;have HI:Za (TabI w w5 gb #[.int .i64 ac,.int .i64 ab,.int .i64 ae,.slice ag aa.length af] v6 (List.replicate ab.toNat [])):=⟨⟨Kd.S_lower ho (Zg HB.out),Zj BK.out hb,GE.out,Zh HB.out hb⟩⟩;clear ho hb HB BK hcz_1))
 go_loopg [7] k (fun kq v7 w'=>∃(t:List (List (List Bool))) (a:Int),v7= .int .i64 a∧Za (Zw.l0 ac ab ae aa l1 (wrap64 ((l1.length:Int) + 1)) kq t a=some r)∧Za (kq≤k)∧Za (TabI w w' gb #[.int .i64 ac,.int .i64 ab,.int .i64 ae,.slice ag aa.length af] v6 t))
 case atStart=>exact⟨_,0,rfl,H,⟨Nat.le_refl _⟩,HI⟩
 case round=>
  (clear H HI);(obtain⟨t,a,rfl,HA,ah,HI⟩:=hrel);(have hcz_1:wr.cell? ⟨gb,1,none⟩=some (.int .i64 ab):=(Zf HI.out.2.1 1).trans rfl)
  cases gk with
  |zero=>exact absurd HA.out (by simp [Zw.l0])
  |succ k1=>
   (have H:=HA.out);(clear HA);(simp only [Zw.l0] at H)
   by_cases c1:a < ab
   ·rw [if_pos c1] at H
    have t1:decide (a < ab)=true:=decide_eq_true c1
    by_cases c2:0≤wrap64 ((l1.length:Int) + 1)
    case neg=>rw [if_neg c2] at H;cases H
    rw [if_pos c2] at H
    by_cases c3:(wrap64 ((l1.length:Int) + 1)).toNat≤11728124029610
    case neg=>rw [if_neg c3] at H;cases H
    rw [if_pos c3] at H
    by_cases c4:0≤a
    case neg=>rw [if_neg c4] at H;cases H
    rw [if_pos c4] at H
    by_cases c5:a < (t.length:Int)
    case neg=>rw [if_neg c5] at H;cases H
    (rw [if_pos c5] at H);(obtain⟨g,cap,rfl⟩:=HI.out.form (by omega));(have E3:Za ((wrap64 ((l1.length:Int) + 1)).toNat * 24≤281474976710656):=⟨by omega⟩);(have E2:=Za.mk c2);(have E4:=Za.mk c4);(have E5:=Za.mk c5);(have H':=Za.mk H);(clear H c1 c2 c3);(replace c4:=eq_true c4);(replace c5:=eq_true c5)
    go_wp2_with (first|((with_reducible refine Zs (N:=29) rfl ?_);refine Kd.S_make (Kd.slice 4 Kd.bool) _ 49 rfl (N:=29) rfl 50 _ _ rfl (wrap64 ((l1.length:Int) + 1)) rfl rfl Try.underlying50 (.slice none 0 0) 24 info49 rfl (by decide) (by omega) [] (ok:=fun k_=>k_=wr.heap.size) (okp:=fun _=>False) ⟨_,rfl,Kd.R_nil _ _ _ _ _⟩ (fun _ hk=>hk.elim) rfl E2.out E3.out (Below.refl _ _) (Nat.le_refl _) ?_;intro vz wz hoz hb hg_ hnew_;clear hg_ hnew_;obtain⟨Az,cz,rfl⟩:=Kd.S_slice hoz;rw [List.length_replicate] at hoz;obtain⟨⟨Ax,mx_,cx,hx⟩,hf,hI⟩:=HI.out.own hb hoz a E4.out E5.out;have HI2:=Za.mk hI;clear hI hb hoz))
    go_loopg [8] k1 (fun kq v8 w'=>∃(t2:List (List (List Bool))) (i:Int),v8= .int .i64 i∧Za (Zw.l1 ac ab ae aa l1 (wrap64 ((l1.length:Int) + 1)) kq t2 a i=some r)∧Za (kq≤k1)∧Za (TabI w w' gb #[.int .i64 ac,.int .i64 ab,.int .i64 ae,.slice ag aa.length af] (.slice (some ⟨g,0,none⟩) t.length cap) t2))
    case atStart=>exact⟨_,0,rfl,H',⟨Nat.le_refl _⟩,HI2⟩
    case round=>
     (clear H' HI HI2 hx hf hcz_1);(obtain⟨t2,i,rfl,HA,ai,HI⟩:=hrel)
     cases gk with
     |zero=>exact absurd HA.out (by simp [Zw.l1])
     |succ k2=>
      (have H:=HA.out);(clear HA);(simp only [Zw.l1] at H);(have hn:t.length=t2.length:=(Kd.S_reads' HI.out.1).1)
      by_cases b1:i < wrap64 ((l1.length:Int) + 1)
      rotate_left
      ·rw [if_neg b1] at H
       (have t2_:decide (i < wrap64 ((l1.length:Int) + 1))=false:=decide_eq_false b1);(have H':=Za.mk H);(clear H b1 hn)
       go_wp2
       go_roundg k2
       case measure=>have:=ah.out;have:=ai.out;omega
       case rel=>exact⟨_,_,rfl,H',⟨by have:=ah.out;have:=ai.out;omega⟩,HI⟩
      (rw [if_pos b1,if_pos E4.out,if_pos (by rw [← hn];exact E5.out),if_pos E2.out] at H);(have t2_:decide (i < wrap64 ((l1.length:Int) + 1))=true:=decide_eq_true b1)
      by_cases b2:(wrap64 ((l1.length:Int) + 1)).toNat≤281474976710656
      case neg=>rw [if_neg b2] at H;cases H
      rw [if_pos b2] at H
      by_cases b3:0≤i
      case neg=>rw [if_neg b3] at H;cases H
      rw [if_pos b3] at H
      by_cases b4:i < ((rd_L7 t2 a).length:Int)
      case neg=>rw [if_neg b4] at H;cases H
      (rw [if_pos b4] at H);(have B2:Za ((wrap64 ((l1.length:Int) + 1)).toNat * 1≤281474976710656):=⟨by omega⟩);(have B3:=Za.mk b3);(have B4:Za (i < ((rd_L7 t2 a).length:Int)):=Za.mk b4);(have H':=Za.mk H);(clear H b1 b2 b4 hn);(replace b3:=eq_true b3);(have b4:=eq_true B4.out)
      go_wp2
      obtain⟨g2,c2,aj⟩ : ∃g2 c2,wr.cell? ⟨g,a.toNat,none⟩=some (.slice (some ⟨g2,0,none⟩) (rd_L7 t2 a).length c2):=HI.out.at a i E4.out E5.out B3.out B4.out
      refine start_ (n:=9) (S:=fun w'=>w'.cell? ⟨g,a.toNat,none⟩=some (.slice (some ⟨g2,0,none⟩) (rd_L7 t2 a).length c2)) (ds:=[8]) #[false,false,false,false,false,false,false,false,false] (by kernel_rfl) rfl rfl (aj) (fun hHeld=>?_)
      refine zP 0 (some 36) (zt 9 1) (by kernel_rfl) ?_
      refine zP 1 (some 37) (zt 9 3) (by kernel_rfl) ?_
      refine zP 2 (some 38) (zt 9 7) (by kernel_rfl) ?_
      refine zP 4 (some 40) (zt 9 23) (by kernel_rfl) ?_
      refine zP 5 (some 41) (zt 9 55) (by kernel_rfl) ?_
      refine take_ (i:=3) (N:=some 39) (v:=?_) (a':=?_) #[true,true,true,true,true,true,false,false,false] rfl rfl (by kernel_rfl) (fun _ _ _ h=>h) (Or.inl ⟨by rfl,?_⟩) hHeld ?_ ?_
      rotate_left
      ·intro w' s0
       go_simp
       with_reducible rfl
      rotate_left
      ·simp only [Act.put,zp1,zp2,zp3,Zc,Zd]
       rfl
      refine one_ (i:=6) (N:=some 42) #[true,true,true,true,true,true,true,false,false] rfl rfl (by kernel_rfl) (by decide) (fun K hK=>?_)
      refine Kd.R_make_step Kd.bool _ 4 (by rfl) (N:=42) rfl 49 _ _ rfl (wrap64 ((l1.length:Int) + 1)) rfl rfl Try.underlying49 (.bool false) 1 info4 rfl (by decide) (by omega) false (ok:=fun _=>True) (okp:=fun _=>True) rfl (fun _ hk=>hk) trivial E2.out B2.out (Below.refl _ _) (Nat.le_refl _) ?_
      intro vz wz hoz hb hg_ hnew_
      (clear hg_ hnew_);(obtain⟨Az,cz,rfl⟩:=Kd.R_slice hoz);(rw [List.length_replicate] at hoz ⊢);(obtain⟨g2',c2',e1_,hx1',⟨Ax,mx_,cx,au⟩,hf2,hI2⟩:=HI.out.drew.row hb hoz a i E4.out E5.out B3.out B4.out);(have e2_:=Option.some.inj (e1_.symm.trans aj));(injection e2_ with e2_ _ e3_);(injection e2_ with e2_);(injection e2_ with e2_ _ _);(subst e2_);(subst e3_);(clear e1_);(have HI2:=Za.mk hI2);(clear hI2 hb hoz)
      refine hK.out _ _ (hx1') (fun hHeld=>?_)
      clear hK K
      refine norm_ (a':=?_) ?_ ?_
      rotate_left
      ·show Act.put _ (some 42) _=_
       simp only [Act.put,zp1,zp2,zp3,Zc,Zd]
       rfl
      refine zP 7 (some 43) (zt 9 255) (by kernel_rfl) ?_
      refine last_ (i:=8) (N:=none) #[true,true,true,true,true,true,true,true,true] rfl rfl (by kernel_rfl) (by decide) (fun K hK=>?_)
      refine skip_ (w1:=?_) (by rfl) rfl ?_ ?_
      rotate_left
      ·go_simp
       rfl
      refine hK.out _ _ ?_
      clear hK K
      refine done_ (by kernel_rfl) ?_
      go_wp2
      go_roundg k2
      case measure=>have:=ah.out;have:=ai.out;omega
      case rel=>exact⟨_,_,rfl,H',⟨by have:=ah.out;have:=ai.out;omega⟩,HI2⟩
   (rw [if_neg c1] at H);(have t1:decide (a < ab)=false:=decide_eq_false c1);(have H':=Za.mk H);(clear H c1)
   go_wp2
   go_loopg [9] k1 (fun kq v9 w'=>∃(t:List (List (List Bool))) (more:Bool),v9= .bool more∧Za (Zw.l2 ac ab ae aa l1 (wrap64 ((l1.length:Int) + 1)) kq t more=some r)∧Za (kq≤k1)∧Za (TabI w w' gb #[.int .i64 ac,.int .i64 ab,.int .i64 ae,.slice ag aa.length af] v6 t))
   case atStart=>exact⟨_,true,rfl,H',⟨Nat.le_refl _⟩,HI⟩
   case round=>
    (clear H' HI hcz_1 ah);(obtain⟨t,more,rfl,HA,ah,HI⟩:=hrel)
    cases gk with
    |zero=>exact absurd HA.out (by simp [Zw.l2])
    |succ k2=>
     (have H:=HA.out);(clear HA);(simp only [Zw.l2] at H);(have hcz_3:wr.cell? ⟨gb,3,none⟩=some (.slice ag aa.length af):=(Zf HI.out.2.1 3).trans rfl)
     cases more with
     |false=>
      (rw [if_neg (by decide)] at H);(obtain rfl:=Option.some.inj H);(clear H)
      go_wp2
      go_ret
      exact⟨_,rfl,sliceS_R (Kd.S_R HI.out.1),HI.out.2.2.2⟩
     |true=>
      (rw [if_pos rfl] at H);(have H':=Za.mk H);(clear H)
      go_wp2
      go_loopg [9,48] k2 (fun kq v9 v48 w'=>∃(t:List (List (List Bool))) (more:Bool) (q:Int),v9= .bool more∧v48= .int .i64 q∧Za (Zw.l3 ac ab ae aa l1 (wrap64 ((l1.length:Int) + 1)) kq t more q=some r)∧Za (kq≤k2)∧Za (TabI w w' gb #[.int .i64 ac,.int .i64 ab,.int .i64 ae,.slice ag aa.length af] v6 t))
      case atStart=>exact⟨_,_,_,rfl,rfl,H',⟨Nat.le_refl _⟩,HI⟩
      case round=>
       (clear H' HI hcz_3);(obtain⟨t,more,q,rfl,rfl,HA,ai,HI⟩:=hrel)
       cases gk with
       |zero=>exact absurd HA.out (by simp [Zw.l3])
       |succ k3=>
        (have H:=HA.out);(clear HA);(simp only [Zw.l3] at H)
        by_cases b1:q < (aa.length:Int)
        rotate_left
        ·rw [if_neg b1] at H
         (have t1_:decide (q < (aa.length:Int))=false:=decide_eq_false b1);(have H':=Za.mk H);(clear H b1)
         go_wp2
         go_roundg k3
         case measure=>have:=ah.out;have:=ai.out;omega
         case rel=>exact⟨_,_,rfl,H',⟨by have:=ah.out;have:=ai.out;omega⟩,HI⟩
        rw [if_pos b1] at H
        by_cases b2:0≤q
        case neg=>rw [if_neg b2] at H;cases H
        (rw [if_pos b2] at H);(have H':=Za.mk H);(clear H);(have t1_:decide (q < (aa.length:Int))=true:=decide_eq_true b1);(obtain⟨ad,Ar,cr,e_,av,aj,hlr,hir⟩:=at_T41 ak.out q b2 b1)
        cases e_
        (replace av:=(HI.out.2.2.2.cell (World.block_lt_of_cell? w _ av)).trans av);(replace aj:=(HI.out.2.2.2.cell (World.block_lt_of_cell? w _ aj)).trans aj);(have HRr:=Za.mk hir);(have HCr:=Za.mk hlr);(clear hir hlr);(replace b1:=eq_true b1);(replace b2:=eq_true b2)
        go_wp2_with (first|((with_reducible refine Zs (N:=11) rfl ?_);refine Zx ?hg (N:=11) ?hd (cs:=#[.int .i64 0,.slice none 0 0]) (t:=41) ?hr ?_;(case hd=>rfl);(case hg=>rfl);(case hr=>first|(go_simp;done)|(go_simp;rfl));intro gr hg w4 hbox hb;have GR:=Za.mk (show w.heap.size≤gr by rw [hg];exact Zg HI.out.2.2.2);have BR:=Za.mk hbox;have HI4:=Za.mk (HI.out.below hb);have hcr_0:w4.cell? ⟨gr,0,none⟩=some (.int .i64 0):=(Zf BR.out 0).trans rfl;have hcr_1:w4.cell? ⟨gr,1,none⟩=some (.slice none 0 0):=(Zf BR.out 1).trans rfl;have hfr_0:=blk_frozen BR.out 0;have hfr_1:=blk_frozen BR.out 1;clear hg hbox hb))
        go_loopg [9,12] k3 (fun kq v9 v12 w'=>∃(t:List (List (List Bool))) (more:Bool) (i:Int),v9= .bool more∧v12= .int .i64 i∧Za (Zw.l4 ac ab ae aa l1 (wrap64 ((l1.length:Int) + 1)) kq t more q i=some r)∧Za (kq≤k3)∧Za (TabI w w' gb #[.int .i64 ac,.int .i64 ab,.int .i64 ae,.slice (some ad) aa.length af] v6 t)∧Za (w'.heap[gr]? =some (.cells #[.int .i64 (Zb aa q).f0,.slice Ar (Zb aa q).f1.length cr] 41 (0,0))))
        case atStart=>exact⟨_,_,_,rfl,rfl,H',⟨Nat.le_refl _⟩,⟨(HI4.out.box BR.out GR.out _ _).box (blk_set0 BR.out _) GR.out _ _⟩,⟨box_two BR.out _ _⟩⟩
        case round=>
         (clear H' HI HI4 BR av aj hcr_0 hcr_1 hfr_0 hfr_1);(obtain⟨t,more,i,rfl,rfl,HA,al,HI,BR⟩:=hrel)
         cases gk with
         |zero=>exact absurd HA.out (by simp [Zw.l4])
         |succ k4=>
          (have H:=HA.out);(clear HA);(simp only [Zw.l4] at H)
          by_cases b3:i < (wrap64 ((l1.length:Int) + 1))
          rotate_left
          ·rw [if_neg b3] at H
           (have t2_:decide (i < (wrap64 ((l1.length:Int) + 1)))=false:=decide_eq_false b3);(have H':=Za.mk H);(clear H b3)
           go_wp2
           go_roundg k4
           case measure=>have:=ah.out;have:=ai.out;have:=al.out;omega
           case rel=>exact⟨_,_,_,rfl,rfl,H',⟨by have:=ah.out;have:=ai.out;have:=al.out;omega⟩,HI⟩
          (rw [if_pos b3] at H);(have t2_:decide (i < (wrap64 ((l1.length:Int) + 1)))=true:=decide_eq_true b3);(have H':=Za.mk H);(clear H b3)
          go_wp2
          go_loopg [9,13] k4 (fun kq v9 v13 w'=>∃(t:List (List (List Bool))) (more:Bool) (j:Int),v9= .bool more∧v13= .int .i64 j∧Za (Zw.l5 ac ab ae aa l1 (wrap64 ((l1.length:Int) + 1)) kq t more q i j=some r)∧Za (kq≤k4)∧Za (TabI w w' gb #[.int .i64 ac,.int .i64 ab,.int .i64 ae,.slice (some ad) aa.length af] v6 t)∧Za (w'.heap[gr]? =some (.cells #[.int .i64 (Zb aa q).f0,.slice Ar (Zb aa q).f1.length cr] 41 (0,0))))
          case atStart=>exact⟨_,_,_,rfl,rfl,H',⟨Nat.le_refl _⟩,HI,BR⟩
          case round=>
           (clear H' HI BR);(obtain⟨t,more,j,rfl,rfl,HA,ap,HI,BR⟩:=hrel)
           cases gk with
           |zero=>exact absurd HA.out (by simp [Zw.l5])
           |succ k5=>
            (have H:=HA.out);(clear HA);(simp only [Zw.l5] at H)
            by_cases b4:j < (wrap64 ((l1.length:Int) + 1))
            rotate_left
            ·rw [if_neg b4] at H
             (have t3_:decide (j < (wrap64 ((l1.length:Int) + 1)))=false:=decide_eq_false b4);(have H':=Za.mk H);(clear H b4)
             go_wp2
             go_roundg k5
             case measure=>have:=ah.out;have:=ai.out;have:=al.out;have:=ap.out;omega
             case rel=>exact⟨_,_,_,rfl,rfl,H',⟨by have:=ah.out;have:=ai.out;have:=al.out;have:=ap.out;omega⟩,HI,BR⟩
            (rw [if_pos b4] at H);(have t3_:decide (j < (wrap64 ((l1.length:Int) + 1)))=true:=decide_eq_true b4)
            by_cases d0:0≤(Zb aa q).f0
            case neg=>rw [if_neg d0] at H;cases H
            rw [if_pos d0] at H
            by_cases d1:(Zb aa q).f0 < (t.length:Int)
            case neg=>rw [if_neg d1] at H;cases H
            rw [if_pos d1] at H
            by_cases d2:0≤i
            case neg=>rw [if_neg d2] at H;cases H
            rw [if_pos d2] at H
            by_cases d3:i < ((rd_L7 t (Zb aa q).f0).length:Int)
            case neg=>rw [if_neg d3] at H;cases H
            rw [if_pos d3] at H
            by_cases d4:0≤j
            case neg=>rw [if_neg d4] at H;cases H
            rw [if_pos d4] at H
            by_cases d5:j < ((rd_L6 (rd_L7 t (Zb aa q).f0) i).length:Int)
            case neg=>rw [if_neg d5] at H;cases H
            (rw [if_pos d5] at H);(obtain⟨g,cap,rfl⟩:=HI.out.form (by omega));(have D:=Za.mk (show(0≤(Zb aa q).f0∧(Zb aa q).f0 < (t.length:Int))∧(0≤i∧i < ((rd_L7 t (Zb aa q).f0).length:Int))∧0≤j∧j < ((rd_L6 (rd_L7 t (Zb aa q).f0) i).length:Int) from⟨⟨d0,d1⟩,⟨d2,d3⟩,d4,d5⟩));(obtain⟨g2,c2,g3,c3,aj,au,aq,hf3,_,_⟩:=HI.out.cell (Zb aa q).f0 i j d0 d1 d2 d3 d4 d5);(have aw:wr.cell? ⟨gr,0,none⟩=some (.int .i64 (Zb aa q).f0):=(Zf BR.out 0).trans rfl);(have ar:wr.cell? ⟨gr,1,none⟩=some (.slice Ar (Zb aa q).f1.length cr):=(Zf BR.out 1).trans rfl);(have hz0:wr.cell? ⟨gb,0,none⟩=some (.int .i64 ac):=(Zf HI.out.2.1 0).trans rfl);(have hz1:wr.cell? ⟨gb,1,none⟩=some (.int .i64 ab):=(Zf HI.out.2.1 1).trans rfl);(have hz2:wr.cell? ⟨gb,2,none⟩=some (.int .i64 ae):=(Zf HI.out.2.1 2).trans rfl);(have hz3:wr.cell? ⟨gb,3,none⟩=some (.slice (some ad) aa.length af):=(Zf HI.out.2.1 3).trans rfl);(replace d0:=eq_true d0);(replace d1:=eq_true d1);(replace d2:=eq_true d2);(replace d3:=eq_true d3);(replace d4:=eq_true d4);(replace d5:=eq_true d5)
            by_cases b5:rdOf false (rd_L6 (rd_L7 t (Zb aa q).f0) i) j=true
            ·rw [if_pos b5] at H
             (rw [b5] at aq);(have H':=Za.mk H);(clear H b4 b5)
             go_wp2
             go_roundg k5
             case measure=>have:=ah.out;have:=ai.out;have:=al.out;have:=ap.out;omega
             case rel=>exact⟨_,_,_,rfl,rfl,H',⟨by have:=ah.out;have:=ai.out;have:=al.out;have:=ap.out;omega⟩,HI,BR⟩
            (rw [if_neg b5] at H);(rw [Bool.not_eq_true] at b5);(rw [b5] at aq);(replace H:=Option.bind_eq_some_iff.mp H);(obtain⟨b,A,H⟩:=H);(have A_:=Za.mk A);(clear A)
            cases b with
            |true=>
             (rw [if_pos rfl] at H);(have H':=Za.mk H);(clear H b4 b5)
             go_wp2_with (first|(go_at_call 29;(with_reducible refine(Zr.calls k5 ac ab ae _ _ aa _ _ l1 _ _ t _ _ (Zb aa q).f1 i j _ _ ?side1 ?side2 ?side3 ?side4 ?side5 ?side6 ?side7 ?side8 A_.out).mono ?_);(case side1=>exact Kd.C_below ak.out HI.out.2.2.2);(case side2=>exact ao.out);(case side3=>exact Kd.C_below ay.out HI.out.2.2.2);(case side4=>exact az.out);(case side5=>exact sliceS_C (Kd.S_reads' HI.out.1).2.2);(case side6=>exact(Kd.S_reads' HI.out.1).2.1);(case side7=>exact Kd.C_below HRr.out HI.out.2.2.2);(case side8=>exact HCr.out);rintro e w2 ⟨rfl,hb⟩;have HI2:=Za.mk (HI.out.below hb);have BR2:=Za.mk (Zj BR.out hb);clear hb aj au aq hf3 aw ar hz0 hz1 hz2 hz3;obtain⟨g2_,c2_,g3_,c3_,aj,au,aq,hf3,⟨cl,htp⟩,hst⟩:=HI2.out.cell (Zb aa q).f0 i j D.out.1.1 D.out.1.2 D.out.2.1.1 D.out.2.1.2 D.out.2.2.1 D.out.2.2.2;have HT:=Za.mk htp;have HST:=Za.mk (hst true);clear htp hst;have aw:w2.cell? ⟨gr,0,none⟩=some (.int .i64 (Zb aa q).f0):=(Zf BR2.out 0).trans rfl))
             go_roundg k5
             case measure=>have:=ah.out;have:=ai.out;have:=al.out;have:=ap.out;omega
             case rel=>exact⟨_,_,_,rfl,rfl,H',⟨by have:=ah.out;have:=ai.out;have:=al.out;have:=ap.out;omega⟩,HST,⟨box_set BR2.out (by decide) HT.out _ _⟩⟩
            |false=>
             (rw [if_neg (by decide)] at H);(have H':=Za.mk H);(clear H b4 b5)
             go_wp2_with (first|(go_at_call 29;(with_reducible refine(Zr.calls k5 ac ab ae _ _ aa _ _ l1 _ _ t _ _ (Zb aa q).f1 i j _ _ ?side1 ?side2 ?side3 ?side4 ?side5 ?side6 ?side7 ?side8 A_.out).mono ?_);(case side1=>exact Kd.C_below ak.out HI.out.2.2.2);(case side2=>exact ao.out);(case side3=>exact Kd.C_below ay.out HI.out.2.2.2);(case side4=>exact az.out);(case side5=>exact sliceS_C (Kd.S_reads' HI.out.1).2.2);(case side6=>exact(Kd.S_reads' HI.out.1).2.1);(case side7=>exact Kd.C_below HRr.out HI.out.2.2.2);(case side8=>exact HCr.out);rintro e w2 ⟨rfl,hb⟩;have HI2:=Za.mk (HI.out.below hb);have BR2:=Za.mk (Zj BR.out hb);clear hb aj au aq hf3 aw ar hz0 hz1 hz2 hz3;obtain⟨g2_,c2_,g3_,c3_,aj,au,aq,hf3,⟨cl,htp⟩,hst⟩:=HI2.out.cell (Zb aa q).f0 i j D.out.1.1 D.out.1.2 D.out.2.1.1 D.out.2.1.2 D.out.2.2.1 D.out.2.2.2;have HT:=Za.mk htp;have HST:=Za.mk (hst true);clear htp hst;have aw:w2.cell? ⟨gr,0,none⟩=some (.int .i64 (Zb aa q).f0):=(Zf BR2.out 0).trans rfl))
             go_roundg k5
             case measure=>have:=ah.out;have:=ai.out;have:=al.out;have:=ap.out;omega
             case rel=>exact⟨_,_,_,rfl,rfl,H',⟨by have:=ah.out;have:=ai.out;have:=al.out;have:=ap.out;omega⟩,HI2,BR2⟩
def Zh2.f (k:Nat) (a0_0:Int) (a0_1:Int) (a0_2:Int) (l0_3:List S41) (l1:List Int):Option (Bool):=(Zw.f k a0_0 a0_1 a0_2 l0_3 l1).bind fun t=>(if 0≤a0_2 then(if a0_2 < (t.length:Int) then(if 0 < ((rd_L7 t a0_2).length:Int) then(if(l1.length:Int) < ((rd_L6 (rd_L7 t a0_2) 0).length:Int) then(some (rdOf false (rd_L6 (rd_L7 t a0_2) 0) (l1.length:Int))) else(none)) else(none)) else(none)) else(none))
theorem Zh2.mono: ∀a0 a1 a2 a3 a4 k,LeO (Zh2.f k a0 a1 a2 a3 a4) (Zh2.f (k + 1) a0 a1 a2 a3 a4):=by
  intro a0 a1 a2 a3 a4 k
  unfold Zh2.f
  exact LeO.bind (Zw.mono _ _ _ _ _ _) (fun _=>LeO.refl _)
theorem Zh2.calls (k : Nat) (ae : Int) (af : Int) (aa : Int) (ag : Option Addr) (ah : Nat) (ab : List S41) (A1 : Option Addr) (c1 : Nat) (l1 : List Int) (r : Bool) (w : World) (ai : Kd.C k41 w ag ab.length ab) (aj : ab.length ≤ ah) (ap : Kd.C (Kd.int .i64) w A1 l1.length l1) (an : l1.length ≤ c1) (h : Zh2.f k ae af aa ab l1 = some r) :
    Calls Try.prog 7 #[.agg #[.int .i64 ae,.int .i64 af,.int .i64 aa,.slice ag ab.length ah],.slice A1 l1.length c1] w fun e w'=>e= .returned (.bool r)∧Below w.heap.size w w':=by
 (have av:=Try.underlying24);(have ak:=Za.mk ai);(have al:=Za.mk aj);(clear ai aj);(have aw:=Za.mk ap);(have ax:=Za.mk an);(clear ap an);(unfold Zh2.f at h);(obtain⟨t,a,h'⟩:=Option.bind_eq_some_iff.mp h);(clear h);(have h:=h');(clear h');(have A:=Za.mk a);(clear a)
 by_cases d1:0≤aa
 case neg=>rw [if_neg d1] at h;cases h
 rw [if_pos d1] at h
 by_cases d2:aa < (t.length:Int)
 case neg=>rw [if_neg d2] at h;cases h
 rw [if_pos d2] at h
 by_cases d3:0 < ((rd_L7 t aa).length:Int)
 case neg=>rw [if_neg d3] at h;cases h
 rw [if_pos d3] at h
 by_cases d4:(l1.length:Int) < ((rd_L6 (rd_L7 t aa) 0).length:Int)
 case neg=>rw [if_neg d4] at h;cases h
 (rw [if_pos d4] at h);(obtain rfl:=Option.some.inj h);(clear h);(have D:=Za.mk (show 0≤aa∧aa < (t.length:Int)∧(0:Int) < ((rd_L7 t aa).length:Int)∧(l1.length:Int) < ((rd_L6 (rd_L7 t aa) 0).length:Int) from⟨d1,d2,d3,d4⟩));(replace d1:=eq_true d1);(replace d2:=eq_true d2);(have d3b:decide (0 < (rd_L7 t aa).length)=true:=decide_eq_true (by omega));(have d3c:decide ((0:Int) < ((rd_L7 t aa).length:Int))=true:=decide_eq_true d3);(have d4b:decide (l1.length < (rd_L6 (rd_L7 t aa) 0).length)=true:=decide_eq_true (Int.ofNat_lt.mp d4));(have d4c:decide ((l1.length:Int) < ((rd_L6 (rd_L7 t aa) 0).length:Int))=true:=decide_eq_true d4);(have d3n:=eq_true (show 0 < (rd_L7 t aa).length by omega));(have d4n:=eq_true (Int.ofNat_lt.mp d4));(clear d3 d4)
 go_enter Try.func7,Try.ntmps7
 go_wp2_with (first|((with_reducible refine Zs (N:=2) rfl ?_);refine Zx ?hg (N:=2) ?hd (cs:=#[.int .i64 ae,.int .i64 af,.int .i64 aa,.slice ag ab.length ah]) (t:=24) ?hr ?_;(case hd=>rfl);(case hg=>rfl);(case hr=>first|(go_simp;done)|(go_simp;rfl));intro gb hg w1 hbox hb;have BK:=Za.mk hbox;have HB:=Za.mk hb;clear hg hbox hb))
 (have am:=Za.mk (Zi BK.out));(have ao:=Za.mk (Zz1 HB.out));(clear BK HB);(have ay:=(Zf am.out 0).trans rfl);(have an:=(Zf am.out 1).trans rfl);(have az:=(Zf am.out 2).trans rfl);(have ba:=(Zf am.out 3).trans rfl)
 refine start_ (n:=14) (S:=fun w'=>w'.cell? ⟨gb,0,none⟩=some (.int .i64 ae)∧w'.cell? ⟨gb,1,none⟩=some (.int .i64 af)∧w'.cell? ⟨gb,2,none⟩=some (.int .i64 aa)∧w'.cell? ⟨gb,3,none⟩=some (.slice ag ab.length ah)) (ds:=[]) #[false,false,false,false,false,false,false,false,false,false,false,false,false,false] (by kernel_rfl) rfl rfl ⟨ay,an,az,ba⟩ (fun hHeld=>?_)
 refine zP 1 (some 6) (zt 14 2) (by kernel_rfl) ?_
 refine zP 3 (some 8) (zt 14 10) (by kernel_rfl) ?_
 refine zP 9 (some 14) (zt 14 522) (by kernel_rfl) ?_
 refine zP 10 (some 15) (zt 14 1546) (by kernel_rfl) ?_
 refine take_ (i:=0) (N:=some 5) (v:=?_) (a':=?_) #[true,true,false,true,false,false,false,false,false,true,true,false,false,false] rfl rfl (by kernel_rfl) (fun _ _ _ h=>h) (Or.inl ⟨by rfl,?_⟩) hHeld ?_ ?_
 rotate_left
 ·rintro w' ⟨s0,s1,s2,s3⟩
  go_simp
  with_reducible rfl
 rotate_left
 ·simp only [Act.put,zp1,zp2,zp3,Zc,Zd]
  rfl
 refine take_ (i:=4) (N:=some 9) (v:=?_) (a':=?_) #[true,true,false,true,true,false,false,false,false,true,true,false,false,false] rfl rfl (by kernel_rfl) (fun _ _ _ h=>h) (Or.inl ⟨by rfl,?_⟩) hHeld ?_ ?_
 rotate_left
 ·rintro w' ⟨s0,s1,s2,s3⟩
  go_simp
  with_reducible rfl
 rotate_left
 ·simp only [Act.put,zp1,zp2,zp3,Zc,Zd]
  rfl
 refine one_ (i:=2) (N:=some 7) #[true,true,true,true,true,false,false,false,false,true,true,false,false,false] rfl rfl (by kernel_rfl) (by decide) (fun K hK=>?_)
 refine goes_ Try.func17 (by kernel_rfl) rfl #[.agg #[.int .i64 ae,.int .i64 af,.int .i64 aa,.slice ag ab.length ah],.slice A1 l1.length c1] (by rfl) rfl rfl (by simp only [List.map_toArray,List.map_cons,List.map_nil];rfl) ?_
 with_reducible refine(Zw.calls k ae af aa _ _ ab _ _ l1 t _ ?side1 ?side2 ?side3 ?side4 A.out).mono ?_
 case side1=>exact Kd.C_below ak.out ao.out
 case side2=>exact al.out
 case side3=>exact Kd.C_below aw.out ao.out
 case side4=>exact ax.out
 rintro e w3 ⟨v0,rfl,ho,hb⟩
 refine⟨_,rfl,?_⟩
 (obtain⟨At,ct,rfl⟩:=Kd.R_slice ho);(obtain⟨ad,A2,c2,e1,bd,_,aq⟩:=at_L7 (Kd.R_reads' ho).2.2 aa D.out.1 D.out.2.1);(cases e1);(obtain⟨be,A3,c3,e2,ar,_,au⟩:=at_L6 aq 0 (Int.le_refl _) D.out.2.2.1);(cases e2);(rw [show((0:Int)).toNat=0 from rfl] at ar);(rw [Addr.add_zero'] at ar);(obtain⟨bf,e3,bb⟩:=Kd.at_bool au (l1.length:Int) (by omega) D.out.2.2.2);(cases e3);(rw [Int.toNat_natCast] at bb);(have ac:=Za.mk (Zj am.out hb));(have bc:=Za.mk (Zh ao.out hb));(clear ho hb aq au)
 refine hK.out _ _ ⟨(Zf ac.out 0).trans rfl,(Zf ac.out 1).trans rfl,(Zf ac.out 2).trans rfl,(Zf ac.out 3).trans rfl⟩ (fun hHeld=>?_)
 clear hK K
 refine norm_ (a':=?_) ?_ ?_
 rotate_left
 ·show Act.put _ (some 7) _=_
  simp only [Act.put,zp1,zp2,zp3,Zc,Zd]
  rfl
 refine zP 5 (some 10) (zt 14 1599) (by kernel_rfl) ?_
 refine one_ (i:=6) (N:=some 11) #[true,true,true,true,true,true,true,false,false,true,true,false,false,false] rfl rfl (by kernel_rfl) (by decide) (fun K hK=>?_)
 refine value_ (w1:=?_) (v:=?_) (by rfl) rfl ?_ ?_
 rotate_left 2
 ·go_simp
  constructor
  ·rfl
  rfl
 refine hK.out _ _ ⟨(Zf ac.out 0).trans rfl,(Zf ac.out 1).trans rfl,(Zf ac.out 2).trans rfl,(Zf ac.out 3).trans rfl⟩ (fun hHeld=>?_)
 clear hK K
 refine norm_ (a':=?_) ?_ ?_
 rotate_left
 ·show Act.put _ (some 11) _=_
  simp only [Act.put,zp1,zp2,zp3,Zc,Zd]
  rfl
 refine zP 7 (some 12) (zt 14 1791) (by kernel_rfl) ?_
 refine one_ (i:=8) (N:=some 13) #[true,true,true,true,true,true,true,true,true,true,true,false,false,false] rfl rfl (by kernel_rfl) (by decide) (fun K hK=>?_)
 refine value_ (w1:=?_) (v:=?_) (by rfl) rfl ?_ ?_
 rotate_left 2
 ·go_simp
  constructor
  ·rfl
  rfl
 refine hK.out _ _ ⟨(Zf ac.out 0).trans rfl,(Zf ac.out 1).trans rfl,(Zf ac.out 2).trans rfl,(Zf ac.out 3).trans rfl⟩ (fun hHeld=>?_)
 clear hK K
 refine norm_ (a':=?_) ?_ ?_
 rotate_left
 ·show Act.put _ (some 13) _=_
  simp only [Act.put,zp1,zp2,zp3,Zc,Zd]
  rfl
 refine zP 11 (some 16) (zt 14 4095) (by kernel_rfl) ?_
 refine one_ (i:=12) (N:=some 17) #[true,true,true,true,true,true,true,true,true,true,true,true,true,false] rfl rfl (by kernel_rfl) (by decide) (fun K hK=>?_)
 refine value_ (w1:=?_) (v:=?_) (by rfl) rfl ?_ ?_
 rotate_left 2
 ·go_simp
  constructor
  ·rfl
  rfl
 refine hK.out _ _ ⟨(Zf ac.out 0).trans rfl,(Zf ac.out 1).trans rfl,(Zf ac.out 2).trans rfl,(Zf ac.out 3).trans rfl⟩ (fun hHeld=>?_)
 clear hK K
 refine norm_ (a':=?_) ?_ ?_
 rotate_left
 ·show Act.put _ (some 17) _=_
  simp only [Act.put,zp1,zp2,zp3,Zc,Zd]
  rfl
 refine zP 13 (some 4) (zt 14 16383) (by kernel_rfl) ?_
 refine done_ (by kernel_rfl) ?_
 go_wp2
 go_ret
 exact⟨rfl,bc.out⟩
end Go.Proofs.Ytbifocddbgleeaa.PAheadParses
