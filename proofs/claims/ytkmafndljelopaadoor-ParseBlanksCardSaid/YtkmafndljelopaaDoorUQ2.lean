/- A part of this claim. -/
import Derived.Test.YtkmafndljelopaaDoorUQ0
namespace Go.Proofs.YtkmafndljelopaaDoor.Q
open Go.RowKit Go.Proofs.YtkmafndljelopaaDoorW.PrintWords Go.Proofs.YtkmafndljelopaaDoorW.PrintLast Go.Proofs.YtkmafndljelopaaDoorW.PrintMore
attribute [local go_sem] max2_int min2_int max_two min_two max_three min_three max_four min_four
set_option linter.unusedVariables false
set_option linter.unusedSimpArgs false
mutual
def deadboltlaw6_size.l0:Nat→List (S105)→Int→Int→Int→Option (Int)
 |0,_,_,_,_=>none
 |k+1,x0,x1,x5,x6=>if x6<(x0.length:Int) then (deadboltlaw6_size.j1 k x0 x1 x5 x6 (decide (x5≤40))) else (deadboltlaw6_size.j1 k x0 x1 x5 x6 false)
def deadboltlaw6_size.j1:Nat→List (S105)→Int→Int→Int→Bool→Option (Int)
 |0,_,_,_,_,_=>none
 |k+1,x0,x1,x5,x6,x16=>if x16=true then (if 0≤x6 then (if x6<(x0.length:Int) then ((deadboltlaw6_size.f k ((rd_T105 x0 x6).f2) (wrap64 (x1+1))).bind fun t192=>((deadboltlaw6_size.f k ((rd_T105 x0 x6).f3) (wrap64 (x1+1))).bind fun t194=>(deadboltlaw6_size.l0 k x0 x1 (wrap64 ((wrap64 ((wrap64 (x5+1))+t192))+t194)) (wrap64 (x6+1))))) else (none)) else (none)) else (some x5)
def deadboltlaw6_size.f:Nat→List (S105)→Int→Option (Int)
 |0,_,_=>none
 |k+1,l0,a1=>if a1>12 then (some 1000) else (deadboltlaw6_size.l0 k l0 a1 0 0)
end
theorem deadboltlaw6_size.mono_l: ∀ k,(∀ y0 y1,LeO (deadboltlaw6_size.f k y0 y1) (deadboltlaw6_size.f (k+1) y0 y1))∧(∀ y0 y1 y2 y3,LeO (deadboltlaw6_size.l0 k y0 y1 y2 y3) (deadboltlaw6_size.l0 (k+1) y0 y1 y2 y3))∧(∀ y0 y1 y2 y3 y4,LeO (deadboltlaw6_size.j1 k y0 y1 y2 y3 y4) (deadboltlaw6_size.j1 (k+1) y0 y1 y2 y3 y4))
 |0=>⟨fun _ _ r h=>by simp [deadboltlaw6_size.f] at h,fun _ _ _ _ r h=>by simp [deadboltlaw6_size.l0] at h,fun _ _ _ _ _ r h=>by simp [deadboltlaw6_size.j1] at h⟩
 |k+1=>by
  obtain ⟨ih0,ih1,ih2⟩:=deadboltlaw6_size.mono_l k;refine ⟨?_,?_,?_⟩
  ·intro y0 y1;unfold deadboltlaw6_size.f
   repeat' first
   |(with_reducible exact ih0 _ _)
   |(with_reducible exact ih1 _ _ _ _)
   |(with_reducible exact ih2 _ _ _ _ _)
   |(with_reducible exact LeO.refl _)
   |(with_reducible exact LeO.none _)
   |(with_reducible refine LeO.ite ?_ ?_)
   |(with_reducible refine LeO.bind ?_ (fun _=>?_))
   |exact ih0 _ _
   |exact ih1 _ _ _ _
   |exact ih2 _ _ _ _ _
   |exact LeO.none _
   |refine LeO.ite ?_ ?_
   |refine LeO.bind ?_ (fun _=>?_)
  ·intro y0 y1 y2 y3;unfold deadboltlaw6_size.l0
   repeat' first
   |(with_reducible exact ih0 _ _)
   |(with_reducible exact ih1 _ _ _ _)
   |(with_reducible exact ih2 _ _ _ _ _)
   |(with_reducible exact LeO.refl _)
   |(with_reducible exact LeO.none _)
   |(with_reducible refine LeO.ite ?_ ?_)
   |(with_reducible refine LeO.bind ?_ (fun _=>?_))
   |exact ih0 _ _
   |exact ih1 _ _ _ _
   |exact ih2 _ _ _ _ _
   |exact LeO.none _
   |refine LeO.ite ?_ ?_
   |refine LeO.bind ?_ (fun _=>?_)
  ·intro y0 y1 y2 y3 y4;unfold deadboltlaw6_size.j1
   repeat' first
   |(with_reducible exact ih0 _ _)
   |(with_reducible exact ih1 _ _ _ _)
   |(with_reducible exact ih2 _ _ _ _ _)
   |(with_reducible exact LeO.refl _)
   |(with_reducible exact LeO.none _)
   |(with_reducible refine LeO.ite ?_ ?_)
   |(with_reducible refine LeO.bind ?_ (fun _=>?_))
   |exact ih0 _ _
   |exact ih1 _ _ _ _
   |exact ih2 _ _ _ _ _
   |exact LeO.none _
   |refine LeO.ite ?_ ?_
   |refine LeO.bind ?_ (fun _=>?_)
theorem deadboltlaw6_size.mono: ∀ a0 a1 k,LeO (deadboltlaw6_size.f k a0 a1) (deadboltlaw6_size.f (k+1) a0 a1):=by
 intro a0 a1 k;obtain ⟨ih0,ih1,ih2⟩:=deadboltlaw6_size.mono_l k;exact ih0 a0 a1
def deadboltlaw6_size.T7:Bool×List (List Nat×List Nat):=(true,[([],[]),([0],[0]),([],[]),([],[]),([2,3],[2,3]),([4],[4]),([5],[5]),([],[]),([7],[7]),([6,8],[6,8]),([1,9],[1,9]),([],[]),([],[]),([11,12],[11,12]),([13],[13]),([14],[14]),([],[]),([16],[16]),([15,17,9],[15,17]),([10,18],[10,18]),([19,18,0,1,2,3,4,5,6,7,8,9,10,11,12,13,14,15,16,17,18,19],[0,19])])
def deadboltlaw6_size.B7:List Nat:= [0,1,0,0,12,28,60,0,128,508,1023,0,0,6144,14336,30720,0,65536,261116,524287,1048575]
theorem deadboltlaw6_size.tab7:rtab .any (opsOf Tryd.f28 7)=deadboltlaw6_size.T7:=by kernel_rfl
theorem deadboltlaw6_size.bits7:waitsOk deadboltlaw6_size.T7.2 deadboltlaw6_size.B7=true:=by kernel_rfl
set_option maxHeartbeats 8000000 in
set_option maxRecDepth 100000 in
theorem deadboltlaw6_size.calls (k:Nat): ∀ (A0:Option Addr) (c0:Nat) (l0:List (S105)) (a1:Int) (r:Int) (w:World) (hr0:Kd.C k105 w A0 l0.length l0) (hc0:l0.length≤c0) (h:deadboltlaw6_size.f k l0 a1=some r),
  Calls Tryd.prog 28 #[.slice A0 l0.length c0,.int .i64 a1] w fun e w'=>e= .returned (.int .i64 r)∧Below w.heap.size w w':=by
 induction k using Nat.strongRecOn with
 |_ k ih=>
 intro A0 c0 l0 a1 r w hr0 hc0 h;cases k with
 |zero=>exact absurd h (by simp [deadboltlaw6_size.f])
 |succ k=>
 simp only [deadboltlaw6_size.f] at h;have HR0:=Aside0.mk hr0;have HC0:=Aside0.mk hc0;clear hr0 hc0;have HB:=Aside0.mk (Below.refl w.heap.size w);have H:(if a1>12 then (some 1000) else (deadboltlaw6_size.l0 k l0 a1 0 0))=some r:=h;clear h;by_cases c3:a1>12
 ·rw [if_pos c3] at H;have c3b0:decide (12<a1)=true:=decide_eq_true c3;clear c3;obtain rfl:=Option.some.inj H;go_enter Tryd.func28,Tryd.ntmps28
  go_wp2
  go_ret
  exact ⟨by first|rfl|(simp [errW_none,errW_some]<;>rfl)|(simp [*,errW_none,errW_some]<;>rfl),by repeat (first|(with_reducible first|exact HB.out|apply below_alloc|apply pw_below_drewN|apply below_drew1)|exact HB.out)⟩
 ·rw [if_neg c3] at H;have c3b0:decide (12<a1)=false:=decide_eq_false c3;clear c3;have H':=Aside0.mk H;clear H;go_enter Tryd.func28,Tryd.ntmps28
  go_wp2
  go_loopg [5,6] k (fun kq v5 v6 w'=>∃ (x5_1:Int) (x6_1:Int),v5= .int .i64 x5_1∧v6= .int .i64 x6_1∧Aside0 (deadboltlaw6_size.l0 kq l0 a1 x5_1 x6_1=some r)∧Aside0 (kq≤k)∧Aside0 (Below w.heap.size w w'))
  case atStart=>exact ⟨(0),(0),(by first|rfl|(simp;done)|(simp [*];done)),(by first|rfl|(simp;done)|(simp [*];done)),H',⟨Nat.le_refl _⟩,⟨by repeat (first|(with_reducible first|exact HB.out|apply below_alloc|apply pw_below_drewN|apply below_drew1)|exact HB.out)⟩⟩
  case round=>
   clear H';try clear c2
   try clear p2
   try clear c3
   try clear c3b0
   obtain ⟨x5_1,x6_1,rfl,rfl,HA,HK1,HB⟩:=hrel;cases gk with
   |zero=>exact absurd HA.out (by simp [deadboltlaw6_size.l0])
   |succ k1=>
    have H:=HA.out;clear HA;simp only [deadboltlaw6_size.l0] at H;have HC4:=Aside0.mk H;clear H;go_upto_region 5 with (fail)
    go_cut [16] (fun v16 wc=>∃ (kq:Nat) (x16_3:Bool),v16= .bool x16_3∧Aside0 (deadboltlaw6_size.j1 kq l0 a1 x5_1 x6_1 x16_3=some r)∧Aside0 (kq≤k1)∧Aside0 (Below w.heap.size w wc))
    case first=>
     have H:=HC4.out;clear HC4;by_cases c5:x6_1<(l0.length:Int)
     ·rw [if_pos c5] at H;have c5b0:decide (x6_1<(l0.length:Int))=true:=decide_eq_true c5;clear c5;(first|rw [c5b0]|(simp only [i64_w,i32_w];rw [c5b0])|skip)
      have H':=Aside0.mk H;clear H;go_wp2
      go_meet
      case rel=>exact ⟨_,(decide (x5_1≤40)),(by first|rfl|(simp;done)|(simp [*];done)),H',⟨by have:=HK1.out;first|omega|exact Nat.le_refl _⟩,⟨by repeat (first|(with_reducible first|exact HB.out|apply below_alloc|apply pw_below_drewN|apply below_drew1)|exact HB.out)⟩⟩
     ·rw [if_neg c5] at H;have c5b0:decide (x6_1<(l0.length:Int))=false:=decide_eq_false c5;clear c5;(first|rw [c5b0]|(simp only [i64_w,i32_w];rw [c5b0])|skip)
      have H':=Aside0.mk H;clear H;go_wp2
      go_meet
      case rel=>exact ⟨_,(false),(by first|rfl|(simp;done)|(simp [*];done)),H',⟨by have:=HK1.out;first|omega|exact Nat.le_refl _⟩,⟨by repeat (first|(with_reducible first|exact HB.out|apply below_alloc|apply pw_below_drewN|apply below_drew1)|exact HB.out)⟩⟩
    case rest=>
     clear HC4;try clear c2
     try clear p2
     try clear c3
     try clear c3b0
     try clear c5
     try clear c5b0
     try clear p2
     obtain ⟨kq,x16_3,rfl,HA,HJ3,HB⟩:=hcut;cases kq with
     |zero=>exact absurd HA.out (by simp [deadboltlaw6_size.j1])
     |succ kj3=>
      have H:=HA.out;clear HA;simp only [deadboltlaw6_size.j1] at H;by_cases c6:x16_3=true
      ·subst c6;have H1:(if 0≤x6_1 then (if x6_1<(l0.length:Int) then ((deadboltlaw6_size.f kj3 ((rd_T105 l0 x6_1).f2) (wrap64 (a1+1))).bind fun t192=>((deadboltlaw6_size.f kj3 ((rd_T105 l0 x6_1).f3) (wrap64 (a1+1))).bind fun t194=>(deadboltlaw6_size.l0 kj3 l0 a1 (wrap64 ((wrap64 ((wrap64 (x5_1+1))+t192))+t194)) (wrap64 (x6_1+1))))) else (none)) else (none))=some r:=by rw [if_pos rfl] at H;exact H
       clear H;have H:=H1;clear H1;by_cases c7:0≤x6_1
       ·rw [if_pos c7] at H;have c7b0:decide (0≤x6_1)=true:=decide_eq_true c7;clear c7;by_cases c8:x6_1<(l0.length:Int)
        ·rw [if_pos c8] at H;have c8b0:decide (x6_1<(l0.length:Int))=true:=decide_eq_true c8;clear c8;replace H:=Option.bind_eq_some_iff.mp H;obtain ⟨t192,A90,H⟩:=H;replace H:((deadboltlaw6_size.f kj3 ((rd_T105 l0 x6_1).f3) (wrap64 (a1+1))).bind fun t194=>(deadboltlaw6_size.l0 kj3 l0 a1 (wrap64 ((wrap64 ((wrap64 (x5_1+1))+t192))+t194)) (wrap64 (x6_1+1))))=some r:=H;have A9:=Aside0.mk A90;clear A90;replace H:=Option.bind_eq_some_iff.mp H;obtain ⟨t194,A100,H⟩:=H;replace H:(deadboltlaw6_size.l0 kj3 l0 a1 (wrap64 ((wrap64 ((wrap64 (x5_1+1))+t192))+t194)) (wrap64 (x6_1+1)))=some r:=H;have A10:=Aside0.mk A100;clear A100;have H':=Aside0.mk H;clear H;try go_wp2
         have n0_:=Aside0.mk (below_drew1 HB.out);clear HB;have HB:=n0_;clear n0_;have p191:0≤(x6_1:Int):=of_decide_eq_true (by assumption);have q191:x6_1<(l0.length:Int):=of_decide_eq_true (by assumption);obtain ⟨ad191,A191_2,c191_2,A191_3,c191_3,e191,hx191_0,hx191_1,hx191_2,hx191_3,hl191_2,hi191_2,hl191_3,hi191_3⟩:=at_T105 HR0.out x6_1 p191 q191;have hw191_3:=hx191_3;have hw191_2:=hx191_2;have hw191_1:=hx191_1;have hw191_0:=hx191_0;cases e191
         replace hx191_0:=(HB.out.cell (World.block_lt_of_cell? w _ hx191_0)).trans hx191_0;replace hx191_1:=(HB.out.cell (World.block_lt_of_cell? w _ hx191_1)).trans hx191_1;replace hx191_2:=(HB.out.cell (World.block_lt_of_cell? w _ hx191_2)).trans hx191_2;replace hx191_3:=(HB.out.cell (World.block_lt_of_cell? w _ hx191_3)).trans hx191_3;have HR191_2:=Aside0.mk hi191_2;have HC191_2:=Aside0.mk hl191_2;clear hi191_2 hl191_2;have HR191_3:=Aside0.mk hi191_3;have HC191_3:=Aside0.mk hl191_3;clear hi191_3 hl191_3;replace p191:=eq_true p191;replace q191:=eq_true q191;have p193:0≤(x6_1:Int):=of_decide_eq_true (by assumption);have q193:x6_1<(l0.length:Int):=of_decide_eq_true (by assumption);obtain ⟨ad193,A193_2,c193_2,A193_3,c193_3,e193,hx193_0,hx193_1,hx193_2,hx193_3,hl193_2,hi193_2,hl193_3,hi193_3⟩:=at_T105 HR0.out x6_1 p193 q193;have hw193_3:=hx193_3;have hw193_2:=hx193_2;have hw193_1:=hx193_1;have hw193_0:=hx193_0;obtain rfl:ad191=ad193:=(by injection e193);replace hx193_0:=(HB.out.cell (World.block_lt_of_cell? w _ hx193_0)).trans hx193_0;replace hx193_1:=(HB.out.cell (World.block_lt_of_cell? w _ hx193_1)).trans hx193_1;replace hx193_2:=(HB.out.cell (World.block_lt_of_cell? w _ hx193_2)).trans hx193_2;replace hx193_3:=(HB.out.cell (World.block_lt_of_cell? w _ hx193_3)).trans hx193_3;have HR193_2:=Aside0.mk hi193_2;have HC193_2:=Aside0.mk hl193_2;clear hi193_2 hl193_2;have HR193_3:=Aside0.mk hi193_3;have HC193_3:=Aside0.mk hl193_3;clear hi193_3 hl193_3;replace p193:=eq_true p193;replace q193:=eq_true q193;have ea_:=Option.some.inj (hx191_2.symm.trans hx193_2);injection ea_ with ea_ en_ ec_
         subst ea_;subst ec_;clear en_;have ea_:=Option.some.inj (hx191_3.symm.trans hx193_3);injection ea_ with ea_ en_ ec_
         subst ea_;subst ec_;clear en_;refine start_ (n:=21) (S:=fun w'=>w'.cell? (ad191.add ((x6_1).toNat * 4))=some (.int .i64 ((rd_T105 l0 x6_1).f0))∧w'.cell? ⟨(ad191.add ((x6_1).toNat * 4)).block,(ad191.add ((x6_1).toNat * 4)).off+1,none⟩=some (.int .i64 ((rd_T105 l0 x6_1).f1))∧w'.cell? ⟨(ad191.add ((x6_1).toNat * 4)).block,(ad191.add ((x6_1).toNat * 4)).off+2,none⟩=some (.slice A191_2 ((rd_T105 l0 x6_1).f2).length c191_2)∧w'.cell? ⟨(ad191.add ((x6_1).toNat * 4)).block,(ad191.add ((x6_1).toNat * 4)).off+3,none⟩=some (.slice A191_3 ((rd_T105 l0 x6_1).f3).length c191_3)∧w'.cell? (ad191.add ((x6_1).toNat * 4))=some (.int .i64 ((rd_T105 l0 x6_1).f0))∧w'.cell? ⟨(ad191.add ((x6_1).toNat * 4)).block,(ad191.add ((x6_1).toNat * 4)).off+1,none⟩=some (.int .i64 ((rd_T105 l0 x6_1).f1))∧w'.cell? ⟨(ad191.add ((x6_1).toNat * 4)).block,(ad191.add ((x6_1).toNat * 4)).off+2,none⟩=some (.slice A191_2 ((rd_T105 l0 x6_1).f2).length c191_2)∧w'.cell? ⟨(ad191.add ((x6_1).toNat * 4)).block,(ad191.add ((x6_1).toNat * 4)).off+3,none⟩=some (.slice A191_3 ((rd_T105 l0 x6_1).f3).length c191_3)) (ds:=[]) #[false,false,false,false,false,false,false,false,false,false,false,false,false,false,false,false,false,false,false,false,false] (by kernel_rfl) rfl rfl ⟨((HB.out.cell (World.block_lt_of_cell? w _ hw191_0)).trans hw191_0),((HB.out.cell (World.block_lt_of_cell? w _ hw191_1)).trans hw191_1),((HB.out.cell (World.block_lt_of_cell? w _ hw191_2)).trans hw191_2),((HB.out.cell (World.block_lt_of_cell? w _ hw191_3)).trans hw191_3),((HB.out.cell (World.block_lt_of_cell? w _ hw193_0)).trans hw193_0),((HB.out.cell (World.block_lt_of_cell? w _ hw193_1)).trans hw193_1),((HB.out.cell (World.block_lt_of_cell? w _ hw193_2)).trans hw193_2),((HB.out.cell (World.block_lt_of_cell? w _ hw193_3)).trans hw193_3)⟩ (fun hHeld=>?_);refine with_tabW deadboltlaw6_size.tab7 deadboltlaw6_size.bits7 (fun HT_ HW_=>?_);generalize wc.drew=w11 at HB HR191_2 HR191_3 HR193_2 HR193_3 hx191_0 hx191_1 hx191_2 hx191_3 hx193_0 hx193_1 hx193_2 hx193_3 hHeld ⊢;refine pure_ (i:=0) (N:=some 19) (v:=?_) (a':=?_) #[true,false,false,false,false,false,false,false,false,false,false,false,false,false,false,false,false,false,false,false,false] rfl rfl (any_of HT_.out (by kernel_rfl)) (fun _ _ _ h=>h) (Or.inl ⟨by rfl,?_⟩) ?_ ?_
         rotate_left;·intro w';go_simp;with_reducible rfl
         rotate_left;·simp only [Act.put,List.setIfInBounds_toArray,List.set_cons_zero,List.set_cons_succ,i64_w,i32_w];rfl
         refine pure_ (i:=1) (N:=some 20) (v:=?_) (a':=?_) #[true,true,false,false,false,false,false,false,false,false,false,false,false,false,false,false,false,false,false,false,false] rfl rfl (any_of HT_.out (by kernel_rfl)) (fun _ _ _ h=>h) (Or.inl ⟨by rfl,?_⟩) ?_ ?_
         rotate_left;·intro w';go_simp;with_reducible rfl
         rotate_left;·simp only [Act.put,List.setIfInBounds_toArray,List.set_cons_zero,List.set_cons_succ,i64_w,i32_w];rfl
         refine pure_ (i:=2) (N:=some 21) (v:=?_) (a':=?_) #[true,true,true,false,false,false,false,false,false,false,false,false,false,false,false,false,false,false,false,false,false] rfl rfl (any_of HT_.out (by kernel_rfl)) (fun _ _ _ h=>h) (Or.inl ⟨by rfl,?_⟩) ?_ ?_
         rotate_left;·intro w';go_simp;with_reducible rfl
         rotate_left;·simp only [Act.put,List.setIfInBounds_toArray,List.set_cons_zero,List.set_cons_succ,i64_w,i32_w];rfl
         refine pure_ (i:=3) (N:=some 22) (v:=?_) (a':=?_) #[true,true,true,true,false,false,false,false,false,false,false,false,false,false,false,false,false,false,false,false,false] rfl rfl (any_of HT_.out (by kernel_rfl)) (fun _ _ _ h=>h) (Or.inl ⟨by rfl,?_⟩) ?_ ?_
         rotate_left;·intro w';go_simp;with_reducible rfl
         rotate_left;·simp only [Act.put,List.setIfInBounds_toArray,List.set_cons_zero,List.set_cons_succ,i64_w,i32_w];rfl
         refine pure_ (i:=4) (N:=some 23) (v:=?_) (a':=?_) #[true,true,true,true,true,false,false,false,false,false,false,false,false,false,false,false,false,false,false,false,false] rfl rfl (any_of HT_.out (by kernel_rfl)) (fun _ _ _ h=>h) (Or.inl ⟨by rfl,?_⟩) ?_ ?_
         rotate_left;·intro w';go_simp;with_reducible rfl
         rotate_left;·simp only [Act.put,List.setIfInBounds_toArray,List.set_cons_zero,List.set_cons_succ,i64_w,i32_w];rfl
         refine pure_ (i:=5) (N:=some 24) (v:=?_) (a':=?_) #[true,true,true,true,true,true,false,false,false,false,false,false,false,false,false,false,false,false,false,false,false] rfl rfl (any_of HT_.out (by kernel_rfl)) (fun _ _ _ h=>h) (Or.inl ⟨by rfl,?_⟩) ?_ ?_
         rotate_left;·intro w';go_simp;with_reducible rfl
         rotate_left;·simp only [Act.put,List.setIfInBounds_toArray,List.set_cons_zero,List.set_cons_succ,i64_w,i32_w];rfl
         refine pure_ (i:=7) (N:=some 26) (v:=?_) (a':=?_) #[true,true,true,true,true,true,false,true,false,false,false,false,false,false,false,false,false,false,false,false,false] rfl rfl (any_of HT_.out (by kernel_rfl)) (fun _ _ _ h=>h) (Or.inl ⟨by rfl,?_⟩) ?_ ?_
         rotate_left;·intro w';go_simp;with_reducible rfl
         rotate_left;·simp only [Act.put,List.setIfInBounds_toArray,List.set_cons_zero,List.set_cons_succ,i64_w,i32_w];rfl
         refine pure_ (i:=8) (N:=some 27) (v:=?_) (a':=?_) #[true,true,true,true,true,true,false,true,true,false,false,false,false,false,false,false,false,false,false,false,false] rfl rfl (any_of HT_.out (by kernel_rfl)) (fun _ _ _ h=>h) (Or.inl ⟨by rfl,?_⟩) ?_ ?_
         rotate_left;·intro w';go_simp;with_reducible rfl
         rotate_left;·simp only [Act.put,List.setIfInBounds_toArray,List.set_cons_zero,List.set_cons_succ,i64_w,i32_w];rfl
         refine pure_ (i:=11) (N:=some 30) (v:=?_) (a':=?_) #[true,true,true,true,true,true,false,true,true,false,false,true,false,false,false,false,false,false,false,false,false] rfl rfl (any_of HT_.out (by kernel_rfl)) (fun _ _ _ h=>h) (Or.inl ⟨by rfl,?_⟩) ?_ ?_
         rotate_left;·intro w';go_simp;with_reducible rfl
         rotate_left;·simp only [Act.put,List.setIfInBounds_toArray,List.set_cons_zero,List.set_cons_succ,i64_w,i32_w];rfl
         refine pure_ (i:=12) (N:=some 31) (v:=?_) (a':=?_) #[true,true,true,true,true,true,false,true,true,false,false,true,true,false,false,false,false,false,false,false,false] rfl rfl (any_of HT_.out (by kernel_rfl)) (fun _ _ _ h=>h) (Or.inl ⟨by rfl,?_⟩) ?_ ?_
         rotate_left;·intro w';go_simp;with_reducible rfl
         rotate_left;·simp only [Act.put,List.setIfInBounds_toArray,List.set_cons_zero,List.set_cons_succ,i64_w,i32_w];rfl
         refine pure_ (i:=13) (N:=some 32) (v:=?_) (a':=?_) #[true,true,true,true,true,true,false,true,true,false,false,true,true,true,false,false,false,false,false,false,false] rfl rfl (any_of HT_.out (by kernel_rfl)) (fun _ _ _ h=>h) (Or.inl ⟨by rfl,?_⟩) ?_ ?_
         rotate_left;·intro w';go_simp;with_reducible rfl
         rotate_left;·simp only [Act.put,List.setIfInBounds_toArray,List.set_cons_zero,List.set_cons_succ,i64_w,i32_w];rfl
         refine pure_ (i:=14) (N:=some 33) (v:=?_) (a':=?_) #[true,true,true,true,true,true,false,true,true,false,false,true,true,true,true,false,false,false,false,false,false] rfl rfl (any_of HT_.out (by kernel_rfl)) (fun _ _ _ h=>h) (Or.inl ⟨by rfl,?_⟩) ?_ ?_
         rotate_left;·intro w';go_simp;with_reducible rfl
         rotate_left;·simp only [Act.put,List.setIfInBounds_toArray,List.set_cons_zero,List.set_cons_succ,i64_w,i32_w];rfl
         refine pure_ (i:=16) (N:=some 35) (v:=?_) (a':=?_) #[true,true,true,true,true,true,false,true,true,false,false,true,true,true,true,false,true,false,false,false,false] rfl rfl (any_of HT_.out (by kernel_rfl)) (fun _ _ _ h=>h) (Or.inl ⟨by rfl,?_⟩) ?_ ?_
         rotate_left;·intro w';go_simp;with_reducible rfl
         rotate_left;·simp only [Act.put,List.setIfInBounds_toArray,List.set_cons_zero,List.set_cons_succ,i64_w,i32_w];rfl
         refine pure_ (i:=17) (N:=some 36) (v:=?_) (a':=?_) #[true,true,true,true,true,true,false,true,true,false,false,true,true,true,true,false,true,true,false,false,false] rfl rfl (any_of HT_.out (by kernel_rfl)) (fun _ _ _ h=>h) (Or.inl ⟨by rfl,?_⟩) ?_ ?_
         rotate_left;·intro w';go_simp;with_reducible rfl
         rotate_left;·simp only [Act.put,List.setIfInBounds_toArray,List.set_cons_zero,List.set_cons_succ,i64_w,i32_w];rfl
         refine take_ (i:=6) (N:=some 25) (v:=?_) (a':=?_) #[true,true,true,true,true,true,true,true,true,false,false,true,true,true,true,false,true,true,false,false,false] rfl rfl (take_ofW HT_.out HW_.out (by kernel_rfl)) (fun _ _ _ h=>h) (Or.inl ⟨by rfl,?_⟩) hHeld ?_ ?_
         rotate_left
         ·rintro w' ⟨s0,s1,s2,s3,s4,s5,s6,s7⟩
          go_simp;with_reducible rfl
         rotate_left;·simp only [Act.put,List.setIfInBounds_toArray,List.set_cons_zero,List.set_cons_succ,i64_w,i32_w];rfl
         refine take_ (i:=15) (N:=some 34) (v:=?_) (a':=?_) #[true,true,true,true,true,true,true,true,true,false,false,true,true,true,true,true,true,true,false,false,false] rfl rfl (take_ofW HT_.out HW_.out (by kernel_rfl)) (fun _ _ _ h=>h) (Or.inl ⟨by rfl,?_⟩) hHeld ?_ ?_
         rotate_left
         ·rintro w' ⟨s0,s1,s2,s3,s4,s5,s6,s7⟩
          go_simp;with_reducible rfl
         rotate_left;·simp only [Act.put,List.setIfInBounds_toArray,List.set_cons_zero,List.set_cons_succ,i64_w,i32_w];rfl
         refine one_ (i:=9) (N:=some 28) #[true,true,true,true,true,true,true,true,true,true,false,true,true,true,true,true,true,true,false,false,false] rfl rfl (one_of HT_.out (by kernel_rfl)) (by decide) (fun K hK=>?_);refine goes_ Tryd.func28 (by kernel_rfl) rfl #[.slice A191_2 ((rd_T105 l0 x6_1).f2).length c191_2,.int .i64 (wrap64 (a1+1))] (by rfl) rfl rfl (by (try simp only [List.map_toArray,List.map_cons,List.map_nil]);first|done|rfl|(simp only [List.length_drop,List.length_take];rfl)) ?_
         with_reducible refine (ih kj3 (by have:=HK1.out;have:=HJ3.out;omega) _ _ ((rd_T105 l0 x6_1).f2) (wrap64 (a1+1)) t192 _ ?side1 ?side2 A9.out).mono ?_
         (case side1=>repeat (first|exact (Kd.C_below HR191_2.out HB.out)|(with_reducible refine Kd.C_alloc ?_ _)|(with_reducible refine Kd.C_drewN ?_ _)|(with_reducible refine Kd.C_drew ?_)))
         (case side2=>exact HC191_2.out)
         rintro e w12 ⟨rfl,hb⟩
         refine ⟨_,rfl,?_⟩;have n0_:=Aside0.mk (below_step (by repeat (first|(with_reducible first|exact HB.out|apply below_alloc|apply pw_below_drewN|apply below_drew1)|exact HB.out)) hb);clear HB;have HB:=n0_;clear n0_;(try clear hb)
         (try clear hb2)
         (try clear hk)
         (try clear hi)
         refine hK.out _ _ ⟨((HB.out.cell (World.block_lt_of_cell? w _ hw191_0)).trans hw191_0),((HB.out.cell (World.block_lt_of_cell? w _ hw191_1)).trans hw191_1),((HB.out.cell (World.block_lt_of_cell? w _ hw191_2)).trans hw191_2),((HB.out.cell (World.block_lt_of_cell? w _ hw191_3)).trans hw191_3),((HB.out.cell (World.block_lt_of_cell? w _ hw193_0)).trans hw193_0),((HB.out.cell (World.block_lt_of_cell? w _ hw193_1)).trans hw193_1),((HB.out.cell (World.block_lt_of_cell? w _ hw193_2)).trans hw193_2),((HB.out.cell (World.block_lt_of_cell? w _ hw193_3)).trans hw193_3)⟩ (fun hHeld=>?_);clear hK K;refine norm_ (a':=?_) ?_ ?_
         rotate_left
         ·show Act.put _ (some 28) _=_
          simp only [Act.put,List.setIfInBounds_toArray,List.set_cons_zero,List.set_cons_succ,i64_w,i32_w];rfl
         refine pure_ (i:=10) (N:=some 29) (v:=?_) (a':=?_) #[true,true,true,true,true,true,true,true,true,true,true,true,true,true,true,true,true,true,false,false,false] rfl rfl (any_of HT_.out (by kernel_rfl)) (fun _ _ _ h=>h) (Or.inl ⟨by rfl,?_⟩) ?_ ?_
         rotate_left;·intro w';go_simp;with_reducible rfl
         rotate_left;·simp only [Act.put,List.setIfInBounds_toArray,List.set_cons_zero,List.set_cons_succ,i64_w,i32_w];rfl
         refine one_ (i:=18) (N:=some 37) #[true,true,true,true,true,true,true,true,true,true,true,true,true,true,true,true,true,true,true,false,false] rfl rfl (one_of HT_.out (by kernel_rfl)) (by decide) (fun K hK=>?_);refine goes_ Tryd.func28 (by kernel_rfl) rfl #[.slice A191_3 ((rd_T105 l0 x6_1).f3).length c191_3,.int .i64 (wrap64 (a1+1))] (by rfl) rfl rfl (by (try simp only [List.map_toArray,List.map_cons,List.map_nil]);first|done|rfl|(simp only [List.length_drop,List.length_take];rfl)) ?_
         with_reducible refine (ih kj3 (by have:=HK1.out;have:=HJ3.out;omega) _ _ ((rd_T105 l0 x6_1).f3) (wrap64 (a1+1)) t194 _ ?side1 ?side2 A10.out).mono ?_
         (case side1=>repeat (first|exact (Kd.C_below HR193_3.out HB.out)|(with_reducible refine Kd.C_alloc ?_ _)|(with_reducible refine Kd.C_drewN ?_ _)|(with_reducible refine Kd.C_drew ?_)))
         (case side2=>exact HC193_3.out)
         rintro e w13 ⟨rfl,hb⟩
         refine ⟨_,rfl,?_⟩;have n0_:=Aside0.mk (below_step (by repeat (first|(with_reducible first|exact HB.out|apply below_alloc|apply pw_below_drewN|apply below_drew1)|exact HB.out)) hb);clear HB;have HB:=n0_;clear n0_;(try clear hb)
         (try clear hb2)
         (try clear hk)
         (try clear hi)
         refine hK.out _ _ ⟨((HB.out.cell (World.block_lt_of_cell? w _ hw191_0)).trans hw191_0),((HB.out.cell (World.block_lt_of_cell? w _ hw191_1)).trans hw191_1),((HB.out.cell (World.block_lt_of_cell? w _ hw191_2)).trans hw191_2),((HB.out.cell (World.block_lt_of_cell? w _ hw191_3)).trans hw191_3),((HB.out.cell (World.block_lt_of_cell? w _ hw193_0)).trans hw193_0),((HB.out.cell (World.block_lt_of_cell? w _ hw193_1)).trans hw193_1),((HB.out.cell (World.block_lt_of_cell? w _ hw193_2)).trans hw193_2),((HB.out.cell (World.block_lt_of_cell? w _ hw193_3)).trans hw193_3)⟩ (fun hHeld=>?_);clear hK K;refine norm_ (a':=?_) ?_ ?_
         rotate_left
         ·show Act.put _ (some 37) _=_
          simp only [Act.put,List.setIfInBounds_toArray,List.set_cons_zero,List.set_cons_succ,i64_w,i32_w];rfl
         refine pure_ (i:=19) (N:=some 38) (v:=?_) (a':=?_) #[true,true,true,true,true,true,true,true,true,true,true,true,true,true,true,true,true,true,true,true,false] rfl rfl (any_of HT_.out (by kernel_rfl)) (fun _ _ _ h=>h) (Or.inl ⟨by rfl,?_⟩) ?_ ?_
         rotate_left;·intro w';go_simp;with_reducible rfl
         rotate_left;·simp only [Act.put,List.setIfInBounds_toArray,List.set_cons_zero,List.set_cons_succ,i64_w,i32_w];rfl
         refine pure_ (i:=20) (N:=some 5) (v:=?_) (a':=?_) #[true,true,true,true,true,true,true,true,true,true,true,true,true,true,true,true,true,true,true,true,true] rfl rfl (any_of HT_.out (by kernel_rfl)) (fun _ _ _ h=>h) (Or.inl ⟨by rfl,?_⟩) ?_ ?_
         rotate_left;·intro w';go_simp;with_reducible rfl
         rotate_left;·simp only [Act.put,List.setIfInBounds_toArray,List.set_cons_zero,List.set_cons_succ,i64_w,i32_w];rfl
         refine done_ (done_of HT_.out (by kernel_rfl)) ?_
         try go_wp2
         go_roundg kj3
         case measure=>have:=HK1.out;have:=HJ3.out;omega
         case rel=>exact ⟨(wrap64 ((wrap64 ((wrap64 (x5_1+1))+t192))+t194)),(wrap64 (x6_1+1)),(by first|rfl|(simp;done)|(simp [*];done)),(by first|rfl|(simp;done)|(simp [*];done)),H',⟨by have:=HK1.out;have:=HJ3.out;omega⟩,⟨by repeat (first|(with_reducible first|exact HB.out|apply below_alloc|apply pw_below_drewN|apply below_drew1)|exact HB.out)⟩⟩
        ·rw [if_neg c8] at H;exact absurd H (by simp)
       ·rw [if_neg c7] at H;exact absurd H (by simp)
      ·replace c6:=Bool.eq_false_iff.mpr c6;subst c6;have H1:(some x5_1)=some r:=by rw [if_neg (show ¬ (false=true) by decide)] at H;exact H
       clear H;have H:=H1;clear H1;obtain rfl:=Option.some.inj H;go_wp2
       go_ret
       exact ⟨by first|rfl|(simp [errW_none,errW_some]<;>rfl)|(simp [*,errW_none,errW_some]<;>rfl),by repeat (first|(with_reducible first|exact HB.out|apply below_alloc|apply pw_below_drewN|apply below_drew1)|exact HB.out)⟩
def deadboltlaw6_Few.f (k:Nat) (l0:List (S105)):Option (Bool):=(deadboltlaw6_size.f k l0 0).bind fun t195=>(some (decide (t195≤40)))
theorem deadboltlaw6_Few.mono: ∀ a0 k,LeO (deadboltlaw6_Few.f k a0) (deadboltlaw6_Few.f (k+1) a0):=by
 intro a0 k;unfold deadboltlaw6_Few.f
 repeat' first
   |(with_reducible exact deadboltlaw6_size.mono _ _ _)
   |(with_reducible exact LeO.refl _)
   |(with_reducible exact LeO.none _)
   |(with_reducible refine LeO.ite ?_ ?_)
   |(with_reducible refine LeO.bind ?_ (fun _=>?_))
   |exact deadboltlaw6_size.mono _ _ _
   |exact LeO.none _
   |refine LeO.ite ?_ ?_
   |refine LeO.bind ?_ (fun _=>?_)
set_option maxHeartbeats 8000000 in
set_option maxRecDepth 100000 in
theorem deadboltlaw6_Few.calls (k:Nat) (A0:Option Addr) (c0:Nat) (l0:List (S105)) (r:Bool) (w:World) (hr0:Kd.C k105 w A0 l0.length l0) (hc0:l0.length≤c0) (h:deadboltlaw6_Few.f k l0=some r):
  Calls Tryd.prog 12 #[.slice A0 l0.length c0] w fun e w'=>e= .returned (.bool r)∧Below w.heap.size w w':=by
 have HR0:=Aside0.mk hr0;have HC0:=Aside0.mk hc0;clear hr0 hc0;have HB:=Aside0.mk (Below.refl w.heap.size w);have H:((deadboltlaw6_size.f k l0 0).bind fun t195=>(some (decide (t195≤40))))=some r:=h;clear h;replace H:=Option.bind_eq_some_iff.mp H;obtain ⟨t195,A20,H⟩:=H;replace H:(some (decide (t195≤40)))=some r:=H;have A2:=Aside0.mk A20;clear A20;obtain rfl:=Option.some.inj H;go_enter Tryd.func12,Tryd.ntmps12
 go_wp2_with (first|((with_reducible refine gate_callee (f:=28) rfl ?_);refine goesL_ (some 4) rfl rfl Tryd.func28 (by kernel_rfl) rfl #[.slice A0 l0.length c0,.int .i64 0] rfl (by (try simp only [List.map_toArray,List.map_cons,List.map_nil]);first|done|rfl|(simp only [List.length_drop,List.length_take];rfl)) ?_;(with_reducible refine (deadboltlaw6_size.calls k _ _ l0 0 t195 _ ?side1 ?side2 A2.out).mono ?_);(case side1=>repeat (first|exact HR0.out|(with_reducible refine Kd.C_alloc ?_ _)|(with_reducible refine Kd.C_drewN ?_ _)|(with_reducible refine Kd.C_drew ?_)));(case side2=>exact HC0.out);rintro e w3 ⟨rfl,hb⟩;refine ⟨_,rfl,?_⟩;have n0_:=Aside0.mk (below_step (by repeat (first|(with_reducible first|exact HB.out|apply below_alloc|apply pw_below_drewN|apply below_drew1)|exact HB.out)) hb);clear HB;have HB:=n0_;clear n0_;(try clear hb);(try clear hb2);(try clear hk);(try clear hi)))
 go_ret
 exact ⟨by first|rfl|(simp [errW_none,errW_some]<;>rfl)|(simp [*,errW_none,errW_some]<;>rfl),by repeat (first|(with_reducible first|exact HB.out|apply below_alloc|apply pw_below_drewN|apply below_drew1)|exact HB.out)⟩
end Go.Proofs.YtkmafndljelopaaDoor.Q
