/- A part of this claim. -/
import Derived.Test.YtkmafndljelopaaDoorUQ0
import Derived.Test.YtkmafndljelopaaDoorUQ2
namespace Go.Proofs.YtkmafndljelopaaDoor.Q
open Go.RowKit Go.Proofs.YtkmafndljelopaaDoorW.PrintWords Go.Proofs.YtkmafndljelopaaDoorW.PrintLast Go.Proofs.YtkmafndljelopaaDoorW.PrintMore
attribute [local go_sem] max2_int min2_int max_two min_two max_three min_three max_four min_four
set_option linter.unusedVariables false
set_option linter.unusedSimpArgs false
def parse_called.f (a0_0:ByteArray) (a0_1:Int) (a1_0:ByteArray) (a1_1:Int):Option (Bool):=some (a0_0.toList==a1_0.toList)
set_option maxHeartbeats 8000000 in
set_option maxRecDepth 100000 in
theorem parse_called.calls (a0_0:ByteArray) (a0_1:Int) (a1_0:ByteArray) (a1_1:Int) (r:Bool) (w:World) (h:parse_called.f a0_0 a0_1 a1_0 a1_1=some r):
  Calls Tryd.prog 52 #[.agg #[.string a0_0,.int .i64 a0_1],.agg #[.string a1_0,.int .i64 a1_1]] w fun e w'=>e= .returned (.bool r)∧Below w.heap.size w w':=by
 have hu59:=Tryd.underlying59;have HB:=Aside0.mk (Below.refl w.heap.size w);have H:(some (a0_0.toList==a1_0.toList))=some r:=h;clear h;obtain rfl:=Option.some.inj H;go_enter Tryd.func52,Tryd.ntmps52
 go_wp2_with (first|((with_reducible refine gate_dst (N:=2) rfl ?_);refine box_event ?hg (N:=2) ?hd (cs:=#[.string a0_0,.int .i64 a0_1]) (t:=59) ?hr ?_;(case hd=>rfl);(case hg=>rfl);(case hr=>first|(go_simp;done)|(go_simp;rfl));intro gb514 hg w3 hbox hb;have n0_:=Aside0.mk (below_step (by repeat (first|(with_reducible first|exact HB.out|apply below_alloc|apply pw_below_drewN|apply below_drew1)|exact HB.out)) hb);have n1_:=Aside0.mk (hbox);have n2_:=Aside0.mk ((by rw [hg];exact (below_size (by repeat (first|(with_reducible first|exact HB.out|apply below_alloc|apply pw_below_drewN|apply below_drew1)|exact HB.out))):w.heap.size≤gb514));have n3_:=Aside0.mk ((by rw [hg];exact (below_size (by repeat (first|(with_reducible first|exact HB.out|apply below_alloc|apply pw_below_drewN|apply below_drew1)|exact HB.out))):w.heap.size≤gb514));clear HB;have HB:=n0_;have BK514:=n1_;have GW514:=n2_;have GE514:=n3_;clear n0_ n1_ n2_ n3_;clear hb hbox hg)|((with_reducible refine gate_dst (N:=3) rfl ?_);refine box_event ?hg (N:=3) ?hd (cs:=#[.string a1_0,.int .i64 a1_1]) (t:=59) ?hr ?_;(case hd=>rfl);(case hg=>rfl);(case hr=>first|(go_simp;done)|(go_simp;rfl));intro gb515 hg w4 hbox hb;have n0_:=Aside0.mk (blk_below (g:=gb514) (o:=.cells #[.string a0_0,.int .i64 a0_1] 59 (0,0)) (by (with_reducible repeat (first|refine blk_drewN ?_ _|refine blk_drew ?_|refine blk_alloc ?_ _));exact BK514.out) hb);have n1_:=Aside0.mk (below_step (by repeat (first|(with_reducible first|exact HB.out|apply below_alloc|apply pw_below_drewN|apply below_drew1|refine below_set ?_ GE514.out)|exact HB.out)) hb);have n2_:=Aside0.mk (hbox);have n3_:=Aside0.mk ((by rw [hg];exact (below_size (by repeat (first|(with_reducible first|exact HB.out|apply below_alloc|apply pw_below_drewN|apply below_drew1|refine below_set ?_ GE514.out)|exact HB.out))):w.heap.size≤gb515));have n4_:=Aside0.mk ((by rw [hg];exact (below_size (by repeat (first|(with_reducible first|exact HB.out|apply below_alloc|apply pw_below_drewN|apply below_drew1|refine below_set ?_ GE514.out)|exact HB.out))):w.heap.size≤gb515));have n5_:=Aside0.mk ((by rw [hg];exact Nat.ne_of_lt (blk_lt (g:=gb514) (o:=.cells #[.string a0_0,.int .i64 a0_1] 59 (0,0)) (by (with_reducible repeat (first|refine blk_drewN ?_ _|refine blk_drew ?_|refine blk_alloc ?_ _));exact BK514.out)):gb514≠gb515));have n6_:=Aside0.mk ((by rw [hg];exact Nat.ne_of_gt (blk_lt (g:=gb514) (o:=.cells #[.string a0_0,.int .i64 a0_1] 59 (0,0)) (by (with_reducible repeat (first|refine blk_drewN ?_ _|refine blk_drew ?_|refine blk_alloc ?_ _));exact BK514.out)):gb515≠gb514));clear BK514;clear HB;have BK514:=n0_;have HB:=n1_;have BK515:=n2_;have GW515:=n3_;have GE515:=n4_;have NB514_515:=n5_;have NB515_514:=n6_;clear n0_ n1_ n2_ n3_ n4_ n5_ n6_;clear hb hbox hg;have hnb5:=NB514_515.out;have hnc5:=NB515_514.out;have hcz6_0:w4.cell? ⟨gb514,0,none⟩=some (.string a0_0):=(blk_cell BK514.out 0).trans rfl;have hcz6_1:w4.cell? ⟨gb514,1,none⟩=some (.int .i64 a0_1):=(blk_cell BK514.out 1).trans rfl;have hfz6_0:=blk_frozen BK514.out 0;have hfz6_1:=blk_frozen BK514.out 1;have hcz7_0:w4.cell? ⟨gb515,0,none⟩=some (.string a1_0):=(blk_cell BK515.out 0).trans rfl;have hcz7_1:w4.cell? ⟨gb515,1,none⟩=some (.int .i64 a1_1):=(blk_cell BK515.out 1).trans rfl;have hfz7_0:=blk_frozen BK515.out 0;have hfz7_1:=blk_frozen BK515.out 1))
 go_ret
 exact ⟨by first|rfl|(simp [errW_none,errW_some]<;>rfl)|(simp [*,errW_none,errW_some]<;>rfl),by repeat (first|(with_reducible first|exact HB.out|apply below_alloc|apply pw_below_drewN|apply below_drew1|refine below_set ?_ GE514.out|refine below_set ?_ GE515.out)|exact HB.out)⟩
def deadboltref6_decls.l0:Nat→List (S59)→List (S59)→Int→Option (Bool)
 |0,_,_,_=>none
 |k+1,x0,x1,x5=>if x5<(x0.length:Int) then (if 0≤x5 then (if x5<(x1.length:Int) then (if ((rd_T59 x0 x5).f0).toList=((rd_T59 x1 x5).f0).toList then (deadboltref6_decls.l0 k x0 x1 (wrap64 (x5+1))) else (some false)) else (none)) else (none)) else (some true)
def deadboltref6_decls.f (k:Nat) (l0:List (S59)) (l1:List (S59)):Option (Bool):=if (l0.length:Int)=(l1.length:Int) then (deadboltref6_decls.l0 k l0 l1 0) else (some false)
theorem deadboltref6_decls.mono_l: ∀ k,(∀ y0 y1 y2,LeO (deadboltref6_decls.l0 k y0 y1 y2) (deadboltref6_decls.l0 (k+1) y0 y1 y2))
 |0=>fun _ _ _ r h=>by simp [deadboltref6_decls.l0] at h
 |k+1=>by
  have ih0:=deadboltref6_decls.mono_l k
  ·intro y0 y1 y2;unfold deadboltref6_decls.l0
   repeat' first
   |(with_reducible exact ih0 _ _ _)
   |(with_reducible exact LeO.refl _)
   |(with_reducible exact LeO.none _)
   |(with_reducible refine LeO.ite ?_ ?_)
   |(with_reducible refine LeO.bind ?_ (fun _=>?_))
   |exact ih0 _ _ _
   |exact LeO.none _
   |refine LeO.ite ?_ ?_
   |refine LeO.bind ?_ (fun _=>?_)
theorem deadboltref6_decls.mono: ∀ a0 a1 k,LeO (deadboltref6_decls.f k a0 a1) (deadboltref6_decls.f (k+1) a0 a1):=by
 intro a0 a1 k;have ih0:=deadboltref6_decls.mono_l k;unfold deadboltref6_decls.f
 repeat' first
   |(with_reducible exact ih0 _ _ _)
   |(with_reducible exact LeO.refl _)
   |(with_reducible exact LeO.none _)
   |(with_reducible refine LeO.ite ?_ ?_)
   |(with_reducible refine LeO.bind ?_ (fun _=>?_))
   |exact ih0 _ _ _
   |exact LeO.none _
   |refine LeO.ite ?_ ?_
   |refine LeO.bind ?_ (fun _=>?_)
set_option maxHeartbeats 8000000 in
set_option maxRecDepth 100000 in
theorem deadboltref6_decls.calls (k:Nat) (A0:Option Addr) (c0:Nat) (l0:List (S59)) (A1:Option Addr) (c1:Nat) (l1:List (S59)) (r:Bool) (w:World) (hr0:Kd.C k59 w A0 l0.length l0) (hc0:l0.length≤c0) (hr1:Kd.C k59 w A1 l1.length l1) (hc1:l1.length≤c1) (h:deadboltref6_decls.f k l0 l1=some r):
  Calls Tryd.prog 41 #[.slice A0 l0.length c0,.slice A1 l1.length c1] w fun e w'=>e= .returned (.bool r)∧Drawn0 w w':=by
 have HR0:=Aside0.mk hr0;have HC0:=Aside0.mk hc0;clear hr0 hc0;have HR1:=Aside0.mk hr1;have HC1:=Aside0.mk hc1;clear hr1 hc1;have H:(if (l0.length:Int)=(l1.length:Int) then (deadboltref6_decls.l0 k l0 l1 0) else (some false))=some r:=h;clear h;by_cases c3:(l0.length:Int)=(l1.length:Int)
 ·rw [if_pos c3] at H;have c3b0:((l0.length:Int)==(l1.length:Int))=true:=beq_iff_eq.mpr c3;have c3b1:((l0.length:Int) !=(l1.length:Int))=false:=bne_eq_false_iff_eq.mpr c3;have c3b2:(l0.length==l1.length)=true:=by first|simpa using c3|(simp at c3 ⊢;omega)
  clear c3;have H':=Aside0.mk H;clear H;go_enter Tryd.func41,Tryd.ntmps41
  go_wp2
  repeat (go_quiet (fail);try go_wp2)
  go_loopg [5] k (fun kq v5 w'=>∃ (x5_1:Int),v5= .int .i64 x5_1∧Aside0 (deadboltref6_decls.l0 kq l0 l1 x5_1=some r)∧Aside0 (kq≤k)∧Drawn0 w w')
  case atStart=>exact ⟨(0),(by first|rfl|(simp;done)|(simp [*];done)),H',⟨Nat.le_refl _⟩,by repeat (first|exact Drawn0.refl _|apply Drawn0.step)⟩
  case round=>
   clear H';try clear c1
   try clear p2
   try clear c3
   try clear c3b0
   try clear c3b1
   try clear c3b2
   obtain ⟨x5_1,rfl,HA,HK1,⟨m1,rfl⟩⟩:=hrel;cases gk with
   |zero=>exact absurd HA.out (by simp [deadboltref6_decls.l0])
   |succ k1=>
    have H:=HA.out;clear HA;simp only [deadboltref6_decls.l0] at H;by_cases c4:x5_1<(l0.length:Int)
    ·rw [if_pos c4] at H;have c4b0:decide (x5_1<(l0.length:Int))=true:=decide_eq_true c4;clear c4;by_cases c5:0≤x5_1
     ·rw [if_pos c5] at H;have c5b0:decide (0≤x5_1)=true:=decide_eq_true c5;clear c5;by_cases c6:x5_1<(l1.length:Int)
      ·rw [if_pos c6] at H;have c6b0:decide (x5_1<(l1.length:Int))=true:=decide_eq_true c6;clear c6;by_cases c7:((rd_T59 l0 x5_1).f0).toList=((rd_T59 l1 x5_1).f0).toList
       ·rw [if_pos c7] at H;have c7b0:(((rd_T59 l0 x5_1).f0).toList==((rd_T59 l1 x5_1).f0).toList)=true:=beq_iff_eq.mpr c7;have c7b1:(((rd_T59 l0 x5_1).f0).toList !=((rd_T59 l1 x5_1).f0).toList)=false:=bne_eq_false_iff_eq.mpr c7;clear c7;have H':=Aside0.mk H;clear H;have p420:0≤(x5_1:Int):=of_decide_eq_true (by assumption);have q420:x5_1<(l0.length:Int):=of_decide_eq_true (by assumption);obtain ⟨ad420,e420,hx420_0,hx420_1⟩:=at_T59 HR0.out x5_1 p420 q420;cases e420
        replace p420:=eq_true p420;replace q420:=eq_true q420;have p421:0≤(x5_1:Int):=of_decide_eq_true (by assumption);have q421:x5_1<(l1.length:Int):=of_decide_eq_true (by assumption);obtain ⟨ad421,e421,hx421_0,hx421_1⟩:=at_T59 HR1.out x5_1 p421 q421;cases e421
        replace p421:=eq_true p421;replace q421:=eq_true q421;go_wp2
        repeat (go_quiet (fail);try go_wp2)
        go_roundg k1
        case measure=>have:=HK1.out;omega
        case rel=>exact ⟨(wrap64 (x5_1+1)),(by first|rfl|(simp;done)|(simp [*];done)),H',⟨by have:=HK1.out;omega⟩,by repeat (first|exact Drawn0.refl _|apply Drawn0.step)⟩
       ·rw [if_neg c7] at H;have c7b0:(((rd_T59 l0 x5_1).f0).toList==((rd_T59 l1 x5_1).f0).toList)=false:=beq_eq_false_iff_ne.mpr c7;have c7b1:(((rd_T59 l0 x5_1).f0).toList !=((rd_T59 l1 x5_1).f0).toList)=true:=bne_iff_ne.mpr c7;obtain rfl:=Option.some.inj H;have p420:0≤(x5_1:Int):=of_decide_eq_true (by assumption);have q420:x5_1<(l0.length:Int):=of_decide_eq_true (by assumption);obtain ⟨ad420,e420,hx420_0,hx420_1⟩:=at_T59 HR0.out x5_1 p420 q420;cases e420
        replace p420:=eq_true p420;replace q420:=eq_true q420;have p421:0≤(x5_1:Int):=of_decide_eq_true (by assumption);have q421:x5_1<(l1.length:Int):=of_decide_eq_true (by assumption);obtain ⟨ad421,e421,hx421_0,hx421_1⟩:=at_T59 HR1.out x5_1 p421 q421;cases e421
        replace p421:=eq_true p421;replace q421:=eq_true q421;go_wp2
        repeat (go_quiet (fail);try go_wp2)
        go_ret
        exact ⟨by first|rfl|(simp;done)|(simp [*];done),by repeat (first|exact Drawn0.refl _|apply Drawn0.step)⟩
      ·rw [if_neg c6] at H;exact absurd H (by simp)
     ·rw [if_neg c5] at H;exact absurd H (by simp)
    ·rw [if_neg c4] at H;have c4b0:decide (x5_1<(l0.length:Int))=false:=decide_eq_false c4;clear c4;obtain rfl:=Option.some.inj H;go_wp2
     repeat (go_quiet (fail);try go_wp2)
     go_ret
     exact ⟨by first|rfl|(simp;done)|(simp [*];done),by repeat (first|exact Drawn0.refl _|apply Drawn0.step)⟩
 ·rw [if_neg c3] at H;have c3b0:((l0.length:Int)==(l1.length:Int))=false:=beq_eq_false_iff_ne.mpr c3;have c3b1:((l0.length:Int) !=(l1.length:Int))=true:=bne_iff_ne.mpr c3;have c3b2:(l0.length==l1.length)=false:=by first|simpa using c3|(simp at c3 ⊢;omega)
  obtain rfl:=Option.some.inj H;go_enter Tryd.func41,Tryd.ntmps41
  go_wp2
  repeat (go_quiet (fail);try go_wp2)
  go_ret
  exact ⟨by first|rfl|(simp;done)|(simp [*];done),by repeat (first|exact Drawn0.refl _|apply Drawn0.step)⟩
def deadboltlaw6_All.f (k:Nat) (l0:List (S105)) (l1:List (S105)) (l2:List (S105)) (l3:List (S105)):Option (Bool):=(deadboltlaw6_Few.f k l0).bind fun t510=>(if t510=true then ((deadboltlaw6_Few.f k l1).bind fun t511=>(if t511=true then ((deadboltlaw6_Few.f k l2).bind fun t512=>(if t512=true then ((deadboltlaw6_Few.f k l3).bind fun t513=>(some t513)) else (some false))) else (some false))) else (some false))
theorem deadboltlaw6_All.mono: ∀ a0 a1 a2 a3 k,LeO (deadboltlaw6_All.f k a0 a1 a2 a3) (deadboltlaw6_All.f (k+1) a0 a1 a2 a3):=by
 intro a0 a1 a2 a3 k;unfold deadboltlaw6_All.f
 repeat' first
   |(with_reducible exact deadboltlaw6_Few.mono _ _)
   |(with_reducible exact LeO.refl _)
   |(with_reducible exact LeO.none _)
   |(with_reducible refine LeO.ite ?_ ?_)
   |(with_reducible refine LeO.bind ?_ (fun _=>?_))
   |exact deadboltlaw6_Few.mono _ _
   |exact LeO.none _
   |refine LeO.ite ?_ ?_
   |refine LeO.bind ?_ (fun _=>?_)
set_option maxHeartbeats 8000000 in
set_option maxRecDepth 100000 in
theorem deadboltlaw6_All.calls (k:Nat) (A0:Option Addr) (c0:Nat) (l0:List (S105)) (A1:Option Addr) (c1:Nat) (l1:List (S105)) (A2:Option Addr) (c2:Nat) (l2:List (S105)) (A3:Option Addr) (c3:Nat) (l3:List (S105)) (r:Bool) (w:World) (hr0:Kd.C k105 w A0 l0.length l0) (hc0:l0.length≤c0) (hr1:Kd.C k105 w A1 l1.length l1) (hc1:l1.length≤c1) (hr2:Kd.C k105 w A2 l2.length l2) (hc2:l2.length≤c2) (hr3:Kd.C k105 w A3 l3.length l3) (hc3:l3.length≤c3) (h:deadboltlaw6_All.f k l0 l1 l2 l3=some r):
  Calls Tryd.prog 22 #[.slice A0 l0.length c0,.slice A1 l1.length c1,.slice A2 l2.length c2,.slice A3 l3.length c3] w fun e w'=>e= .returned (.bool r)∧Below w.heap.size w w':=by
 have HR0:=Aside0.mk hr0;have HC0:=Aside0.mk hc0;clear hr0 hc0;have HR1:=Aside0.mk hr1;have HC1:=Aside0.mk hc1;clear hr1 hc1;have HR2:=Aside0.mk hr2;have HC2:=Aside0.mk hc2;clear hr2 hc2;have HR3:=Aside0.mk hr3;have HC3:=Aside0.mk hc3;clear hr3 hc3;have HB:=Aside0.mk (Below.refl w.heap.size w);have H:((deadboltlaw6_Few.f k l0).bind fun t510=>(if t510=true then ((deadboltlaw6_Few.f k l1).bind fun t511=>(if t511=true then ((deadboltlaw6_Few.f k l2).bind fun t512=>(if t512=true then ((deadboltlaw6_Few.f k l3).bind fun t513=>(some t513)) else (some false))) else (some false))) else (some false)))=some r:=h;clear h;replace H:=Option.bind_eq_some_iff.mp H;obtain ⟨t510,A50,H⟩:=H;replace H:(if t510=true then ((deadboltlaw6_Few.f k l1).bind fun t511=>(if t511=true then ((deadboltlaw6_Few.f k l2).bind fun t512=>(if t512=true then ((deadboltlaw6_Few.f k l3).bind fun t513=>(some t513)) else (some false))) else (some false))) else (some false))=some r:=H;have A5:=Aside0.mk A50;clear A50;by_cases c6:t510=true
 ·subst c6;have H1:((deadboltlaw6_Few.f k l1).bind fun t511=>(if t511=true then ((deadboltlaw6_Few.f k l2).bind fun t512=>(if t512=true then ((deadboltlaw6_Few.f k l3).bind fun t513=>(some t513)) else (some false))) else (some false)))=some r:=by rw [if_pos rfl] at H;exact H
  clear H;have H:=H1;clear H1;replace H:=Option.bind_eq_some_iff.mp H;obtain ⟨t511,A70,H⟩:=H;replace H:(if t511=true then ((deadboltlaw6_Few.f k l2).bind fun t512=>(if t512=true then ((deadboltlaw6_Few.f k l3).bind fun t513=>(some t513)) else (some false))) else (some false))=some r:=H;have A7:=Aside0.mk A70;clear A70;by_cases c8:t511=true
  ·subst c8;have H1:((deadboltlaw6_Few.f k l2).bind fun t512=>(if t512=true then ((deadboltlaw6_Few.f k l3).bind fun t513=>(some t513)) else (some false)))=some r:=by rw [if_pos rfl] at H;exact H
   clear H;have H:=H1;clear H1;replace H:=Option.bind_eq_some_iff.mp H;obtain ⟨t512,A90,H⟩:=H;replace H:(if t512=true then ((deadboltlaw6_Few.f k l3).bind fun t513=>(some t513)) else (some false))=some r:=H;have A9:=Aside0.mk A90;clear A90;by_cases c10:t512=true
   ·subst c10;have H1:((deadboltlaw6_Few.f k l3).bind fun t513=>(some t513))=some r:=by rw [if_pos rfl] at H;exact H
    clear H;have H:=H1;clear H1;replace H:=Option.bind_eq_some_iff.mp H;obtain ⟨t513,A110,H⟩:=H;replace H:(some t513)=some r:=H;have A11:=Aside0.mk A110;clear A110;obtain rfl:=Option.some.inj H;go_enter Tryd.func22,Tryd.ntmps22
    go_wp2_with (first|((with_reducible refine gate_callee (f:=12) rfl ?_);refine goesL_ (some 10) rfl rfl Tryd.func12 (by kernel_rfl) rfl #[.slice A0 l0.length c0] rfl (by (try simp only [List.map_toArray,List.map_cons,List.map_nil]);first|done|rfl|(simp only [List.length_drop,List.length_take];rfl)) ?_;(with_reducible refine (deadboltlaw6_Few.calls k _ _ l0 true _ ?side1 ?side2 A5.out).mono ?_);(case side1=>repeat (first|exact HR0.out|(with_reducible refine Kd.C_alloc ?_ _)|(with_reducible refine Kd.C_drewN ?_ _)|(with_reducible refine Kd.C_drew ?_)));(case side2=>exact HC0.out);rintro e w12 ⟨rfl,hb⟩;refine ⟨_,rfl,?_⟩;have n0_:=Aside0.mk (below_step (by repeat (first|(with_reducible first|exact HB.out|apply below_alloc|apply pw_below_drewN|apply below_drew1)|exact HB.out)) hb);clear HB;have HB:=n0_;clear n0_;(try clear hb);(try clear hb2);(try clear hk);(try clear hi))|(go_at_call 12;(with_reducible refine (deadboltlaw6_Few.calls k _ _ l1 true _ ?side1 ?side2 A7.out).mono ?_);(case side1=>repeat (first|exact (Kd.C_below HR1.out HB.out)|(with_reducible refine Kd.C_alloc ?_ _)|(with_reducible refine Kd.C_drewN ?_ _)|(with_reducible refine Kd.C_drew ?_)));(case side2=>exact HC1.out);rintro e w13 ⟨rfl,hb⟩;have n0_:=Aside0.mk (below_step (by repeat (first|(with_reducible first|exact HB.out|apply below_alloc|apply pw_below_drewN|apply below_drew1)|exact HB.out)) hb);clear HB;have HB:=n0_;clear n0_;(try clear hb);(try clear hb2);(try clear hk);(try clear hi))|(go_at_call 12;(with_reducible refine (deadboltlaw6_Few.calls k _ _ l2 true _ ?side1 ?side2 A9.out).mono ?_);(case side1=>repeat (first|exact (Kd.C_below HR2.out HB.out)|(with_reducible refine Kd.C_alloc ?_ _)|(with_reducible refine Kd.C_drewN ?_ _)|(with_reducible refine Kd.C_drew ?_)));(case side2=>exact HC2.out);rintro e w14 ⟨rfl,hb⟩;have n0_:=Aside0.mk (below_step (by repeat (first|(with_reducible first|exact HB.out|apply below_alloc|apply pw_below_drewN|apply below_drew1)|exact HB.out)) hb);clear HB;have HB:=n0_;clear n0_;(try clear hb);(try clear hb2);(try clear hk);(try clear hi))|(go_at_call 12;(with_reducible refine (deadboltlaw6_Few.calls k _ _ l3 t513 _ ?side1 ?side2 A11.out).mono ?_);(case side1=>repeat (first|exact (Kd.C_below HR3.out HB.out)|(with_reducible refine Kd.C_alloc ?_ _)|(with_reducible refine Kd.C_drewN ?_ _)|(with_reducible refine Kd.C_drew ?_)));(case side2=>exact HC3.out);rintro e w15 ⟨rfl,hb⟩;have n0_:=Aside0.mk (below_step (by repeat (first|(with_reducible first|exact HB.out|apply below_alloc|apply pw_below_drewN|apply below_drew1)|exact HB.out)) hb);clear HB;have HB:=n0_;clear n0_;(try clear hb);(try clear hb2);(try clear hk);(try clear hi)))
    go_ret
    exact ⟨by first|rfl|(simp [errW_none,errW_some]<;>rfl)|(simp [*,errW_none,errW_some]<;>rfl),by repeat (first|(with_reducible first|exact HB.out|apply below_alloc|apply pw_below_drewN|apply below_drew1)|exact HB.out)⟩
   ·replace c10:=Bool.eq_false_iff.mpr c10;subst c10;have H1:(some false)=some r:=by rw [if_neg (show ¬ (false=true) by decide)] at H;exact H
    clear H;have H:=H1;clear H1;obtain rfl:=Option.some.inj H;go_enter Tryd.func22,Tryd.ntmps22
    go_wp2_with (first|((with_reducible refine gate_callee (f:=12) rfl ?_);refine goesL_ (some 10) rfl rfl Tryd.func12 (by kernel_rfl) rfl #[.slice A0 l0.length c0] rfl (by (try simp only [List.map_toArray,List.map_cons,List.map_nil]);first|done|rfl|(simp only [List.length_drop,List.length_take];rfl)) ?_;(with_reducible refine (deadboltlaw6_Few.calls k _ _ l0 true _ ?side1 ?side2 A5.out).mono ?_);(case side1=>repeat (first|exact HR0.out|(with_reducible refine Kd.C_alloc ?_ _)|(with_reducible refine Kd.C_drewN ?_ _)|(with_reducible refine Kd.C_drew ?_)));(case side2=>exact HC0.out);rintro e w16 ⟨rfl,hb⟩;refine ⟨_,rfl,?_⟩;have n0_:=Aside0.mk (below_step (by repeat (first|(with_reducible first|exact HB.out|apply below_alloc|apply pw_below_drewN|apply below_drew1)|exact HB.out)) hb);clear HB;have HB:=n0_;clear n0_;(try clear hb);(try clear hb2);(try clear hk);(try clear hi))|(go_at_call 12;(with_reducible refine (deadboltlaw6_Few.calls k _ _ l1 true _ ?side1 ?side2 A7.out).mono ?_);(case side1=>repeat (first|exact (Kd.C_below HR1.out HB.out)|(with_reducible refine Kd.C_alloc ?_ _)|(with_reducible refine Kd.C_drewN ?_ _)|(with_reducible refine Kd.C_drew ?_)));(case side2=>exact HC1.out);rintro e w17 ⟨rfl,hb⟩;have n0_:=Aside0.mk (below_step (by repeat (first|(with_reducible first|exact HB.out|apply below_alloc|apply pw_below_drewN|apply below_drew1)|exact HB.out)) hb);clear HB;have HB:=n0_;clear n0_;(try clear hb);(try clear hb2);(try clear hk);(try clear hi))|(go_at_call 12;(with_reducible refine (deadboltlaw6_Few.calls k _ _ l2 false _ ?side1 ?side2 A9.out).mono ?_);(case side1=>repeat (first|exact (Kd.C_below HR2.out HB.out)|(with_reducible refine Kd.C_alloc ?_ _)|(with_reducible refine Kd.C_drewN ?_ _)|(with_reducible refine Kd.C_drew ?_)));(case side2=>exact HC2.out);rintro e w18 ⟨rfl,hb⟩;have n0_:=Aside0.mk (below_step (by repeat (first|(with_reducible first|exact HB.out|apply below_alloc|apply pw_below_drewN|apply below_drew1)|exact HB.out)) hb);clear HB;have HB:=n0_;clear n0_;(try clear hb);(try clear hb2);(try clear hk);(try clear hi)))
    go_ret
    exact ⟨by first|rfl|(simp [errW_none,errW_some]<;>rfl)|(simp [*,errW_none,errW_some]<;>rfl),by repeat (first|(with_reducible first|exact HB.out|apply below_alloc|apply pw_below_drewN|apply below_drew1)|exact HB.out)⟩
  ·replace c8:=Bool.eq_false_iff.mpr c8;subst c8;have H1:(some false)=some r:=by rw [if_neg (show ¬ (false=true) by decide)] at H;exact H
   clear H;have H:=H1;clear H1;obtain rfl:=Option.some.inj H;go_enter Tryd.func22,Tryd.ntmps22
   go_wp2_with (first|((with_reducible refine gate_callee (f:=12) rfl ?_);refine goesL_ (some 10) rfl rfl Tryd.func12 (by kernel_rfl) rfl #[.slice A0 l0.length c0] rfl (by (try simp only [List.map_toArray,List.map_cons,List.map_nil]);first|done|rfl|(simp only [List.length_drop,List.length_take];rfl)) ?_;(with_reducible refine (deadboltlaw6_Few.calls k _ _ l0 true _ ?side1 ?side2 A5.out).mono ?_);(case side1=>repeat (first|exact HR0.out|(with_reducible refine Kd.C_alloc ?_ _)|(with_reducible refine Kd.C_drewN ?_ _)|(with_reducible refine Kd.C_drew ?_)));(case side2=>exact HC0.out);rintro e w19 ⟨rfl,hb⟩;refine ⟨_,rfl,?_⟩;have n0_:=Aside0.mk (below_step (by repeat (first|(with_reducible first|exact HB.out|apply below_alloc|apply pw_below_drewN|apply below_drew1)|exact HB.out)) hb);clear HB;have HB:=n0_;clear n0_;(try clear hb);(try clear hb2);(try clear hk);(try clear hi))|(go_at_call 12;(with_reducible refine (deadboltlaw6_Few.calls k _ _ l1 false _ ?side1 ?side2 A7.out).mono ?_);(case side1=>repeat (first|exact (Kd.C_below HR1.out HB.out)|(with_reducible refine Kd.C_alloc ?_ _)|(with_reducible refine Kd.C_drewN ?_ _)|(with_reducible refine Kd.C_drew ?_)));(case side2=>exact HC1.out);rintro e w20 ⟨rfl,hb⟩;have n0_:=Aside0.mk (below_step (by repeat (first|(with_reducible first|exact HB.out|apply below_alloc|apply pw_below_drewN|apply below_drew1)|exact HB.out)) hb);clear HB;have HB:=n0_;clear n0_;(try clear hb);(try clear hb2);(try clear hk);(try clear hi)))
   go_ret
   exact ⟨by first|rfl|(simp [errW_none,errW_some]<;>rfl)|(simp [*,errW_none,errW_some]<;>rfl),by repeat (first|(with_reducible first|exact HB.out|apply below_alloc|apply pw_below_drewN|apply below_drew1)|exact HB.out)⟩
 ·replace c6:=Bool.eq_false_iff.mpr c6;subst c6;have H1:(some false)=some r:=by rw [if_neg (show ¬ (false=true) by decide)] at H;exact H
  clear H;have H:=H1;clear H1;obtain rfl:=Option.some.inj H;go_enter Tryd.func22,Tryd.ntmps22
  go_wp2_with (first|((with_reducible refine gate_callee (f:=12) rfl ?_);refine goesL_ (some 10) rfl rfl Tryd.func12 (by kernel_rfl) rfl #[.slice A0 l0.length c0] rfl (by (try simp only [List.map_toArray,List.map_cons,List.map_nil]);first|done|rfl|(simp only [List.length_drop,List.length_take];rfl)) ?_;(with_reducible refine (deadboltlaw6_Few.calls k _ _ l0 false _ ?side1 ?side2 A5.out).mono ?_);(case side1=>repeat (first|exact HR0.out|(with_reducible refine Kd.C_alloc ?_ _)|(with_reducible refine Kd.C_drewN ?_ _)|(with_reducible refine Kd.C_drew ?_)));(case side2=>exact HC0.out);rintro e w21 ⟨rfl,hb⟩;refine ⟨_,rfl,?_⟩;have n0_:=Aside0.mk (below_step (by repeat (first|(with_reducible first|exact HB.out|apply below_alloc|apply pw_below_drewN|apply below_drew1)|exact HB.out)) hb);clear HB;have HB:=n0_;clear n0_;(try clear hb);(try clear hb2);(try clear hk);(try clear hi)))
  go_ret
  exact ⟨by first|rfl|(simp [errW_none,errW_some]<;>rfl)|(simp [*,errW_none,errW_some]<;>rfl),by repeat (first|(with_reducible first|exact HB.out|apply below_alloc|apply pw_below_drewN|apply below_drew1)|exact HB.out)⟩
def api_early.f (a0:Int):Option (ByteArray):=if a0=0 then (some (⟨#[111,107]⟩:ByteArray)) else (if a0=1 then (some (⟨#[97,114,103]⟩:ByteArray)) else (if a0=2 then (some (⟨#[108,111,110,103]⟩:ByteArray)) else (if a0=3 then (some (⟨#[100,101,97,100]⟩:ByteArray)) else (if a0=4 then (some (⟨#[102,117,108,108]⟩:ByteArray)) else (if a0=5 then (some (⟨#[110,111,110,101]⟩:ByteArray)) else (if a0=6 then (some (⟨#[116,111,107,101,110]⟩:ByteArray)) else (some (⟨#[101,114,114,111,114]⟩:ByteArray))))))))
set_option maxHeartbeats 8000000 in
set_option maxRecDepth 100000 in
theorem api_early.calls (a0:Int) (r:ByteArray) (w:World) (h:api_early.f a0=some r):
  Calls Tryd.prog 56 #[.int .i64 a0] w fun e w'=>e= .returned (.string r)∧Drawn0 w w':=by
 have H:(if a0=0 then (some (⟨#[111,107]⟩:ByteArray)) else (if a0=1 then (some (⟨#[97,114,103]⟩:ByteArray)) else (if a0=2 then (some (⟨#[108,111,110,103]⟩:ByteArray)) else (if a0=3 then (some (⟨#[100,101,97,100]⟩:ByteArray)) else (if a0=4 then (some (⟨#[102,117,108,108]⟩:ByteArray)) else (if a0=5 then (some (⟨#[110,111,110,101]⟩:ByteArray)) else (if a0=6 then (some (⟨#[116,111,107,101,110]⟩:ByteArray)) else (some (⟨#[101,114,114,111,114]⟩:ByteArray)))))))))=some r:=h;clear h;by_cases c2:a0=0
 ·rw [if_pos c2] at H;have c2b0:(a0==0)=true:=beq_iff_eq.mpr c2;have c2b1:(a0 !=0)=false:=bne_eq_false_iff_eq.mpr c2;clear c2;obtain rfl:=Option.some.inj H;go_enter Tryd.func56,Tryd.ntmps56
  go_wp2
  go_ret
  exact ⟨by first|rfl|(simp;done)|(simp [*];done),by repeat (first|exact Drawn0.refl _|apply Drawn0.step)⟩
 ·rw [if_neg c2] at H;have c2b0:(a0==0)=false:=beq_eq_false_iff_ne.mpr c2;have c2b1:(a0 !=0)=true:=bne_iff_ne.mpr c2;by_cases c3:a0=1
  ·rw [if_pos c3] at H;have c3b0:(a0==1)=true:=beq_iff_eq.mpr c3;have c3b1:(a0 !=1)=false:=bne_eq_false_iff_eq.mpr c3;clear c3;obtain rfl:=Option.some.inj H;go_enter Tryd.func56,Tryd.ntmps56
   go_wp2
   go_ret
   exact ⟨by first|rfl|(simp;done)|(simp [*];done),by repeat (first|exact Drawn0.refl _|apply Drawn0.step)⟩
  ·rw [if_neg c3] at H;have c3b0:(a0==1)=false:=beq_eq_false_iff_ne.mpr c3;have c3b1:(a0 !=1)=true:=bne_iff_ne.mpr c3;by_cases c4:a0=2
   ·rw [if_pos c4] at H;have c4b0:(a0==2)=true:=beq_iff_eq.mpr c4;have c4b1:(a0 !=2)=false:=bne_eq_false_iff_eq.mpr c4;clear c4;obtain rfl:=Option.some.inj H;go_enter Tryd.func56,Tryd.ntmps56
    go_wp2
    go_ret
    exact ⟨by first|rfl|(simp;done)|(simp [*];done),by repeat (first|exact Drawn0.refl _|apply Drawn0.step)⟩
   ·rw [if_neg c4] at H;have c4b0:(a0==2)=false:=beq_eq_false_iff_ne.mpr c4;have c4b1:(a0 !=2)=true:=bne_iff_ne.mpr c4;by_cases c5:a0=3
    ·rw [if_pos c5] at H;have c5b0:(a0==3)=true:=beq_iff_eq.mpr c5;have c5b1:(a0 !=3)=false:=bne_eq_false_iff_eq.mpr c5;clear c5;obtain rfl:=Option.some.inj H;go_enter Tryd.func56,Tryd.ntmps56
     go_wp2
     go_ret
     exact ⟨by first|rfl|(simp;done)|(simp [*];done),by repeat (first|exact Drawn0.refl _|apply Drawn0.step)⟩
    ·rw [if_neg c5] at H;have c5b0:(a0==3)=false:=beq_eq_false_iff_ne.mpr c5;have c5b1:(a0 !=3)=true:=bne_iff_ne.mpr c5;by_cases c6:a0=4
     ·rw [if_pos c6] at H;have c6b0:(a0==4)=true:=beq_iff_eq.mpr c6;have c6b1:(a0 !=4)=false:=bne_eq_false_iff_eq.mpr c6;clear c6;obtain rfl:=Option.some.inj H;go_enter Tryd.func56,Tryd.ntmps56
      go_wp2
      go_ret
      exact ⟨by first|rfl|(simp;done)|(simp [*];done),by repeat (first|exact Drawn0.refl _|apply Drawn0.step)⟩
     ·rw [if_neg c6] at H;have c6b0:(a0==4)=false:=beq_eq_false_iff_ne.mpr c6;have c6b1:(a0 !=4)=true:=bne_iff_ne.mpr c6;by_cases c7:a0=5
      ·rw [if_pos c7] at H;have c7b0:(a0==5)=true:=beq_iff_eq.mpr c7;have c7b1:(a0 !=5)=false:=bne_eq_false_iff_eq.mpr c7;clear c7;obtain rfl:=Option.some.inj H;go_enter Tryd.func56,Tryd.ntmps56
       go_wp2
       go_ret
       exact ⟨by first|rfl|(simp;done)|(simp [*];done),by repeat (first|exact Drawn0.refl _|apply Drawn0.step)⟩
      ·rw [if_neg c7] at H;have c7b0:(a0==5)=false:=beq_eq_false_iff_ne.mpr c7;have c7b1:(a0 !=5)=true:=bne_iff_ne.mpr c7;by_cases c8:a0=6
       ·rw [if_pos c8] at H;have c8b0:(a0==6)=true:=beq_iff_eq.mpr c8;have c8b1:(a0 !=6)=false:=bne_eq_false_iff_eq.mpr c8;clear c8;obtain rfl:=Option.some.inj H;go_enter Tryd.func56,Tryd.ntmps56
        go_wp2
        go_ret
        exact ⟨by first|rfl|(simp;done)|(simp [*];done),by repeat (first|exact Drawn0.refl _|apply Drawn0.step)⟩
       ·rw [if_neg c8] at H;have c8b0:(a0==6)=false:=beq_eq_false_iff_ne.mpr c8;have c8b1:(a0 !=6)=true:=bne_iff_ne.mpr c8;obtain rfl:=Option.some.inj H;go_enter Tryd.func56,Tryd.ntmps56
        go_wp2
        go_ret
        exact ⟨by first|rfl|(simp;done)|(simp [*];done),by repeat (first|exact Drawn0.refl _|apply Drawn0.step)⟩
def api_late.f (a0:Int):Option (ByteArray):=if a0=7 then (some (⟨#[102,111,114,109]⟩:ByteArray)) else (if a0=8 then (some (⟨#[100,101,101,112]⟩:ByteArray)) else (if a0=9 then (some (⟨#[116,119,105,99,101]⟩:ByteArray)) else (if a0=10 then (some (⟨#[110,97,109,101]⟩:ByteArray)) else (if a0=11 then (some (⟨#[109,97,105,110]⟩:ByteArray)) else (if a0=12 then (some (⟨#[112,114,111,116,111]⟩:ByteArray)) else (some (⟨#[101,114,114,111,114]⟩:ByteArray)))))))
set_option maxHeartbeats 8000000 in
set_option maxRecDepth 100000 in
theorem api_late.calls (a0:Int) (r:ByteArray) (w:World) (h:api_late.f a0=some r):
  Calls Tryd.prog 57 #[.int .i64 a0] w fun e w'=>e= .returned (.string r)∧Drawn0 w w':=by
 have H:(if a0=7 then (some (⟨#[102,111,114,109]⟩:ByteArray)) else (if a0=8 then (some (⟨#[100,101,101,112]⟩:ByteArray)) else (if a0=9 then (some (⟨#[116,119,105,99,101]⟩:ByteArray)) else (if a0=10 then (some (⟨#[110,97,109,101]⟩:ByteArray)) else (if a0=11 then (some (⟨#[109,97,105,110]⟩:ByteArray)) else (if a0=12 then (some (⟨#[112,114,111,116,111]⟩:ByteArray)) else (some (⟨#[101,114,114,111,114]⟩:ByteArray))))))))=some r:=h;clear h;by_cases c2:a0=7
 ·rw [if_pos c2] at H;have c2b0:(a0==7)=true:=beq_iff_eq.mpr c2;have c2b1:(a0 !=7)=false:=bne_eq_false_iff_eq.mpr c2;clear c2;obtain rfl:=Option.some.inj H;go_enter Tryd.func57,Tryd.ntmps57
  go_wp2
  go_ret
  exact ⟨by first|rfl|(simp;done)|(simp [*];done),by repeat (first|exact Drawn0.refl _|apply Drawn0.step)⟩
 ·rw [if_neg c2] at H;have c2b0:(a0==7)=false:=beq_eq_false_iff_ne.mpr c2;have c2b1:(a0 !=7)=true:=bne_iff_ne.mpr c2;by_cases c3:a0=8
  ·rw [if_pos c3] at H;have c3b0:(a0==8)=true:=beq_iff_eq.mpr c3;have c3b1:(a0 !=8)=false:=bne_eq_false_iff_eq.mpr c3;clear c3;obtain rfl:=Option.some.inj H;go_enter Tryd.func57,Tryd.ntmps57
   go_wp2
   go_ret
   exact ⟨by first|rfl|(simp;done)|(simp [*];done),by repeat (first|exact Drawn0.refl _|apply Drawn0.step)⟩
  ·rw [if_neg c3] at H;have c3b0:(a0==8)=false:=beq_eq_false_iff_ne.mpr c3;have c3b1:(a0 !=8)=true:=bne_iff_ne.mpr c3;by_cases c4:a0=9
   ·rw [if_pos c4] at H;have c4b0:(a0==9)=true:=beq_iff_eq.mpr c4;have c4b1:(a0 !=9)=false:=bne_eq_false_iff_eq.mpr c4;clear c4;obtain rfl:=Option.some.inj H;go_enter Tryd.func57,Tryd.ntmps57
    go_wp2
    go_ret
    exact ⟨by first|rfl|(simp;done)|(simp [*];done),by repeat (first|exact Drawn0.refl _|apply Drawn0.step)⟩
   ·rw [if_neg c4] at H;have c4b0:(a0==9)=false:=beq_eq_false_iff_ne.mpr c4;have c4b1:(a0 !=9)=true:=bne_iff_ne.mpr c4;by_cases c5:a0=10
    ·rw [if_pos c5] at H;have c5b0:(a0==10)=true:=beq_iff_eq.mpr c5;have c5b1:(a0 !=10)=false:=bne_eq_false_iff_eq.mpr c5;clear c5;obtain rfl:=Option.some.inj H;go_enter Tryd.func57,Tryd.ntmps57
     go_wp2
     go_ret
     exact ⟨by first|rfl|(simp;done)|(simp [*];done),by repeat (first|exact Drawn0.refl _|apply Drawn0.step)⟩
    ·rw [if_neg c5] at H;have c5b0:(a0==10)=false:=beq_eq_false_iff_ne.mpr c5;have c5b1:(a0 !=10)=true:=bne_iff_ne.mpr c5;by_cases c6:a0=11
     ·rw [if_pos c6] at H;have c6b0:(a0==11)=true:=beq_iff_eq.mpr c6;have c6b1:(a0 !=11)=false:=bne_eq_false_iff_eq.mpr c6;clear c6;obtain rfl:=Option.some.inj H;go_enter Tryd.func57,Tryd.ntmps57
      go_wp2
      go_ret
      exact ⟨by first|rfl|(simp;done)|(simp [*];done),by repeat (first|exact Drawn0.refl _|apply Drawn0.step)⟩
     ·rw [if_neg c6] at H;have c6b0:(a0==11)=false:=beq_eq_false_iff_ne.mpr c6;have c6b1:(a0 !=11)=true:=bne_iff_ne.mpr c6;by_cases c7:a0=12
      ·rw [if_pos c7] at H;have c7b0:(a0==12)=true:=beq_iff_eq.mpr c7;have c7b1:(a0 !=12)=false:=bne_eq_false_iff_eq.mpr c7;clear c7;obtain rfl:=Option.some.inj H;go_enter Tryd.func57,Tryd.ntmps57
       go_wp2
       go_ret
       exact ⟨by first|rfl|(simp;done)|(simp [*];done),by repeat (first|exact Drawn0.refl _|apply Drawn0.step)⟩
      ·rw [if_neg c7] at H;have c7b0:(a0==12)=false:=beq_eq_false_iff_ne.mpr c7;have c7b1:(a0 !=12)=true:=bne_iff_ne.mpr c7;obtain rfl:=Option.some.inj H;go_enter Tryd.func57,Tryd.ntmps57
       go_wp2
       go_ret
       exact ⟨by first|rfl|(simp;done)|(simp [*];done),by repeat (first|exact Drawn0.refl _|apply Drawn0.step)⟩
def api_Errno_Error.f (a0:Int):Option (ByteArray):=if a0≤6 then ((api_early.f a0).bind fun t707=>(some t707)) else ((api_late.f a0).bind fun t708=>(some t708))
set_option maxHeartbeats 8000000 in
set_option maxRecDepth 100000 in
theorem api_Errno_Error.calls (a0:Int) (r:ByteArray) (w:World) (h:api_Errno_Error.f a0=some r):
  Calls Tryd.prog 27 #[.int .i64 a0] w fun e w'=>e= .returned (.string r)∧Drawn0 w w':=by
 have H:(if a0≤6 then ((api_early.f a0).bind fun t707=>(some t707)) else ((api_late.f a0).bind fun t708=>(some t708)))=some r:=h;clear h;by_cases c2:a0≤6
 ·rw [if_pos c2] at H;have c2b0:decide (a0≤6)=true:=decide_eq_true c2;clear c2;replace H:=Option.bind_eq_some_iff.mp H;obtain ⟨t707,A30,H⟩:=H;replace H:(some t707)=some r:=H;have A3:=Aside0.mk A30;clear A30;obtain rfl:=Option.some.inj H;go_enter Tryd.func27,Tryd.ntmps27
  go_wp2_with (first|((with_reducible refine gate_callee (f:=56) rfl ?_);refine goesL_ (some 6) rfl rfl Tryd.func56 (by kernel_rfl) rfl #[.int .i64 a0] rfl (by (try simp only [List.map_toArray,List.map_cons,List.map_nil]);first|done|rfl|(simp only [List.length_drop,List.length_take];rfl)) ?_;(with_reducible refine (api_early.calls a0 t707 _ A3.out).mono ?_);rintro e w' ⟨rfl,⟨nd,rfl⟩⟩;refine ⟨_,rfl,?_⟩))
  go_ret
  exact ⟨by first|rfl|(simp;done)|(simp [*];done),by repeat (first|exact Drawn0.refl _|apply Drawn0.step)⟩
 ·rw [if_neg c2] at H;have c2b0:decide (a0≤6)=false:=decide_eq_false c2;clear c2;replace H:=Option.bind_eq_some_iff.mp H;obtain ⟨t708,A40,H⟩:=H;replace H:(some t708)=some r:=H;have A4:=Aside0.mk A40;clear A40;obtain rfl:=Option.some.inj H;go_enter Tryd.func27,Tryd.ntmps27
  go_wp2_with (first|((with_reducible refine gate_callee (f:=57) rfl ?_);refine goesL_ (some 8) rfl rfl Tryd.func57 (by kernel_rfl) rfl #[.int .i64 a0] rfl (by (try simp only [List.map_toArray,List.map_cons,List.map_nil]);first|done|rfl|(simp only [List.length_drop,List.length_take];rfl)) ?_;(with_reducible refine (api_late.calls a0 t708 _ A4.out).mono ?_);rintro e w' ⟨rfl,⟨nd,rfl⟩⟩;refine ⟨_,rfl,?_⟩))
  go_ret
  exact ⟨by first|rfl|(simp;done)|(simp [*];done),by repeat (first|exact Drawn0.refl _|apply Drawn0.step)⟩
end Go.Proofs.YtkmafndljelopaaDoor.Q
