/- A part of this claim. -/
import Derived.Test.YtkmafndljelopaaDoorUQ0
import Derived.Test.YtkmafndljelopaaDoorUQ5
namespace Go.Proofs.YtkmafndljelopaaDoor.Q
open Go.RowKit Go.Proofs.YtkmafndljelopaaDoorW.PrintWords Go.Proofs.YtkmafndljelopaaDoorW.PrintLast Go.Proofs.YtkmafndljelopaaDoorW.PrintMore
attribute [local go_sem] max2_int min2_int max_two min_two max_three min_three max_four min_four
set_option linter.unusedVariables false
set_option linter.unusedSimpArgs false
mutual
def deadboltref6_Text.l0:Nat→ByteArray→Int→List (S59)→List (S59)→List (S46)→Option (ByteArray)
 |0,_,_,_,_,_=>none
 |k+1,x3,x4,x214000,x214001,x214002=>if x4<(x214000.length:Int) then (if x3.size+4≤9223372036854775807 then (if 0≤x4 then (if (x3++(⟨#[118,97,114,32]⟩:ByteArray)).size+((rd_T59 x214000 x4).f0).size≤9223372036854775807 then (if ((x3++(⟨#[118,97,114,32]⟩:ByteArray))++((rd_T59 x214000 x4).f0)).size+1≤9223372036854775807 then (deadboltref6_Text.l0 k (((x3++(⟨#[118,97,114,32]⟩:ByteArray))++((rd_T59 x214000 x4).f0))++(⟨#[10]⟩:ByteArray)) (wrap64 (x4+1)) x214000 x214001 x214002) else (none)) else (none)) else (none)) else (none)) else (deadboltref6_Text.l1 k x3 0 x214000 x214001 x214002)
def deadboltref6_Text.l1:Nat→ByteArray→Int→List (S59)→List (S59)→List (S46)→Option (ByteArray)
 |0,_,_,_,_,_=>none
 |k+1,x3,x5,x214000,x214001,x214002=>if x5<(x214001.length:Int) then (if x3.size+5≤9223372036854775807 then (if 0≤x5 then (if (x3++(⟨#[108,111,99,107,32]⟩:ByteArray)).size+((rd_T59 x214001 x5).f0).size≤9223372036854775807 then (if ((x3++(⟨#[108,111,99,107,32]⟩:ByteArray))++((rd_T59 x214001 x5).f0)).size+1≤9223372036854775807 then (deadboltref6_Text.l1 k (((x3++(⟨#[108,111,99,107,32]⟩:ByteArray))++((rd_T59 x214001 x5).f0))++(⟨#[10]⟩:ByteArray)) (wrap64 (x5+1)) x214000 x214001 x214002) else (none)) else (none)) else (none)) else (none)) else (deadboltref6_Text.l2 k x3 0 x214000 x214001 x214002)
def deadboltref6_Text.l2:Nat→ByteArray→Int→List (S59)→List (S59)→List (S46)→Option (ByteArray)
 |0,_,_,_,_,_=>none
 |k+1,x3,x6,x214000,x214001,x214002=>if x6<(x214002.length:Int) then (if x3.size+5≤9223372036854775807 then (if 0≤x6 then (if (x3++(⟨#[102,117,110,99,32]⟩:ByteArray)).size+((rd_T46 x214002 x6).f0).size≤9223372036854775807 then (if ((x3++(⟨#[102,117,110,99,32]⟩:ByteArray))++((rd_T46 x214002 x6).f0)).size+1≤9223372036854775807 then ((deadboltref6_Body.f k ((rd_T46 x214002 x6).f0) ((rd_T46 x214002 x6).f1) ((rd_T46 x214002 x6).f2)).bind fun t218=>(if (((x3++(⟨#[102,117,110,99,32]⟩:ByteArray))++((rd_T46 x214002 x6).f0))++(⟨#[32]⟩:ByteArray)).size+t218.size≤9223372036854775807 then (if ((((x3++(⟨#[102,117,110,99,32]⟩:ByteArray))++((rd_T46 x214002 x6).f0))++(⟨#[32]⟩:ByteArray))++t218).size+1≤9223372036854775807 then (deadboltref6_Text.l2 k (((((x3++(⟨#[102,117,110,99,32]⟩:ByteArray))++((rd_T46 x214002 x6).f0))++(⟨#[32]⟩:ByteArray))++t218)++(⟨#[10]⟩:ByteArray)) (wrap64 (x6+1)) x214000 x214001 x214002) else (none)) else (none))) else (none)) else (none)) else (none)) else (none)) else (some x3)
end
def deadboltref6_Text.f (k:Nat) (l0_0:List (S59)) (l0_1:List (S59)) (l0_2:List (S46)):Option (ByteArray):=deadboltref6_Text.l0 k (⟨#[]⟩:ByteArray) 0 l0_0 l0_1 l0_2
theorem deadboltref6_Text.mono_l: ∀ k,(∀ y0 y1 y2 y3 y4,LeO (deadboltref6_Text.l0 k y0 y1 y2 y3 y4) (deadboltref6_Text.l0 (k+1) y0 y1 y2 y3 y4))∧(∀ y0 y1 y2 y3 y4,LeO (deadboltref6_Text.l1 k y0 y1 y2 y3 y4) (deadboltref6_Text.l1 (k+1) y0 y1 y2 y3 y4))∧(∀ y0 y1 y2 y3 y4,LeO (deadboltref6_Text.l2 k y0 y1 y2 y3 y4) (deadboltref6_Text.l2 (k+1) y0 y1 y2 y3 y4))
 |0=>⟨fun _ _ _ _ _ r h=>by simp [deadboltref6_Text.l0] at h,fun _ _ _ _ _ r h=>by simp [deadboltref6_Text.l1] at h,fun _ _ _ _ _ r h=>by simp [deadboltref6_Text.l2] at h⟩
 |k+1=>by
  obtain ⟨ih0,ih1,ih2⟩:=deadboltref6_Text.mono_l k;refine ⟨?_,?_,?_⟩
  ·intro y0 y1 y2 y3 y4;unfold deadboltref6_Text.l0
   repeat' first
   |(with_reducible exact ih0 _ _ _ _ _)
   |(with_reducible exact ih1 _ _ _ _ _)
   |(with_reducible exact ih2 _ _ _ _ _)
   |(with_reducible exact deadboltref6_Body.mono _ _ _ _)
   |(with_reducible exact LeO.refl _)
   |(with_reducible exact LeO.none _)
   |(with_reducible refine LeO.ite ?_ ?_)
   |(with_reducible refine LeO.bind ?_ (fun _=>?_))
   |exact ih0 _ _ _ _ _
   |exact ih1 _ _ _ _ _
   |exact ih2 _ _ _ _ _
   |exact deadboltref6_Body.mono _ _ _ _
   |exact LeO.none _
   |refine LeO.ite ?_ ?_
   |refine LeO.bind ?_ (fun _=>?_)
  ·intro y0 y1 y2 y3 y4;unfold deadboltref6_Text.l1
   repeat' first
   |(with_reducible exact ih0 _ _ _ _ _)
   |(with_reducible exact ih1 _ _ _ _ _)
   |(with_reducible exact ih2 _ _ _ _ _)
   |(with_reducible exact deadboltref6_Body.mono _ _ _ _)
   |(with_reducible exact LeO.refl _)
   |(with_reducible exact LeO.none _)
   |(with_reducible refine LeO.ite ?_ ?_)
   |(with_reducible refine LeO.bind ?_ (fun _=>?_))
   |exact ih0 _ _ _ _ _
   |exact ih1 _ _ _ _ _
   |exact ih2 _ _ _ _ _
   |exact deadboltref6_Body.mono _ _ _ _
   |exact LeO.none _
   |refine LeO.ite ?_ ?_
   |refine LeO.bind ?_ (fun _=>?_)
  ·intro y0 y1 y2 y3 y4;unfold deadboltref6_Text.l2
   repeat' first
   |(with_reducible exact ih0 _ _ _ _ _)
   |(with_reducible exact ih1 _ _ _ _ _)
   |(with_reducible exact ih2 _ _ _ _ _)
   |(with_reducible exact deadboltref6_Body.mono _ _ _ _)
   |(with_reducible exact LeO.refl _)
   |(with_reducible exact LeO.none _)
   |(with_reducible refine LeO.ite ?_ ?_)
   |(with_reducible refine LeO.bind ?_ (fun _=>?_))
   |exact ih0 _ _ _ _ _
   |exact ih1 _ _ _ _ _
   |exact ih2 _ _ _ _ _
   |exact deadboltref6_Body.mono _ _ _ _
   |exact LeO.none _
   |refine LeO.ite ?_ ?_
   |refine LeO.bind ?_ (fun _=>?_)
theorem deadboltref6_Text.mono: ∀ a0 a1 a2 k,LeO (deadboltref6_Text.f k a0 a1 a2) (deadboltref6_Text.f (k+1) a0 a1 a2):=by
 intro a0 a1 a2 k;obtain ⟨ih0,ih1,ih2⟩:=deadboltref6_Text.mono_l k;unfold deadboltref6_Text.f
 repeat' first
   |(with_reducible exact ih0 _ _ _ _ _)
   |(with_reducible exact ih1 _ _ _ _ _)
   |(with_reducible exact ih2 _ _ _ _ _)
   |(with_reducible exact deadboltref6_Body.mono _ _ _ _)
   |(with_reducible exact LeO.refl _)
   |(with_reducible exact LeO.none _)
   |(with_reducible refine LeO.ite ?_ ?_)
   |(with_reducible refine LeO.bind ?_ (fun _=>?_))
   |exact ih0 _ _ _ _ _
   |exact ih1 _ _ _ _ _
   |exact ih2 _ _ _ _ _
   |exact deadboltref6_Body.mono _ _ _ _
   |exact LeO.none _
   |refine LeO.ite ?_ ?_
   |refine LeO.bind ?_ (fun _=>?_)
def deadboltref6_Text.T13:Bool×List (List Nat×List Nat):=(true,[([],[]),([0],[0]),([],[]),([2],[2]),([],[]),([3,4],[3,4]),([5],[5]),([6],[6]),([1,7],[1,7]),([8],[8]),([],[]),([10],[10]),([],[]),([11,12],[11,12]),([13],[13]),([14],[14]),([9,15],[9,15]),([16],[16]),([17,15,0,1,2,3,4,5,6,7,8,9,10,11,12,13,14,15,16,17],[0,17])])
def deadboltref6_Text.B13:List Nat:= [0,1,0,4,0,28,60,124,255,511,0,1024,0,7168,15360,31744,65535,131071,262143]
theorem deadboltref6_Text.tab13:rtab .any (opsOf Tryd.f13 13)=deadboltref6_Text.T13:=by kernel_rfl
theorem deadboltref6_Text.bits13:waitsOk deadboltref6_Text.T13.2 deadboltref6_Text.B13=true:=by kernel_rfl
set_option maxHeartbeats 8000000 in
set_option maxRecDepth 100000 in
theorem deadboltref6_Text.calls (k:Nat) (A0_0:Option Addr) (c0_0:Nat) (l0_0:List (S59)) (A0_1:Option Addr) (c0_1:Nat) (l0_1:List (S59)) (A0_2:Option Addr) (c0_2:Nat) (l0_2:List (S46)) (r:ByteArray) (w:World) (hr0_0:Kd.C k59 w A0_0 l0_0.length l0_0) (hc0_0:l0_0.length≤c0_0) (hr0_1:Kd.C k59 w A0_1 l0_1.length l0_1) (hc0_1:l0_1.length≤c0_1) (hr0_2:Kd.C k46 w A0_2 l0_2.length l0_2) (hc0_2:l0_2.length≤c0_2) (h:deadboltref6_Text.f k l0_0 l0_1 l0_2=some r):
  Calls Tryd.prog 13 #[.agg #[.slice A0_0 l0_0.length c0_0,.slice A0_1 l0_1.length c0_1,.slice A0_2 l0_2.length c0_2]] w fun e w'=>e= .returned (.string r)∧Below w.heap.size w w':=by
 have hu30:=Tryd.underlying30;have hu46:=Tryd.underlying46;have HR0_0:=Aside0.mk hr0_0;have HC0_0:=Aside0.mk hc0_0;clear hr0_0 hc0_0;have HR0_1:=Aside0.mk hr0_1;have HC0_1:=Aside0.mk hc0_1;clear hr0_1 hc0_1;have HR0_2:=Aside0.mk hr0_2;have HC0_2:=Aside0.mk hc0_2;clear hr0_2 hc0_2;have HB:=Aside0.mk (Below.refl w.heap.size w);have H:(deadboltref6_Text.l0 k (⟨#[]⟩:ByteArray) 0 l0_0 l0_1 l0_2)=some r:=h;clear h;have H':=Aside0.mk H;clear H;go_enter Tryd.func13,Tryd.ntmps13
 go_wp2_with (first|((with_reducible refine gate_dst (N:=1) rfl ?_);refine box_event ?hg (N:=1) ?hd (cs:=#[.slice A0_0 l0_0.length c0_0,.slice A0_1 l0_1.length c0_1,.slice A0_2 l0_2.length c0_2]) (t:=30) ?hr ?_;(case hd=>rfl);(case hg=>rfl);(case hr=>first|(go_simp;done)|(go_simp;rfl));intro gb213 hg w2 hbox hb;have n0_:=Aside0.mk (below_step (by repeat (first|(with_reducible first|exact HB.out|apply below_alloc|apply pw_below_drewN|apply below_drew1)|exact HB.out)) hb);have n1_:=Aside0.mk (hbox);have n2_:=Aside0.mk ((by rw [hg];exact (below_size (by repeat (first|(with_reducible first|exact HB.out|apply below_alloc|apply pw_below_drewN|apply below_drew1)|exact HB.out))):w.heap.size≤gb213));have n3_:=Aside0.mk ((by rw [hg];exact (below_size (by repeat (first|(with_reducible first|exact HB.out|apply below_alloc|apply pw_below_drewN|apply below_drew1)|exact HB.out))):w.heap.size≤gb213));clear HB;have HB:=n0_;have BK213:=n1_;have GW213:=n2_;have GE213:=n3_;clear n0_ n1_ n2_ n3_;clear hb hbox hg))
 go_loopg [3,4] k (fun kq v3 v4 w'=>∃ (x3_1:ByteArray) (x4_1:Int),v3= .string x3_1∧v4= .int .i64 x4_1∧Aside0 (deadboltref6_Text.l0 kq x3_1 x4_1 l0_0 l0_1 l0_2=some r)∧Aside0 (kq≤k)∧Aside0 (w'.heap[gb213]? =some (.cells #[(.slice A0_0 l0_0.length c0_0),(.slice A0_1 l0_1.length c0_1),(.slice A0_2 l0_2.length c0_2)] 30 (0,0)))∧Aside0 (Below w.heap.size w w'))
 case atStart=>exact ⟨((⟨#[]⟩:ByteArray)),(0),(by first|rfl|(simp;done)|(simp [*];done)),(by first|rfl|(simp;done)|(simp [*];done)),H',⟨Nat.le_refl _⟩,⟨by (with_reducible repeat (first|refine blk_drewN ?_ _|refine blk_drew ?_|refine blk_alloc ?_ _));exact BK213.out⟩,⟨by repeat (first|(with_reducible first|exact HB.out|apply below_alloc|apply pw_below_drewN|apply below_drew1|refine below_set ?_ GE213.out)|exact HB.out)⟩⟩
 case round=>
  clear H';try clear c1
  try clear p2
  obtain ⟨x3_1,x4_1,rfl,rfl,HA,HK1,BK213,HB⟩:=hrel;cases gk with
  |zero=>exact absurd HA.out (by simp [deadboltref6_Text.l0])
  |succ k1=>
   have H:=HA.out;clear HA;simp only [deadboltref6_Text.l0] at H;by_cases c3:x4_1<(l0_0.length:Int)
   ·rw [if_pos c3] at H;have c3b0:decide (x4_1<(l0_0.length:Int))=true:=decide_eq_true c3;clear c3;by_cases c4:x3_1.size+4≤9223372036854775807
    ·rw [if_pos c4] at H;have c4b0:=eq_true c4;have c4b1:decide (x3_1.size+4≤9223372036854775807)=true:=decide_eq_true c4;try have c4b2:(9223372036854775807<x3_1.size+4)=False:=eq_false (Nat.not_lt.2 c4)
     by_cases c5:0≤x4_1
     ·rw [if_pos c5] at H;have c5b0:decide (0≤x4_1)=true:=decide_eq_true c5;clear c5;by_cases c6:(x3_1++(⟨#[118,97,114,32]⟩:ByteArray)).size+((rd_T59 l0_0 x4_1).f0).size≤9223372036854775807
      ·rw [if_pos c6] at H;have c6b0:=eq_true c6;have c6b1:decide ((x3_1++(⟨#[118,97,114,32]⟩:ByteArray)).size+((rd_T59 l0_0 x4_1).f0).size≤9223372036854775807)=true:=decide_eq_true c6;(try (have c6t1:decide (x3_1.size+4+((rd_T59 l0_0 x4_1).f0).size≤9223372036854775807)=true:=by have h_:=c6b1;simp only [ByteArray.size_append] at h_;exact h_))
       try have c6b2:(9223372036854775807<(x3_1++(⟨#[118,97,114,32]⟩:ByteArray)).size+((rd_T59 l0_0 x4_1).f0).size)=False:=eq_false (Nat.not_lt.2 c6)
       (try (have c6t2:(9223372036854775807<x3_1.size+4+((rd_T59 l0_0 x4_1).f0).size)=False:=by have h_:=c6b2;simp only [ByteArray.size_append] at h_;exact h_))
       by_cases c7:((x3_1++(⟨#[118,97,114,32]⟩:ByteArray))++((rd_T59 l0_0 x4_1).f0)).size+1≤9223372036854775807
       ·rw [if_pos c7] at H;have c7b0:=eq_true c7;have c7b1:decide (((x3_1++(⟨#[118,97,114,32]⟩:ByteArray))++((rd_T59 l0_0 x4_1).f0)).size+1≤9223372036854775807)=true:=decide_eq_true c7;(try (have c7t1:decide (x3_1.size+4+((rd_T59 l0_0 x4_1).f0).size+1≤9223372036854775807)=true:=by have h_:=c7b1;simp only [ByteArray.size_append] at h_;exact h_))
        try have c7b2:(9223372036854775807<((x3_1++(⟨#[118,97,114,32]⟩:ByteArray))++((rd_T59 l0_0 x4_1).f0)).size+1)=False:=eq_false (Nat.not_lt.2 c7)
        (try (have c7t2:(9223372036854775807<x3_1.size+4+((rd_T59 l0_0 x4_1).f0).size+1)=False:=by have h_:=c7b2;simp only [ByteArray.size_append] at h_;exact h_))
        have H':=Aside0.mk H;clear H;have hcz8_0:wr.cell? ⟨gb213,0,none⟩=some (.slice A0_0 l0_0.length c0_0):=(blk_cell BK213.out 0).trans rfl;have hcz8_1:wr.cell? ⟨gb213,1,none⟩=some (.slice A0_1 l0_1.length c0_1):=(blk_cell BK213.out 1).trans rfl;have hcz8_2:wr.cell? ⟨gb213,2,none⟩=some (.slice A0_2 l0_2.length c0_2):=(blk_cell BK213.out 2).trans rfl;have hfz8_0:=blk_frozen BK213.out 0;have hfz8_1:=blk_frozen BK213.out 1;have hfz8_2:=blk_frozen BK213.out 2;have p214:0≤(x4_1:Int):=of_decide_eq_true (by assumption);have q214:x4_1<(l0_0.length:Int):=of_decide_eq_true (by assumption);obtain ⟨ad214,e214,hx214_0,hx214_1⟩:=at_T59 HR0_0.out x4_1 p214 q214;cases e214
        replace hx214_0:=(HB.out.cell (World.block_lt_of_cell? w _ hx214_0)).trans hx214_0;replace hx214_1:=(HB.out.cell (World.block_lt_of_cell? w _ hx214_1)).trans hx214_1;replace p214:=eq_true p214;replace q214:=eq_true q214;go_wp2
        go_roundg k1
        case measure=>have:=HK1.out;omega
        case rel=>exact ⟨(((x3_1++(⟨#[118,97,114,32]⟩:ByteArray))++((rd_T59 l0_0 x4_1).f0))++(⟨#[10]⟩:ByteArray)),(wrap64 (x4_1+1)),(by first|rfl|(simp;done)|(simp [*];done)),(by first|rfl|(simp;done)|(simp [*];done)),H',⟨by have:=HK1.out;omega⟩,⟨by (with_reducible repeat (first|refine blk_drewN ?_ _|refine blk_drew ?_|refine blk_alloc ?_ _));exact BK213.out⟩,⟨by repeat (first|(with_reducible first|exact HB.out|apply below_alloc|apply pw_below_drewN|apply below_drew1|refine below_set ?_ GE213.out)|exact HB.out)⟩⟩
       ·rw [if_neg c7] at H;exact absurd H (by simp)
      ·rw [if_neg c6] at H;exact absurd H (by simp)
     ·rw [if_neg c5] at H;exact absurd H (by simp)
    ·rw [if_neg c4] at H;exact absurd H (by simp)
   ·rw [if_neg c3] at H;have c3b0:decide (x4_1<(l0_0.length:Int))=false:=decide_eq_false c3;clear c3;have H':=Aside0.mk H;clear H;have hcz9_0:wr.cell? ⟨gb213,0,none⟩=some (.slice A0_0 l0_0.length c0_0):=(blk_cell BK213.out 0).trans rfl;have hcz9_1:wr.cell? ⟨gb213,1,none⟩=some (.slice A0_1 l0_1.length c0_1):=(blk_cell BK213.out 1).trans rfl;have hcz9_2:wr.cell? ⟨gb213,2,none⟩=some (.slice A0_2 l0_2.length c0_2):=(blk_cell BK213.out 2).trans rfl;have hfz9_0:=blk_frozen BK213.out 0;have hfz9_1:=blk_frozen BK213.out 1;have hfz9_2:=blk_frozen BK213.out 2;go_wp2
    go_loopg [3,5] k1 (fun kq v3 v5 w'=>∃ (x3_2:ByteArray) (x5_2:Int),v3= .string x3_2∧v5= .int .i64 x5_2∧Aside0 (deadboltref6_Text.l1 kq x3_2 x5_2 l0_0 l0_1 l0_2=some r)∧Aside0 (kq≤k1)∧Aside0 (w'.heap[gb213]? =some (.cells #[(.slice A0_0 l0_0.length c0_0),(.slice A0_1 l0_1.length c0_1),(.slice A0_2 l0_2.length c0_2)] 30 (0,0)))∧Aside0 (Below w.heap.size w w'))
    case atStart=>exact ⟨(x3_1),(0),(by first|rfl|(simp;done)|(simp [*];done)),(by first|rfl|(simp;done)|(simp [*];done)),H',⟨Nat.le_refl _⟩,⟨by (with_reducible repeat (first|refine blk_drewN ?_ _|refine blk_drew ?_|refine blk_alloc ?_ _));exact BK213.out⟩,⟨by repeat (first|(with_reducible first|exact HB.out|apply below_alloc|apply pw_below_drewN|apply below_drew1|refine below_set ?_ GE213.out)|exact HB.out)⟩⟩
    case round=>
     clear H';try clear c1
     try clear p2
     try clear q2
     try clear hx2
     try clear c3
     try clear c3b0
     try clear c4
     try clear c4b0
     try clear c4b1
     try clear c4b2
     try clear c5
     try clear c5b0
     try clear c6
     try clear c6b0
     try clear c6b1
     try clear c6b2
     try clear p6
     try clear c7
     try clear c7b0
     try clear c7b1
     try clear c7b2
     try clear hcz8_0
     try clear hcz8_1
     try clear hcz8_2
     try clear hcz9_0
     try clear hcz9_1
     try clear hcz9_2
     try clear hfz8_0
     try clear hfz8_1
     try clear hfz8_2
     try clear hfz9_0
     try clear hfz9_1
     try clear hfz9_2
     try clear hx214_0
     try clear hx214_1
     try clear p2
     try clear p214
     try clear q214
     obtain ⟨x3_2,x5_2,rfl,rfl,HA,HK2,BK213,HB⟩:=hrel;cases gk with
     |zero=>exact absurd HA.out (by simp [deadboltref6_Text.l1])
     |succ k2=>
      have H:=HA.out;clear HA;simp only [deadboltref6_Text.l1] at H;by_cases c10:x5_2<(l0_1.length:Int)
      ·rw [if_pos c10] at H;have c10b0:decide (x5_2<(l0_1.length:Int))=true:=decide_eq_true c10;clear c10;by_cases c11:x3_2.size+5≤9223372036854775807
       ·rw [if_pos c11] at H;have c11b0:=eq_true c11;have c11b1:decide (x3_2.size+5≤9223372036854775807)=true:=decide_eq_true c11;try have c11b2:(9223372036854775807<x3_2.size+5)=False:=eq_false (Nat.not_lt.2 c11)
        by_cases c12:0≤x5_2
        ·rw [if_pos c12] at H;have c12b0:decide (0≤x5_2)=true:=decide_eq_true c12;clear c12;by_cases c13:(x3_2++(⟨#[108,111,99,107,32]⟩:ByteArray)).size+((rd_T59 l0_1 x5_2).f0).size≤9223372036854775807
         ·rw [if_pos c13] at H;have c13b0:=eq_true c13;have c13b1:decide ((x3_2++(⟨#[108,111,99,107,32]⟩:ByteArray)).size+((rd_T59 l0_1 x5_2).f0).size≤9223372036854775807)=true:=decide_eq_true c13;(try (have c13t1:decide (x3_2.size+5+((rd_T59 l0_1 x5_2).f0).size≤9223372036854775807)=true:=by have h_:=c13b1;simp only [ByteArray.size_append] at h_;exact h_))
          try have c13b2:(9223372036854775807<(x3_2++(⟨#[108,111,99,107,32]⟩:ByteArray)).size+((rd_T59 l0_1 x5_2).f0).size)=False:=eq_false (Nat.not_lt.2 c13)
          (try (have c13t2:(9223372036854775807<x3_2.size+5+((rd_T59 l0_1 x5_2).f0).size)=False:=by have h_:=c13b2;simp only [ByteArray.size_append] at h_;exact h_))
          by_cases c14:((x3_2++(⟨#[108,111,99,107,32]⟩:ByteArray))++((rd_T59 l0_1 x5_2).f0)).size+1≤9223372036854775807
          ·rw [if_pos c14] at H;have c14b0:=eq_true c14;have c14b1:decide (((x3_2++(⟨#[108,111,99,107,32]⟩:ByteArray))++((rd_T59 l0_1 x5_2).f0)).size+1≤9223372036854775807)=true:=decide_eq_true c14;(try (have c14t1:decide (x3_2.size+5+((rd_T59 l0_1 x5_2).f0).size+1≤9223372036854775807)=true:=by have h_:=c14b1;simp only [ByteArray.size_append] at h_;exact h_))
           try have c14b2:(9223372036854775807<((x3_2++(⟨#[108,111,99,107,32]⟩:ByteArray))++((rd_T59 l0_1 x5_2).f0)).size+1)=False:=eq_false (Nat.not_lt.2 c14)
           (try (have c14t2:(9223372036854775807<x3_2.size+5+((rd_T59 l0_1 x5_2).f0).size+1)=False:=by have h_:=c14b2;simp only [ByteArray.size_append] at h_;exact h_))
           have H':=Aside0.mk H;clear H;have hcz15_0:wr.cell? ⟨gb213,0,none⟩=some (.slice A0_0 l0_0.length c0_0):=(blk_cell BK213.out 0).trans rfl;have hcz15_1:wr.cell? ⟨gb213,1,none⟩=some (.slice A0_1 l0_1.length c0_1):=(blk_cell BK213.out 1).trans rfl;have hcz15_2:wr.cell? ⟨gb213,2,none⟩=some (.slice A0_2 l0_2.length c0_2):=(blk_cell BK213.out 2).trans rfl;have hfz15_0:=blk_frozen BK213.out 0;have hfz15_1:=blk_frozen BK213.out 1;have hfz15_2:=blk_frozen BK213.out 2;have p215:0≤(x5_2:Int):=of_decide_eq_true (by assumption);have q215:x5_2<(l0_1.length:Int):=of_decide_eq_true (by assumption);obtain ⟨ad215,e215,hx215_0,hx215_1⟩:=at_T59 HR0_1.out x5_2 p215 q215;cases e215
           replace hx215_0:=(HB.out.cell (World.block_lt_of_cell? w _ hx215_0)).trans hx215_0;replace hx215_1:=(HB.out.cell (World.block_lt_of_cell? w _ hx215_1)).trans hx215_1;replace p215:=eq_true p215;replace q215:=eq_true q215;go_wp2
           go_roundg k2
           case measure=>have:=HK1.out;have:=HK2.out;omega
           case rel=>exact ⟨(((x3_2++(⟨#[108,111,99,107,32]⟩:ByteArray))++((rd_T59 l0_1 x5_2).f0))++(⟨#[10]⟩:ByteArray)),(wrap64 (x5_2+1)),(by first|rfl|(simp;done)|(simp [*];done)),(by first|rfl|(simp;done)|(simp [*];done)),H',⟨by have:=HK1.out;have:=HK2.out;omega⟩,⟨by (with_reducible repeat (first|refine blk_drewN ?_ _|refine blk_drew ?_|refine blk_alloc ?_ _));exact BK213.out⟩,⟨by repeat (first|(with_reducible first|exact HB.out|apply below_alloc|apply pw_below_drewN|apply below_drew1|refine below_set ?_ GE213.out)|exact HB.out)⟩⟩
          ·rw [if_neg c14] at H;exact absurd H (by simp)
         ·rw [if_neg c13] at H;exact absurd H (by simp)
        ·rw [if_neg c12] at H;exact absurd H (by simp)
       ·rw [if_neg c11] at H;exact absurd H (by simp)
      ·rw [if_neg c10] at H;have c10b0:decide (x5_2<(l0_1.length:Int))=false:=decide_eq_false c10;clear c10;have H':=Aside0.mk H;clear H;have hcz16_0:wr.cell? ⟨gb213,0,none⟩=some (.slice A0_0 l0_0.length c0_0):=(blk_cell BK213.out 0).trans rfl;have hcz16_1:wr.cell? ⟨gb213,1,none⟩=some (.slice A0_1 l0_1.length c0_1):=(blk_cell BK213.out 1).trans rfl;have hcz16_2:wr.cell? ⟨gb213,2,none⟩=some (.slice A0_2 l0_2.length c0_2):=(blk_cell BK213.out 2).trans rfl;have hfz16_0:=blk_frozen BK213.out 0;have hfz16_1:=blk_frozen BK213.out 1;have hfz16_2:=blk_frozen BK213.out 2;go_wp2
       go_loopg [3,6] k2 (fun kq v3 v6 w'=>∃ (x3_3:ByteArray) (x6_3:Int),v3= .string x3_3∧v6= .int .i64 x6_3∧Aside0 (deadboltref6_Text.l2 kq x3_3 x6_3 l0_0 l0_1 l0_2=some r)∧Aside0 (kq≤k2)∧Aside0 (w'.heap[gb213]? =some (.cells #[(.slice A0_0 l0_0.length c0_0),(.slice A0_1 l0_1.length c0_1),(.slice A0_2 l0_2.length c0_2)] 30 (0,0)))∧Aside0 (Below w.heap.size w w'))
       case atStart=>exact ⟨(x3_2),(0),(by first|rfl|(simp;done)|(simp [*];done)),(by first|rfl|(simp;done)|(simp [*];done)),H',⟨Nat.le_refl _⟩,⟨by (with_reducible repeat (first|refine blk_drewN ?_ _|refine blk_drew ?_|refine blk_alloc ?_ _));exact BK213.out⟩,⟨by repeat (first|(with_reducible first|exact HB.out|apply below_alloc|apply pw_below_drewN|apply below_drew1|refine below_set ?_ GE213.out)|exact HB.out)⟩⟩
       case round=>
        clear H';try clear c1
        try clear p2
        try clear q2
        try clear hx2
        try clear c3
        try clear c3b0
        try clear c4
        try clear c4b0
        try clear c4b1
        try clear c4b2
        try clear c5
        try clear c5b0
        try clear c6
        try clear c6b0
        try clear c6b1
        try clear c6b2
        try clear p6
        try clear c7
        try clear c7b0
        try clear c7b1
        try clear c7b2
        try clear c10
        try clear c10b0
        try clear c11
        try clear c11b0
        try clear c11b1
        try clear c11b2
        try clear c12
        try clear c12b0
        try clear c13
        try clear c13b0
        try clear c13b1
        try clear c13b2
        try clear c14
        try clear c14b0
        try clear c14b1
        try clear c14b2
        try clear hcz15_0
        try clear hcz15_1
        try clear hcz15_2
        try clear hcz16_0
        try clear hcz16_1
        try clear hcz16_2
        try clear hcz8_0
        try clear hcz8_1
        try clear hcz8_2
        try clear hcz9_0
        try clear hcz9_1
        try clear hcz9_2
        try clear hfz15_0
        try clear hfz15_1
        try clear hfz15_2
        try clear hfz16_0
        try clear hfz16_1
        try clear hfz16_2
        try clear hfz8_0
        try clear hfz8_1
        try clear hfz8_2
        try clear hfz9_0
        try clear hfz9_1
        try clear hfz9_2
        try clear hx214_0
        try clear hx214_1
        try clear hx215_0
        try clear hx215_1
        try clear p2
        try clear p214
        try clear p215
        try clear p6
        try clear q2
        try clear q214
        try clear q215
        obtain ⟨x3_3,x6_3,rfl,rfl,HA,HK3,BK213,HB⟩:=hrel;cases gk with
        |zero=>exact absurd HA.out (by simp [deadboltref6_Text.l2])
        |succ k3=>
         have H:=HA.out;clear HA;simp only [deadboltref6_Text.l2] at H;by_cases c17:x6_3<(l0_2.length:Int)
         ·rw [if_pos c17] at H;have c17b0:decide (x6_3<(l0_2.length:Int))=true:=decide_eq_true c17;clear c17;by_cases c18:x3_3.size+5≤9223372036854775807
          ·rw [if_pos c18] at H;have c18b0:=eq_true c18;have c18b1:decide (x3_3.size+5≤9223372036854775807)=true:=decide_eq_true c18;try have c18b2:(9223372036854775807<x3_3.size+5)=False:=eq_false (Nat.not_lt.2 c18)
           by_cases c19:0≤x6_3
           ·rw [if_pos c19] at H;have c19b0:decide (0≤x6_3)=true:=decide_eq_true c19;clear c19;by_cases c20:(x3_3++(⟨#[102,117,110,99,32]⟩:ByteArray)).size+((rd_T46 l0_2 x6_3).f0).size≤9223372036854775807
            ·rw [if_pos c20] at H;have c20b0:=eq_true c20;have c20b1:decide ((x3_3++(⟨#[102,117,110,99,32]⟩:ByteArray)).size+((rd_T46 l0_2 x6_3).f0).size≤9223372036854775807)=true:=decide_eq_true c20;(try (have c20t1:decide (x3_3.size+5+((rd_T46 l0_2 x6_3).f0).size≤9223372036854775807)=true:=by have h_:=c20b1;simp only [ByteArray.size_append] at h_;exact h_))
             try have c20b2:(9223372036854775807<(x3_3++(⟨#[102,117,110,99,32]⟩:ByteArray)).size+((rd_T46 l0_2 x6_3).f0).size)=False:=eq_false (Nat.not_lt.2 c20)
             (try (have c20t2:(9223372036854775807<x3_3.size+5+((rd_T46 l0_2 x6_3).f0).size)=False:=by have h_:=c20b2;simp only [ByteArray.size_append] at h_;exact h_))
             by_cases c21:((x3_3++(⟨#[102,117,110,99,32]⟩:ByteArray))++((rd_T46 l0_2 x6_3).f0)).size+1≤9223372036854775807
             ·rw [if_pos c21] at H;have c21b0:=eq_true c21;have c21b1:decide (((x3_3++(⟨#[102,117,110,99,32]⟩:ByteArray))++((rd_T46 l0_2 x6_3).f0)).size+1≤9223372036854775807)=true:=decide_eq_true c21;(try (have c21t1:decide (x3_3.size+5+((rd_T46 l0_2 x6_3).f0).size+1≤9223372036854775807)=true:=by have h_:=c21b1;simp only [ByteArray.size_append] at h_;exact h_))
              try have c21b2:(9223372036854775807<((x3_3++(⟨#[102,117,110,99,32]⟩:ByteArray))++((rd_T46 l0_2 x6_3).f0)).size+1)=False:=eq_false (Nat.not_lt.2 c21)
              (try (have c21t2:(9223372036854775807<x3_3.size+5+((rd_T46 l0_2 x6_3).f0).size+1)=False:=by have h_:=c21b2;simp only [ByteArray.size_append] at h_;exact h_))
              replace H:=Option.bind_eq_some_iff.mp H;obtain ⟨t218,A220,H⟩:=H;replace H:(if (((x3_3++(⟨#[102,117,110,99,32]⟩:ByteArray))++((rd_T46 l0_2 x6_3).f0))++(⟨#[32]⟩:ByteArray)).size+t218.size≤9223372036854775807 then (if ((((x3_3++(⟨#[102,117,110,99,32]⟩:ByteArray))++((rd_T46 l0_2 x6_3).f0))++(⟨#[32]⟩:ByteArray))++t218).size+1≤9223372036854775807 then (deadboltref6_Text.l2 k3 (((((x3_3++(⟨#[102,117,110,99,32]⟩:ByteArray))++((rd_T46 l0_2 x6_3).f0))++(⟨#[32]⟩:ByteArray))++t218)++(⟨#[10]⟩:ByteArray)) (wrap64 (x6_3+1)) l0_0 l0_1 l0_2) else (none)) else (none))=some r:=H;have A22:=Aside0.mk A220;clear A220;by_cases c23:(((x3_3++(⟨#[102,117,110,99,32]⟩:ByteArray))++((rd_T46 l0_2 x6_3).f0))++(⟨#[32]⟩:ByteArray)).size+t218.size≤9223372036854775807
              ·rw [if_pos c23] at H;have c23b0:=eq_true c23;have c23b1:decide ((((x3_3++(⟨#[102,117,110,99,32]⟩:ByteArray))++((rd_T46 l0_2 x6_3).f0))++(⟨#[32]⟩:ByteArray)).size+t218.size≤9223372036854775807)=true:=decide_eq_true c23;(try (have c23t1:decide (x3_3.size+5+((rd_T46 l0_2 x6_3).f0).size+1+t218.size≤9223372036854775807)=true:=by have h_:=c23b1;simp only [ByteArray.size_append] at h_;exact h_))
               try have c23b2:(9223372036854775807<(((x3_3++(⟨#[102,117,110,99,32]⟩:ByteArray))++((rd_T46 l0_2 x6_3).f0))++(⟨#[32]⟩:ByteArray)).size+t218.size)=False:=eq_false (Nat.not_lt.2 c23)
               (try (have c23t2:(9223372036854775807<x3_3.size+5+((rd_T46 l0_2 x6_3).f0).size+1+t218.size)=False:=by have h_:=c23b2;simp only [ByteArray.size_append] at h_;exact h_))
               by_cases c24:((((x3_3++(⟨#[102,117,110,99,32]⟩:ByteArray))++((rd_T46 l0_2 x6_3).f0))++(⟨#[32]⟩:ByteArray))++t218).size+1≤9223372036854775807
               ·rw [if_pos c24] at H;have c24b0:=eq_true c24;have c24b1:decide (((((x3_3++(⟨#[102,117,110,99,32]⟩:ByteArray))++((rd_T46 l0_2 x6_3).f0))++(⟨#[32]⟩:ByteArray))++t218).size+1≤9223372036854775807)=true:=decide_eq_true c24;(try (have c24t1:decide (x3_3.size+5+((rd_T46 l0_2 x6_3).f0).size+1+t218.size+1≤9223372036854775807)=true:=by have h_:=c24b1;simp only [ByteArray.size_append] at h_;exact h_))
                try have c24b2:(9223372036854775807<((((x3_3++(⟨#[102,117,110,99,32]⟩:ByteArray))++((rd_T46 l0_2 x6_3).f0))++(⟨#[32]⟩:ByteArray))++t218).size+1)=False:=eq_false (Nat.not_lt.2 c24)
                (try (have c24t2:(9223372036854775807<x3_3.size+5+((rd_T46 l0_2 x6_3).f0).size+1+t218.size+1)=False:=by have h_:=c24b2;simp only [ByteArray.size_append] at h_;exact h_))
                have H':=Aside0.mk H;clear H;have hcz25_0:wr.cell? ⟨gb213,0,none⟩=some (.slice A0_0 l0_0.length c0_0):=(blk_cell BK213.out 0).trans rfl;have hcz25_1:wr.cell? ⟨gb213,1,none⟩=some (.slice A0_1 l0_1.length c0_1):=(blk_cell BK213.out 1).trans rfl;have hcz25_2:wr.cell? ⟨gb213,2,none⟩=some (.slice A0_2 l0_2.length c0_2):=(blk_cell BK213.out 2).trans rfl;have hfz25_0:=blk_frozen BK213.out 0;have hfz25_1:=blk_frozen BK213.out 1;have hfz25_2:=blk_frozen BK213.out 2;try go_wp2
                have n0_:=Aside0.mk (blk_drew BK213.out);have n1_:=Aside0.mk (below_drew1 HB.out);clear BK213;clear HB;have BK213:=n0_;have HB:=n1_;clear n0_ n1_;have p216:0≤(x6_3:Int):=of_decide_eq_true (by assumption);have q216:x6_3<(l0_2.length:Int):=of_decide_eq_true (by assumption);obtain ⟨ad216,A216_2,c216_2,e216,hx216_0,hx216_1,hx216_2,hl216_2,hi216_2⟩:=at_T46 HR0_2.out x6_3 p216 q216;have hw216_2:=hx216_2;have hw216_1:=hx216_1;have hw216_0:=hx216_0;cases e216
                replace hx216_0:=(HB.out.cell (World.block_lt_of_cell? w _ hx216_0)).trans hx216_0;replace hx216_1:=(HB.out.cell (World.block_lt_of_cell? w _ hx216_1)).trans hx216_1;replace hx216_2:=(HB.out.cell (World.block_lt_of_cell? w _ hx216_2)).trans hx216_2;have HR216_2:=Aside0.mk hi216_2;have HC216_2:=Aside0.mk hl216_2;clear hi216_2 hl216_2;replace p216:=eq_true p216;replace q216:=eq_true q216;have p217:0≤(x6_3:Int):=of_decide_eq_true (by assumption);have q217:x6_3<(l0_2.length:Int):=of_decide_eq_true (by assumption);obtain ⟨ad217,A217_2,c217_2,e217,hx217_0,hx217_1,hx217_2,hl217_2,hi217_2⟩:=at_T46 HR0_2.out x6_3 p217 q217;have hw217_2:=hx217_2;have hw217_1:=hx217_1;have hw217_0:=hx217_0;obtain rfl:ad216=ad217:=(by injection e217);replace hx217_0:=(HB.out.cell (World.block_lt_of_cell? w _ hx217_0)).trans hx217_0;replace hx217_1:=(HB.out.cell (World.block_lt_of_cell? w _ hx217_1)).trans hx217_1;replace hx217_2:=(HB.out.cell (World.block_lt_of_cell? w _ hx217_2)).trans hx217_2;have HR217_2:=Aside0.mk hi217_2;have HC217_2:=Aside0.mk hl217_2;clear hi217_2 hl217_2;replace p217:=eq_true p217;replace q217:=eq_true q217;have ea_:=Option.some.inj (hx216_2.symm.trans hx217_2);injection ea_ with ea_ en_ ec_
                subst ea_;subst ec_;clear en_;refine start_ (n:=19) (S:=fun w'=>w'.cell? ⟨gb213,0,none⟩=some (.slice A0_0 l0_0.length c0_0)∧w'.cell? ⟨gb213,1,none⟩=some (.slice A0_1 l0_1.length c0_1)∧w'.cell? ⟨gb213,2,none⟩=some (.slice (some ad216) l0_2.length c0_2)∧w'.cell? (ad216.add ((x6_3).toNat * 3))=some (.string ((rd_T46 l0_2 x6_3).f0))∧w'.cell? ⟨(ad216.add ((x6_3).toNat * 3)).block,(ad216.add ((x6_3).toNat * 3)).off+1,none⟩=some (.int .i64 ((rd_T46 l0_2 x6_3).f1))∧w'.cell? ⟨(ad216.add ((x6_3).toNat * 3)).block,(ad216.add ((x6_3).toNat * 3)).off+2,none⟩=some (.slice A216_2 ((rd_T46 l0_2 x6_3).f2).length c216_2)∧w'.cell? (ad216.add ((x6_3).toNat * 3))=some (.string ((rd_T46 l0_2 x6_3).f0))∧w'.cell? ⟨(ad216.add ((x6_3).toNat * 3)).block,(ad216.add ((x6_3).toNat * 3)).off+1,none⟩=some (.int .i64 ((rd_T46 l0_2 x6_3).f1))∧w'.cell? ⟨(ad216.add ((x6_3).toNat * 3)).block,(ad216.add ((x6_3).toNat * 3)).off+2,none⟩=some (.slice A216_2 ((rd_T46 l0_2 x6_3).f2).length c216_2)) (ds:=[]) #[false,false,false,false,false,false,false,false,false,false,false,false,false,false,false,false,false,false,false] (by kernel_rfl) rfl rfl ⟨(blk_cell BK213.out 0).trans rfl,(blk_cell BK213.out 1).trans rfl,(blk_cell BK213.out 2).trans rfl,((HB.out.cell (World.block_lt_of_cell? w _ hw216_0)).trans hw216_0),((HB.out.cell (World.block_lt_of_cell? w _ hw216_1)).trans hw216_1),((HB.out.cell (World.block_lt_of_cell? w _ hw216_2)).trans hw216_2),((HB.out.cell (World.block_lt_of_cell? w _ hw217_0)).trans hw217_0),((HB.out.cell (World.block_lt_of_cell? w _ hw217_1)).trans hw217_1),((HB.out.cell (World.block_lt_of_cell? w _ hw217_2)).trans hw217_2)⟩ (fun hHeld=>?_);refine with_tabW deadboltref6_Text.tab13 deadboltref6_Text.bits13 (fun HT_ HW_=>?_);generalize wr.drew=w26 at BK213 HB HR216_2 HR217_2 hx216_0 hx216_1 hx216_2 hx217_0 hx217_1 hx217_2 hHeld ⊢;refine pure_ (i:=0) (N:=some 48) (v:=?_) (a':=?_) #[true,false,false,false,false,false,false,false,false,false,false,false,false,false,false,false,false,false,false] rfl rfl (any_of HT_.out (by kernel_rfl)) (fun _ _ _ h=>h) (Or.inl ⟨by rfl,?_⟩) ?_ ?_
                rotate_left;·intro w';go_simp;with_reducible rfl
                rotate_left;·simp only [Act.put,q1_,q2_,q3_,i64_w,i32_w];rfl
                refine pure_ (i:=1) (N:=some 49) (v:=?_) (a':=?_) #[true,true,false,false,false,false,false,false,false,false,false,false,false,false,false,false,false,false,false] rfl rfl (any_of HT_.out (by kernel_rfl)) (fun _ _ _ h=>h) (Or.inl ⟨by rfl,?_⟩) ?_ ?_
                rotate_left;·intro w';go_simp;with_reducible rfl
                rotate_left;·simp only [Act.put,q1_,q2_,q3_,i64_w,i32_w];rfl
                refine pure_ (i:=2) (N:=some 50) (v:=?_) (a':=?_) #[true,true,true,false,false,false,false,false,false,false,false,false,false,false,false,false,false,false,false] rfl rfl (any_of HT_.out (by kernel_rfl)) (fun _ _ _ h=>h) (Or.inl ⟨by rfl,?_⟩) ?_ ?_
                rotate_left;·intro w';go_simp;with_reducible rfl
                rotate_left;·simp only [Act.put,q1_,q2_,q3_,i64_w,i32_w];rfl
                refine pure_ (i:=4) (N:=some 52) (v:=?_) (a':=?_) #[true,true,true,false,true,false,false,false,false,false,false,false,false,false,false,false,false,false,false] rfl rfl (any_of HT_.out (by kernel_rfl)) (fun _ _ _ h=>h) (Or.inl ⟨by rfl,?_⟩) ?_ ?_
                rotate_left;·intro w';go_simp;with_reducible rfl
                rotate_left;·simp only [Act.put,q1_,q2_,q3_,i64_w,i32_w];rfl
                refine pure_ (i:=10) (N:=some 58) (v:=?_) (a':=?_) #[true,true,true,false,true,false,false,false,false,false,true,false,false,false,false,false,false,false,false] rfl rfl (any_of HT_.out (by kernel_rfl)) (fun _ _ _ h=>h) (Or.inl ⟨by rfl,?_⟩) ?_ ?_
                rotate_left;·intro w';go_simp;with_reducible rfl
                rotate_left;·simp only [Act.put,q1_,q2_,q3_,i64_w,i32_w];rfl
                refine pure_ (i:=12) (N:=some 60) (v:=?_) (a':=?_) #[true,true,true,false,true,false,false,false,false,false,true,false,true,false,false,false,false,false,false] rfl rfl (any_of HT_.out (by kernel_rfl)) (fun _ _ _ h=>h) (Or.inl ⟨by rfl,?_⟩) ?_ ?_
                rotate_left;·intro w';go_simp;with_reducible rfl
                rotate_left;·simp only [Act.put,q1_,q2_,q3_,i64_w,i32_w];rfl
                refine take_ (i:=3) (N:=some 51) (v:=?_) (a':=?_) #[true,true,true,true,true,false,false,false,false,false,true,false,true,false,false,false,false,false,false] rfl rfl (take_ofW HT_.out HW_.out (by kernel_rfl)) (fun _ _ _ h=>h) (Or.inl ⟨by rfl,?_⟩) hHeld ?_ ?_
                rotate_left
                ·rintro w' ⟨s0,s1,s2,s3,s4,s5,s6,s7,s8⟩
                 go_simp;with_reducible rfl
                rotate_left;·simp only [Act.put,q1_,q2_,q3_,i64_w,i32_w];rfl
                refine pure_ (i:=5) (N:=some 53) (v:=?_) (a':=?_) #[true,true,true,true,true,true,false,false,false,false,true,false,true,false,false,false,false,false,false] rfl rfl (any_of HT_.out (by kernel_rfl)) (fun _ _ _ h=>h) (Or.inl ⟨by rfl,?_⟩) ?_ ?_
                rotate_left;·intro w';go_simp;with_reducible rfl
                rotate_left;·simp only [Act.put,q1_,q2_,q3_,i64_w,i32_w];rfl
                refine pure_ (i:=6) (N:=some 54) (v:=?_) (a':=?_) #[true,true,true,true,true,true,true,false,false,false,true,false,true,false,false,false,false,false,false] rfl rfl (any_of HT_.out (by kernel_rfl)) (fun _ _ _ h=>h) (Or.inl ⟨by rfl,?_⟩) ?_ ?_
                rotate_left;·intro w';go_simp;with_reducible rfl
                rotate_left;·simp only [Act.put,q1_,q2_,q3_,i64_w,i32_w];rfl
                refine take_ (i:=7) (N:=some 55) (v:=?_) (a':=?_) #[true,true,true,true,true,true,true,true,false,false,true,false,true,false,false,false,false,false,false] rfl rfl (take_ofW HT_.out HW_.out (by kernel_rfl)) (fun _ _ _ h=>h) (Or.inl ⟨by rfl,?_⟩) hHeld ?_ ?_
                rotate_left
                ·rintro w' ⟨s0,s1,s2,s3,s4,s5,s6,s7,s8⟩
                 go_simp;with_reducible rfl
                rotate_left;·simp only [Act.put,q1_,q2_,q3_,i64_w,i32_w];rfl
                refine pure_ (i:=8) (N:=some 56) (v:=?_) (a':=?_) #[true,true,true,true,true,true,true,true,true,false,true,false,true,false,false,false,false,false,false] rfl rfl (any_of HT_.out (by kernel_rfl)) (fun _ _ _ h=>h) (Or.inl ⟨by rfl,?_⟩) ?_ ?_
                rotate_left;·intro w';go_simp;with_reducible rfl
                rotate_left;·simp only [Act.put,q1_,q2_,q3_,i64_w,i32_w];rfl
                refine pure_ (i:=9) (N:=some 57) (v:=?_) (a':=?_) #[true,true,true,true,true,true,true,true,true,true,true,false,true,false,false,false,false,false,false] rfl rfl (any_of HT_.out (by kernel_rfl)) (fun _ _ _ h=>h) (Or.inl ⟨by rfl,?_⟩) ?_ ?_
                rotate_left;·intro w';go_simp;with_reducible rfl
                rotate_left;·simp only [Act.put,q1_,q2_,q3_,i64_w,i32_w];rfl
                refine take_ (i:=11) (N:=some 59) (v:=?_) (a':=?_) #[true,true,true,true,true,true,true,true,true,true,true,true,true,false,false,false,false,false,false] rfl rfl (take_ofW HT_.out HW_.out (by kernel_rfl)) (fun _ _ _ h=>h) (Or.inl ⟨by rfl,?_⟩) hHeld ?_ ?_
                rotate_left
                ·rintro w' ⟨s0,s1,s2,s3,s4,s5,s6,s7,s8⟩
                 go_simp;with_reducible rfl
                rotate_left;·simp only [Act.put,q1_,q2_,q3_,i64_w,i32_w];rfl
                refine pure_ (i:=13) (N:=some 61) (v:=?_) (a':=?_) #[true,true,true,true,true,true,true,true,true,true,true,true,true,true,false,false,false,false,false] rfl rfl (any_of HT_.out (by kernel_rfl)) (fun _ _ _ h=>h) (Or.inl ⟨by rfl,?_⟩) ?_ ?_
                rotate_left;·intro w';go_simp;with_reducible rfl
                rotate_left;·simp only [Act.put,q1_,q2_,q3_,i64_w,i32_w];rfl
                refine take_ (i:=14) (N:=some 62) (v:=?_) (a':=?_) #[true,true,true,true,true,true,true,true,true,true,true,true,true,true,true,false,false,false,false] rfl rfl (take_ofW HT_.out HW_.out (by kernel_rfl)) (fun _ _ _ h=>h) (Or.inl ⟨by rfl,?_⟩) hHeld ?_ ?_
                rotate_left
                ·rintro w' ⟨s0,s1,s2,s3,s4,s5,s6,s7,s8⟩
                 go_simp;with_reducible rfl
                rotate_left;·simp only [Act.put,q1_,q2_,q3_,i64_w,i32_w];rfl
                refine one_ (i:=15) (N:=some 63) #[true,true,true,true,true,true,true,true,true,true,true,true,true,true,true,true,false,false,false] rfl rfl (one_of HT_.out (by kernel_rfl)) (by decide) (fun K hK=>?_);refine goes_ Tryd.func25 (by kernel_rfl) rfl #[.agg #[.string ((rd_T46 l0_2 x6_3).f0),.int .i64 ((rd_T46 l0_2 x6_3).f1),.slice A216_2 ((rd_T46 l0_2 x6_3).f2).length c216_2]] (by rfl) rfl rfl (by (try simp only [List.map_toArray,List.map_cons,List.map_nil]);first|done|rfl|(simp only [List.length_drop,List.length_take];rfl)) ?_
                with_reducible refine (deadboltref6_Body.calls k3 ((rd_T46 l0_2 x6_3).f0) ((rd_T46 l0_2 x6_3).f1) _ _ ((rd_T46 l0_2 x6_3).f2) t218 _ ?side1 ?side2 A22.out).mono ?_
                (case side1=>repeat (first|exact (Kd.C_below HR217_2.out HB.out)|(with_reducible refine Kd.C_alloc ?_ _)|(with_reducible refine Kd.C_drewN ?_ _)|(with_reducible refine Kd.C_drew ?_)))
                (case side2=>exact HC217_2.out)
                rintro e w27 ⟨rfl,hb⟩
                refine ⟨_,rfl,?_⟩;have n0_:=Aside0.mk (blk_below (g:=gb213) (o:=.cells #[.slice A0_0 l0_0.length c0_0,.slice A0_1 l0_1.length c0_1,.slice (some ad216) l0_2.length c0_2] 30 (0,0)) (by (with_reducible repeat (first|refine blk_drewN ?_ _|refine blk_drew ?_|refine blk_alloc ?_ _));exact BK213.out) hb);have n1_:=Aside0.mk (below_step (by repeat (first|(with_reducible first|exact HB.out|apply below_alloc|apply pw_below_drewN|apply below_drew1|refine below_set ?_ GE213.out)|exact HB.out)) hb);clear BK213;clear HB;have BK213:=n0_;have HB:=n1_;clear n0_ n1_;(try clear hb)
                (try clear hb2)
                (try clear hk)
                (try clear hi)
                refine hK.out _ _ ⟨(blk_cell BK213.out 0).trans rfl,(blk_cell BK213.out 1).trans rfl,(blk_cell BK213.out 2).trans rfl,((HB.out.cell (World.block_lt_of_cell? w _ hw216_0)).trans hw216_0),((HB.out.cell (World.block_lt_of_cell? w _ hw216_1)).trans hw216_1),((HB.out.cell (World.block_lt_of_cell? w _ hw216_2)).trans hw216_2),((HB.out.cell (World.block_lt_of_cell? w _ hw217_0)).trans hw217_0),((HB.out.cell (World.block_lt_of_cell? w _ hw217_1)).trans hw217_1),((HB.out.cell (World.block_lt_of_cell? w _ hw217_2)).trans hw217_2)⟩ (fun hHeld=>?_);clear hK K;refine norm_ (a':=?_) ?_ ?_
                rotate_left
                ·show Act.put _ (some 63) _=_
                 simp only [Act.put,q1_,q2_,q3_,i64_w,i32_w];rfl
                refine pure_ (i:=16) (N:=some 64) (v:=?_) (a':=?_) #[true,true,true,true,true,true,true,true,true,true,true,true,true,true,true,true,true,false,false] rfl rfl (any_of HT_.out (by kernel_rfl)) (fun _ _ _ h=>h) (Or.inl ⟨by rfl,?_⟩) ?_ ?_
                rotate_left;·intro w';go_simp;with_reducible rfl
                rotate_left;·simp only [Act.put,q1_,q2_,q3_,i64_w,i32_w];rfl
                refine pure_ (i:=17) (N:=some 65) (v:=?_) (a':=?_) #[true,true,true,true,true,true,true,true,true,true,true,true,true,true,true,true,true,true,false] rfl rfl (any_of HT_.out (by kernel_rfl)) (fun _ _ _ h=>h) (Or.inl ⟨by rfl,?_⟩) ?_ ?_
                rotate_left;·intro w';go_simp;with_reducible rfl
                rotate_left;·simp only [Act.put,q1_,q2_,q3_,i64_w,i32_w];rfl
                refine pure_ (i:=18) (N:=some 3) (v:=?_) (a':=?_) #[true,true,true,true,true,true,true,true,true,true,true,true,true,true,true,true,true,true,true] rfl rfl (any_of HT_.out (by kernel_rfl)) (fun _ _ _ h=>h) (Or.inl ⟨by rfl,?_⟩) ?_ ?_
                rotate_left;·intro w';go_simp;with_reducible rfl
                rotate_left;·simp only [Act.put,q1_,q2_,q3_,i64_w,i32_w];rfl
                refine done_ (done_of HT_.out (by kernel_rfl)) ?_
                try go_wp2
                go_roundg k3
                case measure=>have:=HK1.out;have:=HK2.out;have:=HK3.out;omega
                case rel=>exact ⟨(((((x3_3++(⟨#[102,117,110,99,32]⟩:ByteArray))++((rd_T46 l0_2 x6_3).f0))++(⟨#[32]⟩:ByteArray))++t218)++(⟨#[10]⟩:ByteArray)),(wrap64 (x6_3+1)),(by first|rfl|(simp;done)|(simp [*];done)),(by first|rfl|(simp;done)|(simp [*];done)),H',⟨by have:=HK1.out;have:=HK2.out;have:=HK3.out;omega⟩,⟨by (with_reducible repeat (first|refine blk_drewN ?_ _|refine blk_drew ?_|refine blk_alloc ?_ _));exact BK213.out⟩,⟨by repeat (first|(with_reducible first|exact HB.out|apply below_alloc|apply pw_below_drewN|apply below_drew1|refine below_set ?_ GE213.out)|exact HB.out)⟩⟩
               ·rw [if_neg c24] at H;exact absurd H (by simp)
              ·rw [if_neg c23] at H;exact absurd H (by simp)
             ·rw [if_neg c21] at H;exact absurd H (by simp)
            ·rw [if_neg c20] at H;exact absurd H (by simp)
           ·rw [if_neg c19] at H;exact absurd H (by simp)
          ·rw [if_neg c18] at H;exact absurd H (by simp)
         ·rw [if_neg c17] at H;have c17b0:decide (x6_3<(l0_2.length:Int))=false:=decide_eq_false c17;clear c17;obtain rfl:=Option.some.inj H;have hcz28_0:wr.cell? ⟨gb213,0,none⟩=some (.slice A0_0 l0_0.length c0_0):=(blk_cell BK213.out 0).trans rfl;have hcz28_1:wr.cell? ⟨gb213,1,none⟩=some (.slice A0_1 l0_1.length c0_1):=(blk_cell BK213.out 1).trans rfl;have hcz28_2:wr.cell? ⟨gb213,2,none⟩=some (.slice A0_2 l0_2.length c0_2):=(blk_cell BK213.out 2).trans rfl;have hfz28_0:=blk_frozen BK213.out 0;have hfz28_1:=blk_frozen BK213.out 1;have hfz28_2:=blk_frozen BK213.out 2;go_wp2
          go_ret
          exact ⟨by first|rfl|(simp [errW_none,errW_some]<;>rfl)|(simp [*,errW_none,errW_some]<;>rfl),by repeat (first|(with_reducible first|exact HB.out|apply below_alloc|apply pw_below_drewN|apply below_drew1|refine below_set ?_ GE213.out)|exact HB.out)⟩
end Go.Proofs.YtkmafndljelopaaDoor.Q
