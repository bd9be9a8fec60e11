/- A part of this claim. -/
import Derived.Test.YtkmafndljelopaaDoorUQ0
namespace Go.Proofs.YtkmafndljelopaaDoor.Q
open Go.RowKit Go.Proofs.YtkmafndljelopaaDoorW.PrintWords Go.Proofs.YtkmafndljelopaaDoorW.PrintLast Go.Proofs.YtkmafndljelopaaDoorW.PrintMore
attribute [local go_sem] max2_int min2_int max_two min_two max_three min_three max_four min_four
set_option linter.unusedVariables false
set_option linter.unusedSimpArgs false
def lex_blank.f (a0:Int):Option (Bool):=if a0=32 then (some true) else (if a0=9 then (some true) else (some (a0==10)))
set_option maxHeartbeats 8000000 in
set_option maxRecDepth 100000 in
theorem lex_blank.calls (a0:Int) (r:Bool) (w:World) (h:lex_blank.f a0=some r):
  Calls Tryd.prog 58 #[.int .i32 a0] w fun e w'=>e= .returned (.bool r)∧Drawn0 w w':=by
 have H:(if a0=32 then (some true) else (if a0=9 then (some true) else (some (a0==10))))=some r:=h;clear h;by_cases c2:a0=32
 ·rw [if_pos c2] at H;have c2b0:(a0==32)=true:=beq_iff_eq.mpr c2;have c2b1:(a0 !=32)=false:=bne_eq_false_iff_eq.mpr c2;clear c2;obtain rfl:=Option.some.inj H;go_enter Tryd.func58,Tryd.ntmps58
  go_wp2
  go_ret
  exact ⟨by first|rfl|(simp;done)|(simp [*];done),by repeat (first|exact Drawn0.refl _|apply Drawn0.step)⟩
 ·rw [if_neg c2] at H;have c2b0:(a0==32)=false:=beq_eq_false_iff_ne.mpr c2;have c2b1:(a0 !=32)=true:=bne_iff_ne.mpr c2;by_cases c3:a0=9
  ·rw [if_pos c3] at H;have c3b0:(a0==9)=true:=beq_iff_eq.mpr c3;have c3b1:(a0 !=9)=false:=bne_eq_false_iff_eq.mpr c3;clear c3;obtain rfl:=Option.some.inj H;go_enter Tryd.func58,Tryd.ntmps58
   go_wp2
   go_ret
   exact ⟨by first|rfl|(simp;done)|(simp [*];done),by repeat (first|exact Drawn0.refl _|apply Drawn0.step)⟩
  ·rw [if_neg c3] at H;have c3b0:(a0==9)=false:=beq_eq_false_iff_ne.mpr c3;have c3b1:(a0 !=9)=true:=bne_iff_ne.mpr c3;obtain rfl:=Option.some.inj H;go_enter Tryd.func58,Tryd.ntmps58
   go_wp2
   go_ret
   exact ⟨by first|rfl|(simp;done)|(simp [*];done),by repeat (first|exact Drawn0.refl _|apply Drawn0.step)⟩
def lex_letter.f (a0:Int):Option (Bool):=if a0≥97 then (some (decide (a0≤122))) else (some false)
set_option maxHeartbeats 8000000 in
set_option maxRecDepth 100000 in
theorem lex_letter.calls (a0:Int) (r:Bool) (w:World) (h:lex_letter.f a0=some r):
  Calls Tryd.prog 59 #[.int .i32 a0] w fun e w'=>e= .returned (.bool r)∧Drawn0 w w':=by
 have H:(if a0≥97 then (some (decide (a0≤122))) else (some false))=some r:=h;clear h;by_cases c2:a0≥97
 ·rw [if_pos c2] at H;have c2b0:decide (97≤a0)=true:=decide_eq_true c2;clear c2;obtain rfl:=Option.some.inj H;go_enter Tryd.func59,Tryd.ntmps59
  go_wp2
  go_ret
  exact ⟨by first|rfl|(simp;done)|(simp [*];done),by repeat (first|exact Drawn0.refl _|apply Drawn0.step)⟩
 ·rw [if_neg c2] at H;have c2b0:decide (97≤a0)=false:=decide_eq_false c2;clear c2;obtain rfl:=Option.some.inj H;go_enter Tryd.func59,Tryd.ntmps59
  go_wp2
  go_ret
  exact ⟨by first|rfl|(simp;done)|(simp [*];done),by repeat (first|exact Drawn0.refl _|apply Drawn0.step)⟩
def lex_sign.f (a0:Int):Option (Bool):=(lex_letter.f a0).bind fun t101=>(if t101=true then (some true) else (if a0≥48 then (some (decide (a0≤57))) else (some false)))
set_option maxHeartbeats 8000000 in
set_option maxRecDepth 100000 in
theorem lex_sign.calls (a0:Int) (r:Bool) (w:World) (h:lex_sign.f a0=some r):
  Calls Tryd.prog 80 #[.int .i32 a0] w fun e w'=>e= .returned (.bool r)∧Drawn0 w w':=by
 have H:((lex_letter.f a0).bind fun t101=>(if t101=true then (some true) else (if a0≥48 then (some (decide (a0≤57))) else (some false))))=some r:=h;clear h;replace H:=Option.bind_eq_some_iff.mp H;obtain ⟨t101,A20,H⟩:=H;replace H:(if t101=true then (some true) else (if a0≥48 then (some (decide (a0≤57))) else (some false)))=some r:=H;have A2:=Aside0.mk A20;clear A20;by_cases c3:t101=true
 ·subst c3;have H1:(some true)=some r:=by rw [if_pos rfl] at H;exact H
  clear H;have H:=H1;clear H1;obtain rfl:=Option.some.inj H;go_enter Tryd.func80,Tryd.ntmps80
  go_wp2_with (first|((with_reducible refine gate_callee (f:=59) rfl ?_);refine goesL_ (some 4) rfl rfl Tryd.func59 (by kernel_rfl) rfl #[.int .i32 a0] rfl (by (try simp only [List.map_toArray,List.map_cons,List.map_nil]);first|done|rfl|(simp only [List.length_drop,List.length_take];rfl)) ?_;(with_reducible refine (lex_letter.calls a0 true _ A2.out).mono ?_);rintro e w' ⟨rfl,⟨nd,rfl⟩⟩;refine ⟨_,rfl,?_⟩))
  go_ret
  exact ⟨by first|rfl|(simp;done)|(simp [*];done),by repeat (first|exact Drawn0.refl _|apply Drawn0.step)⟩
 ·replace c3:=Bool.eq_false_iff.mpr c3;subst c3;have H1:(if a0≥48 then (some (decide (a0≤57))) else (some false))=some r:=by rw [if_neg (show ¬ (false=true) by decide)] at H;exact H
  clear H;have H:=H1;clear H1;by_cases c4:a0≥48
  ·rw [if_pos c4] at H;have c4b0:decide (48≤a0)=true:=decide_eq_true c4;clear c4;obtain rfl:=Option.some.inj H;go_enter Tryd.func80,Tryd.ntmps80
   go_wp2_with (first|((with_reducible refine gate_callee (f:=59) rfl ?_);refine goesL_ (some 4) rfl rfl Tryd.func59 (by kernel_rfl) rfl #[.int .i32 a0] rfl (by (try simp only [List.map_toArray,List.map_cons,List.map_nil]);first|done|rfl|(simp only [List.length_drop,List.length_take];rfl)) ?_;(with_reducible refine (lex_letter.calls a0 false _ A2.out).mono ?_);rintro e w' ⟨rfl,⟨nd,rfl⟩⟩;refine ⟨_,rfl,?_⟩))
   go_ret
   exact ⟨by first|rfl|(simp;done)|(simp [*];done),by repeat (first|exact Drawn0.refl _|apply Drawn0.step)⟩
  ·rw [if_neg c4] at H;have c4b0:decide (48≤a0)=false:=decide_eq_false c4;clear c4;obtain rfl:=Option.some.inj H;go_enter Tryd.func80,Tryd.ntmps80
   go_wp2_with (first|((with_reducible refine gate_callee (f:=59) rfl ?_);refine goesL_ (some 4) rfl rfl Tryd.func59 (by kernel_rfl) rfl #[.int .i32 a0] rfl (by (try simp only [List.map_toArray,List.map_cons,List.map_nil]);first|done|rfl|(simp only [List.length_drop,List.length_take];rfl)) ?_;(with_reducible refine (lex_letter.calls a0 false _ A2.out).mono ?_);rintro e w' ⟨rfl,⟨nd,rfl⟩⟩;refine ⟨_,rfl,?_⟩))
   go_ret
   exact ⟨by first|rfl|(simp;done)|(simp [*];done),by repeat (first|exact Drawn0.refl _|apply Drawn0.step)⟩
def IsS69 (w0 W:World) (g:Nat) (f0:List (S108)) (f1:Int):Prop:= ∃ A0 c0,W.heap[g]? =some (.cells #[.slice A0 f0.length c0,.int .i64 f1] 69 (0,0))∧w0.heap.size≤g∧Kd.C k108 w0 A0 f0.length f0
theorem IsS69.grown {w0 W:World} {g:Nat} {f0:List (S108)} {f1:Int} {W1:World} {row:Option Nat} (h:IsS69 w0 W g f0 f1) (hw:W.grownBy W1 row) (hne:some g≠row):IsS69 w0 W1 g f0 f1:=by
 obtain ⟨A0,c0,hb,hg,hr0⟩:=h;exact ⟨A0,c0,blk_grown hb hw hne,hg,hr0⟩
theorem IsS69.fresh {w0 W:World} {g:Nat} {f0:List (S108)} {f1:Int} (h:IsS69 w0 W g f0 f1): ∀ k,W.heap.size≤k→k≠g:=by
 obtain ⟨A0,c0,hb,hg,hr0⟩:=h;exact Kd.freshB hb
theorem IsS69.kept {w0 W:World} {g:Nat} {f0:List (S108)} {f1:Int} {W1:World} {S:Nat→Prop} (h:IsS69 w0 W g f0 f1) (hk:Kept W W1 S) (hne: ¬ S g):IsS69 w0 W1 g f0 f1:=by
 obtain ⟨A0,c0,hb,hg,hr0⟩:=h;exact ⟨A0,c0,blk_kept hb hk hne,hg,hr0⟩
theorem IsS69.below {w0 W:World} {g:Nat} {f0:List (S108)} {f1:Int} {W1:World} (h:IsS69 w0 W g f0 f1) (hw:Below W.heap.size W W1):IsS69 w0 W1 g f0 f1:=h.grown (grown_of_below hw none) (by simp)
theorem IsS69.alloc {w0 W:World} {g:Nat} {f0:List (S108)} {f1:Int} (h:IsS69 w0 W g f0 f1) (o:Obj):IsS69 w0 (W.alloc o) g f0 f1:=h.below (below_alloc (Below.refl _ _) o)
theorem IsS69.drewN {w0 W:World} {g:Nat} {f0:List (S108)} {f1:Int} (h:IsS69 w0 W g f0 f1) (m:Nat):IsS69 w0 (W.drewN m) g f0 f1:=h
theorem IsS69.drew {w0 W:World} {g:Nat} {f0:List (S108)} {f1:Int} (h:IsS69 w0 W g f0 f1):IsS69 w0 W.drew g f0 f1:=h
theorem IsS69.at_ {w0 W:World} {g:Nat} {f0:List (S108)} {f1:Int} {w':World} {m:Nat} (hq:W.drewN m=w') (h:IsS69 w0 W g f0 f1):IsS69 w0 w' g f0 f1:=by subst hq;exact IsS69.drewN h m
theorem IsS69.apart {w0 W:World} {g:Nat} {f0:List (S108)} {f1:Int} {α:Type} {d:Kd α} {e:Nat} {base:Nat} {ok:Nat→Prop} {v:Value} {xs:List α} (h:IsS69 w0 W g f0 f1) (ho:d.R e W base ok v xs) (ht: ∀ q,q∈e::d.E→q≠69):d.R e W base (fun k=>ok k∧k≠g) v xs:=by
 obtain ⟨A0,c0,hb,hg,hr0⟩:=h;exact Kd.R_types ho hb ht
theorem IsS69.lt {w0 W:World} {g:Nat} {f0:List (S108)} {f1:Int} (h:IsS69 w0 W g f0 f1):g<W.heap.size:=by
 obtain ⟨A0,c0,hb,hg,hr0⟩:=h;exact blk_lt hb
theorem IsS69.ge {w0 W:World} {g:Nat} {f0:List (S108)} {f1:Int} (h:IsS69 w0 W g f0 f1):w0.heap.size≤g:=by
 obtain ⟨A0,c0,hb,hg,hr0⟩:=h;exact hg
theorem IsS69.far {w0 W:World} {g:Nat} {f0:List (S108)} {f1:Int} {p:Addr} (h:IsS69 w0 W g f0 f1) (hne:g≠p.block) (u:Value):IsS69 w0 (W.setCell p u) g f0 f1:=by
 obtain ⟨A0,c0,hb,hg,hr0⟩:=h;exact ⟨A0,c0,blk_far hb hne u,hg,hr0⟩
theorem cellS69_0 {W:World} {g:Nat} {A0:Option Addr} {c0:Nat} {f0:List (S108)} {f1:Int} (h:W.heap[g]? =some (.cells #[.slice A0 f0.length c0,.int .i64 f1] 69 (0,0))):W.cell? ⟨g,0,none⟩=some (.slice A0 f0.length c0):=(blk_cell h 0).trans rfl
theorem cellS69_1 {W:World} {g:Nat} {A0:Option Addr} {c0:Nat} {f0:List (S108)} {f1:Int} (h:W.heap[g]? =some (.cells #[.slice A0 f0.length c0,.int .i64 f1] 69 (0,0))):W.cell? ⟨g,1,none⟩=some (.int .i64 f1):=(blk_cell h 1).trans rfl
theorem IsS69.set_1 {w0 W:World} {g:Nat} {f0:List (S108)} {f1:Int} (h:IsS69 w0 W g f0 f1) (x:Int):IsS69 w0 (W.setCell ⟨g,1,none⟩ (.int .i64 x)) g f0 x:=by
 obtain ⟨A0,c0,hb,hg,hr0⟩:=h;exact ⟨A0,c0,by simpa using blk_set hb 1 (.int .i64 x),hg,hr0⟩
def parse_parser_next.f (s0_0:List (S108)) (s0_1:Int):Option (Int×Int×ByteArray×Int):=if (s0_0.length:Int)=0 then (some (0,s0_1,(⟨#[]⟩:ByteArray),s0_1)) else (if 0<(s0_0.length:Int) then (some ((rd_T108 s0_0 0).f0,(rd_T108 s0_0 0).f1,(rd_T108 s0_0 0).f2,s0_1)) else (none))
set_option maxHeartbeats 8000000 in
set_option maxRecDepth 100000 in
theorem parse_parser_next.calls (g:Nat) (s0_0:List (S108)) (s0_1:Int) (r1:Int) (r2:Int) (r3:ByteArray) (r4:Int) (w0 w:World) (hI:IsS69 w0 w g s0_0 s0_1) (hB:Below w0.heap.size w0 w) (h:parse_parser_next.f s0_0 s0_1=some (r1,r2,r3,r4)):
  Calls Tryd.prog 61 #[.pointer (some ⟨g,0,none⟩)] w fun e w'=>e= .returned (.agg #[.int .i64 r1,.int .i64 r2,.string r3])∧IsS69 w0 w' g s0_0 r4∧Below w0.heap.size w0 w'∧KeepBut w w' g none:=by
 have hu108:=Tryd.underlying108;have HI0:=Aside0.mk hI;have HK:=Aside0.mk (KeepBut.refl w g none);have HL:=Aside0.mk hB.size;clear hI;have HW0:=Aside0.mk hB.size;have HB:=Aside0.mk hB;clear hB;have H:(if (s0_0.length:Int)=0 then (some (0,s0_1,(⟨#[]⟩:ByteArray),s0_1)) else (if 0<(s0_0.length:Int) then (some ((rd_T108 s0_0 0).f0,(rd_T108 s0_0 0).f1,(rd_T108 s0_0 0).f2,s0_1)) else (none)))=some (r1,r2,r3,r4):=h;clear h;by_cases c2:(s0_0.length:Int)=0
 ·rw [if_pos c2] at H;have c2b0:((s0_0.length:Int)==0)=true:=beq_iff_eq.mpr c2;have c2b1:((s0_0.length:Int) !=0)=false:=bne_eq_false_iff_eq.mpr c2;clear c2;simp only [Option.some.injEq,Prod.mk.injEq] at H;obtain ⟨rfl,rfl,rfl,rfl⟩:=H;go_enter Tryd.func61,Tryd.ntmps61
  go_wp2_with (first|((with_reducible refine gate_dst (N:=2) rfl ?_);refine box_event ?hg (N:=2) ?hd (cs:=#[.int .i64 0,.int .i64 0,.string (⟨#[]⟩:ByteArray)]) (t:=108) ?hr ?_;(case hd=>rfl);(case hg=>rfl);(case hr=>first|(go_simp;done)|(go_simp;rfl));intro gb102 hg w3 hbox hb;have n0_:=Aside0.mk (IsS69.below (by repeat (first|(with_reducible first|exact HI0.out|apply IsS69.alloc|apply IsS69.drewN|apply IsS69.drew|apply IsS69.set_1)|exact HI0.out)) hb);have n1_:=Aside0.mk (KeepBut.trans (by repeat (first|(with_reducible first|exact HK.out|apply KeepBut.set_|apply keep_drewN|apply keep_drew|apply keep_alloc)|exact HK.out)) (KeepBut.of_below hb g none) (.inl rfl));have n2_:=Aside0.mk (below_step (by repeat (first|(with_reducible first|exact HB.out|apply below_alloc|apply pw_below_drewN|apply below_drew1|refine below_set ?_ (IsS69.ge HI0.out))|exact HB.out)) hb);have n3_:=Aside0.mk (hbox);have n4_:=Aside0.mk ((by rw [hg];exact (keep_size (w:=w) (g:=g) (row:=none) (by repeat (first|(with_reducible first|exact HK.out|apply KeepBut.set_|apply keep_drewN|apply keep_drew|apply keep_alloc)|exact HK.out))):w.heap.size≤gb102));have n5_:=Aside0.mk ((Nat.le_trans HW0.out (by rw [hg];exact (keep_size (w:=w) (g:=g) (row:=none) (by repeat (first|(with_reducible first|exact HK.out|apply KeepBut.set_|apply keep_drewN|apply keep_drew|apply keep_alloc)|exact HK.out))):w.heap.size≤gb102):w0.heap.size≤gb102));have n6_:=Aside0.mk ((by rw [hg];exact Nat.ne_of_lt (IsS69.lt (show IsS69 w0 _ g s0_0 s0_1 from by repeat (first|(with_reducible first|exact HI0.out|apply IsS69.alloc|apply IsS69.drewN|apply IsS69.drew|apply IsS69.set_1)|exact HI0.out))):g≠gb102));have n7_:=Aside0.mk ((by rw [hg];exact Nat.ne_of_gt (IsS69.lt (show IsS69 w0 _ g s0_0 s0_1 from by repeat (first|(with_reducible first|exact HI0.out|apply IsS69.alloc|apply IsS69.drewN|apply IsS69.drew|apply IsS69.set_1)|exact HI0.out))):gb102≠g));clear HI0;clear HK;clear HB;have HI0:=n0_;have HK:=n1_;have HB:=n2_;have BK102:=n3_;have GW102:=n4_;have GE102:=n5_;have NB0_102:=n6_;have NB102_0:=n7_;clear n0_ n1_ n2_ n3_ n4_ n5_ n6_ n7_;clear hb hbox hg;obtain ⟨ASz4_0,cSz4_0,HGz4,hgz4,HSz4_0⟩:=HI0.out;have hcz4_0:=cellS69_0 HGz4;have hcz4_1:=cellS69_1 HGz4;have hfz4_1:=blk_frozen HGz4 1;clear HGz4 hgz4;have hnb5:=NB102_0.out;have hnc5:=NB0_102.out;have hcz6_0:w3.cell? ⟨gb102,0,none⟩=some (.int .i64 0):=(blk_cell BK102.out 0).trans rfl;have hcz6_1:w3.cell? ⟨gb102,1,none⟩=some (.int .i64 0):=(blk_cell BK102.out 1).trans rfl;have hcz6_2:w3.cell? ⟨gb102,2,none⟩=some (.string (⟨#[]⟩:ByteArray)):=(blk_cell BK102.out 2).trans rfl;have hfz6_0:=blk_frozen BK102.out 0;have hfz6_1:=blk_frozen BK102.out 1;have hfz6_2:=blk_frozen BK102.out 2))
  refine bodyPost_ret (results_cell_row rfl _ _ gb102 108 #[.int .i64 0,.int .i64 s0_1,.string (⟨#[]⟩:ByteArray)] (0,0) _ rfl (by (with_reducible repeat (first|refine blk_drewN ?_ _|refine blk_drew ?_|refine blk_alloc ?_ _));refine blk_put (cs:=#[.int .i64 0,.int .i64 s0_1,.string (⟨#[]⟩:ByteArray)]) ?_ 2 _ rfl;(with_reducible repeat (first|refine blk_drewN ?_ _|refine blk_drew ?_|refine blk_alloc ?_ _));refine blk_put (cs:=#[.int .i64 0,.int .i64 0,.string (⟨#[]⟩:ByteArray)]) ?_ 1 _ rfl;(with_reducible repeat (first|refine blk_drewN ?_ _|refine blk_drew ?_|refine blk_alloc ?_ _));refine blk_put (cs:=#[.int .i64 0,.int .i64 0,.string (⟨#[]⟩:ByteArray)]) ?_ 0 _ rfl;(with_reducible repeat (first|refine blk_drewN ?_ _|refine blk_drew ?_|refine blk_alloc ?_ _));exact BK102.out) Tryd.underlying108 rfl (by kernel_rfl)) rfl ?_
  exact ⟨by first|rfl|(simp [errW_none,errW_some]<;>rfl)|(simp [*,errW_none,errW_some]<;>rfl),by repeat (first|(with_reducible first|exact HI0.out|apply IsS69.alloc|apply IsS69.drewN|apply IsS69.drew|apply IsS69.set_1|refine IsS69.far ?_ NB0_102.out _)|exact HI0.out),by repeat (first|(with_reducible first|exact HB.out|apply below_alloc|apply pw_below_drewN|apply below_drew1|refine below_set ?_ (IsS69.ge HI0.out)|refine below_set ?_ GE102.out)|exact HB.out),by repeat (first|(with_reducible first|exact HK.out|apply KeepBut.set_|apply keep_drewN|apply keep_drew|apply keep_alloc|refine keep_far ?_ GW102.out _)|exact HK.out)⟩
 ·rw [if_neg c2] at H;have c2b0:((s0_0.length:Int)==0)=false:=beq_eq_false_iff_ne.mpr c2;have c2b1:((s0_0.length:Int) !=0)=true:=bne_iff_ne.mpr c2;have c2b2: ¬ (s0_0= []):=fun h_=>c2 (by rw [h_];rfl)
  by_cases c7:0<(s0_0.length:Int)
  ·rw [if_pos c7] at H;have c7b0:decide (0<(s0_0.length:Int))=true:=decide_eq_true c7;have c7b1:decide (0<s0_0.length)=true:=decide_eq_true (by omega);clear c7;simp only [Option.some.injEq,Prod.mk.injEq] at H;obtain ⟨rfl,rfl,rfl,rfl⟩:=H;go_enter Tryd.func61,Tryd.ntmps61
   go_wp2_with (first|((with_reducible refine gate_dst (N:=2) rfl ?_);refine box_event ?hg (N:=2) ?hd (cs:=#[.int .i64 0,.int .i64 0,.string (⟨#[]⟩:ByteArray)]) (t:=108) ?hr ?_;(case hd=>rfl);(case hg=>rfl);(case hr=>first|(go_simp;done)|(go_simp;rfl));intro gb102 hg w8 hbox hb;have n0_:=Aside0.mk (IsS69.below (by repeat (first|(with_reducible first|exact HI0.out|apply IsS69.alloc|apply IsS69.drewN|apply IsS69.drew|apply IsS69.set_1)|exact HI0.out)) hb);have n1_:=Aside0.mk (KeepBut.trans (by repeat (first|(with_reducible first|exact HK.out|apply KeepBut.set_|apply keep_drewN|apply keep_drew|apply keep_alloc)|exact HK.out)) (KeepBut.of_below hb g none) (.inl rfl));have n2_:=Aside0.mk (below_step (by repeat (first|(with_reducible first|exact HB.out|apply below_alloc|apply pw_below_drewN|apply below_drew1|refine below_set ?_ (IsS69.ge HI0.out))|exact HB.out)) hb);have n3_:=Aside0.mk (hbox);have n4_:=Aside0.mk ((by rw [hg];exact (keep_size (w:=w) (g:=g) (row:=none) (by repeat (first|(with_reducible first|exact HK.out|apply KeepBut.set_|apply keep_drewN|apply keep_drew|apply keep_alloc)|exact HK.out))):w.heap.size≤gb102));have n5_:=Aside0.mk ((Nat.le_trans HW0.out (by rw [hg];exact (keep_size (w:=w) (g:=g) (row:=none) (by repeat (first|(with_reducible first|exact HK.out|apply KeepBut.set_|apply keep_drewN|apply keep_drew|apply keep_alloc)|exact HK.out))):w.heap.size≤gb102):w0.heap.size≤gb102));have n6_:=Aside0.mk ((by rw [hg];exact Nat.ne_of_lt (IsS69.lt (show IsS69 w0 _ g s0_0 s0_1 from by repeat (first|(with_reducible first|exact HI0.out|apply IsS69.alloc|apply IsS69.drewN|apply IsS69.drew|apply IsS69.set_1)|exact HI0.out))):g≠gb102));have n7_:=Aside0.mk ((by rw [hg];exact Nat.ne_of_gt (IsS69.lt (show IsS69 w0 _ g s0_0 s0_1 from by repeat (first|(with_reducible first|exact HI0.out|apply IsS69.alloc|apply IsS69.drewN|apply IsS69.drew|apply IsS69.set_1)|exact HI0.out))):gb102≠g));clear HI0;clear HK;clear HB;have HI0:=n0_;have HK:=n1_;have HB:=n2_;have BK102:=n3_;have GW102:=n4_;have GE102:=n5_;have NB0_102:=n6_;have NB102_0:=n7_;clear n0_ n1_ n2_ n3_ n4_ n5_ n6_ n7_;clear hb hbox hg;obtain ⟨ASz9_0,cSz9_0,HGz9,hgz9,HSz9_0⟩:=HI0.out;have hcz9_0:=cellS69_0 HGz9;have hcz9_1:=cellS69_1 HGz9;have hfz9_1:=blk_frozen HGz9 1;clear HGz9 hgz9;have p103:0≤(0:Int):=(by omega);have q103:0<(s0_0.length:Int):=of_decide_eq_true (by assumption);obtain ⟨ad103,e103,hx103_0,hx103_1,hx103_2⟩:=at_T108 HSz9_0 0 p103 q103;cases e103;have qi103:(0<s0_0.length)=True:=eq_true (by omega);(try rw [show ((0:Int)).toNat=0 from rfl] at hx103_0);(try rw [show 0 * 3=0 from rfl] at hx103_0);(try rw [Addr.add_zero'] at hx103_0);(try rw [show ((0:Int)).toNat=0 from rfl] at hx103_1);(try rw [show 0 * 3=0 from rfl] at hx103_1);(try rw [Addr.add_zero'] at hx103_1);(try rw [show ((0:Int)).toNat=0 from rfl] at hx103_2);(try rw [show 0 * 3=0 from rfl] at hx103_2);(try rw [Addr.add_zero'] at hx103_2);replace hx103_0:=pw_cell_below HB.out hx103_0;replace hx103_1:=pw_cell_below HB.out hx103_1;replace hx103_2:=pw_cell_below HB.out hx103_2;replace p103:=eq_true p103;replace q103:=eq_true q103;have hnb10:=NB102_0.out;have hnc10:=NB0_102.out;have hcz11_0:w8.cell? ⟨gb102,0,none⟩=some (.int .i64 0):=(blk_cell BK102.out 0).trans rfl;have hcz11_1:w8.cell? ⟨gb102,1,none⟩=some (.int .i64 0):=(blk_cell BK102.out 1).trans rfl;have hcz11_2:w8.cell? ⟨gb102,2,none⟩=some (.string (⟨#[]⟩:ByteArray)):=(blk_cell BK102.out 2).trans rfl;have hfz11_0:=blk_frozen BK102.out 0;have hfz11_1:=blk_frozen BK102.out 1;have hfz11_2:=blk_frozen BK102.out 2))
   refine bodyPost_ret (results_cell_row rfl _ _ gb102 108 #[.int .i64 ((rd_T108 s0_0 0).f0),.int .i64 ((rd_T108 s0_0 0).f1),.string ((rd_T108 s0_0 0).f2)] (0,0) _ rfl (by (with_reducible repeat (first|refine blk_drewN ?_ _|refine blk_drew ?_|refine blk_alloc ?_ _));refine blk_put (cs:=#[.int .i64 ((rd_T108 s0_0 0).f0),.int .i64 ((rd_T108 s0_0 0).f1),.string (⟨#[]⟩:ByteArray)]) ?_ 2 _ rfl;(with_reducible repeat (first|refine blk_drewN ?_ _|refine blk_drew ?_|refine blk_alloc ?_ _));refine blk_put (cs:=#[.int .i64 ((rd_T108 s0_0 0).f0),.int .i64 0,.string (⟨#[]⟩:ByteArray)]) ?_ 1 _ rfl;(with_reducible repeat (first|refine blk_drewN ?_ _|refine blk_drew ?_|refine blk_alloc ?_ _));refine blk_put (cs:=#[.int .i64 0,.int .i64 0,.string (⟨#[]⟩:ByteArray)]) ?_ 0 _ rfl;(with_reducible repeat (first|refine blk_drewN ?_ _|refine blk_drew ?_|refine blk_alloc ?_ _));exact BK102.out) Tryd.underlying108 rfl (by kernel_rfl)) rfl ?_
   exact ⟨by first|rfl|(simp [errW_none,errW_some]<;>rfl)|(simp [*,errW_none,errW_some]<;>rfl),by repeat (first|(with_reducible first|exact HI0.out|apply IsS69.alloc|apply IsS69.drewN|apply IsS69.drew|apply IsS69.set_1|refine IsS69.far ?_ NB0_102.out _)|exact HI0.out),by repeat (first|(with_reducible first|exact HB.out|apply below_alloc|apply pw_below_drewN|apply below_drew1|refine below_set ?_ (IsS69.ge HI0.out)|refine below_set ?_ GE102.out)|exact HB.out),by repeat (first|(with_reducible first|exact HK.out|apply KeepBut.set_|apply keep_drewN|apply keep_drew|apply keep_alloc|refine keep_far ?_ GW102.out _)|exact HK.out)⟩
  ·rw [if_neg c7] at H;exact absurd H (by simp)
def slices_Index_string_string.l0:Nat→List ByteArray→ByteArray→Int→Int→Option (Int)
 |0,_,_,_,_=>none
 |k+1,x0,x1,x7,x8=>if x8<x7 then (if 0≤x8 then (if x8<(x0.length:Int) then (if x1.toList=(rdOf ByteArray.empty x0 x8).toList then (some x8) else (slices_Index_string_string.l0 k x0 x1 x7 (wrap64 (x8+1)))) else (none)) else (none)) else (some (-1))
def slices_Index_string_string.f (k:Nat) (l0:List ByteArray) (a1:ByteArray):Option (Int):=slices_Index_string_string.l0 k l0 a1 (l0.length:Int) 0
theorem slices_Index_string_string.mono_l: ∀ k,(∀ y0 y1 y2 y3,LeO (slices_Index_string_string.l0 k y0 y1 y2 y3) (slices_Index_string_string.l0 (k+1) y0 y1 y2 y3))
 |0=>fun _ _ _ _ r h=>by simp [slices_Index_string_string.l0] at h
 |k+1=>by
  have ih0:=slices_Index_string_string.mono_l k
  ·intro y0 y1 y2 y3;unfold slices_Index_string_string.l0
   repeat' first
   |(with_reducible exact ih0 _ _ _ _)
   |(with_reducible exact LeO.refl _)
   |(with_reducible exact LeO.none _)
   |(with_reducible refine LeO.ite ?_ ?_)
   |(with_reducible refine LeO.bind ?_ (fun _=>?_))
   |exact ih0 _ _ _ _
   |exact LeO.none _
   |refine LeO.ite ?_ ?_
   |refine LeO.bind ?_ (fun _=>?_)
theorem slices_Index_string_string.mono: ∀ a0 a1 k,LeO (slices_Index_string_string.f k a0 a1) (slices_Index_string_string.f (k+1) a0 a1):=by
 intro a0 a1 k;have ih0:=slices_Index_string_string.mono_l k;unfold slices_Index_string_string.f
 repeat' first
   |(with_reducible exact ih0 _ _ _ _)
   |(with_reducible exact LeO.refl _)
   |(with_reducible exact LeO.none _)
   |(with_reducible refine LeO.ite ?_ ?_)
   |(with_reducible refine LeO.bind ?_ (fun _=>?_))
   |exact ih0 _ _ _ _
   |exact LeO.none _
   |refine LeO.ite ?_ ?_
   |refine LeO.bind ?_ (fun _=>?_)
set_option maxHeartbeats 8000000 in
set_option maxRecDepth 100000 in
theorem slices_Index_string_string.calls (k:Nat) (A0:Option Addr) (c0:Nat) (l0:List ByteArray) (a1:ByteArray) (r:Int) (w:World) (hr0:Kd.C Kd.string w A0 l0.length l0) (hc0:l0.length≤c0) (h:slices_Index_string_string.f k l0 a1=some r):
  Calls Tryd.prog 95 #[.slice A0 l0.length c0,.string a1] w fun e w'=>e= .returned (.int .i64 r)∧Drawn0 w w':=by
 have HR0:=Aside0.mk hr0;have HC0:=Aside0.mk hc0;clear hr0 hc0;have H:(slices_Index_string_string.l0 k l0 a1 (l0.length:Int) 0)=some r:=h;clear h;have H':=Aside0.mk H;clear H;go_enter Tryd.func95,Tryd.ntmps95
 go_wp2
 go_loopg [8] k (fun kq v8 w'=>∃ (x8_1:Int),v8= .int .i64 x8_1∧Aside0 (slices_Index_string_string.l0 kq l0 a1 (l0.length:Int) x8_1=some r)∧Aside0 (kq≤k)∧Drawn0 w w')
 case atStart=>exact ⟨(0),(by first|rfl|(simp;done)|(simp [*];done)),H',⟨Nat.le_refl _⟩,by repeat (first|exact Drawn0.refl _|apply Drawn0.step)⟩
 case round=>
  clear H';try clear p2
  obtain ⟨x8_1,rfl,HA,HK1,⟨m1,rfl⟩⟩:=hrel;cases gk with
  |zero=>exact absurd HA.out (by simp [slices_Index_string_string.l0])
  |succ k1=>
   have H:=HA.out;clear HA;simp only [slices_Index_string_string.l0] at H;by_cases c3:x8_1<(l0.length:Int)
   ·rw [if_pos c3] at H;have c3b0:decide (x8_1<(l0.length:Int))=true:=decide_eq_true c3;clear c3;by_cases c4:0≤x8_1
    ·rw [if_pos c4] at H;have c4b0:decide (0≤x8_1)=true:=decide_eq_true c4;clear c4;by_cases c5:x8_1<(l0.length:Int)
     ·rw [if_pos c5] at H;have c5b0:decide (x8_1<(l0.length:Int))=true:=decide_eq_true c5;clear c5;by_cases c6:a1.toList=(rdOf ByteArray.empty l0 x8_1).toList
      ·rw [if_pos c6] at H;have c6b0:(a1.toList==(rdOf ByteArray.empty l0 x8_1).toList)=true:=beq_iff_eq.mpr c6;have c6b1:(a1.toList !=(rdOf ByteArray.empty l0 x8_1).toList)=false:=bne_eq_false_iff_eq.mpr c6;clear c6;obtain rfl:=Option.some.inj H;have p123:0≤(x8_1:Int):=of_decide_eq_true (by assumption);have q123:x8_1<(l0.length:Int):=of_decide_eq_true (by assumption);obtain ⟨ad123,e123,hx123_0⟩:=Kd.at_string HR0.out x8_1 p123 q123;cases e123
       replace p123:=eq_true p123;replace q123:=eq_true q123;go_wp2
       go_ret
       exact ⟨by first|rfl|(simp;done)|(simp [*];done),by repeat (first|exact Drawn0.refl _|apply Drawn0.step)⟩
      ·rw [if_neg c6] at H;have c6b0:(a1.toList==(rdOf ByteArray.empty l0 x8_1).toList)=false:=beq_eq_false_iff_ne.mpr c6;have c6b1:(a1.toList !=(rdOf ByteArray.empty l0 x8_1).toList)=true:=bne_iff_ne.mpr c6;have H':=Aside0.mk H;clear H;have p123:0≤(x8_1:Int):=of_decide_eq_true (by assumption);have q123:x8_1<(l0.length:Int):=of_decide_eq_true (by assumption);obtain ⟨ad123,e123,hx123_0⟩:=Kd.at_string HR0.out x8_1 p123 q123;cases e123
       replace p123:=eq_true p123;replace q123:=eq_true q123;go_wp2
       go_roundg k1
       case measure=>have:=HK1.out;omega
       case rel=>exact ⟨(wrap64 (x8_1+1)),(by first|rfl|(simp;done)|(simp [*];done)),H',⟨by have:=HK1.out;omega⟩,by repeat (first|exact Drawn0.refl _|apply Drawn0.step)⟩
     ·rw [if_neg c5] at H;exact absurd H (by simp)
    ·rw [if_neg c4] at H;exact absurd H (by simp)
   ·rw [if_neg c3] at H;have c3b0:decide (x8_1<(l0.length:Int))=false:=decide_eq_false c3;clear c3;obtain rfl:=Option.some.inj H;go_wp2
    go_ret
    exact ⟨by first|rfl|(simp;done)|(simp [*];done),by repeat (first|exact Drawn0.refl _|apply Drawn0.step)⟩
def deadboltlaw6_within.f (a0:Int) (a1:Int):Option (Int):=if a1=0 then (none) else (if (Int.tmod a0 a1)<0 then (some (wrap64 ((Int.tmod a0 a1)+a1))) else (some (Int.tmod a0 a1)))
set_option maxHeartbeats 8000000 in
set_option maxRecDepth 100000 in
theorem deadboltlaw6_within.calls (a0:Int) (a1:Int) (r:Int) (w:World) (h:deadboltlaw6_within.f a0 a1=some r):
  Calls Tryd.prog 15 #[.int .i64 a0,.int .i64 a1] w fun e w'=>e= .returned (.int .i64 r)∧Drawn0 w w':=by
 have H:(if a1=0 then (none) else (if (Int.tmod a0 a1)<0 then (some (wrap64 ((Int.tmod a0 a1)+a1))) else (some (Int.tmod a0 a1))))=some r:=h;clear h;by_cases c3:a1=0
 ·rw [if_pos c3] at H;exact absurd H (by simp)
 ·rw [if_neg c3] at H;have c3b0:(a1==0)=false:=beq_eq_false_iff_ne.mpr c3;have c3b1:(a1 !=0)=true:=bne_iff_ne.mpr c3;by_cases c4:(Int.tmod a0 a1)<0
  ·rw [if_pos c4] at H;have c4b0:decide ((Int.tmod a0 a1)<0)=true:=decide_eq_true c4;clear c4;obtain rfl:=Option.some.inj H;go_enter Tryd.func15,Tryd.ntmps15
   go_wp2
   go_ret
   exact ⟨by first|rfl|(simp;done)|(simp [*];done),by repeat (first|exact Drawn0.refl _|apply Drawn0.step)⟩
  ·rw [if_neg c4] at H;have c4b0:decide ((Int.tmod a0 a1)<0)=false:=decide_eq_false c4;clear c4;obtain rfl:=Option.some.inj H;go_enter Tryd.func15,Tryd.ntmps15
   go_wp2
   go_ret
   exact ⟨by first|rfl|(simp;done)|(simp [*];done),by repeat (first|exact Drawn0.refl _|apply Drawn0.step)⟩
end Go.Proofs.YtkmafndljelopaaDoor.Q
