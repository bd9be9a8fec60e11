/- slices.EqualFunc at the program's types, by hand. Written by wip/gen_eqf.py. -/
import Derived.Test.YtkmafndljelopaaDoorUPar1
namespace Go.Proofs.YtkmafndljelopaaDoor.Q
open Go.RowKit Go.Proofs.YtkmafndljelopaaDoorW.PrintWords Go.Proofs.YtkmafndljelopaaDoorW.PrintLast Go.Proofs.YtkmafndljelopaaDoorW.PrintMore Go.Proofs.YtkmafndljelopaaDoor.Lx
set_option linter.unusedVariables false
set_option linter.unusedSimpArgs false
def eqAll {α:Type} (eq:α→α→Bool):List α→List α→Bool
 |[],[]=>true
 |a::r,b::s=>eq a b && eqAll eq r s
 |_,_=>false
theorem eqAll_len {α:Type} {eq:α→α→Bool} : ∀ {xs ys:List α},xs.length≠ys.length→eqAll eq xs ys=false
 |[],[],h=>absurd rfl h
 |[],_::_,_=>rfl
 |_::_,[],_=>rfl
 |a::r,b::s,h=>by
  have ih:=eqAll_len (eq:=eq) (xs:=r) (ys:=s) (by simpa using h);simp [eqAll,ih]
theorem eqAll_drop {α:Type} {eq:α→α→Bool} {xs ys:List α} (d:α) {i:Nat} (h:i<xs.length) (h2:i<ys.length):eqAll eq (xs.drop i) (ys.drop i)=(eq (xs.getD i d) (ys.getD i d) && eqAll eq (xs.drop (i+1)) (ys.drop (i+1))):=by
 rw [List.drop_eq_getElem_cons h,List.drop_eq_getElem_cons h2];simp [eqAll,List.getD_eq_getElem?_getD,List.getElem?_eq_getElem h,List.getElem?_eq_getElem h2]
theorem eqAll_end {α:Type} {eq:α→α→Bool} {xs ys:List α} {i:Nat} (h:xs.length≤i) (h2:ys.length≤i):eqAll eq (xs.drop i) (ys.drop i)=true:=by
 rw [List.drop_of_length_le h,List.drop_of_length_le h2];rfl
theorem getD_memE {α:Type} {xs:List α} {d:α} {i:Nat} (h:i<xs.length):xs.getD i d∈xs:=by
 simp [List.getD_eq_getElem?_getD,List.getElem?_eq_getElem h]
set_option maxRecDepth 100000 in
set_option maxHeartbeats 1600000 in
theorem eqf_D (eq:S59→S59→Bool) {w:World} {A B:Option Addr} {c d:Nat} {xs ys:List S59} (hx:Kd.C k59 w A xs.length xs) (hc:xs.length≤c) (hy:Kd.C k59 w B ys.length ys) (hd:ys.length≤d)
  (hF: ∀ x∈xs,∀ y∈ys,∀ W cx cy,Below w.heap.size w W→k59.K W x cx→k59.K W y cy→Calls Tryd.prog 52 #[.agg cx.toArray,.agg cy.toArray] W fun e w'=>e= .returned (.bool (eq x y))∧Below W.heap.size W w'):
  Calls Tryd.prog 51 #[.slice A xs.length c,.slice B ys.length d,.func (.func 52) #[] #[]] w fun e w'=>e= .returned (.bool (eqAll eq xs ys))∧Below w.heap.size w w':=by
 have hu:=Tryd.underlying59;have HF:=Aside0.mk hF;have HX:=Aside0.mk hx;have HY:=Aside0.mk hy;clear hF hx hy hc hd;by_cases hl:xs.length=ys.length
 rotate_left
 ·have q:(((xs.length:Nat):Int) !=((ys.length:Nat):Int))=true:=bne_iff_ne.mpr (by omega);have HR:=Aside0.mk (eqAll_len (eq:=eq) hl);clear hl;go_enter Tryd.func51,Tryd.ntmps51
  go_wp2_with fail
  go_ret
  exact ⟨by rw [HR.out];rfl,Below.refl _ _⟩
 have q:(((xs.length:Nat):Int) !=((ys.length:Nat):Int))=false:=bne_eq_false_iff_eq.mpr (by omega);have HL:=Aside0.mk hl;clear hl;go_enter Tryd.func51,Tryd.ntmps51
 go_wp2_with fail
 go_loopg [17] (xs.length+1) (fun kq v17 w'=>∃ i:Int,v17= .int .i64 i∧Aside0 (0≤i∧i.toNat+kq=xs.length+1∧0<kq)∧Aside0 (eqAll eq (xs.drop i.toNat) (ys.drop i.toNat)=eqAll eq xs ys)∧Aside0 (Below w.heap.size w w'))
 case atStart=>exact ⟨0,rfl,⟨by omega,by simp,by omega⟩,⟨by simp⟩,⟨Below.refl _ _⟩⟩
 case round=>
  obtain ⟨i,rfl,HI,HE,HB⟩:=hrel;cases gk with
  |zero=>exact absurd HI.out.2.2 (by omega)
  |succ k1=>
   by_cases hlt:i<((xs.length:Nat):Int)
   ·have p0:0≤i:=HI.out.1;have p1:=hlt;have p2:i<((ys.length:Nat):Int):=by have:=HL.out;omega
    have HP:=Aside0.mk (And.intro p0 (And.intro p1 p2));have c1:decide (i<((xs.length:Nat):Int))=true:=decide_eq_true hlt;obtain ⟨aad,ae_,ax0,ax1⟩:=at_T59 HX.out i p0 p1;cases ae_
    have ay0:=(HB.out.cell (World.block_lt_of_cell? w _ ax0)).trans ax0;have ay1:=(HB.out.cell (World.block_lt_of_cell? w _ ax1)).trans ax1;clear ax0 ax1;obtain ⟨bad,be_,bx0,bx1⟩:=at_T59 HY.out i p0 p2;cases be_
    have by0:=(HB.out.cell (World.block_lt_of_cell? w _ bx0)).trans bx0;have by1:=(HB.out.cell (World.block_lt_of_cell? w _ bx1)).trans bx1;clear bx0 bx1;replace p0:=eq_true p0;replace p1:=eq_true p1;replace p2:=eq_true p2;clear hlt;go_upto_region 6 with fail
    have HB1:=Aside0.mk (below_alloc HB.out (.cells #[.string (rd_T59 xs i).f0,.int .i64 (rd_T59 xs i).f1] 59));have HW1:=Aside0.mk (below_alloc (Below.refl wr.heap.size wr) (.cells #[.string (rd_T59 xs i).f0,.int .i64 (rd_T59 xs i).f1] 59));have hz1:=Aside0.mk (blk_new wr (.cells #[.string (rd_T59 xs i).f0,.int .i64 (rd_T59 xs i).f1] 59));have bz0:=(HW1.out.cell (World.block_lt_of_cell? wr _ by0)).trans by0;have bz1:=(HW1.out.cell (World.block_lt_of_cell? wr _ by1)).trans by1;generalize wr.alloc (.cells #[.string (rd_T59 xs i).f0,.int .i64 (rd_T59 xs i).f1] 59)=w1 at HB1 HW1 hz1 bz0 bz1 ⊢;generalize wr.heap.size=n1 at hz1 ⊢;clear ay0 ay1 by0 by1;go_upto_region 7 with fail
    have HB2:=Aside0.mk (below_alloc HB1.out (.cells #[.string (rd_T59 ys i).f0,.int .i64 (rd_T59 ys i).f1] 59));have hz2:=blk_new w1 (.cells #[.string (rd_T59 ys i).f0,.int .i64 (rd_T59 ys i).f1] 59);have hz3:=blk_alloc hz1.out (.cells #[.string (rd_T59 ys i).f0,.int .i64 (rd_T59 ys i).f1] 59);generalize w1.alloc (.cells #[.string (rd_T59 ys i).f0,.int .i64 (rd_T59 ys i).f1] 59)=w2 at HB2 hz2 hz3 ⊢;generalize w1.heap.size=n2 at hz2 ⊢;have u0:=blk_cell hz3 0;have v0:=blk_cell hz2 0;have u1:=blk_cell hz3 1;have v1:=blk_cell hz2 1;clear hz1 hz2 hz3 bz0 bz1;go_wp2_with fail
    refine (HF.out (rd_T59 xs i) (getD_memE (by have:=HP.out;omega)) (rd_T59 ys i) (getD_memE (by have:=HP.out;omega)) _ [.string (rd_T59 xs i).f0,.int .i64 (rd_T59 xs i).f1] [.string (rd_T59 ys i).f0,.int .i64 (rd_T59 ys i).f1] HB2.out (k59_mk _ (rd_T59 xs i)) (k59_mk _ (rd_T59 ys i))).mono ?_
    rintro E w3 ⟨rfl,hb3⟩
    have HB3:=Aside0.mk (below_step HB2.out hb3);clear hb3 u0 v0 u1 v1;have hst:=eqAll_drop (eq:=eq) (xs:=xs) (ys:=ys) z59 (i:=i.toNat) (by have:=HP.out;omega) (by have:=HP.out;omega);rw [HE.out] at hst;have hst2:eqAll eq xs ys=(eq (rd_T59 xs i) (rd_T59 ys i) && eqAll eq (xs.drop (i.toNat+1)) (ys.drop (i.toNat+1))):=hst;cases hq:eq (rd_T59 xs i) (rd_T59 ys i) with
    |false=>
     rw [hq,Bool.false_and] at hst2;have HST:=Aside0.mk hst2;clear hst hst2 hq;go_wp2_with fail
     go_ret
     exact ⟨by rw [HST.out];rfl,HB3.out⟩
    |true=>
     rw [hq,Bool.true_and] at hst2;have HST:=Aside0.mk hst2;clear hst hst2 hq;go_wp2_with fail
     go_roundg k1
     case rel=>exact ⟨i+1,by rw [show wrap64 (i+1)=i+1 from w64 (by have:=HP.out;have:=HX.out.2.1;omega)],⟨by have:=HP.out;omega,by have:=HP.out;have:=HI.out;omega,by have:=HP.out;have:=HI.out;omega⟩,⟨by rw [show (i+1).toNat=i.toNat+1 by have:=HP.out;omega];exact HST.out.symm⟩,HB3⟩
     case measure=>omega
   ·have c1:decide (i<((xs.length:Nat):Int))=false:=decide_eq_false hlt;have HST:Aside0 (eqAll eq xs ys=true):=Aside0.mk (by rw [← HE.out];exact eqAll_end (by omega) (by have:=HL.out;omega));clear hlt;go_wp2_with fail
    go_ret
    exact ⟨by rw [HST.out];rfl,HB.out⟩
set_option maxRecDepth 100000 in
set_option maxHeartbeats 1600000 in
theorem eqf_F (eq:S46→S46→Bool) {w:World} {A B:Option Addr} {c d:Nat} {xs ys:List S46} (hx:Kd.C k46 w A xs.length xs) (hc:xs.length≤c) (hy:Kd.C k46 w B ys.length ys) (hd:ys.length≤d)
  (hF: ∀ x∈xs,∀ y∈ys,∀ W cx cy,Below w.heap.size w W→k46.K W x cx→k46.K W y cy→Calls Tryd.prog 54 #[.agg cx.toArray,.agg cy.toArray] W fun e w'=>e= .returned (.bool (eq x y))∧Below W.heap.size W w'):
  Calls Tryd.prog 53 #[.slice A xs.length c,.slice B ys.length d,.func (.func 54) #[] #[]] w fun e w'=>e= .returned (.bool (eqAll eq xs ys))∧Below w.heap.size w w':=by
 have hu:=Tryd.underlying46;have HF:=Aside0.mk hF;have HX:=Aside0.mk hx;have HY:=Aside0.mk hy;clear hF hx hy hc hd;by_cases hl:xs.length=ys.length
 rotate_left
 ·have q:(((xs.length:Nat):Int) !=((ys.length:Nat):Int))=true:=bne_iff_ne.mpr (by omega);have HR:=Aside0.mk (eqAll_len (eq:=eq) hl);clear hl;go_enter Tryd.func53,Tryd.ntmps53
  go_wp2_with fail
  go_ret
  exact ⟨by rw [HR.out];rfl,Below.refl _ _⟩
 have q:(((xs.length:Nat):Int) !=((ys.length:Nat):Int))=false:=bne_eq_false_iff_eq.mpr (by omega);have HL:=Aside0.mk hl;clear hl;go_enter Tryd.func53,Tryd.ntmps53
 go_wp2_with fail
 go_loopg [17] (xs.length+1) (fun kq v17 w'=>∃ i:Int,v17= .int .i64 i∧Aside0 (0≤i∧i.toNat+kq=xs.length+1∧0<kq)∧Aside0 (eqAll eq (xs.drop i.toNat) (ys.drop i.toNat)=eqAll eq xs ys)∧Aside0 (Below w.heap.size w w'))
 case atStart=>exact ⟨0,rfl,⟨by omega,by simp,by omega⟩,⟨by simp⟩,⟨Below.refl _ _⟩⟩
 case round=>
  obtain ⟨i,rfl,HI,HE,HB⟩:=hrel;cases gk with
  |zero=>exact absurd HI.out.2.2 (by omega)
  |succ k1=>
   by_cases hlt:i<((xs.length:Nat):Int)
   ·have p0:0≤i:=HI.out.1;have p1:=hlt;have p2:i<((ys.length:Nat):Int):=by have:=HL.out;omega
    have HP:=Aside0.mk (And.intro p0 (And.intro p1 p2));have c1:decide (i<((xs.length:Nat):Int))=true:=decide_eq_true hlt;obtain ⟨aad,aA2,ac2,ae_,ax0,ax1,ax2,al2_,ag2_⟩:=at_T46 HX.out i p0 p1;cases ae_
    have ay0:=(HB.out.cell (World.block_lt_of_cell? w _ ax0)).trans ax0;have ay1:=(HB.out.cell (World.block_lt_of_cell? w _ ax1)).trans ax1;have ay2:=(HB.out.cell (World.block_lt_of_cell? w _ ax2)).trans ax2;have al2:=Aside0.mk al2_;have ag2:=Aside0.mk ag2_;clear al2_ ag2_;clear ax0 ax1 ax2;obtain ⟨bad,bA2,bc2,be_,bx0,bx1,bx2,bl2_,bg2_⟩:=at_T46 HY.out i p0 p2;cases be_
    have by0:=(HB.out.cell (World.block_lt_of_cell? w _ bx0)).trans bx0;have by1:=(HB.out.cell (World.block_lt_of_cell? w _ bx1)).trans bx1;have by2:=(HB.out.cell (World.block_lt_of_cell? w _ bx2)).trans bx2;have bl2:=Aside0.mk bl2_;have bg2:=Aside0.mk bg2_;clear bl2_ bg2_;clear bx0 bx1 bx2;replace p0:=eq_true p0;replace p1:=eq_true p1;replace p2:=eq_true p2;clear hlt;go_upto_region 6 with fail
    have HB1:=Aside0.mk (below_alloc HB.out (.cells #[.string (rd_T46 xs i).f0,.int .i64 (rd_T46 xs i).f1,.slice aA2 (rd_T46 xs i).f2.length ac2] 46));have HW1:=Aside0.mk (below_alloc (Below.refl wr.heap.size wr) (.cells #[.string (rd_T46 xs i).f0,.int .i64 (rd_T46 xs i).f1,.slice aA2 (rd_T46 xs i).f2.length ac2] 46));have hz1:=Aside0.mk (blk_new wr (.cells #[.string (rd_T46 xs i).f0,.int .i64 (rd_T46 xs i).f1,.slice aA2 (rd_T46 xs i).f2.length ac2] 46));have bz0:=(HW1.out.cell (World.block_lt_of_cell? wr _ by0)).trans by0;have bz1:=(HW1.out.cell (World.block_lt_of_cell? wr _ by1)).trans by1;have bz2:=(HW1.out.cell (World.block_lt_of_cell? wr _ by2)).trans by2;generalize wr.alloc (.cells #[.string (rd_T46 xs i).f0,.int .i64 (rd_T46 xs i).f1,.slice aA2 (rd_T46 xs i).f2.length ac2] 46)=w1 at HB1 HW1 hz1 bz0 bz1 bz2 ⊢;generalize wr.heap.size=n1 at hz1 ⊢;clear ay0 ay1 ay2 by0 by1 by2;go_upto_region 7 with fail
    have HB2:=Aside0.mk (below_alloc HB1.out (.cells #[.string (rd_T46 ys i).f0,.int .i64 (rd_T46 ys i).f1,.slice bA2 (rd_T46 ys i).f2.length bc2] 46));have hz2:=blk_new w1 (.cells #[.string (rd_T46 ys i).f0,.int .i64 (rd_T46 ys i).f1,.slice bA2 (rd_T46 ys i).f2.length bc2] 46);have hz3:=blk_alloc hz1.out (.cells #[.string (rd_T46 ys i).f0,.int .i64 (rd_T46 ys i).f1,.slice bA2 (rd_T46 ys i).f2.length bc2] 46);generalize w1.alloc (.cells #[.string (rd_T46 ys i).f0,.int .i64 (rd_T46 ys i).f1,.slice bA2 (rd_T46 ys i).f2.length bc2] 46)=w2 at HB2 hz2 hz3 ⊢;generalize w1.heap.size=n2 at hz2 ⊢;have u0:=blk_cell hz3 0;have v0:=blk_cell hz2 0;have u1:=blk_cell hz3 1;have v1:=blk_cell hz2 1;have u2:=blk_cell hz3 2;have v2:=blk_cell hz2 2;clear hz1 hz2 hz3 bz0 bz1 bz2;go_wp2_with fail
    refine (HF.out (rd_T46 xs i) (getD_memE (by have:=HP.out;omega)) (rd_T46 ys i) (getD_memE (by have:=HP.out;omega)) _ [.string (rd_T46 xs i).f0,.int .i64 (rd_T46 xs i).f1,.slice aA2 (rd_T46 xs i).f2.length ac2] [.string (rd_T46 ys i).f0,.int .i64 (rd_T46 ys i).f1,.slice bA2 (rd_T46 ys i).f2.length bc2] HB2.out (k46_mk _ (rd_T46 xs i) al2.out (Kd.C_below ag2.out HB2.out)) (k46_mk _ (rd_T46 ys i) bl2.out (Kd.C_below bg2.out HB2.out))).mono ?_
    rintro E w3 ⟨rfl,hb3⟩
    have HB3:=Aside0.mk (below_step HB2.out hb3);clear hb3 u0 v0 u1 v1 u2 v2;have hst:=eqAll_drop (eq:=eq) (xs:=xs) (ys:=ys) z46 (i:=i.toNat) (by have:=HP.out;omega) (by have:=HP.out;omega);rw [HE.out] at hst;have hst2:eqAll eq xs ys=(eq (rd_T46 xs i) (rd_T46 ys i) && eqAll eq (xs.drop (i.toNat+1)) (ys.drop (i.toNat+1))):=hst;cases hq:eq (rd_T46 xs i) (rd_T46 ys i) with
    |false=>
     rw [hq,Bool.false_and] at hst2;have HST:=Aside0.mk hst2;clear hst hst2 hq;go_wp2_with fail
     go_ret
     exact ⟨by rw [HST.out];rfl,HB3.out⟩
    |true=>
     rw [hq,Bool.true_and] at hst2;have HST:=Aside0.mk hst2;clear hst hst2 hq;go_wp2_with fail
     go_roundg k1
     case rel=>exact ⟨i+1,by rw [show wrap64 (i+1)=i+1 from w64 (by have:=HP.out;have:=HX.out.2.1;omega)],⟨by have:=HP.out;omega,by have:=HP.out;have:=HI.out;omega,by have:=HP.out;have:=HI.out;omega⟩,⟨by rw [show (i+1).toNat=i.toNat+1 by have:=HP.out;omega];exact HST.out.symm⟩,HB3⟩
     case measure=>omega
   ·have c1:decide (i<((xs.length:Nat):Int))=false:=decide_eq_false hlt;have HST:Aside0 (eqAll eq xs ys=true):=Aside0.mk (by rw [← HE.out];exact eqAll_end (by omega) (by have:=HL.out;omega));clear hlt;go_wp2_with fail
    go_ret
    exact ⟨by rw [HST.out];rfl,HB.out⟩
set_option maxRecDepth 100000 in
set_option maxHeartbeats 1600000 in
theorem eqf_S (eq:S86→S86→Bool) {w:World} {A B:Option Addr} {c d:Nat} {xs ys:List S86} (hx:Kd.C k86 w A xs.length xs) (hc:xs.length≤c) (hy:Kd.C k86 w B ys.length ys) (hd:ys.length≤d)
  (hF: ∀ x∈xs,∀ y∈ys,∀ W cx cy,Below w.heap.size w W→k86.K W x cx→k86.K W y cy→Calls Tryd.prog 79 #[.agg cx.toArray,.agg cy.toArray] W fun e w'=>e= .returned (.bool (eq x y))∧Below W.heap.size W w'):
  Calls Tryd.prog 78 #[.slice A xs.length c,.slice B ys.length d,.func (.func 79) #[] #[]] w fun e w'=>e= .returned (.bool (eqAll eq xs ys))∧Below w.heap.size w w':=by
 have hu:=Tryd.underlying86;have HF:=Aside0.mk hF;have HX:=Aside0.mk hx;have HY:=Aside0.mk hy;clear hF hx hy hc hd;by_cases hl:xs.length=ys.length
 rotate_left
 ·have q:(((xs.length:Nat):Int) !=((ys.length:Nat):Int))=true:=bne_iff_ne.mpr (by omega);have HR:=Aside0.mk (eqAll_len (eq:=eq) hl);clear hl;go_enter Tryd.func78,Tryd.ntmps78
  go_wp2_with fail
  go_ret
  exact ⟨by rw [HR.out];rfl,Below.refl _ _⟩
 have q:(((xs.length:Nat):Int) !=((ys.length:Nat):Int))=false:=bne_eq_false_iff_eq.mpr (by omega);have HL:=Aside0.mk hl;clear hl;go_enter Tryd.func78,Tryd.ntmps78
 go_wp2_with fail
 go_loopg [17] (xs.length+1) (fun kq v17 w'=>∃ i:Int,v17= .int .i64 i∧Aside0 (0≤i∧i.toNat+kq=xs.length+1∧0<kq)∧Aside0 (eqAll eq (xs.drop i.toNat) (ys.drop i.toNat)=eqAll eq xs ys)∧Aside0 (Below w.heap.size w w'))
 case atStart=>exact ⟨0,rfl,⟨by omega,by simp,by omega⟩,⟨by simp⟩,⟨Below.refl _ _⟩⟩
 case round=>
  obtain ⟨i,rfl,HI,HE,HB⟩:=hrel;cases gk with
  |zero=>exact absurd HI.out.2.2 (by omega)
  |succ k1=>
   by_cases hlt:i<((xs.length:Nat):Int)
   ·have p0:0≤i:=HI.out.1;have p1:=hlt;have p2:i<((ys.length:Nat):Int):=by have:=HL.out;omega
    have HP:=Aside0.mk (And.intro p0 (And.intro p1 p2));have c1:decide (i<((xs.length:Nat):Int))=true:=decide_eq_true hlt;obtain ⟨aad,aA3,ac3,aA4,ac4,ae_,ax0,ax1,ax2,ax3,ax4,al3_,ag3_,al4_,ag4_⟩:=at_T86 HX.out i p0 p1;cases ae_
    have ay0:=(HB.out.cell (World.block_lt_of_cell? w _ ax0)).trans ax0;have ay1:=(HB.out.cell (World.block_lt_of_cell? w _ ax1)).trans ax1;have ay2:=(HB.out.cell (World.block_lt_of_cell? w _ ax2)).trans ax2;have ay3:=(HB.out.cell (World.block_lt_of_cell? w _ ax3)).trans ax3;have ay4:=(HB.out.cell (World.block_lt_of_cell? w _ ax4)).trans ax4;have al3:=Aside0.mk al3_;have ag3:=Aside0.mk ag3_;clear al3_ ag3_;have al4:=Aside0.mk al4_;have ag4:=Aside0.mk ag4_;clear al4_ ag4_;clear ax0 ax1 ax2 ax3 ax4;obtain ⟨bad,bA3,bc3,bA4,bc4,be_,bx0,bx1,bx2,bx3,bx4,bl3_,bg3_,bl4_,bg4_⟩:=at_T86 HY.out i p0 p2;cases be_
    have by0:=(HB.out.cell (World.block_lt_of_cell? w _ bx0)).trans bx0;have by1:=(HB.out.cell (World.block_lt_of_cell? w _ bx1)).trans bx1;have by2:=(HB.out.cell (World.block_lt_of_cell? w _ bx2)).trans bx2;have by3:=(HB.out.cell (World.block_lt_of_cell? w _ bx3)).trans bx3;have by4:=(HB.out.cell (World.block_lt_of_cell? w _ bx4)).trans bx4;have bl3:=Aside0.mk bl3_;have bg3:=Aside0.mk bg3_;clear bl3_ bg3_;have bl4:=Aside0.mk bl4_;have bg4:=Aside0.mk bg4_;clear bl4_ bg4_;clear bx0 bx1 bx2 bx3 bx4;replace p0:=eq_true p0;replace p1:=eq_true p1;replace p2:=eq_true p2;clear hlt;go_upto_region 6 with fail
    have HB1:=Aside0.mk (below_alloc HB.out (.cells #[.int .i64 (rd_T86 xs i).f0,.int .i64 (rd_T86 xs i).f1,.string (rd_T86 xs i).f2,.slice aA3 (rd_T86 xs i).f3.length ac3,.slice aA4 (rd_T86 xs i).f4.length ac4] 86));have HW1:=Aside0.mk (below_alloc (Below.refl wr.heap.size wr) (.cells #[.int .i64 (rd_T86 xs i).f0,.int .i64 (rd_T86 xs i).f1,.string (rd_T86 xs i).f2,.slice aA3 (rd_T86 xs i).f3.length ac3,.slice aA4 (rd_T86 xs i).f4.length ac4] 86));have hz1:=Aside0.mk (blk_new wr (.cells #[.int .i64 (rd_T86 xs i).f0,.int .i64 (rd_T86 xs i).f1,.string (rd_T86 xs i).f2,.slice aA3 (rd_T86 xs i).f3.length ac3,.slice aA4 (rd_T86 xs i).f4.length ac4] 86));have bz0:=(HW1.out.cell (World.block_lt_of_cell? wr _ by0)).trans by0;have bz1:=(HW1.out.cell (World.block_lt_of_cell? wr _ by1)).trans by1;have bz2:=(HW1.out.cell (World.block_lt_of_cell? wr _ by2)).trans by2;have bz3:=(HW1.out.cell (World.block_lt_of_cell? wr _ by3)).trans by3;have bz4:=(HW1.out.cell (World.block_lt_of_cell? wr _ by4)).trans by4;generalize wr.alloc (.cells #[.int .i64 (rd_T86 xs i).f0,.int .i64 (rd_T86 xs i).f1,.string (rd_T86 xs i).f2,.slice aA3 (rd_T86 xs i).f3.length ac3,.slice aA4 (rd_T86 xs i).f4.length ac4] 86)=w1 at HB1 HW1 hz1 bz0 bz1 bz2 bz3 bz4 ⊢;generalize wr.heap.size=n1 at hz1 ⊢;clear ay0 ay1 ay2 ay3 ay4 by0 by1 by2 by3 by4;go_upto_region 7 with fail
    have HB2:=Aside0.mk (below_alloc HB1.out (.cells #[.int .i64 (rd_T86 ys i).f0,.int .i64 (rd_T86 ys i).f1,.string (rd_T86 ys i).f2,.slice bA3 (rd_T86 ys i).f3.length bc3,.slice bA4 (rd_T86 ys i).f4.length bc4] 86));have hz2:=blk_new w1 (.cells #[.int .i64 (rd_T86 ys i).f0,.int .i64 (rd_T86 ys i).f1,.string (rd_T86 ys i).f2,.slice bA3 (rd_T86 ys i).f3.length bc3,.slice bA4 (rd_T86 ys i).f4.length bc4] 86);have hz3:=blk_alloc hz1.out (.cells #[.int .i64 (rd_T86 ys i).f0,.int .i64 (rd_T86 ys i).f1,.string (rd_T86 ys i).f2,.slice bA3 (rd_T86 ys i).f3.length bc3,.slice bA4 (rd_T86 ys i).f4.length bc4] 86);generalize w1.alloc (.cells #[.int .i64 (rd_T86 ys i).f0,.int .i64 (rd_T86 ys i).f1,.string (rd_T86 ys i).f2,.slice bA3 (rd_T86 ys i).f3.length bc3,.slice bA4 (rd_T86 ys i).f4.length bc4] 86)=w2 at HB2 hz2 hz3 ⊢;generalize w1.heap.size=n2 at hz2 ⊢;have u0:=blk_cell hz3 0;have v0:=blk_cell hz2 0;have u1:=blk_cell hz3 1;have v1:=blk_cell hz2 1;have u2:=blk_cell hz3 2;have v2:=blk_cell hz2 2;have u3:=blk_cell hz3 3;have v3:=blk_cell hz2 3;have u4:=blk_cell hz3 4;have v4:=blk_cell hz2 4;clear hz1 hz2 hz3 bz0 bz1 bz2 bz3 bz4;go_wp2_with fail
    refine (HF.out (rd_T86 xs i) (getD_memE (by have:=HP.out;omega)) (rd_T86 ys i) (getD_memE (by have:=HP.out;omega)) _ [.int .i64 (rd_T86 xs i).f0,.int .i64 (rd_T86 xs i).f1,.string (rd_T86 xs i).f2,.slice aA3 (rd_T86 xs i).f3.length ac3,.slice aA4 (rd_T86 xs i).f4.length ac4] [.int .i64 (rd_T86 ys i).f0,.int .i64 (rd_T86 ys i).f1,.string (rd_T86 ys i).f2,.slice bA3 (rd_T86 ys i).f3.length bc3,.slice bA4 (rd_T86 ys i).f4.length bc4] HB2.out (k86_mk _ (rd_T86 xs i) al3.out (Kd.C_below ag3.out HB2.out) al4.out (Kd.C_below ag4.out HB2.out)) (k86_mk _ (rd_T86 ys i) bl3.out (Kd.C_below bg3.out HB2.out) bl4.out (Kd.C_below bg4.out HB2.out))).mono ?_
    rintro E w3 ⟨rfl,hb3⟩
    have HB3:=Aside0.mk (below_step HB2.out hb3);clear hb3 u0 v0 u1 v1 u2 v2 u3 v3 u4 v4;have hst:=eqAll_drop (eq:=eq) (xs:=xs) (ys:=ys) z86 (i:=i.toNat) (by have:=HP.out;omega) (by have:=HP.out;omega);rw [HE.out] at hst;have hst2:eqAll eq xs ys=(eq (rd_T86 xs i) (rd_T86 ys i) && eqAll eq (xs.drop (i.toNat+1)) (ys.drop (i.toNat+1))):=hst;cases hq:eq (rd_T86 xs i) (rd_T86 ys i) with
    |false=>
     rw [hq,Bool.false_and] at hst2;have HST:=Aside0.mk hst2;clear hst hst2 hq;go_wp2_with fail
     go_ret
     exact ⟨by rw [HST.out];rfl,HB3.out⟩
    |true=>
     rw [hq,Bool.true_and] at hst2;have HST:=Aside0.mk hst2;clear hst hst2 hq;go_wp2_with fail
     go_roundg k1
     case rel=>exact ⟨i+1,by rw [show wrap64 (i+1)=i+1 from w64 (by have:=HP.out;have:=HX.out.2.1;omega)],⟨by have:=HP.out;omega,by have:=HP.out;have:=HI.out;omega,by have:=HP.out;have:=HI.out;omega⟩,⟨by rw [show (i+1).toNat=i.toNat+1 by have:=HP.out;omega];exact HST.out.symm⟩,HB3⟩
     case measure=>omega
   ·have c1:decide (i<((xs.length:Nat):Int))=false:=decide_eq_false hlt;have HST:Aside0 (eqAll eq xs ys=true):=Aside0.mk (by rw [← HE.out];exact eqAll_end (by omega) (by have:=HL.out;omega));clear hlt;go_wp2_with fail
    go_ret
    exact ⟨by rw [HST.out];rfl,HB.out⟩
end Go.Proofs.YtkmafndljelopaaDoor.Q
