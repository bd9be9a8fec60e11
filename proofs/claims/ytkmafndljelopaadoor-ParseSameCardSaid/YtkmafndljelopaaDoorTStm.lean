/- The reference's Stmts and Same, by hand. Written by wip/gen_stm.py. -/
import Derived.Test.YtkmafndljelopaaDoorTTree
import Derived.Test.YtkmafndljelopaaDoorTQ7
import Derived.BigQuiet
namespace Go.Proofs.YtkmafndljelopaaDoor.Q
open Go.RowKit Go.Proofs.YtkmafndljelopaaDoorW.PrintWords Go.Proofs.YtkmafndljelopaaDoorW.PrintLast Go.Proofs.YtkmafndljelopaaDoorW.PrintMore Go.Proofs.YtkmafndljelopaaDoor.Lx
set_option linter.unusedVariables false
set_option linter.unusedSimpArgs false
def bs_ (n m:Nat):Array Bool:=((List.range n).map fun i=>m.testBit i).toArray
theorem sameL_len {xs ys:List St6} (h:xs.length≠ys.length):sameL xs ys=false:=by rw [sameL_eq];exact eqAll_len h
theorem sameL_drop {xs ys:List St6} {i:Nat} (h:i<xs.length) (h2:i<ys.length):sameL (xs.drop i) (ys.drop i)=(sameS (xs.getD i z86) (ys.getD i z86) && sameL (xs.drop (i+1)) (ys.drop (i+1))):=by
 rw [sameL_eq,sameL_eq];exact eqAll_drop _ h h2
theorem sameL_end {xs ys:List St6} {i:Nat} (h:xs.length≤i) (h2:ys.length≤i):sameL (xs.drop i) (ys.drop i)=true:=by
 rw [sameL_eq];exact eqAll_end h h2
set_option maxRecDepth 100000 in
set_option maxHeartbeats 3200000 in
theorem stmts6_step {n:Nat} (ih: ∀ (xs ys:List St6) (w:World) (A B:Option Addr) (c d:Nat),szL xs<n→Kd.C k86 w A xs.length xs→xs.length≤c→Kd.C k86 w B ys.length ys→ys.length≤d→
   Calls Tryd.prog 42 #[.slice A xs.length c,.slice B ys.length d] w fun e w'=>e= .returned (.bool (sameL xs ys))∧Below w.heap.size w w')
  (xs ys:List St6) (w:World) (A B:Option Addr) (c d:Nat) (h:szL xs<n+1) (hx:Kd.C k86 w A xs.length xs) (hc:xs.length≤c) (hy:Kd.C k86 w B ys.length ys) (hd:ys.length≤d):
  Calls Tryd.prog 42 #[.slice A xs.length c,.slice B ys.length d] w fun e w'=>e= .returned (.bool (sameL xs ys))∧Below w.heap.size w w':=by
 have IH:=Aside0.mk ih;clear ih;have hu:=Tryd.underlying86;have HX:=Aside0.mk hx;have HY:=Aside0.mk hy;have HN:=Aside0.mk h;clear hx hy hc hd h;by_cases hl:xs.length=ys.length
 rotate_left
 ·have q:(((xs.length:Nat):Int) !=((ys.length:Nat):Int))=true:=bne_iff_ne.mpr (by omega);have HR:=Aside0.mk (sameL_len hl);clear hl;go_enter Tryd.func42,Tryd.ntmps42
  go_wp2_with fail
  go_ret
  exact ⟨by rw [HR.out];rfl,Below.refl _ _⟩
 have q:(((xs.length:Nat):Int) !=((ys.length:Nat):Int))=false:=bne_eq_false_iff_eq.mpr (by omega);have HL:=Aside0.mk hl;clear hl;go_enter Tryd.func42,Tryd.ntmps42
 go_wp2_with fail
 go_loopg [5] (xs.length+1) (fun kq v5 w'=>∃ i:Int,v5= .int .i64 i∧Aside0 (0≤i∧i.toNat+kq=xs.length+1∧0<kq)∧Aside0 (sameL (xs.drop i.toNat) (ys.drop i.toNat)=sameL xs ys)∧Aside0 (Below w.heap.size w w'))
 case atStart=>exact ⟨0,rfl,⟨by omega,by simp,by omega⟩,⟨by simp⟩,⟨Below.refl _ _⟩⟩
 case round=>
  obtain ⟨i,rfl,HI,HE,HB⟩:=hrel;cases gk with
  |zero=>exact absurd HI.out.2.2 (by omega)
  |succ k1=>
   by_cases hlt:i<((xs.length:Nat):Int)
   rotate_left
   ·have c1:decide (i<((xs.length:Nat):Int))=false:=decide_eq_false hlt;have HST:Aside0 (sameL xs ys=true):=Aside0.mk (by rw [← HE.out];exact sameL_end (by omega) (by have:=HL.out;omega));clear hlt;go_wp2_with fail
    go_ret
    exact ⟨by rw [HST.out];rfl,HB.out⟩
   ·have p0:0≤i:=HI.out.1;have p1:=hlt;have p2:i<((ys.length:Nat):Int):=by have:=HL.out;omega
    have HP:=Aside0.mk (And.intro p0 (And.intro p1 p2));have c1:decide (i<((xs.length:Nat):Int))=true:=decide_eq_true hlt;obtain ⟨aad,aA3,ac3,aA4,ac4,ae_,ax0,ax1,ax2,ax3,ax4,al3_,ag3_,al4_,ag4_⟩:=at_T86 HX.out i p0 p1;cases ae_
    have al3:=Aside0.mk al3_;have ag3:=Aside0.mk (Kd.C_below ag3_ HB.out);clear al3_ ag3_;have al4:=Aside0.mk al4_;have ag4:=Aside0.mk (Kd.C_below ag4_ HB.out);clear al4_ ag4_;replace ax0:=(HB.out.cell (World.block_lt_of_cell? w _ ax0)).trans ax0;replace ax1:=(HB.out.cell (World.block_lt_of_cell? w _ ax1)).trans ax1;replace ax2:=(HB.out.cell (World.block_lt_of_cell? w _ ax2)).trans ax2;replace ax3:=(HB.out.cell (World.block_lt_of_cell? w _ ax3)).trans ax3;replace ax4:=(HB.out.cell (World.block_lt_of_cell? w _ ax4)).trans ax4;obtain ⟨bad,bA3,bc3,bA4,bc4,be_,bx0,bx1,bx2,bx3,bx4,bl3_,bg3_,bl4_,bg4_⟩:=at_T86 HY.out i p0 p2;cases be_
    have bl3:=Aside0.mk bl3_;have bg3:=Aside0.mk (Kd.C_below bg3_ HB.out);clear bl3_ bg3_;have bl4:=Aside0.mk bl4_;have bg4:=Aside0.mk (Kd.C_below bg4_ HB.out);clear bl4_ bg4_;replace bx0:=(HB.out.cell (World.block_lt_of_cell? w _ bx0)).trans bx0;replace bx1:=(HB.out.cell (World.block_lt_of_cell? w _ bx1)).trans bx1;replace bx2:=(HB.out.cell (World.block_lt_of_cell? w _ bx2)).trans bx2;replace bx3:=(HB.out.cell (World.block_lt_of_cell? w _ bx3)).trans bx3;replace bx4:=(HB.out.cell (World.block_lt_of_cell? w _ bx4)).trans bx4;have HF:Aside0 (∀ w',Below wr.heap.size wr w'→w'.cell? (aad.add (i.toNat * 5))=some (.int .i64 (rd_T86 xs i).f0)∧w'.cell? ⟨(aad.add (i.toNat * 5)).block,(aad.add (i.toNat * 5)).off+2,none⟩=some (.string (rd_T86 xs i).f2)∧w'.cell? ⟨(aad.add (i.toNat * 5)).block,(aad.add (i.toNat * 5)).off+3,none⟩=some (.slice aA3 (rd_T86 xs i).f3.length ac3)∧w'.cell? ⟨(aad.add (i.toNat * 5)).block,(aad.add (i.toNat * 5)).off+4,none⟩=some (.slice aA4 (rd_T86 xs i).f4.length ac4)∧w'.cell? (bad.add (i.toNat * 5))=some (.int .i64 (rd_T86 ys i).f0)∧w'.cell? ⟨(bad.add (i.toNat * 5)).block,(bad.add (i.toNat * 5)).off+2,none⟩=some (.string (rd_T86 ys i).f2)∧w'.cell? ⟨(bad.add (i.toNat * 5)).block,(bad.add (i.toNat * 5)).off+3,none⟩=some (.slice bA3 (rd_T86 ys i).f3.length bc3)∧w'.cell? ⟨(bad.add (i.toNat * 5)).block,(bad.add (i.toNat * 5)).off+4,none⟩=some (.slice bA4 (rd_T86 ys i).f4.length bc4)):=Aside0.mk (fun w' hw=>⟨(hw.cell (World.block_lt_of_cell? wr _ ax0)).trans ax0,(hw.cell (World.block_lt_of_cell? wr _ ax2)).trans ax2,(hw.cell (World.block_lt_of_cell? wr _ ax3)).trans ax3,(hw.cell (World.block_lt_of_cell? wr _ ax4)).trans ax4,(hw.cell (World.block_lt_of_cell? wr _ bx0)).trans bx0,(hw.cell (World.block_lt_of_cell? wr _ bx2)).trans bx2,(hw.cell (World.block_lt_of_cell? wr _ bx3)).trans bx3,(hw.cell (World.block_lt_of_cell? wr _ bx4)).trans bx4⟩);replace p0:=eq_true p0;replace p1:=eq_true p1;replace p2:=eq_true p2;clear hlt ax0 ax1 ax2 ax3 ax4 bx0 bx1 bx2 bx3 bx4;have hst:sameL xs ys=(sameS (rd_T86 xs i) (rd_T86 ys i) && sameL (xs.drop (i.toNat+1)) (ys.drop (i.toNat+1))):=HE.out.symm.trans (sameL_drop (i:=i.toNat) (by have:=HP.out;omega) (by have:=HP.out;omega));have hmem:szS (rd_T86 xs i)≤szL xs:=szL_mem (getD_memE (by have:=HP.out;omega));have HSZ:Aside0 (szL (rd_T86 xs i).f3<n∧szL (rd_T86 xs i).f4<n):=Aside0.mk (by have:=HN.out;have:=szS_eq (rd_T86 xs i);omega);clear hmem;rw [sameS_eq] at hst;by_cases h0:(rd_T86 xs i).f0=(rd_T86 ys i).f0
    rotate_left
    ·have q0:((rd_T86 xs i).f0==(rd_T86 ys i).f0)=false:=beq_eq_false_iff_ne.mpr h0;have q1:((rd_T86 xs i).f0 !=(rd_T86 ys i).f0)=true:=bne_iff_ne.mpr h0;rw [q0,Bool.false_and,Bool.false_and] at hst;have HST:=Aside0.mk hst;clear hst h0;obtain ⟨k0,k1_,k2,k3,k4,k5,k6,k7⟩:=HF.out wr (Below.refl _ _);go_wp2
     repeat (go_quiet (fail);try go_wp2)
     go_ret
     exact ⟨by rw [HST.out];rfl,by repeat (first|(with_reducible first|exact HB.out|apply pw_below_drewN|apply below_drew1)|exact HB.out)⟩
    have q0:((rd_T86 xs i).f0==(rd_T86 ys i).f0)=true:=beq_iff_eq.mpr h0;have q1:((rd_T86 xs i).f0 !=(rd_T86 ys i).f0)=false:=bne_eq_false_iff_eq.mpr h0;rw [q0,Bool.true_and] at hst;by_cases h2:(rd_T86 xs i).f2.toList=(rd_T86 ys i).f2.toList
    rotate_left
    ·have q2:((rd_T86 xs i).f2.toList==(rd_T86 ys i).f2.toList)=false:=beq_eq_false_iff_ne.mpr h2;have q3:((rd_T86 xs i).f2.toList !=(rd_T86 ys i).f2.toList)=true:=bne_iff_ne.mpr h2;rw [q2,Bool.false_and,Bool.false_and] at hst;have HST:=Aside0.mk hst;clear hst h0 h2;obtain ⟨k0,k1_,k2,k3,k4,k5,k6,k7⟩:=HF.out wr (Below.refl _ _);go_wp2
     repeat (go_quiet (fail);try go_wp2)
     go_ret
     exact ⟨by rw [HST.out];rfl,by repeat (first|(with_reducible first|exact HB.out|apply pw_below_drewN|apply below_drew1)|exact HB.out)⟩
    have q2:((rd_T86 xs i).f2.toList==(rd_T86 ys i).f2.toList)=true:=beq_iff_eq.mpr h2;have q3:((rd_T86 xs i).f2.toList !=(rd_T86 ys i).f2.toList)=false:=bne_eq_false_iff_eq.mpr h2;rw [q2,Bool.true_and] at hst;clear h0 h2;by_cases h3:sameL (rd_T86 xs i).f3 (rd_T86 ys i).f3=true
    rotate_left
    ·have h3':sameL (rd_T86 xs i).f3 (rd_T86 ys i).f3=false:=by simpa using h3
     rw [h3',Bool.false_and,Bool.false_and] at hst;have HST:=Aside0.mk hst;have HQ3:=Aside0.mk h3';clear hst h3 h3';go_upto_region 6 with fail
     refine start_ (n:=52) (S:=fun w'=>w'.cell? (aad.add (i.toNat * 5))=some (.int .i64 (rd_T86 xs i).f0)∧w'.cell? ⟨(aad.add (i.toNat * 5)).block,(aad.add (i.toNat * 5)).off+2,none⟩=some (.string (rd_T86 xs i).f2)∧w'.cell? ⟨(aad.add (i.toNat * 5)).block,(aad.add (i.toNat * 5)).off+3,none⟩=some (.slice aA3 (rd_T86 xs i).f3.length ac3)∧w'.cell? ⟨(aad.add (i.toNat * 5)).block,(aad.add (i.toNat * 5)).off+4,none⟩=some (.slice aA4 (rd_T86 xs i).f4.length ac4)∧w'.cell? (bad.add (i.toNat * 5))=some (.int .i64 (rd_T86 ys i).f0)∧w'.cell? ⟨(bad.add (i.toNat * 5)).block,(bad.add (i.toNat * 5)).off+2,none⟩=some (.string (rd_T86 ys i).f2)∧w'.cell? ⟨(bad.add (i.toNat * 5)).block,(bad.add (i.toNat * 5)).off+3,none⟩=some (.slice bA3 (rd_T86 ys i).f3.length bc3)∧w'.cell? ⟨(bad.add (i.toNat * 5)).block,(bad.add (i.toNat * 5)).off+4,none⟩=some (.slice bA4 (rd_T86 ys i).f4.length bc4)) (ds:=[]) #[false,false,false,false,false,false,false,false,false,false,false,false,false,false,false,false,false,false,false,false,false,false,false,false,false,false,false,false,false,false,false,false,false,false,false,false,false,false,false,false,false,false,false,false,false,false,false,false,false,false,false,false] (by kernel_rfl) rfl rfl ⟨(HF.out _ (below_drew1 (Below.refl wr.heap.size wr))).1,(HF.out _ (below_drew1 (Below.refl wr.heap.size wr))).2.1,(HF.out _ (below_drew1 (Below.refl wr.heap.size wr))).2.2.1,(HF.out _ (below_drew1 (Below.refl wr.heap.size wr))).2.2.2.1,(HF.out _ (below_drew1 (Below.refl wr.heap.size wr))).2.2.2.2.1,(HF.out _ (below_drew1 (Below.refl wr.heap.size wr))).2.2.2.2.2.1,(HF.out _ (below_drew1 (Below.refl wr.heap.size wr))).2.2.2.2.2.2.1,(HF.out _ (below_drew1 (Below.refl wr.heap.size wr))).2.2.2.2.2.2.2⟩ (fun hHeld=>?_);refine pure_ (i:=0) (N:=some 17) (v:=?_) (a':=?_) (bs_ 52 1) rfl rfl (by kernel_rfl) (fun _ _ _ h=>h) (Or.inl ⟨by rfl,?_⟩) ?_ ?_
     rotate_left;·intro w';go_simp;with_reducible rfl
     rotate_left;·simp only [Act.put,q1_,q2_,q3_,i64_w,i32_w];rfl
     refine pure_ (i:=1) (N:=some 18) (v:=?_) (a':=?_) (bs_ 52 3) rfl rfl (by kernel_rfl) (fun _ _ _ h=>h) (Or.inl ⟨by rfl,?_⟩) ?_ ?_
     rotate_left;·intro w';go_simp;with_reducible rfl
     rotate_left;·simp only [Act.put,q1_,q2_,q3_,i64_w,i32_w];rfl
     refine pure_ (i:=2) (N:=some 19) (v:=?_) (a':=?_) (bs_ 52 7) rfl rfl (by kernel_rfl) (fun _ _ _ h=>h) (Or.inl ⟨by rfl,?_⟩) ?_ ?_
     rotate_left;·intro w';go_simp;with_reducible rfl
     rotate_left;·simp only [Act.put,q1_,q2_,q3_,i64_w,i32_w];rfl
     refine pure_ (i:=3) (N:=some 20) (v:=?_) (a':=?_) (bs_ 52 15) rfl rfl (by kernel_rfl) (fun _ _ _ h=>h) (Or.inl ⟨by rfl,?_⟩) ?_ ?_
     rotate_left;·intro w';go_simp;with_reducible rfl
     rotate_left;·simp only [Act.put,q1_,q2_,q3_,i64_w,i32_w];rfl
     refine pure_ (i:=5) (N:=some 22) (v:=?_) (a':=?_) (bs_ 52 47) rfl rfl (by kernel_rfl) (fun _ _ _ h=>h) (Or.inl ⟨by rfl,?_⟩) ?_ ?_
     rotate_left;·intro w';go_simp;with_reducible rfl
     rotate_left;·simp only [Act.put,q1_,q2_,q3_,i64_w,i32_w];rfl
     refine pure_ (i:=6) (N:=some 23) (v:=?_) (a':=?_) (bs_ 52 111) rfl rfl (by kernel_rfl) (fun _ _ _ h=>h) (Or.inl ⟨by rfl,?_⟩) ?_ ?_
     rotate_left;·intro w';go_simp;with_reducible rfl
     rotate_left;·simp only [Act.put,q1_,q2_,q3_,i64_w,i32_w];rfl
     refine pure_ (i:=7) (N:=some 24) (v:=?_) (a':=?_) (bs_ 52 239) rfl rfl (by kernel_rfl) (fun _ _ _ h=>h) (Or.inl ⟨by rfl,?_⟩) ?_ ?_
     rotate_left;·intro w';go_simp;with_reducible rfl
     rotate_left;·simp only [Act.put,q1_,q2_,q3_,i64_w,i32_w];rfl
     refine pure_ (i:=8) (N:=some 25) (v:=?_) (a':=?_) (bs_ 52 495) rfl rfl (by kernel_rfl) (fun _ _ _ h=>h) (Or.inl ⟨by rfl,?_⟩) ?_ ?_
     rotate_left;·intro w';go_simp;with_reducible rfl
     rotate_left;·simp only [Act.put,q1_,q2_,q3_,i64_w,i32_w];rfl
     refine take_ (i:=4) (N:=some 21) (v:=?_) (a':=?_) (bs_ 52 511) rfl rfl (by kernel_rfl) (fun _ _ _ h=>h) (Or.inl ⟨by rfl,?_⟩) hHeld ?_ ?_
     rotate_left
     ·rintro w' ⟨s0,s1,s2,s3,s4,s5,s6,s7⟩
      go_simp;with_reducible rfl
     rotate_left;·simp only [Act.put,q1_,q2_,q3_,i64_w,i32_w];rfl
     refine take_ (i:=9) (N:=some 26) (v:=?_) (a':=?_) (bs_ 52 1023) rfl rfl (by kernel_rfl) (fun _ _ _ h=>h) (Or.inl ⟨by rfl,?_⟩) hHeld ?_ ?_
     rotate_left
     ·rintro w' ⟨s0,s1,s2,s3,s4,s5,s6,s7⟩
      go_simp;with_reducible rfl
     rotate_left;·simp only [Act.put,q1_,q2_,q3_,i64_w,i32_w];rfl
     refine pure_ (i:=10) (N:=some 27) (v:=?_) (a':=?_) (bs_ 52 2047) rfl rfl (by kernel_rfl) (fun _ _ _ h=>h) (Or.inl ⟨by rfl,?_⟩) ?_ ?_
     rotate_left;·intro w';go_simp;with_reducible rfl
     rotate_left;·simp only [Act.put,q1_,q2_,q3_,i64_w,i32_w];rfl
     refine pure_ (i:=11) (N:=some 28) (v:=?_) (a':=?_) (bs_ 52 4095) rfl rfl (by kernel_rfl) (fun _ _ _ h=>h) (Or.inl ⟨by rfl,?_⟩) ?_ ?_
     rotate_left;·intro w';go_simp;with_reducible rfl
     rotate_left;·simp only [Act.put,q1_,q2_,q3_,i64_w,i32_w];rfl
     refine pure_ (i:=12) (N:=some 29) (v:=?_) (a':=?_) (bs_ 52 8191) rfl rfl (by kernel_rfl) (fun _ _ _ h=>h) (Or.inl ⟨by rfl,?_⟩) ?_ ?_
     rotate_left;·intro w';go_simp;with_reducible rfl
     rotate_left;·simp only [Act.put,q1_,q2_,q3_,i64_w,i32_w];rfl
     refine pure_ (i:=13) (N:=some 30) (v:=?_) (a':=?_) (bs_ 52 16383) rfl rfl (by kernel_rfl) (fun _ _ _ h=>h) (Or.inl ⟨by rfl,?_⟩) ?_ ?_
     rotate_left;·intro w';go_simp;with_reducible rfl
     rotate_left;·simp only [Act.put,q1_,q2_,q3_,i64_w,i32_w];rfl
     refine pure_ (i:=14) (N:=some 31) (v:=?_) (a':=?_) (bs_ 52 32767) rfl rfl (by kernel_rfl) (fun _ _ _ h=>h) (Or.inl ⟨by rfl,?_⟩) ?_ ?_
     rotate_left;·intro w';go_simp;with_reducible rfl
     rotate_left;·simp only [Act.put,q1_,q2_,q3_,i64_w,i32_w];rfl
     refine pure_ (i:=15) (N:=some 32) (v:=?_) (a':=?_) (bs_ 52 65535) rfl rfl (by kernel_rfl) (fun _ _ _ h=>h) (Or.inl ⟨by rfl,?_⟩) ?_ ?_
     rotate_left;·intro w';go_simp;with_reducible rfl
     rotate_left;·simp only [Act.put,q1_,q2_,q3_,i64_w,i32_w];rfl
     refine pure_ (i:=17) (N:=some 34) (v:=?_) (a':=?_) (bs_ 52 196607) rfl rfl (by kernel_rfl) (fun _ _ _ h=>h) (Or.inl ⟨by rfl,?_⟩) ?_ ?_
     rotate_left;·intro w';go_simp;with_reducible rfl
     rotate_left;·simp only [Act.put,q1_,q2_,q3_,i64_w,i32_w];rfl
     refine pure_ (i:=18) (N:=some 35) (v:=?_) (a':=?_) (bs_ 52 458751) rfl rfl (by kernel_rfl) (fun _ _ _ h=>h) (Or.inl ⟨by rfl,?_⟩) ?_ ?_
     rotate_left;·intro w';go_simp;with_reducible rfl
     rotate_left;·simp only [Act.put,q1_,q2_,q3_,i64_w,i32_w];rfl
     refine pure_ (i:=19) (N:=some 36) (v:=?_) (a':=?_) (bs_ 52 983039) rfl rfl (by kernel_rfl) (fun _ _ _ h=>h) (Or.inl ⟨by rfl,?_⟩) ?_ ?_
     rotate_left;·intro w';go_simp;with_reducible rfl
     rotate_left;·simp only [Act.put,q1_,q2_,q3_,i64_w,i32_w];rfl
     refine pure_ (i:=20) (N:=some 37) (v:=?_) (a':=?_) (bs_ 52 2031615) rfl rfl (by kernel_rfl) (fun _ _ _ h=>h) (Or.inl ⟨by rfl,?_⟩) ?_ ?_
     rotate_left;·intro w';go_simp;with_reducible rfl
     rotate_left;·simp only [Act.put,q1_,q2_,q3_,i64_w,i32_w];rfl
     refine take_ (i:=16) (N:=some 33) (v:=?_) (a':=?_) (bs_ 52 2097151) rfl rfl (by kernel_rfl) (fun _ _ _ h=>h) (Or.inl ⟨by rfl,?_⟩) hHeld ?_ ?_
     rotate_left
     ·rintro w' ⟨s0,s1,s2,s3,s4,s5,s6,s7⟩
      go_simp;with_reducible rfl
     rotate_left;·simp only [Act.put,q1_,q2_,q3_,i64_w,i32_w];rfl
     refine take_ (i:=21) (N:=some 38) (v:=?_) (a':=?_) (bs_ 52 4194303) rfl rfl (by kernel_rfl) (fun _ _ _ h=>h) (Or.inl ⟨by rfl,?_⟩) hHeld ?_ ?_
     rotate_left
     ·rintro w' ⟨s0,s1,s2,s3,s4,s5,s6,s7⟩
      go_simp;with_reducible rfl
     rotate_left;·simp only [Act.put,q1_,q2_,q3_,i64_w,i32_w];rfl
     refine pure_ (i:=22) (N:=some 39) (v:=?_) (a':=?_) (bs_ 52 8388607) rfl rfl (by kernel_rfl) (fun _ _ _ h=>h) (Or.inl ⟨by rfl,?_⟩) ?_ ?_
     rotate_left;·intro w';go_simp;with_reducible rfl
     rotate_left;·simp only [Act.put,q1_,q2_,q3_,i64_w,i32_w];rfl
     refine pure_ (i:=23) (N:=some 40) (v:=?_) (a':=?_) (bs_ 52 16777215) rfl rfl (by kernel_rfl) (fun _ _ _ h=>h) (Or.inl ⟨by rfl,?_⟩) ?_ ?_
     rotate_left;·intro w';go_simp;with_reducible rfl
     rotate_left;·simp only [Act.put,q1_,q2_,q3_,i64_w,i32_w];rfl
     refine pure_ (i:=24) (N:=some 41) (v:=?_) (a':=?_) (bs_ 52 33554431) rfl rfl (by kernel_rfl) (fun _ _ _ h=>h) (Or.inl ⟨by rfl,?_⟩) ?_ ?_
     rotate_left;·intro w';go_simp;with_reducible rfl
     rotate_left;·simp only [Act.put,q1_,q2_,q3_,i64_w,i32_w];rfl
     refine pure_ (i:=25) (N:=some 42) (v:=?_) (a':=?_) (bs_ 52 67108863) rfl rfl (by kernel_rfl) (fun _ _ _ h=>h) (Or.inl ⟨by rfl,?_⟩) ?_ ?_
     rotate_left;·intro w';go_simp;with_reducible rfl
     rotate_left;·simp only [Act.put,q1_,q2_,q3_,i64_w,i32_w];rfl
     refine pure_ (i:=26) (N:=some 43) (v:=?_) (a':=?_) (bs_ 52 134217727) rfl rfl (by kernel_rfl) (fun _ _ _ h=>h) (Or.inl ⟨by rfl,?_⟩) ?_ ?_
     rotate_left;·intro w';go_simp;with_reducible rfl
     rotate_left;·simp only [Act.put,q1_,q2_,q3_,i64_w,i32_w];rfl
     refine pure_ (i:=27) (N:=some 44) (v:=?_) (a':=?_) (bs_ 52 268435455) rfl rfl (by kernel_rfl) (fun _ _ _ h=>h) (Or.inl ⟨by rfl,?_⟩) ?_ ?_
     rotate_left;·intro w';go_simp;with_reducible rfl
     rotate_left;·simp only [Act.put,q1_,q2_,q3_,i64_w,i32_w];rfl
     refine pure_ (i:=28) (N:=some 45) (v:=?_) (a':=?_) (bs_ 52 536870911) rfl rfl (by kernel_rfl) (fun _ _ _ h=>h) (Or.inl ⟨by rfl,?_⟩) ?_ ?_
     rotate_left;·intro w';go_simp;with_reducible rfl
     rotate_left;·simp only [Act.put,q1_,q2_,q3_,i64_w,i32_w];rfl
     refine pure_ (i:=30) (N:=some 47) (v:=?_) (a':=?_) (bs_ 52 1610612735) rfl rfl (by kernel_rfl) (fun _ _ _ h=>h) (Or.inl ⟨by rfl,?_⟩) ?_ ?_
     rotate_left;·intro w';go_simp;with_reducible rfl
     rotate_left;·simp only [Act.put,q1_,q2_,q3_,i64_w,i32_w];rfl
     refine pure_ (i:=31) (N:=some 48) (v:=?_) (a':=?_) (bs_ 52 3758096383) rfl rfl (by kernel_rfl) (fun _ _ _ h=>h) (Or.inl ⟨by rfl,?_⟩) ?_ ?_
     rotate_left;·intro w';go_simp;with_reducible rfl
     rotate_left;·simp only [Act.put,q1_,q2_,q3_,i64_w,i32_w];rfl
     refine pure_ (i:=32) (N:=some 49) (v:=?_) (a':=?_) (bs_ 52 8053063679) rfl rfl (by kernel_rfl) (fun _ _ _ h=>h) (Or.inl ⟨by rfl,?_⟩) ?_ ?_
     rotate_left;·intro w';go_simp;with_reducible rfl
     rotate_left;·simp only [Act.put,q1_,q2_,q3_,i64_w,i32_w];rfl
     refine pure_ (i:=33) (N:=some 50) (v:=?_) (a':=?_) (bs_ 52 16642998271) rfl rfl (by kernel_rfl) (fun _ _ _ h=>h) (Or.inl ⟨by rfl,?_⟩) ?_ ?_
     rotate_left;·intro w';go_simp;with_reducible rfl
     rotate_left;·simp only [Act.put,q1_,q2_,q3_,i64_w,i32_w];rfl
     refine take_ (i:=29) (N:=some 46) (v:=?_) (a':=?_) (bs_ 52 17179869183) rfl rfl (by kernel_rfl) (fun _ _ _ h=>h) (Or.inl ⟨by rfl,?_⟩) hHeld ?_ ?_
     rotate_left
     ·rintro w' ⟨s0,s1,s2,s3,s4,s5,s6,s7⟩
      go_simp;with_reducible rfl
     rotate_left;·simp only [Act.put,q1_,q2_,q3_,i64_w,i32_w];rfl
     refine take_ (i:=34) (N:=some 51) (v:=?_) (a':=?_) (bs_ 52 34359738367) rfl rfl (by kernel_rfl) (fun _ _ _ h=>h) (Or.inl ⟨by rfl,?_⟩) hHeld ?_ ?_
     rotate_left
     ·rintro w' ⟨s0,s1,s2,s3,s4,s5,s6,s7⟩
      go_simp;with_reducible rfl
     rotate_left;·simp only [Act.put,q1_,q2_,q3_,i64_w,i32_w];rfl
     refine one_ (i:=35) (N:=some 52) (bs_ 52 68719476735) rfl rfl (by kernel_rfl) (by decide) (fun K hK=>?_);refine goes_ Tryd.func42 (by kernel_rfl) rfl #[.slice aA3 (rd_T86 xs i).f3.length ac3,.slice bA3 (rd_T86 ys i).f3.length bc3] (by rfl) rfl rfl (by simp only [List.map_toArray,List.map_cons,List.map_nil];rfl) ?_
     with_reducible refine (IH.out (rd_T86 xs i).f3 (rd_T86 ys i).f3 _ aA3 bA3 ac3 bc3 (by have:=HSZ.out;omega) (Kd.C_below ag3.out (below_drew1 (Below.refl wr.heap.size wr))) al3.out (Kd.C_below bg3.out (below_drew1 (Below.refl wr.heap.size wr))) bl3.out).mono ?_
     rintro E wa ⟨rfl,hb_⟩
     refine ⟨_,rfl,?_⟩;have Hwa:Aside0 (Below wr.heap.size wr wa):=Aside0.mk (below_step (below_drew1 (Below.refl wr.heap.size wr)) hb_);clear hb_;rw [HQ3.out];refine hK.out _ _ ⟨(HF.out _ Hwa.out).1,(HF.out _ Hwa.out).2.1,(HF.out _ Hwa.out).2.2.1,(HF.out _ Hwa.out).2.2.2.1,(HF.out _ Hwa.out).2.2.2.2.1,(HF.out _ Hwa.out).2.2.2.2.2.1,(HF.out _ Hwa.out).2.2.2.2.2.2.1,(HF.out _ Hwa.out).2.2.2.2.2.2.2⟩ (fun hHeld=>?_);clear hK K;refine norm_ (a':=?_) ?_ ?_
     rotate_left
     ·show Act.put _ (some 52) _=_
      simp only [Act.put,q1_,q2_,q3_,i64_w,i32_w];rfl
     refine pure_ (i:=36) (N:=some 53) (v:=?_) (a':=?_) (bs_ 52 137438953471) rfl rfl (by kernel_rfl) (fun _ _ _ h=>h) (Or.inl ⟨by rfl,?_⟩) ?_ ?_
     rotate_left;·intro w';go_simp;with_reducible rfl
     rotate_left;·simp only [Act.put,q1_,q2_,q3_,i64_w,i32_w];rfl
     refine pure_ (i:=37) (N:=some 54) (v:=?_) (a':=?_) (bs_ 52 274877906943) rfl rfl (by kernel_rfl) (fun _ _ _ h=>h) (Or.inl ⟨by rfl,?_⟩) ?_ ?_
     rotate_left;·intro w';go_simp;with_reducible rfl
     rotate_left;·simp only [Act.put,q1_,q2_,q3_,i64_w,i32_w];rfl
     refine pure_ (i:=38) (N:=some 55) (v:=?_) (a':=?_) (bs_ 52 549755813887) rfl rfl (by kernel_rfl) (fun _ _ _ h=>h) (Or.inl ⟨by rfl,?_⟩) ?_ ?_
     rotate_left;·intro w';go_simp;with_reducible rfl
     rotate_left;·simp only [Act.put,q1_,q2_,q3_,i64_w,i32_w];rfl
     refine pure_ (i:=39) (N:=some 56) (v:=undef) (a':=?_) (bs_ 52 1099511627775) rfl rfl (by kernel_rfl) (fun _ _ _ h=>h) (Or.inr ⟨by rfl,rfl⟩) ?_ ?_
     rotate_left;·simp only [Act.put,q1_,q2_,q3_,i64_w,i32_w];rfl
     refine pure_ (i:=40) (N:=some 57) (v:=undef) (a':=?_) (bs_ 52 2199023255551) rfl rfl (by kernel_rfl) (fun _ _ _ h=>h) (Or.inr ⟨by rfl,rfl⟩) ?_ ?_
     rotate_left;·simp only [Act.put,q1_,q2_,q3_,i64_w,i32_w];rfl
     refine pure_ (i:=41) (N:=some 58) (v:=undef) (a':=?_) (bs_ 52 4398046511103) rfl rfl (by kernel_rfl) (fun _ _ _ h=>h) (Or.inr ⟨by rfl,rfl⟩) ?_ ?_
     rotate_left;·simp only [Act.put,q1_,q2_,q3_,i64_w,i32_w];rfl
     refine pure_ (i:=42) (N:=some 59) (v:=undef) (a':=?_) (bs_ 52 8796093022207) rfl rfl (by kernel_rfl) (fun _ _ _ h=>h) (Or.inr ⟨by rfl,rfl⟩) ?_ ?_
     rotate_left;·simp only [Act.put,q1_,q2_,q3_,i64_w,i32_w];rfl
     refine pure_ (i:=43) (N:=some 60) (v:=undef) (a':=?_) (bs_ 52 17592186044415) rfl rfl (by kernel_rfl) (fun _ _ _ h=>h) (Or.inr ⟨by rfl,rfl⟩) ?_ ?_
     rotate_left;·simp only [Act.put,q1_,q2_,q3_,i64_w,i32_w];rfl
     refine pure_ (i:=44) (N:=some 61) (v:=undef) (a':=?_) (bs_ 52 35184372088831) rfl rfl (by kernel_rfl) (fun _ _ _ h=>h) (Or.inr ⟨by rfl,rfl⟩) ?_ ?_
     rotate_left;·simp only [Act.put,q1_,q2_,q3_,i64_w,i32_w];rfl
     refine pure_ (i:=45) (N:=some 62) (v:=undef) (a':=?_) (bs_ 52 70368744177663) rfl rfl (by kernel_rfl) (fun _ _ _ h=>h) (Or.inr ⟨by rfl,rfl⟩) ?_ ?_
     rotate_left;·simp only [Act.put,q1_,q2_,q3_,i64_w,i32_w];rfl
     refine pure_ (i:=46) (N:=some 63) (v:=undef) (a':=?_) (bs_ 52 140737488355327) rfl rfl (by kernel_rfl) (fun _ _ _ h=>h) (Or.inr ⟨by rfl,rfl⟩) ?_ ?_
     rotate_left;·simp only [Act.put,q1_,q2_,q3_,i64_w,i32_w];rfl
     refine pure_ (i:=47) (N:=some 64) (v:=undef) (a':=?_) (bs_ 52 281474976710655) rfl rfl (by kernel_rfl) (fun _ _ _ h=>h) (Or.inr ⟨by rfl,rfl⟩) ?_ ?_
     rotate_left;·simp only [Act.put,q1_,q2_,q3_,i64_w,i32_w];rfl
     refine pure_ (i:=48) (N:=some 65) (v:=undef) (a':=?_) (bs_ 52 562949953421311) rfl rfl (by kernel_rfl) (fun _ _ _ h=>h) (Or.inr ⟨by rfl,rfl⟩) ?_ ?_
     rotate_left;·simp only [Act.put,q1_,q2_,q3_,i64_w,i32_w];rfl
     refine pure_ (i:=49) (N:=some 66) (v:=undef) (a':=?_) (bs_ 52 1125899906842623) rfl rfl (by kernel_rfl) (fun _ _ _ h=>h) (Or.inr ⟨by rfl,rfl⟩) ?_ ?_
     rotate_left;·simp only [Act.put,q1_,q2_,q3_,i64_w,i32_w];rfl
     refine pure_ (i:=50) (N:=some 67) (v:=undef) (a':=?_) (bs_ 52 2251799813685247) rfl rfl (by kernel_rfl) (fun _ _ _ h=>h) (Or.inr ⟨by rfl,rfl⟩) ?_ ?_
     rotate_left;·simp only [Act.put,q1_,q2_,q3_,i64_w,i32_w];rfl
     refine pure_ (i:=51) (N:=some 68) (v:=?_) (a':=?_) (bs_ 52 4503599627370495) rfl rfl (by kernel_rfl) (fun _ _ _ h=>h) (Or.inl ⟨by rfl,?_⟩) ?_ ?_
     rotate_left;·intro w';go_simp;with_reducible rfl
     rotate_left;·simp only [Act.put,q1_,q2_,q3_,i64_w,i32_w];rfl
     refine done_ (by kernel_rfl) ?_
     go_wp2_with fail
     go_ret
     exact ⟨by rw [HST.out];rfl,below_step HB.out Hwa.out⟩
    rw [h3,Bool.true_and] at hst;have HQ3:=Aside0.mk h3;clear h3;go_upto_region 6 with fail
    refine start_ (n:=52) (S:=fun w'=>w'.cell? (aad.add (i.toNat * 5))=some (.int .i64 (rd_T86 xs i).f0)∧w'.cell? ⟨(aad.add (i.toNat * 5)).block,(aad.add (i.toNat * 5)).off+2,none⟩=some (.string (rd_T86 xs i).f2)∧w'.cell? ⟨(aad.add (i.toNat * 5)).block,(aad.add (i.toNat * 5)).off+3,none⟩=some (.slice aA3 (rd_T86 xs i).f3.length ac3)∧w'.cell? ⟨(aad.add (i.toNat * 5)).block,(aad.add (i.toNat * 5)).off+4,none⟩=some (.slice aA4 (rd_T86 xs i).f4.length ac4)∧w'.cell? (bad.add (i.toNat * 5))=some (.int .i64 (rd_T86 ys i).f0)∧w'.cell? ⟨(bad.add (i.toNat * 5)).block,(bad.add (i.toNat * 5)).off+2,none⟩=some (.string (rd_T86 ys i).f2)∧w'.cell? ⟨(bad.add (i.toNat * 5)).block,(bad.add (i.toNat * 5)).off+3,none⟩=some (.slice bA3 (rd_T86 ys i).f3.length bc3)∧w'.cell? ⟨(bad.add (i.toNat * 5)).block,(bad.add (i.toNat * 5)).off+4,none⟩=some (.slice bA4 (rd_T86 ys i).f4.length bc4)) (ds:=[]) #[false,false,false,false,false,false,false,false,false,false,false,false,false,false,false,false,false,false,false,false,false,false,false,false,false,false,false,false,false,false,false,false,false,false,false,false,false,false,false,false,false,false,false,false,false,false,false,false,false,false,false,false] (by kernel_rfl) rfl rfl ⟨(HF.out _ (below_drew1 (Below.refl wr.heap.size wr))).1,(HF.out _ (below_drew1 (Below.refl wr.heap.size wr))).2.1,(HF.out _ (below_drew1 (Below.refl wr.heap.size wr))).2.2.1,(HF.out _ (below_drew1 (Below.refl wr.heap.size wr))).2.2.2.1,(HF.out _ (below_drew1 (Below.refl wr.heap.size wr))).2.2.2.2.1,(HF.out _ (below_drew1 (Below.refl wr.heap.size wr))).2.2.2.2.2.1,(HF.out _ (below_drew1 (Below.refl wr.heap.size wr))).2.2.2.2.2.2.1,(HF.out _ (below_drew1 (Below.refl wr.heap.size wr))).2.2.2.2.2.2.2⟩ (fun hHeld=>?_);refine pure_ (i:=0) (N:=some 17) (v:=?_) (a':=?_) (bs_ 52 1) rfl rfl (by kernel_rfl) (fun _ _ _ h=>h) (Or.inl ⟨by rfl,?_⟩) ?_ ?_
    rotate_left;·intro w';go_simp;with_reducible rfl
    rotate_left;·simp only [Act.put,q1_,q2_,q3_,i64_w,i32_w];rfl
    refine pure_ (i:=1) (N:=some 18) (v:=?_) (a':=?_) (bs_ 52 3) rfl rfl (by kernel_rfl) (fun _ _ _ h=>h) (Or.inl ⟨by rfl,?_⟩) ?_ ?_
    rotate_left;·intro w';go_simp;with_reducible rfl
    rotate_left;·simp only [Act.put,q1_,q2_,q3_,i64_w,i32_w];rfl
    refine pure_ (i:=2) (N:=some 19) (v:=?_) (a':=?_) (bs_ 52 7) rfl rfl (by kernel_rfl) (fun _ _ _ h=>h) (Or.inl ⟨by rfl,?_⟩) ?_ ?_
    rotate_left;·intro w';go_simp;with_reducible rfl
    rotate_left;·simp only [Act.put,q1_,q2_,q3_,i64_w,i32_w];rfl
    refine pure_ (i:=3) (N:=some 20) (v:=?_) (a':=?_) (bs_ 52 15) rfl rfl (by kernel_rfl) (fun _ _ _ h=>h) (Or.inl ⟨by rfl,?_⟩) ?_ ?_
    rotate_left;·intro w';go_simp;with_reducible rfl
    rotate_left;·simp only [Act.put,q1_,q2_,q3_,i64_w,i32_w];rfl
    refine pure_ (i:=5) (N:=some 22) (v:=?_) (a':=?_) (bs_ 52 47) rfl rfl (by kernel_rfl) (fun _ _ _ h=>h) (Or.inl ⟨by rfl,?_⟩) ?_ ?_
    rotate_left;·intro w';go_simp;with_reducible rfl
    rotate_left;·simp only [Act.put,q1_,q2_,q3_,i64_w,i32_w];rfl
    refine pure_ (i:=6) (N:=some 23) (v:=?_) (a':=?_) (bs_ 52 111) rfl rfl (by kernel_rfl) (fun _ _ _ h=>h) (Or.inl ⟨by rfl,?_⟩) ?_ ?_
    rotate_left;·intro w';go_simp;with_reducible rfl
    rotate_left;·simp only [Act.put,q1_,q2_,q3_,i64_w,i32_w];rfl
    refine pure_ (i:=7) (N:=some 24) (v:=?_) (a':=?_) (bs_ 52 239) rfl rfl (by kernel_rfl) (fun _ _ _ h=>h) (Or.inl ⟨by rfl,?_⟩) ?_ ?_
    rotate_left;·intro w';go_simp;with_reducible rfl
    rotate_left;·simp only [Act.put,q1_,q2_,q3_,i64_w,i32_w];rfl
    refine pure_ (i:=8) (N:=some 25) (v:=?_) (a':=?_) (bs_ 52 495) rfl rfl (by kernel_rfl) (fun _ _ _ h=>h) (Or.inl ⟨by rfl,?_⟩) ?_ ?_
    rotate_left;·intro w';go_simp;with_reducible rfl
    rotate_left;·simp only [Act.put,q1_,q2_,q3_,i64_w,i32_w];rfl
    refine take_ (i:=4) (N:=some 21) (v:=?_) (a':=?_) (bs_ 52 511) rfl rfl (by kernel_rfl) (fun _ _ _ h=>h) (Or.inl ⟨by rfl,?_⟩) hHeld ?_ ?_
    rotate_left
    ·rintro w' ⟨s0,s1,s2,s3,s4,s5,s6,s7⟩
     go_simp;with_reducible rfl
    rotate_left;·simp only [Act.put,q1_,q2_,q3_,i64_w,i32_w];rfl
    refine take_ (i:=9) (N:=some 26) (v:=?_) (a':=?_) (bs_ 52 1023) rfl rfl (by kernel_rfl) (fun _ _ _ h=>h) (Or.inl ⟨by rfl,?_⟩) hHeld ?_ ?_
    rotate_left
    ·rintro w' ⟨s0,s1,s2,s3,s4,s5,s6,s7⟩
     go_simp;with_reducible rfl
    rotate_left;·simp only [Act.put,q1_,q2_,q3_,i64_w,i32_w];rfl
    refine pure_ (i:=10) (N:=some 27) (v:=?_) (a':=?_) (bs_ 52 2047) rfl rfl (by kernel_rfl) (fun _ _ _ h=>h) (Or.inl ⟨by rfl,?_⟩) ?_ ?_
    rotate_left;·intro w';go_simp;with_reducible rfl
    rotate_left;·simp only [Act.put,q1_,q2_,q3_,i64_w,i32_w];rfl
    refine pure_ (i:=11) (N:=some 28) (v:=?_) (a':=?_) (bs_ 52 4095) rfl rfl (by kernel_rfl) (fun _ _ _ h=>h) (Or.inl ⟨by rfl,?_⟩) ?_ ?_
    rotate_left;·intro w';go_simp;with_reducible rfl
    rotate_left;·simp only [Act.put,q1_,q2_,q3_,i64_w,i32_w];rfl
    refine pure_ (i:=12) (N:=some 29) (v:=?_) (a':=?_) (bs_ 52 8191) rfl rfl (by kernel_rfl) (fun _ _ _ h=>h) (Or.inl ⟨by rfl,?_⟩) ?_ ?_
    rotate_left;·intro w';go_simp;with_reducible rfl
    rotate_left;·simp only [Act.put,q1_,q2_,q3_,i64_w,i32_w];rfl
    refine pure_ (i:=13) (N:=some 30) (v:=?_) (a':=?_) (bs_ 52 16383) rfl rfl (by kernel_rfl) (fun _ _ _ h=>h) (Or.inl ⟨by rfl,?_⟩) ?_ ?_
    rotate_left;·intro w';go_simp;with_reducible rfl
    rotate_left;·simp only [Act.put,q1_,q2_,q3_,i64_w,i32_w];rfl
    refine pure_ (i:=14) (N:=some 31) (v:=?_) (a':=?_) (bs_ 52 32767) rfl rfl (by kernel_rfl) (fun _ _ _ h=>h) (Or.inl ⟨by rfl,?_⟩) ?_ ?_
    rotate_left;·intro w';go_simp;with_reducible rfl
    rotate_left;·simp only [Act.put,q1_,q2_,q3_,i64_w,i32_w];rfl
    refine pure_ (i:=15) (N:=some 32) (v:=?_) (a':=?_) (bs_ 52 65535) rfl rfl (by kernel_rfl) (fun _ _ _ h=>h) (Or.inl ⟨by rfl,?_⟩) ?_ ?_
    rotate_left;·intro w';go_simp;with_reducible rfl
    rotate_left;·simp only [Act.put,q1_,q2_,q3_,i64_w,i32_w];rfl
    refine pure_ (i:=17) (N:=some 34) (v:=?_) (a':=?_) (bs_ 52 196607) rfl rfl (by kernel_rfl) (fun _ _ _ h=>h) (Or.inl ⟨by rfl,?_⟩) ?_ ?_
    rotate_left;·intro w';go_simp;with_reducible rfl
    rotate_left;·simp only [Act.put,q1_,q2_,q3_,i64_w,i32_w];rfl
    refine pure_ (i:=18) (N:=some 35) (v:=?_) (a':=?_) (bs_ 52 458751) rfl rfl (by kernel_rfl) (fun _ _ _ h=>h) (Or.inl ⟨by rfl,?_⟩) ?_ ?_
    rotate_left;·intro w';go_simp;with_reducible rfl
    rotate_left;·simp only [Act.put,q1_,q2_,q3_,i64_w,i32_w];rfl
    refine pure_ (i:=19) (N:=some 36) (v:=?_) (a':=?_) (bs_ 52 983039) rfl rfl (by kernel_rfl) (fun _ _ _ h=>h) (Or.inl ⟨by rfl,?_⟩) ?_ ?_
    rotate_left;·intro w';go_simp;with_reducible rfl
    rotate_left;·simp only [Act.put,q1_,q2_,q3_,i64_w,i32_w];rfl
    refine pure_ (i:=20) (N:=some 37) (v:=?_) (a':=?_) (bs_ 52 2031615) rfl rfl (by kernel_rfl) (fun _ _ _ h=>h) (Or.inl ⟨by rfl,?_⟩) ?_ ?_
    rotate_left;·intro w';go_simp;with_reducible rfl
    rotate_left;·simp only [Act.put,q1_,q2_,q3_,i64_w,i32_w];rfl
    refine take_ (i:=16) (N:=some 33) (v:=?_) (a':=?_) (bs_ 52 2097151) rfl rfl (by kernel_rfl) (fun _ _ _ h=>h) (Or.inl ⟨by rfl,?_⟩) hHeld ?_ ?_
    rotate_left
    ·rintro w' ⟨s0,s1,s2,s3,s4,s5,s6,s7⟩
     go_simp;with_reducible rfl
    rotate_left;·simp only [Act.put,q1_,q2_,q3_,i64_w,i32_w];rfl
    refine take_ (i:=21) (N:=some 38) (v:=?_) (a':=?_) (bs_ 52 4194303) rfl rfl (by kernel_rfl) (fun _ _ _ h=>h) (Or.inl ⟨by rfl,?_⟩) hHeld ?_ ?_
    rotate_left
    ·rintro w' ⟨s0,s1,s2,s3,s4,s5,s6,s7⟩
     go_simp;with_reducible rfl
    rotate_left;·simp only [Act.put,q1_,q2_,q3_,i64_w,i32_w];rfl
    refine pure_ (i:=22) (N:=some 39) (v:=?_) (a':=?_) (bs_ 52 8388607) rfl rfl (by kernel_rfl) (fun _ _ _ h=>h) (Or.inl ⟨by rfl,?_⟩) ?_ ?_
    rotate_left;·intro w';go_simp;with_reducible rfl
    rotate_left;·simp only [Act.put,q1_,q2_,q3_,i64_w,i32_w];rfl
    refine pure_ (i:=23) (N:=some 40) (v:=?_) (a':=?_) (bs_ 52 16777215) rfl rfl (by kernel_rfl) (fun _ _ _ h=>h) (Or.inl ⟨by rfl,?_⟩) ?_ ?_
    rotate_left;·intro w';go_simp;with_reducible rfl
    rotate_left;·simp only [Act.put,q1_,q2_,q3_,i64_w,i32_w];rfl
    refine pure_ (i:=24) (N:=some 41) (v:=?_) (a':=?_) (bs_ 52 33554431) rfl rfl (by kernel_rfl) (fun _ _ _ h=>h) (Or.inl ⟨by rfl,?_⟩) ?_ ?_
    rotate_left;·intro w';go_simp;with_reducible rfl
    rotate_left;·simp only [Act.put,q1_,q2_,q3_,i64_w,i32_w];rfl
    refine pure_ (i:=25) (N:=some 42) (v:=?_) (a':=?_) (bs_ 52 67108863) rfl rfl (by kernel_rfl) (fun _ _ _ h=>h) (Or.inl ⟨by rfl,?_⟩) ?_ ?_
    rotate_left;·intro w';go_simp;with_reducible rfl
    rotate_left;·simp only [Act.put,q1_,q2_,q3_,i64_w,i32_w];rfl
    refine pure_ (i:=26) (N:=some 43) (v:=?_) (a':=?_) (bs_ 52 134217727) rfl rfl (by kernel_rfl) (fun _ _ _ h=>h) (Or.inl ⟨by rfl,?_⟩) ?_ ?_
    rotate_left;·intro w';go_simp;with_reducible rfl
    rotate_left;·simp only [Act.put,q1_,q2_,q3_,i64_w,i32_w];rfl
    refine pure_ (i:=27) (N:=some 44) (v:=?_) (a':=?_) (bs_ 52 268435455) rfl rfl (by kernel_rfl) (fun _ _ _ h=>h) (Or.inl ⟨by rfl,?_⟩) ?_ ?_
    rotate_left;·intro w';go_simp;with_reducible rfl
    rotate_left;·simp only [Act.put,q1_,q2_,q3_,i64_w,i32_w];rfl
    refine pure_ (i:=28) (N:=some 45) (v:=?_) (a':=?_) (bs_ 52 536870911) rfl rfl (by kernel_rfl) (fun _ _ _ h=>h) (Or.inl ⟨by rfl,?_⟩) ?_ ?_
    rotate_left;·intro w';go_simp;with_reducible rfl
    rotate_left;·simp only [Act.put,q1_,q2_,q3_,i64_w,i32_w];rfl
    refine pure_ (i:=30) (N:=some 47) (v:=?_) (a':=?_) (bs_ 52 1610612735) rfl rfl (by kernel_rfl) (fun _ _ _ h=>h) (Or.inl ⟨by rfl,?_⟩) ?_ ?_
    rotate_left;·intro w';go_simp;with_reducible rfl
    rotate_left;·simp only [Act.put,q1_,q2_,q3_,i64_w,i32_w];rfl
    refine pure_ (i:=31) (N:=some 48) (v:=?_) (a':=?_) (bs_ 52 3758096383) rfl rfl (by kernel_rfl) (fun _ _ _ h=>h) (Or.inl ⟨by rfl,?_⟩) ?_ ?_
    rotate_left;·intro w';go_simp;with_reducible rfl
    rotate_left;·simp only [Act.put,q1_,q2_,q3_,i64_w,i32_w];rfl
    refine pure_ (i:=32) (N:=some 49) (v:=?_) (a':=?_) (bs_ 52 8053063679) rfl rfl (by kernel_rfl) (fun _ _ _ h=>h) (Or.inl ⟨by rfl,?_⟩) ?_ ?_
    rotate_left;·intro w';go_simp;with_reducible rfl
    rotate_left;·simp only [Act.put,q1_,q2_,q3_,i64_w,i32_w];rfl
    refine pure_ (i:=33) (N:=some 50) (v:=?_) (a':=?_) (bs_ 52 16642998271) rfl rfl (by kernel_rfl) (fun _ _ _ h=>h) (Or.inl ⟨by rfl,?_⟩) ?_ ?_
    rotate_left;·intro w';go_simp;with_reducible rfl
    rotate_left;·simp only [Act.put,q1_,q2_,q3_,i64_w,i32_w];rfl
    refine take_ (i:=29) (N:=some 46) (v:=?_) (a':=?_) (bs_ 52 17179869183) rfl rfl (by kernel_rfl) (fun _ _ _ h=>h) (Or.inl ⟨by rfl,?_⟩) hHeld ?_ ?_
    rotate_left
    ·rintro w' ⟨s0,s1,s2,s3,s4,s5,s6,s7⟩
     go_simp;with_reducible rfl
    rotate_left;·simp only [Act.put,q1_,q2_,q3_,i64_w,i32_w];rfl
    refine take_ (i:=34) (N:=some 51) (v:=?_) (a':=?_) (bs_ 52 34359738367) rfl rfl (by kernel_rfl) (fun _ _ _ h=>h) (Or.inl ⟨by rfl,?_⟩) hHeld ?_ ?_
    rotate_left
    ·rintro w' ⟨s0,s1,s2,s3,s4,s5,s6,s7⟩
     go_simp;with_reducible rfl
    rotate_left;·simp only [Act.put,q1_,q2_,q3_,i64_w,i32_w];rfl
    refine one_ (i:=35) (N:=some 52) (bs_ 52 68719476735) rfl rfl (by kernel_rfl) (by decide) (fun K hK=>?_);refine goes_ Tryd.func42 (by kernel_rfl) rfl #[.slice aA3 (rd_T86 xs i).f3.length ac3,.slice bA3 (rd_T86 ys i).f3.length bc3] (by rfl) rfl rfl (by simp only [List.map_toArray,List.map_cons,List.map_nil];rfl) ?_
    with_reducible refine (IH.out (rd_T86 xs i).f3 (rd_T86 ys i).f3 _ aA3 bA3 ac3 bc3 (by have:=HSZ.out;omega) (Kd.C_below ag3.out (below_drew1 (Below.refl wr.heap.size wr))) al3.out (Kd.C_below bg3.out (below_drew1 (Below.refl wr.heap.size wr))) bl3.out).mono ?_
    rintro E wa ⟨rfl,hb_⟩
    refine ⟨_,rfl,?_⟩;have Hwa:Aside0 (Below wr.heap.size wr wa):=Aside0.mk (below_step (below_drew1 (Below.refl wr.heap.size wr)) hb_);clear hb_;rw [HQ3.out];refine hK.out _ _ ⟨(HF.out _ Hwa.out).1,(HF.out _ Hwa.out).2.1,(HF.out _ Hwa.out).2.2.1,(HF.out _ Hwa.out).2.2.2.1,(HF.out _ Hwa.out).2.2.2.2.1,(HF.out _ Hwa.out).2.2.2.2.2.1,(HF.out _ Hwa.out).2.2.2.2.2.2.1,(HF.out _ Hwa.out).2.2.2.2.2.2.2⟩ (fun hHeld=>?_);clear hK K;refine norm_ (a':=?_) ?_ ?_
    rotate_left
    ·show Act.put _ (some 52) _=_
     simp only [Act.put,q1_,q2_,q3_,i64_w,i32_w];rfl
    refine pure_ (i:=36) (N:=some 53) (v:=?_) (a':=?_) (bs_ 52 137438953471) rfl rfl (by kernel_rfl) (fun _ _ _ h=>h) (Or.inl ⟨by rfl,?_⟩) ?_ ?_
    rotate_left;·intro w';go_simp;with_reducible rfl
    rotate_left;·simp only [Act.put,q1_,q2_,q3_,i64_w,i32_w];rfl
    refine pure_ (i:=37) (N:=some 54) (v:=?_) (a':=?_) (bs_ 52 274877906943) rfl rfl (by kernel_rfl) (fun _ _ _ h=>h) (Or.inl ⟨by rfl,?_⟩) ?_ ?_
    rotate_left;·intro w';go_simp;with_reducible rfl
    rotate_left;·simp only [Act.put,q1_,q2_,q3_,i64_w,i32_w];rfl
    refine pure_ (i:=38) (N:=some 55) (v:=?_) (a':=?_) (bs_ 52 549755813887) rfl rfl (by kernel_rfl) (fun _ _ _ h=>h) (Or.inl ⟨by rfl,?_⟩) ?_ ?_
    rotate_left;·intro w';go_simp;with_reducible rfl
    rotate_left;·simp only [Act.put,q1_,q2_,q3_,i64_w,i32_w];rfl
    refine pure_ (i:=39) (N:=some 56) (v:=?_) (a':=?_) (bs_ 52 1099511627775) rfl rfl (by kernel_rfl) (fun _ _ _ h=>h) (Or.inl ⟨by rfl,?_⟩) ?_ ?_
    rotate_left;·intro w';go_simp;with_reducible rfl
    rotate_left;·simp only [Act.put,q1_,q2_,q3_,i64_w,i32_w];rfl
    refine pure_ (i:=40) (N:=some 57) (v:=?_) (a':=?_) (bs_ 52 2199023255551) rfl rfl (by kernel_rfl) (fun _ _ _ h=>h) (Or.inl ⟨by rfl,?_⟩) ?_ ?_
    rotate_left;·intro w';go_simp;with_reducible rfl
    rotate_left;·simp only [Act.put,q1_,q2_,q3_,i64_w,i32_w];rfl
    refine pure_ (i:=41) (N:=some 58) (v:=?_) (a':=?_) (bs_ 52 4398046511103) rfl rfl (by kernel_rfl) (fun _ _ _ h=>h) (Or.inl ⟨by rfl,?_⟩) ?_ ?_
    rotate_left;·intro w';go_simp;with_reducible rfl
    rotate_left;·simp only [Act.put,q1_,q2_,q3_,i64_w,i32_w];rfl
    refine pure_ (i:=42) (N:=some 59) (v:=?_) (a':=?_) (bs_ 52 8796093022207) rfl rfl (by kernel_rfl) (fun _ _ _ h=>h) (Or.inl ⟨by rfl,?_⟩) ?_ ?_
    rotate_left;·intro w';go_simp;with_reducible rfl
    rotate_left;·simp only [Act.put,q1_,q2_,q3_,i64_w,i32_w];rfl
    refine pure_ (i:=44) (N:=some 61) (v:=?_) (a':=?_) (bs_ 52 26388279066623) rfl rfl (by kernel_rfl) (fun _ _ _ h=>h) (Or.inl ⟨by rfl,?_⟩) ?_ ?_
    rotate_left;·intro w';go_simp;with_reducible rfl
    rotate_left;·simp only [Act.put,q1_,q2_,q3_,i64_w,i32_w];rfl
    refine pure_ (i:=45) (N:=some 62) (v:=?_) (a':=?_) (bs_ 52 61572651155455) rfl rfl (by kernel_rfl) (fun _ _ _ h=>h) (Or.inl ⟨by rfl,?_⟩) ?_ ?_
    rotate_left;·intro w';go_simp;with_reducible rfl
    rotate_left;·simp only [Act.put,q1_,q2_,q3_,i64_w,i32_w];rfl
    refine pure_ (i:=46) (N:=some 63) (v:=?_) (a':=?_) (bs_ 52 131941395333119) rfl rfl (by kernel_rfl) (fun _ _ _ h=>h) (Or.inl ⟨by rfl,?_⟩) ?_ ?_
    rotate_left;·intro w';go_simp;with_reducible rfl
    rotate_left;·simp only [Act.put,q1_,q2_,q3_,i64_w,i32_w];rfl
    refine pure_ (i:=47) (N:=some 64) (v:=?_) (a':=?_) (bs_ 52 272678883688447) rfl rfl (by kernel_rfl) (fun _ _ _ h=>h) (Or.inl ⟨by rfl,?_⟩) ?_ ?_
    rotate_left;·intro w';go_simp;with_reducible rfl
    rotate_left;·simp only [Act.put,q1_,q2_,q3_,i64_w,i32_w];rfl
    refine take_ (i:=43) (N:=some 60) (v:=?_) (a':=?_) (bs_ 52 281474976710655) rfl rfl (by kernel_rfl) (fun _ _ _ h=>h) (Or.inl ⟨by rfl,?_⟩) hHeld ?_ ?_
    rotate_left
    ·rintro w' ⟨s0,s1,s2,s3,s4,s5,s6,s7⟩
     go_simp;with_reducible rfl
    rotate_left;·simp only [Act.put,q1_,q2_,q3_,i64_w,i32_w];rfl
    refine take_ (i:=48) (N:=some 65) (v:=?_) (a':=?_) (bs_ 52 562949953421311) rfl rfl (by kernel_rfl) (fun _ _ _ h=>h) (Or.inl ⟨by rfl,?_⟩) hHeld ?_ ?_
    rotate_left
    ·rintro w' ⟨s0,s1,s2,s3,s4,s5,s6,s7⟩
     go_simp;with_reducible rfl
    rotate_left;·simp only [Act.put,q1_,q2_,q3_,i64_w,i32_w];rfl
    refine one_ (i:=49) (N:=some 66) (bs_ 52 1125899906842623) rfl rfl (by kernel_rfl) (by decide) (fun K hK=>?_);refine goes_ Tryd.func42 (by kernel_rfl) rfl #[.slice aA4 (rd_T86 xs i).f4.length ac4,.slice bA4 (rd_T86 ys i).f4.length bc4] (by rfl) rfl rfl (by simp only [List.map_toArray,List.map_cons,List.map_nil];rfl) ?_
    with_reducible refine (IH.out (rd_T86 xs i).f4 (rd_T86 ys i).f4 _ aA4 bA4 ac4 bc4 (by have:=HSZ.out;omega) (Kd.C_below ag4.out Hwa.out) al4.out (Kd.C_below bg4.out Hwa.out) bl4.out).mono ?_
    rintro E wb ⟨rfl,hb_⟩
    refine ⟨_,rfl,?_⟩;have Hwb:Aside0 (Below wr.heap.size wr wb):=Aside0.mk (below_step Hwa.out hb_);clear hb_;refine hK.out _ _ ⟨(HF.out _ Hwb.out).1,(HF.out _ Hwb.out).2.1,(HF.out _ Hwb.out).2.2.1,(HF.out _ Hwb.out).2.2.2.1,(HF.out _ Hwb.out).2.2.2.2.1,(HF.out _ Hwb.out).2.2.2.2.2.1,(HF.out _ Hwb.out).2.2.2.2.2.2.1,(HF.out _ Hwb.out).2.2.2.2.2.2.2⟩ (fun hHeld=>?_);clear hK K;refine norm_ (a':=?_) ?_ ?_
    rotate_left
    ·show Act.put _ (some 66) _=_
     simp only [Act.put,q1_,q2_,q3_,i64_w,i32_w];rfl
    refine pure_ (i:=50) (N:=some 67) (v:=?_) (a':=?_) (bs_ 52 2251799813685247) rfl rfl (by kernel_rfl) (fun _ _ _ h=>h) (Or.inl ⟨by rfl,?_⟩) ?_ ?_
    rotate_left;·intro w';go_simp;with_reducible rfl
    rotate_left;·simp only [Act.put,q1_,q2_,q3_,i64_w,i32_w];rfl
    refine pure_ (i:=51) (N:=some 68) (v:=?_) (a':=?_) (bs_ 52 4503599627370495) rfl rfl (by kernel_rfl) (fun _ _ _ h=>h) (Or.inl ⟨by rfl,?_⟩) ?_ ?_
    rotate_left;·intro w';go_simp;with_reducible rfl
    rotate_left;·simp only [Act.put,q1_,q2_,q3_,i64_w,i32_w];rfl
    refine done_ (by kernel_rfl) ?_
    have hst':=hst;cases h4:sameL (rd_T86 xs i).f4 (rd_T86 ys i).f4 with
    |false=>
     rw [h4,Bool.false_and] at hst';have HST:=Aside0.mk hst';clear hst hst' h4;go_wp2_with fail
     go_ret
     exact ⟨by rw [HST.out];rfl,below_step HB.out Hwb.out⟩
    |true=>
     rw [h4,Bool.true_and] at hst';have HST:=Aside0.mk hst';clear hst hst' h4;go_wp2_with fail
     go_roundg k1
     case rel=>exact ⟨i+1,by rw [show wrap64 (i+1)=i+1 from w64 (by have:=HP.out;have:=HX.out.2.1;omega)],⟨by have:=HP.out;omega,by have:=HP.out;have:=HI.out;omega,by have:=HP.out;have:=HI.out;omega⟩,⟨by rw [show (i+1).toNat=i.toNat+1 by have:=HP.out;omega];exact HST.out.symm⟩,Aside0.mk (below_step HB.out Hwb.out)⟩
     case measure=>omega
theorem stmts6_calls: ∀ (n:Nat) (xs ys:List St6) (w:World) (A B:Option Addr) (c d:Nat),szL xs<n→Kd.C k86 w A xs.length xs→xs.length≤c→Kd.C k86 w B ys.length ys→ys.length≤d→
  Calls Tryd.prog 42 #[.slice A xs.length c,.slice B ys.length d] w fun e w'=>e= .returned (.bool (sameL xs ys))∧Below w.heap.size w w'
 |0,_,_,_,_,_,_,_,h,_,_,_,_=>absurd h (by omega)
 |n+1,xs,ys,w,A,B,c,d,h,hx,hc,hy,hd=>stmts6_step (stmts6_calls n) xs ys w A B c d h hx hc hy hd
def deadboltref6_Stmts.f (l0 l1:List St6):Option Bool:=some (sameL l0 l1)
theorem deadboltref6_Stmts.calls (A0:Option Addr) (c0:Nat) (l0:List St6) (A1:Option Addr) (c1:Nat) (l1:List St6) (r:Bool) (w:World) (hr0:Kd.C k86 w A0 l0.length l0) (hc0:l0.length≤c0) (hr1:Kd.C k86 w A1 l1.length l1) (hc1:l1.length≤c1) (h:deadboltref6_Stmts.f l0 l1=some r):
  Calls Tryd.prog 42 #[.slice A0 l0.length c0,.slice A1 l1.length c1] w fun e w'=>e= .returned (.bool r)∧Below w.heap.size w w':=by
 obtain rfl:=Option.some.inj h;exact stmts6_calls _ l0 l1 w A0 A1 c0 c1 (Nat.lt_succ_self _) hr0 hc0 hr1 hc1
theorem decls_ev (xs ys:List De6) (hl:xs.length≤9223372036854775806):EvS (fun k=>deadboltref6_decls.f k xs ys) (eqAll sameD xs ys):=by
 have H: ∀ (d i:Nat),xs.length=ys.length→xs.length - i=d→i≤xs.length→EvS (fun k=>deadboltref6_decls.l0 k xs ys (i:Int)) (eqAll sameD (xs.drop i) (ys.drop i)):=by
  intro d;induction d with
  |zero=>
   intro i he hd hi;rw [eqAll_end (by omega) (by omega)];refine EvS.succ ?_
   simp only [deadboltref6_decls.l0];exact EvS.if_neg (by omega) (.some_ _)
  |succ d ih=>
   intro i he hd hi;rw [eqAll_drop z59 (by omega) (by omega)];refine EvS.succ ?_
   simp only [deadboltref6_decls.l0];refine EvS.if_pos (by omega) (EvS.if_pos (by omega) (EvS.if_pos (by omega) ?_));have hx:rd_T59 xs (i:Int)=xs.getD i z59:=rfl;have hy:rd_T59 ys (i:Int)=ys.getD i z59:=rfl;rw [hx,hy];by_cases h:(xs.getD i z59).f0.toList=(ys.getD i z59).f0.toList
   ·refine EvS.if_pos h ?_
    rw [show sameD (xs.getD i z59) (ys.getD i z59)=true from beq_iff_eq.mpr h,Bool.true_and,show wrap64 ((i:Int)+1)=((i+1:Nat):Int) by rw [w64 (by omega)];omega];exact ih (i+1) he (by omega) (by omega)
   ·refine EvS.if_neg h ?_
    rw [show sameD (xs.getD i z59) (ys.getD i z59)=false from beq_eq_false_iff_ne.mpr h,Bool.false_and];exact .some_ _
 unfold deadboltref6_decls.f
 by_cases h:xs.length=ys.length
 ·exact EvS.if_pos (by omega) (by simpa using H _ 0 h rfl (by omega))
 ·rw [eqAll_len h];exact EvS.if_neg (by omega) (.some_ _)
theorem decls_calls {A0 A1:Option Addr} {c0 c1:Nat} {l0 l1:List De6} {w:World} (hr0:Kd.C k59 w A0 l0.length l0) (hc0:l0.length≤c0) (hr1:Kd.C k59 w A1 l1.length l1) (hc1:l1.length≤c1) (hl:l0.length≤9223372036854775806):
  Calls Tryd.prog 41 #[.slice A0 l0.length c0,.slice A1 l1.length c1] w fun e w'=>e= .returned (.bool (eqAll sameD l0 l1))∧Below w.heap.size w w':=by
 obtain ⟨k,hk⟩:=(decls_ev l0 l1 hl).exists_;refine (deadboltref6_decls.calls k A0 c0 l0 A1 c1 l1 _ w hr0 hc0 hr1 hc1 hk).mono ?_
 rintro E w' ⟨rfl,nd,rfl⟩
 exact ⟨rfl,by (with_reducible apply pw_below_drewN);exact Below.refl _ _⟩
def deadboltref6_Same.f (l0_0 l0_1:List De6) (l0_2:List Fn6) (l1_0 l1_1:List De6) (l1_2:List Fn6):Option Bool:=if l0_0.length≤9223372036854775806∧l0_1.length≤9223372036854775806 then some (sameP l0_0 l0_1 l0_2 l1_0 l1_1 l1_2) else none
set_option maxRecDepth 100000 in
set_option maxHeartbeats 3200000 in
theorem deadboltref6_Same.calls (A0_0:Option Addr) (c0_0:Nat) (l0_0:List De6) (A0_1:Option Addr) (c0_1:Nat) (l0_1:List De6) (A0_2:Option Addr) (c0_2:Nat) (l0_2:List Fn6) (A1_0:Option Addr) (c1_0:Nat) (l1_0:List De6) (A1_1:Option Addr) (c1_1:Nat) (l1_1:List De6) (A1_2:Option Addr) (c1_2:Nat) (l1_2:List Fn6) (r:Bool) (w:World) (hr0_0:Kd.C k59 w A0_0 l0_0.length l0_0) (hc0_0:l0_0.length≤c0_0) (hr0_1:Kd.C k59 w A0_1 l0_1.length l0_1) (hc0_1:l0_1.length≤c0_1) (hr0_2:Kd.C k46 w A0_2 l0_2.length l0_2) (hc0_2:l0_2.length≤c0_2) (hr1_0:Kd.C k59 w A1_0 l1_0.length l1_0) (hc1_0:l1_0.length≤c1_0) (hr1_1:Kd.C k59 w A1_1 l1_1.length l1_1) (hc1_1:l1_1.length≤c1_1) (hr1_2:Kd.C k46 w A1_2 l1_2.length l1_2) (hc1_2:l1_2.length≤c1_2) (h:deadboltref6_Same.f l0_0 l0_1 l0_2 l1_0 l1_1 l1_2=some r):
  Calls Tryd.prog 19 #[.agg #[.slice A0_0 l0_0.length c0_0,.slice A0_1 l0_1.length c0_1,.slice A0_2 l0_2.length c0_2],.agg #[.slice A1_0 l1_0.length c1_0,.slice A1_1 l1_1.length c1_1,.slice A1_2 l1_2.length c1_2]] w fun e w'=>e= .returned (.bool r)∧Below w.heap.size w w':=by
 unfold deadboltref6_Same.f at h
 by_cases hlen:l0_0.length≤9223372036854775806∧l0_1.length≤9223372036854775806
 rotate_left;·rw [if_neg hlen] at h;cases h
 rw [if_pos hlen] at h;obtain rfl:=Option.some.inj h;have hu:=Tryd.underlying30;have hu2:=Tryd.underlying46;have HLEN:=Aside0.mk hlen;have H0:=Aside0.mk (And.intro hr0_0 (And.intro hc0_0 (And.intro hr1_0 hc1_0)));have H1:=Aside0.mk (And.intro hr0_1 (And.intro hc0_1 (And.intro hr1_1 hc1_1)));have HX:=Aside0.mk hr0_2;have HY:=Aside0.mk hr1_2;have HS:=Aside0.mk (show sameP l0_0 l0_1 l0_2 l1_0 l1_1 l1_2=(eqAll sameD l0_0 l1_0 && (eqAll sameD l0_1 l1_1 && eqAll sameF l0_2 l1_2)) from rfl);clear h hlen hr0_0 hc0_0 hr0_1 hc0_1 hr0_2 hc0_2 hr1_0 hc1_0 hr1_1 hc1_1 hr1_2 hc1_2;have HB1:=Aside0.mk (below_alloc (below_alloc (Below.refl w.heap.size w) (.cells #[.slice A0_0 l0_0.length c0_0,.slice A0_1 l0_1.length c0_1,.slice A0_2 l0_2.length c0_2] 30)) (.cells #[.slice A1_0 l1_0.length c1_0,.slice A1_1 l1_1.length c1_1,.slice A1_2 l1_2.length c1_2] 30));have hx1:=blk_alloc (blk_new w (.cells #[.slice A0_0 l0_0.length c0_0,.slice A0_1 l0_1.length c0_1,.slice A0_2 l0_2.length c0_2] 30)) (.cells #[.slice A1_0 l1_0.length c1_0,.slice A1_1 l1_1.length c1_1,.slice A1_2 l1_2.length c1_2] 30);have hy1:=blk_new (w.alloc (.cells #[.slice A0_0 l0_0.length c0_0,.slice A0_1 l0_1.length c0_1,.slice A0_2 l0_2.length c0_2] 30)) (.cells #[.slice A1_0 l1_0.length c1_0,.slice A1_1 l1_1.length c1_1,.slice A1_2 l1_2.length c1_2] 30);have hs1:(w.alloc (.cells #[.slice A0_0 l0_0.length c0_0,.slice A0_1 l0_1.length c0_1,.slice A0_2 l0_2.length c0_2] 30)).heap.size=w.heap.size+1:=by simp only [World.alloc,Array.size_push]
 rw [hs1] at hy1;clear hs1;go_enter Tryd.func19,Tryd.ntmps19
 go_upto_region 1 with fail
 generalize (w.alloc (.cells #[.slice A0_0 l0_0.length c0_0,.slice A0_1 l0_1.length c0_1,.slice A0_2 l0_2.length c0_2] 30)).alloc (.cells #[.slice A1_0 l1_0.length c1_0,.slice A1_1 l1_1.length c1_1,.slice A1_2 l1_2.length c1_2] 30)=W at HB1 hx1 hy1 ⊢;generalize w.heap.size+1=n2 at hy1 ⊢;generalize hn1:w.heap.size=n1 at hx1 ⊢;have HN1:=Aside0.mk hn1;have HX1:=Aside0.mk hx1;have HY1:=Aside0.mk hy1;clear hn1;have u0:=blk_cell hx1 0;have v0:=blk_cell hy1 0;clear hx1 hy1;go_wp2_with fail
 refine (decls_calls (Kd.C_below H0.out.1 HB1.out) H0.out.2.1 (Kd.C_below H0.out.2.2.1 HB1.out) H0.out.2.2.2 HLEN.out.1).mono ?_
 rintro E w2 ⟨rfl,hb2⟩
 have HB2:=Aside0.mk (below_step HB1.out hb2);have HX2:=Aside0.mk (blk_below HX1.out hb2);have HY2:=Aside0.mk (blk_below HY1.out hb2);clear hb2 u0 v0 HX1 HY1;have u1:=blk_cell HX2.out 1;have v1:=blk_cell HY2.out 1;have hs:=HS.out;cases hq:eqAll sameD l0_0 l1_0 with
 |false=>
  rw [hq,Bool.false_and] at hs;have HS2:=Aside0.mk hs;clear hs hq;go_wp2_with fail
  go_ret
  exact ⟨by rw [HS2.out];rfl,HB2.out⟩
 |true=>
 rw [hq,Bool.true_and] at hs;have HS2:=Aside0.mk hs;clear hs hq;go_wp2_with fail
 refine (decls_calls (Kd.C_below H1.out.1 HB2.out) H1.out.2.1 (Kd.C_below H1.out.2.2.1 HB2.out) H1.out.2.2.2 HLEN.out.2).mono ?_
 rintro E w3 ⟨rfl,hb3⟩
 have HB3:=Aside0.mk (below_step HB2.out hb3);have HX3:=Aside0.mk (blk_below HX2.out hb3);have HY3:=Aside0.mk (blk_below HY2.out hb3);clear hb3 u1 v1 HX2 HY2;have u2:=blk_cell HX3.out 2;have v2:=blk_cell HY3.out 2;have hs:=HS2.out;cases hq:eqAll sameD l0_1 l1_1 with
 |false=>
  rw [hq,Bool.false_and] at hs;have HS3:=Aside0.mk hs;clear hs hq;go_wp2_with fail
  go_ret
  exact ⟨by rw [HS3.out];rfl,HB3.out⟩
 |true=>
 rw [hq,Bool.true_and] at hs;have HS3:=Aside0.mk hs;clear hs hq;by_cases hl:l0_2.length=l1_2.length
 rotate_left
 ·have q:(((l0_2.length:Nat):Int) !=((l1_2.length:Nat):Int))=true:=bne_iff_ne.mpr (by omega);have HR:=Aside0.mk (HS3.out.trans (eqAll_len (eq:=sameF) hl));clear hl;go_wp2_with fail
  go_ret
  exact ⟨by rw [HR.out];rfl,HB3.out⟩
 have q:(((l0_2.length:Nat):Int) !=((l1_2.length:Nat):Int))=false:=bne_eq_false_iff_eq.mpr (by omega);have HL:=Aside0.mk hl;clear hl;go_wp2_with fail
 clear u2 v2;go_loopg [5] (l0_2.length+1) (fun kq v5 w'=>∃ i:Int,v5= .int .i64 i∧Aside0 (0≤i∧i.toNat+kq=l0_2.length+1∧0<kq)∧Aside0 (eqAll sameF (l0_2.drop i.toNat) (l1_2.drop i.toNat)=eqAll sameF l0_2 l1_2)∧Aside0 (Below w3.heap.size w3 w'))
 case atStart=>exact ⟨0,rfl,⟨by omega,by simp,by omega⟩,⟨by simp⟩,⟨Below.refl _ _⟩⟩
 case round=>
  obtain ⟨i,rfl,HI,HE,HB⟩:=hrel;have u2:=blk_cell (blk_below HX3.out HB.out) 2;have v2:=blk_cell (blk_below HY3.out HB.out) 2;cases gk with
  |zero=>exact absurd HI.out.2.2 (by omega)
  |succ k1=>
   by_cases hlt:i<((l0_2.length:Nat):Int)
   rotate_left
   ·have c1:decide (i<((l0_2.length:Nat):Int))=false:=decide_eq_false hlt;have HST:Aside0 (sameP l0_0 l0_1 l0_2 l1_0 l1_1 l1_2=true):=Aside0.mk (by rw [HS3.out,← HE.out];exact eqAll_end (by omega) (by have:=HL.out;omega));clear hlt;go_wp2_with fail
    go_ret
    exact ⟨by rw [HST.out];rfl,below_step HB3.out HB.out⟩
   ·have p0:0≤i:=HI.out.1;have p1:=hlt;have p2:i<((l1_2.length:Nat):Int):=by have:=HL.out;omega
    have HP:=Aside0.mk (And.intro p0 (And.intro p1 p2));have c1:decide (i<((l0_2.length:Nat):Int))=true:=decide_eq_true hlt;have HBW:=Aside0.mk (below_step HB3.out HB.out);obtain ⟨aad,aA2,ac2,ae_,ax0,ax1,ax2,al2_,ag2_⟩:=at_T46 HX.out i p0 p1;cases ae_
    have al2:=Aside0.mk al2_;have ag2:=Aside0.mk (Kd.C_below ag2_ HBW.out);clear al2_ ag2_;replace ax0:=(HBW.out.cell (World.block_lt_of_cell? w _ ax0)).trans ax0;replace ax1:=(HBW.out.cell (World.block_lt_of_cell? w _ ax1)).trans ax1;replace ax2:=(HBW.out.cell (World.block_lt_of_cell? w _ ax2)).trans ax2;obtain ⟨bad,bA2,bc2,be_,bx0,bx1,bx2,bl2_,bg2_⟩:=at_T46 HY.out i p0 p2;cases be_
    have bl2:=Aside0.mk bl2_;have bg2:=Aside0.mk (Kd.C_below bg2_ HBW.out);clear bl2_ bg2_;replace bx0:=(HBW.out.cell (World.block_lt_of_cell? w _ bx0)).trans bx0;replace bx1:=(HBW.out.cell (World.block_lt_of_cell? w _ bx1)).trans bx1;replace bx2:=(HBW.out.cell (World.block_lt_of_cell? w _ bx2)).trans bx2;have HF:Aside0 (∀ w',Below wr.heap.size wr w'→w'.cell? ⟨n1,2,none⟩=some (.slice (some aad) l0_2.length c0_2)∧w'.cell? ⟨n2,2,none⟩=some (.slice (some bad) l1_2.length c1_2)∧w'.cell? (aad.add (i.toNat * 3))=some (.string (rd_T46 l0_2 i).f0)∧w'.cell? ⟨(aad.add (i.toNat * 3)).block,(aad.add (i.toNat * 3)).off+2,none⟩=some (.slice aA2 (rd_T46 l0_2 i).f2.length ac2)∧w'.cell? (bad.add (i.toNat * 3))=some (.string (rd_T46 l1_2 i).f0)∧w'.cell? ⟨(bad.add (i.toNat * 3)).block,(bad.add (i.toNat * 3)).off+2,none⟩=some (.slice bA2 (rd_T46 l1_2 i).f2.length bc2)):=Aside0.mk (fun w' hw=>⟨(hw.cell (World.block_lt_of_cell? wr _ u2)).trans u2,(hw.cell (World.block_lt_of_cell? wr _ v2)).trans v2,(hw.cell (World.block_lt_of_cell? wr _ ax0)).trans ax0,(hw.cell (World.block_lt_of_cell? wr _ ax2)).trans ax2,(hw.cell (World.block_lt_of_cell? wr _ bx0)).trans bx0,(hw.cell (World.block_lt_of_cell? wr _ bx2)).trans bx2⟩);replace p0:=eq_true p0;replace p1:=eq_true p1;replace p2:=eq_true p2;clear hlt ax0 ax1 ax2 bx0 bx1 bx2;have hst:eqAll sameF l0_2 l1_2=(sameF (rd_T46 l0_2 i) (rd_T46 l1_2 i) && eqAll sameF (l0_2.drop (i.toNat+1)) (l1_2.drop (i.toNat+1))):=HE.out.symm.trans (eqAll_drop z46 (i:=i.toNat) (by have:=HP.out;omega) (by have:=HP.out;omega));have hsf:sameF (rd_T46 l0_2 i) (rd_T46 l1_2 i)=((rd_T46 l0_2 i).f0.toList==(rd_T46 l1_2 i).f0.toList && sameL (rd_T46 l0_2 i).f2 (rd_T46 l1_2 i).f2):=rfl;rw [hsf] at hst;by_cases h2:(rd_T46 l0_2 i).f0.toList=(rd_T46 l1_2 i).f0.toList
    rotate_left
    ·have q2:((rd_T46 l0_2 i).f0.toList==(rd_T46 l1_2 i).f0.toList)=false:=beq_eq_false_iff_ne.mpr h2;have q3:((rd_T46 l0_2 i).f0.toList !=(rd_T46 l1_2 i).f0.toList)=true:=bne_iff_ne.mpr h2;rw [q2,Bool.false_and,Bool.false_and] at hst;have HST:=Aside0.mk (HS3.out.trans hst);clear hst hsf h2;obtain ⟨k0,k1_,k2,k3,k4,k5⟩:=HF.out wr (Below.refl _ _);go_wp2
     repeat (go_quiet (fail);try go_wp2)
     go_ret
     exact ⟨by rw [HST.out];rfl,by repeat (first|(with_reducible first|exact HBW.out|apply pw_below_drewN|apply below_drew1)|exact HBW.out)⟩
    have q2:((rd_T46 l0_2 i).f0.toList==(rd_T46 l1_2 i).f0.toList)=true:=beq_iff_eq.mpr h2;have q3:((rd_T46 l0_2 i).f0.toList !=(rd_T46 l1_2 i).f0.toList)=false:=bne_eq_false_iff_eq.mpr h2;rw [q2,Bool.true_and] at hst;clear hsf h2;go_upto_region 6 with fail
    refine start_ (n:=29) (S:=fun w'=>w'.cell? ⟨n1,2,none⟩=some (.slice (some aad) l0_2.length c0_2)∧w'.cell? ⟨n2,2,none⟩=some (.slice (some bad) l1_2.length c1_2)∧w'.cell? (aad.add (i.toNat * 3))=some (.string (rd_T46 l0_2 i).f0)∧w'.cell? ⟨(aad.add (i.toNat * 3)).block,(aad.add (i.toNat * 3)).off+2,none⟩=some (.slice aA2 (rd_T46 l0_2 i).f2.length ac2)∧w'.cell? (bad.add (i.toNat * 3))=some (.string (rd_T46 l1_2 i).f0)∧w'.cell? ⟨(bad.add (i.toNat * 3)).block,(bad.add (i.toNat * 3)).off+2,none⟩=some (.slice bA2 (rd_T46 l1_2 i).f2.length bc2)) (ds:=[]) #[false,false,false,false,false,false,false,false,false,false,false,false,false,false,false,false,false,false,false,false,false,false,false,false,false,false,false,false,false] (by kernel_rfl) rfl rfl ⟨(HF.out _ (below_drew1 (Below.refl wr.heap.size wr))).1,(HF.out _ (below_drew1 (Below.refl wr.heap.size wr))).2.1,(HF.out _ (below_drew1 (Below.refl wr.heap.size wr))).2.2.1,(HF.out _ (below_drew1 (Below.refl wr.heap.size wr))).2.2.2.1,(HF.out _ (below_drew1 (Below.refl wr.heap.size wr))).2.2.2.2.1,(HF.out _ (below_drew1 (Below.refl wr.heap.size wr))).2.2.2.2.2⟩ (fun hHeld=>?_);refine pure_ (i:=0) (N:=some 36) (v:=?_) (a':=?_) (bs_ 29 1) rfl rfl (by kernel_rfl) (fun _ _ _ h=>h) (Or.inl ⟨by rfl,?_⟩) ?_ ?_
    rotate_left;·intro w';go_simp;with_reducible rfl
    rotate_left;·simp only [Act.put,q1_,q2_,q3_,i64_w,i32_w];rfl
    refine pure_ (i:=2) (N:=some 38) (v:=?_) (a':=?_) (bs_ 29 5) rfl rfl (by kernel_rfl) (fun _ _ _ h=>h) (Or.inl ⟨by rfl,?_⟩) ?_ ?_
    rotate_left;·intro w';go_simp;with_reducible rfl
    rotate_left;·simp only [Act.put,q1_,q2_,q3_,i64_w,i32_w];rfl
    refine pure_ (i:=6) (N:=some 42) (v:=?_) (a':=?_) (bs_ 29 69) rfl rfl (by kernel_rfl) (fun _ _ _ h=>h) (Or.inl ⟨by rfl,?_⟩) ?_ ?_
    rotate_left;·intro w';go_simp;with_reducible rfl
    rotate_left;·simp only [Act.put,q1_,q2_,q3_,i64_w,i32_w];rfl
    refine pure_ (i:=8) (N:=some 44) (v:=?_) (a':=?_) (bs_ 29 325) rfl rfl (by kernel_rfl) (fun _ _ _ h=>h) (Or.inl ⟨by rfl,?_⟩) ?_ ?_
    rotate_left;·intro w';go_simp;with_reducible rfl
    rotate_left;·simp only [Act.put,q1_,q2_,q3_,i64_w,i32_w];rfl
    refine take_ (i:=1) (N:=some 37) (v:=?_) (a':=?_) (bs_ 29 327) rfl rfl (by kernel_rfl) (fun _ _ _ h=>h) (Or.inl ⟨by rfl,?_⟩) hHeld ?_ ?_
    rotate_left
    ·rintro w' ⟨s0,s1,s2,s3,s4,s5⟩
     go_simp;with_reducible rfl
    rotate_left;·simp only [Act.put,q1_,q2_,q3_,i64_w,i32_w];rfl
    refine pure_ (i:=3) (N:=some 39) (v:=?_) (a':=?_) (bs_ 29 335) rfl rfl (by kernel_rfl) (fun _ _ _ h=>h) (Or.inl ⟨by rfl,?_⟩) ?_ ?_
    rotate_left;·intro w';go_simp;with_reducible rfl
    rotate_left;·simp only [Act.put,q1_,q2_,q3_,i64_w,i32_w];rfl
    refine pure_ (i:=4) (N:=some 40) (v:=?_) (a':=?_) (bs_ 29 351) rfl rfl (by kernel_rfl) (fun _ _ _ h=>h) (Or.inl ⟨by rfl,?_⟩) ?_ ?_
    rotate_left;·intro w';go_simp;with_reducible rfl
    rotate_left;·simp only [Act.put,q1_,q2_,q3_,i64_w,i32_w];rfl
    refine take_ (i:=5) (N:=some 41) (v:=?_) (a':=?_) (bs_ 29 383) rfl rfl (by kernel_rfl) (fun _ _ _ h=>h) (Or.inl ⟨by rfl,?_⟩) hHeld ?_ ?_
    rotate_left
    ·rintro w' ⟨s0,s1,s2,s3,s4,s5⟩
     go_simp;with_reducible rfl
    rotate_left;·simp only [Act.put,q1_,q2_,q3_,i64_w,i32_w];rfl
    refine take_ (i:=7) (N:=some 43) (v:=?_) (a':=?_) (bs_ 29 511) rfl rfl (by kernel_rfl) (fun _ _ _ h=>h) (Or.inl ⟨by rfl,?_⟩) hHeld ?_ ?_
    rotate_left
    ·rintro w' ⟨s0,s1,s2,s3,s4,s5⟩
     go_simp;with_reducible rfl
    rotate_left;·simp only [Act.put,q1_,q2_,q3_,i64_w,i32_w];rfl
    refine pure_ (i:=9) (N:=some 45) (v:=?_) (a':=?_) (bs_ 29 1023) rfl rfl (by kernel_rfl) (fun _ _ _ h=>h) (Or.inl ⟨by rfl,?_⟩) ?_ ?_
    rotate_left;·intro w';go_simp;with_reducible rfl
    rotate_left;·simp only [Act.put,q1_,q2_,q3_,i64_w,i32_w];rfl
    refine pure_ (i:=10) (N:=some 46) (v:=?_) (a':=?_) (bs_ 29 2047) rfl rfl (by kernel_rfl) (fun _ _ _ h=>h) (Or.inl ⟨by rfl,?_⟩) ?_ ?_
    rotate_left;·intro w';go_simp;with_reducible rfl
    rotate_left;·simp only [Act.put,q1_,q2_,q3_,i64_w,i32_w];rfl
    refine take_ (i:=11) (N:=some 47) (v:=?_) (a':=?_) (bs_ 29 4095) rfl rfl (by kernel_rfl) (fun _ _ _ h=>h) (Or.inl ⟨by rfl,?_⟩) hHeld ?_ ?_
    rotate_left
    ·rintro w' ⟨s0,s1,s2,s3,s4,s5⟩
     go_simp;with_reducible rfl
    rotate_left;·simp only [Act.put,q1_,q2_,q3_,i64_w,i32_w];rfl
    refine pure_ (i:=12) (N:=some 48) (v:=?_) (a':=?_) (bs_ 29 8191) rfl rfl (by kernel_rfl) (fun _ _ _ h=>h) (Or.inl ⟨by rfl,?_⟩) ?_ ?_
    rotate_left;·intro w';go_simp;with_reducible rfl
    rotate_left;·simp only [Act.put,q1_,q2_,q3_,i64_w,i32_w];rfl
    refine pure_ (i:=13) (N:=some 49) (v:=?_) (a':=?_) (bs_ 29 16383) rfl rfl (by kernel_rfl) (fun _ _ _ h=>h) (Or.inl ⟨by rfl,?_⟩) ?_ ?_
    rotate_left;·intro w';go_simp;with_reducible rfl
    rotate_left;·simp only [Act.put,q1_,q2_,q3_,i64_w,i32_w];rfl
    refine pure_ (i:=14) (N:=some 50) (v:=?_) (a':=?_) (bs_ 29 32767) rfl rfl (by kernel_rfl) (fun _ _ _ h=>h) (Or.inl ⟨by rfl,?_⟩) ?_ ?_
    rotate_left;·intro w';go_simp;with_reducible rfl
    rotate_left;·simp only [Act.put,q1_,q2_,q3_,i64_w,i32_w];rfl
    refine pure_ (i:=16) (N:=some 52) (v:=?_) (a':=?_) (bs_ 29 98303) rfl rfl (by kernel_rfl) (fun _ _ _ h=>h) (Or.inl ⟨by rfl,?_⟩) ?_ ?_
    rotate_left;·intro w';go_simp;with_reducible rfl
    rotate_left;·simp only [Act.put,q1_,q2_,q3_,i64_w,i32_w];rfl
    refine pure_ (i:=20) (N:=some 56) (v:=?_) (a':=?_) (bs_ 29 1146879) rfl rfl (by kernel_rfl) (fun _ _ _ h=>h) (Or.inl ⟨by rfl,?_⟩) ?_ ?_
    rotate_left;·intro w';go_simp;with_reducible rfl
    rotate_left;·simp only [Act.put,q1_,q2_,q3_,i64_w,i32_w];rfl
    refine pure_ (i:=22) (N:=some 58) (v:=?_) (a':=?_) (bs_ 29 5341183) rfl rfl (by kernel_rfl) (fun _ _ _ h=>h) (Or.inl ⟨by rfl,?_⟩) ?_ ?_
    rotate_left;·intro w';go_simp;with_reducible rfl
    rotate_left;·simp only [Act.put,q1_,q2_,q3_,i64_w,i32_w];rfl
    refine take_ (i:=15) (N:=some 51) (v:=?_) (a':=?_) (bs_ 29 5373951) rfl rfl (by kernel_rfl) (fun _ _ _ h=>h) (Or.inl ⟨by rfl,?_⟩) hHeld ?_ ?_
    rotate_left
    ·rintro w' ⟨s0,s1,s2,s3,s4,s5⟩
     go_simp;with_reducible rfl
    rotate_left;·simp only [Act.put,q1_,q2_,q3_,i64_w,i32_w];rfl
    refine pure_ (i:=17) (N:=some 53) (v:=?_) (a':=?_) (bs_ 29 5505023) rfl rfl (by kernel_rfl) (fun _ _ _ h=>h) (Or.inl ⟨by rfl,?_⟩) ?_ ?_
    rotate_left;·intro w';go_simp;with_reducible rfl
    rotate_left;·simp only [Act.put,q1_,q2_,q3_,i64_w,i32_w];rfl
    refine pure_ (i:=18) (N:=some 54) (v:=?_) (a':=?_) (bs_ 29 5767167) rfl rfl (by kernel_rfl) (fun _ _ _ h=>h) (Or.inl ⟨by rfl,?_⟩) ?_ ?_
    rotate_left;·intro w';go_simp;with_reducible rfl
    rotate_left;·simp only [Act.put,q1_,q2_,q3_,i64_w,i32_w];rfl
    refine take_ (i:=19) (N:=some 55) (v:=?_) (a':=?_) (bs_ 29 6291455) rfl rfl (by kernel_rfl) (fun _ _ _ h=>h) (Or.inl ⟨by rfl,?_⟩) hHeld ?_ ?_
    rotate_left
    ·rintro w' ⟨s0,s1,s2,s3,s4,s5⟩
     go_simp;with_reducible rfl
    rotate_left;·simp only [Act.put,q1_,q2_,q3_,i64_w,i32_w];rfl
    refine take_ (i:=21) (N:=some 57) (v:=?_) (a':=?_) (bs_ 29 8388607) rfl rfl (by kernel_rfl) (fun _ _ _ h=>h) (Or.inl ⟨by rfl,?_⟩) hHeld ?_ ?_
    rotate_left
    ·rintro w' ⟨s0,s1,s2,s3,s4,s5⟩
     go_simp;with_reducible rfl
    rotate_left;·simp only [Act.put,q1_,q2_,q3_,i64_w,i32_w];rfl
    refine pure_ (i:=23) (N:=some 59) (v:=?_) (a':=?_) (bs_ 29 16777215) rfl rfl (by kernel_rfl) (fun _ _ _ h=>h) (Or.inl ⟨by rfl,?_⟩) ?_ ?_
    rotate_left;·intro w';go_simp;with_reducible rfl
    rotate_left;·simp only [Act.put,q1_,q2_,q3_,i64_w,i32_w];rfl
    refine pure_ (i:=24) (N:=some 60) (v:=?_) (a':=?_) (bs_ 29 33554431) rfl rfl (by kernel_rfl) (fun _ _ _ h=>h) (Or.inl ⟨by rfl,?_⟩) ?_ ?_
    rotate_left;·intro w';go_simp;with_reducible rfl
    rotate_left;·simp only [Act.put,q1_,q2_,q3_,i64_w,i32_w];rfl
    refine take_ (i:=25) (N:=some 61) (v:=?_) (a':=?_) (bs_ 29 67108863) rfl rfl (by kernel_rfl) (fun _ _ _ h=>h) (Or.inl ⟨by rfl,?_⟩) hHeld ?_ ?_
    rotate_left
    ·rintro w' ⟨s0,s1,s2,s3,s4,s5⟩
     go_simp;with_reducible rfl
    rotate_left;·simp only [Act.put,q1_,q2_,q3_,i64_w,i32_w];rfl
    refine one_ (i:=26) (N:=some 62) (bs_ 29 134217727) rfl rfl (by kernel_rfl) (by decide) (fun K hK=>?_);refine goes_ Tryd.func42 (by kernel_rfl) rfl #[.slice aA2 (rd_T46 l0_2 i).f2.length ac2,.slice bA2 (rd_T46 l1_2 i).f2.length bc2] (by rfl) rfl rfl (by simp only [List.map_toArray,List.map_cons,List.map_nil];rfl) ?_
    with_reducible refine (stmts6_calls _ (rd_T46 l0_2 i).f2 (rd_T46 l1_2 i).f2 _ aA2 bA2 ac2 bc2 (Nat.lt_succ_self _) (Kd.C_below ag2.out (below_drew1 (Below.refl wr.heap.size wr))) al2.out (Kd.C_below bg2.out (below_drew1 (Below.refl wr.heap.size wr))) bl2.out).mono ?_
    rintro E wa ⟨rfl,hb_⟩
    refine ⟨_,rfl,?_⟩;have Hwa:Aside0 (Below wr.heap.size wr wa):=Aside0.mk (below_step (below_drew1 (Below.refl wr.heap.size wr)) hb_);clear hb_;refine hK.out _ _ ⟨(HF.out _ Hwa.out).1,(HF.out _ Hwa.out).2.1,(HF.out _ Hwa.out).2.2.1,(HF.out _ Hwa.out).2.2.2.1,(HF.out _ Hwa.out).2.2.2.2.1,(HF.out _ Hwa.out).2.2.2.2.2⟩ (fun hHeld=>?_);clear hK K;refine norm_ (a':=?_) ?_ ?_
    rotate_left
    ·show Act.put _ (some 62) _=_
     simp only [Act.put,q1_,q2_,q3_,i64_w,i32_w];rfl
    refine pure_ (i:=27) (N:=some 63) (v:=?_) (a':=?_) (bs_ 29 268435455) rfl rfl (by kernel_rfl) (fun _ _ _ h=>h) (Or.inl ⟨by rfl,?_⟩) ?_ ?_
    rotate_left;·intro w';go_simp;with_reducible rfl
    rotate_left;·simp only [Act.put,q1_,q2_,q3_,i64_w,i32_w];rfl
    refine pure_ (i:=28) (N:=some 64) (v:=?_) (a':=?_) (bs_ 29 536870911) rfl rfl (by kernel_rfl) (fun _ _ _ h=>h) (Or.inl ⟨by rfl,?_⟩) ?_ ?_
    rotate_left;·intro w';go_simp;with_reducible rfl
    rotate_left;·simp only [Act.put,q1_,q2_,q3_,i64_w,i32_w];rfl
    refine done_ (by kernel_rfl) ?_
    have hst':=hst;cases h4:sameL (rd_T46 l0_2 i).f2 (rd_T46 l1_2 i).f2 with
    |false=>
     rw [h4,Bool.false_and] at hst';have HST:=Aside0.mk (HS3.out.trans hst');clear hst hst' h4;go_wp2_with fail
     go_ret
     exact ⟨by rw [HST.out];rfl,below_step HBW.out Hwa.out⟩
    |true=>
     rw [h4,Bool.true_and] at hst';have HST:=Aside0.mk hst';clear hst hst' h4;go_wp2_with fail
     go_roundg k1
     case rel=>exact ⟨i+1,by rw [show wrap64 (i+1)=i+1 from w64 (by have:=HP.out;have:=HX.out.2.1;omega)],⟨by have:=HP.out;omega,by have:=HP.out;have:=HI.out;omega,by have:=HP.out;have:=HI.out;omega⟩,⟨by rw [show (i+1).toNat=i.toNat+1 by have:=HP.out;omega];exact HST.out.symm⟩,Aside0.mk (below_step HB.out Hwa.out)⟩
     case measure=>omega
end Go.Proofs.YtkmafndljelopaaDoor.Q
