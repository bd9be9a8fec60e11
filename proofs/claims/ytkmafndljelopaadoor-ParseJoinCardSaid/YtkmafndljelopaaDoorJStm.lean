/- The reference's Stmts and Same, by hand. Written by wip/gen_stm.py. -/
import Derived.Test.YtkmafndljelopaaDoorJTree
import Derived.Test.YtkmafndljelopaaDoorJQ7
import Derived.BigQuiet
namespace Go.Proofs.YtkmafndljelopaaDoor.Q
open Go.RowKit Go.Proofs.YtkmafndljelopaaDoorW.PrintWords Go.Proofs.YtkmafndljelopaaDoorW.PrintLast Go.Proofs.YtkmafndljelopaaDoorW.PrintMore Go.Proofs.YtkmafndljelopaaDoor.Lx
set_option linter.unusedVariables false
set_option linter.unusedSimpArgs false
def bs_ (n m:Nat):Array Bool:=((List.range n).map fun i=>m.testBit i).toArray
theorem at8 {xs ys:List St6} (h:xs.length≠ys.length):sameL xs ys=false:=by rw [EP];exact BA h
theorem anJ {xs ys:List St6} {i:Nat} (h:i<xs.length) (h2:i<ys.length):sameL (xs.drop i) (ys.drop i)=(sameS (xs.getD i z86) (ys.getD i z86) && sameL (xs.drop (i+1)) (ys.drop (i+1))):=by
 rw [EP,EP];exact DQ _ h h2
theorem ao9 {xs ys:List St6} {i:Nat} (h:xs.length≤i) (h2:ys.length≤i):sameL (xs.drop i) (ys.drop i)=true:=by
 rw [EP];exact CR h h2
set_option maxRecDepth 100000 in
set_option maxHeartbeats 3200000 in
theorem arF {n:Nat} (ih: ∀ (xs ys:List St6) (w:World) (A B:Option Addr) (c d:Nat),szL xs<n→Kd.C k86 w A xs.length xs→xs.length≤c→Kd.C k86 w B ys.length ys→ys.length≤d→
   Calls Tryd.prog 42 #[.slice A xs.length c,.slice B ys.length d] w fun e w'=>e= .returned (.bool (sameL xs ys))∧Below w.heap.size w w')
  (xs ys:List St6) (w:World) (A B:Option Addr) (c d:Nat) (h:szL xs<n+1) (hx:Kd.C k86 w A xs.length xs) (hc:xs.length≤c) (hy:Kd.C k86 w B ys.length ys) (hd:ys.length≤d):
  Calls Tryd.prog 42 #[.slice A xs.length c,.slice B ys.length d] w fun e w'=>e= .returned (.bool (sameL xs ys))∧Below w.heap.size w w':=by
 have IH:=aC.mk ih;clear ih;have hu:=Tryd.underlying86;have HX:=aC.mk hx;have HY:=aC.mk hy;have HN:=aC.mk h;clear hx hy hc hd h;by_cases hl:xs.length=ys.length
 rotate_left
 ·have q:(((xs.length:Nat):Int) !=((ys.length:Nat):Int))=true:=bne_iff_ne.mpr (by omega);have HR:=aC.mk (at8 hl);clear hl;go_enter Tryd.func42,Tryd.ntmps42
  go_wp2_with fail
  go_ret
  exact ⟨by rw [HR.out];rfl,Below.refl _ _⟩
 have q:(((xs.length:Nat):Int) !=((ys.length:Nat):Int))=false:=bne_eq_false_iff_eq.mpr (by omega);have HL:=aC.mk hl;clear hl;go_enter Tryd.func42,Tryd.ntmps42
 go_wp2_with fail
 go_loopg [5] (xs.length+1) (fun kq v5 w'=>∃ i:Int,v5= .int .i64 i∧aC (0≤i∧i.toNat+kq=xs.length+1∧0<kq)∧aC (sameL (xs.drop i.toNat) (ys.drop i.toNat)=sameL xs ys)∧aC (Below w.heap.size w w'))
 case atStart=>exact ⟨0,rfl,⟨by omega,by simp,by omega⟩,⟨by simp⟩,⟨Below.refl _ _⟩⟩
 case round=>
  obtain ⟨i,rfl,HI,HE,HB⟩:=hrel;cases gk with
  |zero=>exact absurd HI.out.2.2 (by omega)
  |succ k1=>
   by_cases hlt:i<((xs.length:Nat):Int)
   rotate_left
   ·have c1:decide (i<((xs.length:Nat):Int))=false:=decide_eq_false hlt;have HST:aC (sameL xs ys=true):=aC.mk (by rw [← HE.out];exact ao9 (by omega) (by have:=HL.out;omega));clear hlt;go_wp2_with fail
    go_ret
    exact ⟨by rw [HST.out];rfl,HB.out⟩
   ·have p0:0≤i:=HI.out.1;have p1:=hlt;have p2:i<((ys.length:Nat):Int):=by have:=HL.out;omega
    have HP:=aC.mk (And.intro p0 (And.intro p1 p2));have c1:decide (i<((xs.length:Nat):Int))=true:=decide_eq_true hlt;obtain ⟨aad,lZ,l9,nA,nH,ae_,j6,lT,lP,vS,vU,KS,GJ,LD,GX⟩:=kN HX.out i p0 p1;cases ae_
    have AF:=aC.mk KS;have BN:=aC.mk (Kd.cN GJ HB.out);clear KS GJ;have DZ:=aC.mk LD;have D8:=aC.mk (Kd.cN GX HB.out);clear LD GX;replace j6:=(HB.out.cell (World.block_lt_of_cell? w _ j6)).trans j6;replace lT:=(HB.out.cell (World.block_lt_of_cell? w _ lT)).trans lT;replace lP:=(HB.out.cell (World.block_lt_of_cell? w _ lP)).trans lP;replace vS:=(HB.out.cell (World.block_lt_of_cell? w _ vS)).trans vS;replace vU:=(HB.out.cell (World.block_lt_of_cell? w _ vU)).trans vU;obtain ⟨bad,mE,mF,nU,nS,be_,jX,lJ,lG,vZ,vV,GZ,FN,GG,KK⟩:=kN HY.out i p0 p2;cases be_
    have z8:=aC.mk GZ;have AI:=aC.mk (Kd.cN FN HB.out);clear GZ FN;have DT:=aC.mk GG;have DH:=aC.mk (Kd.cN KK HB.out);clear GG KK;replace jX:=(HB.out.cell (World.block_lt_of_cell? w _ jX)).trans jX;replace lJ:=(HB.out.cell (World.block_lt_of_cell? w _ lJ)).trans lJ;replace lG:=(HB.out.cell (World.block_lt_of_cell? w _ lG)).trans lG;replace vZ:=(HB.out.cell (World.block_lt_of_cell? w _ vZ)).trans vZ;replace vV:=(HB.out.cell (World.block_lt_of_cell? w _ vV)).trans vV;have HF:aC (∀ w',Below wr.heap.size wr w'→w'.cell? (aad.add (i.toNat * 5))=some (.int .i64 (aE xs i).f0)∧w'.cell? ⟨(aad.add (i.toNat * 5)).block,(aad.add (i.toNat * 5)).off+2,none⟩=some (.string (aE xs i).f2)∧w'.cell? ⟨(aad.add (i.toNat * 5)).block,(aad.add (i.toNat * 5)).off+3,none⟩=some (.slice lZ (aE xs i).f3.length l9)∧w'.cell? ⟨(aad.add (i.toNat * 5)).block,(aad.add (i.toNat * 5)).off+4,none⟩=some (.slice nA (aE xs i).f4.length nH)∧w'.cell? (bad.add (i.toNat * 5))=some (.int .i64 (aE ys i).f0)∧w'.cell? ⟨(bad.add (i.toNat * 5)).block,(bad.add (i.toNat * 5)).off+2,none⟩=some (.string (aE ys i).f2)∧w'.cell? ⟨(bad.add (i.toNat * 5)).block,(bad.add (i.toNat * 5)).off+3,none⟩=some (.slice mE (aE ys i).f3.length mF)∧w'.cell? ⟨(bad.add (i.toNat * 5)).block,(bad.add (i.toNat * 5)).off+4,none⟩=some (.slice nU (aE ys i).f4.length nS)):=aC.mk (fun w' hw=>⟨(hw.cell (World.block_lt_of_cell? wr _ j6)).trans j6,(hw.cell (World.block_lt_of_cell? wr _ lP)).trans lP,(hw.cell (World.block_lt_of_cell? wr _ vS)).trans vS,(hw.cell (World.block_lt_of_cell? wr _ vU)).trans vU,(hw.cell (World.block_lt_of_cell? wr _ jX)).trans jX,(hw.cell (World.block_lt_of_cell? wr _ lG)).trans lG,(hw.cell (World.block_lt_of_cell? wr _ vZ)).trans vZ,(hw.cell (World.block_lt_of_cell? wr _ vV)).trans vV⟩);replace p0:=eq_true p0;replace p1:=eq_true p1;replace p2:=eq_true p2;clear hlt j6 lT lP vS vU jX lJ lG vZ vV;have hst:sameL xs ys=(sameS (aE xs i) (aE ys i) && sameL (xs.drop (i.toNat+1)) (ys.drop (i.toNat+1))):=HE.out.symm.trans (anJ (i:=i.toNat) (by have:=HP.out;omega) (by have:=HP.out;omega));have hmem:szS (aE xs i)≤szL xs:=UE (BW (by have:=HP.out;omega));have HSZ:aC (szL (aE xs i).f3<n∧szL (aE xs i).f4<n):=aC.mk (by have:=HN.out;have:=uU (aE xs i);omega);clear hmem;rw [YO] at hst;by_cases h0:(aE xs i).f0=(aE ys i).f0
    rotate_left
    ·have q0:((aE xs i).f0==(aE ys i).f0)=false:=beq_eq_false_iff_ne.mpr h0;have q1:((aE xs i).f0 !=(aE ys i).f0)=true:=bne_iff_ne.mpr h0;rw [q0,Bool.false_and,Bool.false_and] at hst;have HST:=aC.mk hst;clear hst h0;obtain ⟨k0,ajA,k2,k3,k4,k5,k6,k7⟩:=HF.out wr (Below.refl _ _);go_wp2
     repeat (go_quiet (fail);try go_wp2)
     go_ret
     exact ⟨by rw [HST.out];rfl,by repeat (first|(with_reducible first|exact HB.out|apply aN|apply aJ)|exact HB.out)⟩
    have q0:((aE xs i).f0==(aE ys i).f0)=true:=beq_iff_eq.mpr h0;have q1:((aE xs i).f0 !=(aE ys i).f0)=false:=bne_eq_false_iff_eq.mpr h0;rw [q0,Bool.true_and] at hst;by_cases h2:(aE xs i).f2.toList=(aE ys i).f2.toList
    rotate_left
    ·have q2:((aE xs i).f2.toList==(aE ys i).f2.toList)=false:=beq_eq_false_iff_ne.mpr h2;have q3:((aE xs i).f2.toList !=(aE ys i).f2.toList)=true:=bne_iff_ne.mpr h2;rw [q2,Bool.false_and,Bool.false_and] at hst;have HST:=aC.mk hst;clear hst h0 h2;obtain ⟨k0,ajA,k2,k3,k4,k5,k6,k7⟩:=HF.out wr (Below.refl _ _);go_wp2
     repeat (go_quiet (fail);try go_wp2)
     go_ret
     exact ⟨by rw [HST.out];rfl,by repeat (first|(with_reducible first|exact HB.out|apply aN|apply aJ)|exact HB.out)⟩
    have q2:((aE xs i).f2.toList==(aE ys i).f2.toList)=true:=beq_iff_eq.mpr h2;have q3:((aE xs i).f2.toList !=(aE ys i).f2.toList)=false:=bne_eq_false_iff_eq.mpr h2;rw [q2,Bool.true_and] at hst;clear h0 h2;by_cases h3:sameL (aE xs i).f3 (aE ys i).f3=true
    rotate_left
    ·have RO:sameL (aE xs i).f3 (aE ys i).f3=false:=by simpa using h3
     rw [RO,Bool.false_and,Bool.false_and] at hst;have HST:=aC.mk hst;have UK:=aC.mk RO;clear hst h3 RO;go_upto_region 6 with fail
     refine mK (n:=52) (S:=fun w'=>w'.cell? (aad.add (i.toNat * 5))=some (.int .i64 (aE xs i).f0)∧w'.cell? ⟨(aad.add (i.toNat * 5)).block,(aad.add (i.toNat * 5)).off+2,none⟩=some (.string (aE xs i).f2)∧w'.cell? ⟨(aad.add (i.toNat * 5)).block,(aad.add (i.toNat * 5)).off+3,none⟩=some (.slice lZ (aE xs i).f3.length l9)∧w'.cell? ⟨(aad.add (i.toNat * 5)).block,(aad.add (i.toNat * 5)).off+4,none⟩=some (.slice nA (aE xs i).f4.length nH)∧w'.cell? (bad.add (i.toNat * 5))=some (.int .i64 (aE ys i).f0)∧w'.cell? ⟨(bad.add (i.toNat * 5)).block,(bad.add (i.toNat * 5)).off+2,none⟩=some (.string (aE ys i).f2)∧w'.cell? ⟨(bad.add (i.toNat * 5)).block,(bad.add (i.toNat * 5)).off+3,none⟩=some (.slice mE (aE ys i).f3.length mF)∧w'.cell? ⟨(bad.add (i.toNat * 5)).block,(bad.add (i.toNat * 5)).off+4,none⟩=some (.slice nU (aE ys i).f4.length nS)) (ds:=[]) #[false,false,false,false,false,false,false,false,false,false,false,false,false,false,false,false,false,false,false,false,false,false,false,false,false,false,false,false,false,false,false,false,false,false,false,false,false,false,false,false,false,false,false,false,false,false,false,false,false,false,false,false] (by kernel_rfl) rfl rfl ⟨(HF.out _ (aJ (Below.refl wr.heap.size wr))).1,(HF.out _ (aJ (Below.refl wr.heap.size wr))).2.1,(HF.out _ (aJ (Below.refl wr.heap.size wr))).2.2.1,(HF.out _ (aJ (Below.refl wr.heap.size wr))).2.2.2.1,(HF.out _ (aJ (Below.refl wr.heap.size wr))).2.2.2.2.1,(HF.out _ (aJ (Below.refl wr.heap.size wr))).2.2.2.2.2.1,(HF.out _ (aJ (Below.refl wr.heap.size wr))).2.2.2.2.2.2.1,(HF.out _ (aJ (Below.refl wr.heap.size wr))).2.2.2.2.2.2.2⟩ (fun hHeld=>?_);refine bE (i:=0) (N:=some 17) (v:=?_) (a':=?_) (bs_ 52 1) rfl rfl (by kernel_rfl) (fun _ _ _ h=>h) (Or.inl ⟨by rfl,?_⟩) ?_ ?_
     rotate_left;·intro w';go_simp;with_reducible rfl
     rotate_left;·simp only [Act.put,q1_,q2_,q3_,aG,aH];rfl
     refine bE (i:=1) (N:=some 18) (v:=?_) (a':=?_) (bs_ 52 3) rfl rfl (by kernel_rfl) (fun _ _ _ h=>h) (Or.inl ⟨by rfl,?_⟩) ?_ ?_
     rotate_left;·intro w';go_simp;with_reducible rfl
     rotate_left;·simp only [Act.put,q1_,q2_,q3_,aG,aH];rfl
     refine bE (i:=2) (N:=some 19) (v:=?_) (a':=?_) (bs_ 52 7) rfl rfl (by kernel_rfl) (fun _ _ _ h=>h) (Or.inl ⟨by rfl,?_⟩) ?_ ?_
     rotate_left;·intro w';go_simp;with_reducible rfl
     rotate_left;·simp only [Act.put,q1_,q2_,q3_,aG,aH];rfl
     refine bE (i:=3) (N:=some 20) (v:=?_) (a':=?_) (bs_ 52 15) rfl rfl (by kernel_rfl) (fun _ _ _ h=>h) (Or.inl ⟨by rfl,?_⟩) ?_ ?_
     rotate_left;·intro w';go_simp;with_reducible rfl
     rotate_left;·simp only [Act.put,q1_,q2_,q3_,aG,aH];rfl
     refine bE (i:=5) (N:=some 22) (v:=?_) (a':=?_) (bs_ 52 47) rfl rfl (by kernel_rfl) (fun _ _ _ h=>h) (Or.inl ⟨by rfl,?_⟩) ?_ ?_
     rotate_left;·intro w';go_simp;with_reducible rfl
     rotate_left;·simp only [Act.put,q1_,q2_,q3_,aG,aH];rfl
     refine bE (i:=6) (N:=some 23) (v:=?_) (a':=?_) (bs_ 52 111) rfl rfl (by kernel_rfl) (fun _ _ _ h=>h) (Or.inl ⟨by rfl,?_⟩) ?_ ?_
     rotate_left;·intro w';go_simp;with_reducible rfl
     rotate_left;·simp only [Act.put,q1_,q2_,q3_,aG,aH];rfl
     refine bE (i:=7) (N:=some 24) (v:=?_) (a':=?_) (bs_ 52 239) rfl rfl (by kernel_rfl) (fun _ _ _ h=>h) (Or.inl ⟨by rfl,?_⟩) ?_ ?_
     rotate_left;·intro w';go_simp;with_reducible rfl
     rotate_left;·simp only [Act.put,q1_,q2_,q3_,aG,aH];rfl
     refine bE (i:=8) (N:=some 25) (v:=?_) (a':=?_) (bs_ 52 495) rfl rfl (by kernel_rfl) (fun _ _ _ h=>h) (Or.inl ⟨by rfl,?_⟩) ?_ ?_
     rotate_left;·intro w';go_simp;with_reducible rfl
     rotate_left;·simp only [Act.put,q1_,q2_,q3_,aG,aH];rfl
     refine eC (i:=4) (N:=some 21) (v:=?_) (a':=?_) (bs_ 52 511) rfl rfl (by kernel_rfl) (fun _ _ _ h=>h) (Or.inl ⟨by rfl,?_⟩) hHeld ?_ ?_
     rotate_left
     ·rintro w' ⟨s0,s1,s2,s3,s4,s5,s6,s7⟩
      go_simp;with_reducible rfl
     rotate_left;·simp only [Act.put,q1_,q2_,q3_,aG,aH];rfl
     refine eC (i:=9) (N:=some 26) (v:=?_) (a':=?_) (bs_ 52 1023) rfl rfl (by kernel_rfl) (fun _ _ _ h=>h) (Or.inl ⟨by rfl,?_⟩) hHeld ?_ ?_
     rotate_left
     ·rintro w' ⟨s0,s1,s2,s3,s4,s5,s6,s7⟩
      go_simp;with_reducible rfl
     rotate_left;·simp only [Act.put,q1_,q2_,q3_,aG,aH];rfl
     refine bE (i:=10) (N:=some 27) (v:=?_) (a':=?_) (bs_ 52 2047) rfl rfl (by kernel_rfl) (fun _ _ _ h=>h) (Or.inl ⟨by rfl,?_⟩) ?_ ?_
     rotate_left;·intro w';go_simp;with_reducible rfl
     rotate_left;·simp only [Act.put,q1_,q2_,q3_,aG,aH];rfl
     refine bE (i:=11) (N:=some 28) (v:=?_) (a':=?_) (bs_ 52 4095) rfl rfl (by kernel_rfl) (fun _ _ _ h=>h) (Or.inl ⟨by rfl,?_⟩) ?_ ?_
     rotate_left;·intro w';go_simp;with_reducible rfl
     rotate_left;·simp only [Act.put,q1_,q2_,q3_,aG,aH];rfl
     refine bE (i:=12) (N:=some 29) (v:=?_) (a':=?_) (bs_ 52 8191) rfl rfl (by kernel_rfl) (fun _ _ _ h=>h) (Or.inl ⟨by rfl,?_⟩) ?_ ?_
     rotate_left;·intro w';go_simp;with_reducible rfl
     rotate_left;·simp only [Act.put,q1_,q2_,q3_,aG,aH];rfl
     refine bE (i:=13) (N:=some 30) (v:=?_) (a':=?_) (bs_ 52 16383) rfl rfl (by kernel_rfl) (fun _ _ _ h=>h) (Or.inl ⟨by rfl,?_⟩) ?_ ?_
     rotate_left;·intro w';go_simp;with_reducible rfl
     rotate_left;·simp only [Act.put,q1_,q2_,q3_,aG,aH];rfl
     refine bE (i:=14) (N:=some 31) (v:=?_) (a':=?_) (bs_ 52 32767) rfl rfl (by kernel_rfl) (fun _ _ _ h=>h) (Or.inl ⟨by rfl,?_⟩) ?_ ?_
     rotate_left;·intro w';go_simp;with_reducible rfl
     rotate_left;·simp only [Act.put,q1_,q2_,q3_,aG,aH];rfl
     refine bE (i:=15) (N:=some 32) (v:=?_) (a':=?_) (bs_ 52 65535) rfl rfl (by kernel_rfl) (fun _ _ _ h=>h) (Or.inl ⟨by rfl,?_⟩) ?_ ?_
     rotate_left;·intro w';go_simp;with_reducible rfl
     rotate_left;·simp only [Act.put,q1_,q2_,q3_,aG,aH];rfl
     refine bE (i:=17) (N:=some 34) (v:=?_) (a':=?_) (bs_ 52 196607) rfl rfl (by kernel_rfl) (fun _ _ _ h=>h) (Or.inl ⟨by rfl,?_⟩) ?_ ?_
     rotate_left;·intro w';go_simp;with_reducible rfl
     rotate_left;·simp only [Act.put,q1_,q2_,q3_,aG,aH];rfl
     refine bE (i:=18) (N:=some 35) (v:=?_) (a':=?_) (bs_ 52 458751) rfl rfl (by kernel_rfl) (fun _ _ _ h=>h) (Or.inl ⟨by rfl,?_⟩) ?_ ?_
     rotate_left;·intro w';go_simp;with_reducible rfl
     rotate_left;·simp only [Act.put,q1_,q2_,q3_,aG,aH];rfl
     refine bE (i:=19) (N:=some 36) (v:=?_) (a':=?_) (bs_ 52 983039) rfl rfl (by kernel_rfl) (fun _ _ _ h=>h) (Or.inl ⟨by rfl,?_⟩) ?_ ?_
     rotate_left;·intro w';go_simp;with_reducible rfl
     rotate_left;·simp only [Act.put,q1_,q2_,q3_,aG,aH];rfl
     refine bE (i:=20) (N:=some 37) (v:=?_) (a':=?_) (bs_ 52 2031615) rfl rfl (by kernel_rfl) (fun _ _ _ h=>h) (Or.inl ⟨by rfl,?_⟩) ?_ ?_
     rotate_left;·intro w';go_simp;with_reducible rfl
     rotate_left;·simp only [Act.put,q1_,q2_,q3_,aG,aH];rfl
     refine eC (i:=16) (N:=some 33) (v:=?_) (a':=?_) (bs_ 52 2097151) rfl rfl (by kernel_rfl) (fun _ _ _ h=>h) (Or.inl ⟨by rfl,?_⟩) hHeld ?_ ?_
     rotate_left
     ·rintro w' ⟨s0,s1,s2,s3,s4,s5,s6,s7⟩
      go_simp;with_reducible rfl
     rotate_left;·simp only [Act.put,q1_,q2_,q3_,aG,aH];rfl
     refine eC (i:=21) (N:=some 38) (v:=?_) (a':=?_) (bs_ 52 4194303) rfl rfl (by kernel_rfl) (fun _ _ _ h=>h) (Or.inl ⟨by rfl,?_⟩) hHeld ?_ ?_
     rotate_left
     ·rintro w' ⟨s0,s1,s2,s3,s4,s5,s6,s7⟩
      go_simp;with_reducible rfl
     rotate_left;·simp only [Act.put,q1_,q2_,q3_,aG,aH];rfl
     refine bE (i:=22) (N:=some 39) (v:=?_) (a':=?_) (bs_ 52 8388607) rfl rfl (by kernel_rfl) (fun _ _ _ h=>h) (Or.inl ⟨by rfl,?_⟩) ?_ ?_
     rotate_left;·intro w';go_simp;with_reducible rfl
     rotate_left;·simp only [Act.put,q1_,q2_,q3_,aG,aH];rfl
     refine bE (i:=23) (N:=some 40) (v:=?_) (a':=?_) (bs_ 52 16777215) rfl rfl (by kernel_rfl) (fun _ _ _ h=>h) (Or.inl ⟨by rfl,?_⟩) ?_ ?_
     rotate_left;·intro w';go_simp;with_reducible rfl
     rotate_left;·simp only [Act.put,q1_,q2_,q3_,aG,aH];rfl
     refine bE (i:=24) (N:=some 41) (v:=?_) (a':=?_) (bs_ 52 33554431) rfl rfl (by kernel_rfl) (fun _ _ _ h=>h) (Or.inl ⟨by rfl,?_⟩) ?_ ?_
     rotate_left;·intro w';go_simp;with_reducible rfl
     rotate_left;·simp only [Act.put,q1_,q2_,q3_,aG,aH];rfl
     refine bE (i:=25) (N:=some 42) (v:=?_) (a':=?_) (bs_ 52 67108863) rfl rfl (by kernel_rfl) (fun _ _ _ h=>h) (Or.inl ⟨by rfl,?_⟩) ?_ ?_
     rotate_left;·intro w';go_simp;with_reducible rfl
     rotate_left;·simp only [Act.put,q1_,q2_,q3_,aG,aH];rfl
     refine bE (i:=26) (N:=some 43) (v:=?_) (a':=?_) (bs_ 52 134217727) rfl rfl (by kernel_rfl) (fun _ _ _ h=>h) (Or.inl ⟨by rfl,?_⟩) ?_ ?_
     rotate_left;·intro w';go_simp;with_reducible rfl
     rotate_left;·simp only [Act.put,q1_,q2_,q3_,aG,aH];rfl
     refine bE (i:=27) (N:=some 44) (v:=?_) (a':=?_) (bs_ 52 268435455) rfl rfl (by kernel_rfl) (fun _ _ _ h=>h) (Or.inl ⟨by rfl,?_⟩) ?_ ?_
     rotate_left;·intro w';go_simp;with_reducible rfl
     rotate_left;·simp only [Act.put,q1_,q2_,q3_,aG,aH];rfl
     refine bE (i:=28) (N:=some 45) (v:=?_) (a':=?_) (bs_ 52 536870911) rfl rfl (by kernel_rfl) (fun _ _ _ h=>h) (Or.inl ⟨by rfl,?_⟩) ?_ ?_
     rotate_left;·intro w';go_simp;with_reducible rfl
     rotate_left;·simp only [Act.put,q1_,q2_,q3_,aG,aH];rfl
     refine bE (i:=30) (N:=some 47) (v:=?_) (a':=?_) (bs_ 52 1610612735) rfl rfl (by kernel_rfl) (fun _ _ _ h=>h) (Or.inl ⟨by rfl,?_⟩) ?_ ?_
     rotate_left;·intro w';go_simp;with_reducible rfl
     rotate_left;·simp only [Act.put,q1_,q2_,q3_,aG,aH];rfl
     refine bE (i:=31) (N:=some 48) (v:=?_) (a':=?_) (bs_ 52 3758096383) rfl rfl (by kernel_rfl) (fun _ _ _ h=>h) (Or.inl ⟨by rfl,?_⟩) ?_ ?_
     rotate_left;·intro w';go_simp;with_reducible rfl
     rotate_left;·simp only [Act.put,q1_,q2_,q3_,aG,aH];rfl
     refine bE (i:=32) (N:=some 49) (v:=?_) (a':=?_) (bs_ 52 8053063679) rfl rfl (by kernel_rfl) (fun _ _ _ h=>h) (Or.inl ⟨by rfl,?_⟩) ?_ ?_
     rotate_left;·intro w';go_simp;with_reducible rfl
     rotate_left;·simp only [Act.put,q1_,q2_,q3_,aG,aH];rfl
     refine bE (i:=33) (N:=some 50) (v:=?_) (a':=?_) (bs_ 52 16642998271) rfl rfl (by kernel_rfl) (fun _ _ _ h=>h) (Or.inl ⟨by rfl,?_⟩) ?_ ?_
     rotate_left;·intro w';go_simp;with_reducible rfl
     rotate_left;·simp only [Act.put,q1_,q2_,q3_,aG,aH];rfl
     refine eC (i:=29) (N:=some 46) (v:=?_) (a':=?_) (bs_ 52 17179869183) rfl rfl (by kernel_rfl) (fun _ _ _ h=>h) (Or.inl ⟨by rfl,?_⟩) hHeld ?_ ?_
     rotate_left
     ·rintro w' ⟨s0,s1,s2,s3,s4,s5,s6,s7⟩
      go_simp;with_reducible rfl
     rotate_left;·simp only [Act.put,q1_,q2_,q3_,aG,aH];rfl
     refine eC (i:=34) (N:=some 51) (v:=?_) (a':=?_) (bs_ 52 34359738367) rfl rfl (by kernel_rfl) (fun _ _ _ h=>h) (Or.inl ⟨by rfl,?_⟩) hHeld ?_ ?_
     rotate_left
     ·rintro w' ⟨s0,s1,s2,s3,s4,s5,s6,s7⟩
      go_simp;with_reducible rfl
     rotate_left;·simp only [Act.put,q1_,q2_,q3_,aG,aH];rfl
     refine one_ (i:=35) (N:=some 52) (bs_ 52 68719476735) rfl rfl (by kernel_rfl) (by decide) (fun K hK=>?_);refine mM Tryd.func42 (by kernel_rfl) rfl #[.slice lZ (aE xs i).f3.length l9,.slice mE (aE ys i).f3.length mF] (by rfl) rfl rfl (by simp only [List.map_toArray,List.map_cons,List.map_nil];rfl) ?_
     with_reducible refine (IH.out (aE xs i).f3 (aE ys i).f3 _ lZ mE l9 mF (by have:=HSZ.out;omega) (Kd.cN BN.out (aJ (Below.refl wr.heap.size wr))) AF.out (Kd.cN AI.out (aJ (Below.refl wr.heap.size wr))) z8.out).mono ?_
     rintro E wa ⟨rfl,hb_⟩
     refine ⟨_,rfl,?_⟩;have Hwa:aC (Below wr.heap.size wr wa):=aC.mk (bQ (aJ (Below.refl wr.heap.size wr)) hb_);clear hb_;rw [UK.out];refine hK.out _ _ ⟨(HF.out _ Hwa.out).1,(HF.out _ Hwa.out).2.1,(HF.out _ Hwa.out).2.2.1,(HF.out _ Hwa.out).2.2.2.1,(HF.out _ Hwa.out).2.2.2.2.1,(HF.out _ Hwa.out).2.2.2.2.2.1,(HF.out _ Hwa.out).2.2.2.2.2.2.1,(HF.out _ Hwa.out).2.2.2.2.2.2.2⟩ (fun hHeld=>?_);clear hK K;refine aZ (a':=?_) ?_ ?_
     rotate_left
     ·show Act.put _ (some 52) _=_
      simp only [Act.put,q1_,q2_,q3_,aG,aH];rfl
     refine bE (i:=36) (N:=some 53) (v:=?_) (a':=?_) (bs_ 52 137438953471) rfl rfl (by kernel_rfl) (fun _ _ _ h=>h) (Or.inl ⟨by rfl,?_⟩) ?_ ?_
     rotate_left;·intro w';go_simp;with_reducible rfl
     rotate_left;·simp only [Act.put,q1_,q2_,q3_,aG,aH];rfl
     refine bE (i:=37) (N:=some 54) (v:=?_) (a':=?_) (bs_ 52 274877906943) rfl rfl (by kernel_rfl) (fun _ _ _ h=>h) (Or.inl ⟨by rfl,?_⟩) ?_ ?_
     rotate_left;·intro w';go_simp;with_reducible rfl
     rotate_left;·simp only [Act.put,q1_,q2_,q3_,aG,aH];rfl
     refine bE (i:=38) (N:=some 55) (v:=?_) (a':=?_) (bs_ 52 549755813887) rfl rfl (by kernel_rfl) (fun _ _ _ h=>h) (Or.inl ⟨by rfl,?_⟩) ?_ ?_
     rotate_left;·intro w';go_simp;with_reducible rfl
     rotate_left;·simp only [Act.put,q1_,q2_,q3_,aG,aH];rfl
     refine bE (i:=39) (N:=some 56) (v:=undef) (a':=?_) (bs_ 52 1099511627775) rfl rfl (by kernel_rfl) (fun _ _ _ h=>h) (Or.inr ⟨by rfl,rfl⟩) ?_ ?_
     rotate_left;·simp only [Act.put,q1_,q2_,q3_,aG,aH];rfl
     refine bE (i:=40) (N:=some 57) (v:=undef) (a':=?_) (bs_ 52 2199023255551) rfl rfl (by kernel_rfl) (fun _ _ _ h=>h) (Or.inr ⟨by rfl,rfl⟩) ?_ ?_
     rotate_left;·simp only [Act.put,q1_,q2_,q3_,aG,aH];rfl
     refine bE (i:=41) (N:=some 58) (v:=undef) (a':=?_) (bs_ 52 4398046511103) rfl rfl (by kernel_rfl) (fun _ _ _ h=>h) (Or.inr ⟨by rfl,rfl⟩) ?_ ?_
     rotate_left;·simp only [Act.put,q1_,q2_,q3_,aG,aH];rfl
     refine bE (i:=42) (N:=some 59) (v:=undef) (a':=?_) (bs_ 52 8796093022207) rfl rfl (by kernel_rfl) (fun _ _ _ h=>h) (Or.inr ⟨by rfl,rfl⟩) ?_ ?_
     rotate_left;·simp only [Act.put,q1_,q2_,q3_,aG,aH];rfl
     refine bE (i:=43) (N:=some 60) (v:=undef) (a':=?_) (bs_ 52 17592186044415) rfl rfl (by kernel_rfl) (fun _ _ _ h=>h) (Or.inr ⟨by rfl,rfl⟩) ?_ ?_
     rotate_left;·simp only [Act.put,q1_,q2_,q3_,aG,aH];rfl
     refine bE (i:=44) (N:=some 61) (v:=undef) (a':=?_) (bs_ 52 35184372088831) rfl rfl (by kernel_rfl) (fun _ _ _ h=>h) (Or.inr ⟨by rfl,rfl⟩) ?_ ?_
     rotate_left;·simp only [Act.put,q1_,q2_,q3_,aG,aH];rfl
     refine bE (i:=45) (N:=some 62) (v:=undef) (a':=?_) (bs_ 52 70368744177663) rfl rfl (by kernel_rfl) (fun _ _ _ h=>h) (Or.inr ⟨by rfl,rfl⟩) ?_ ?_
     rotate_left;·simp only [Act.put,q1_,q2_,q3_,aG,aH];rfl
     refine bE (i:=46) (N:=some 63) (v:=undef) (a':=?_) (bs_ 52 140737488355327) rfl rfl (by kernel_rfl) (fun _ _ _ h=>h) (Or.inr ⟨by rfl,rfl⟩) ?_ ?_
     rotate_left;·simp only [Act.put,q1_,q2_,q3_,aG,aH];rfl
     refine bE (i:=47) (N:=some 64) (v:=undef) (a':=?_) (bs_ 52 281474976710655) rfl rfl (by kernel_rfl) (fun _ _ _ h=>h) (Or.inr ⟨by rfl,rfl⟩) ?_ ?_
     rotate_left;·simp only [Act.put,q1_,q2_,q3_,aG,aH];rfl
     refine bE (i:=48) (N:=some 65) (v:=undef) (a':=?_) (bs_ 52 562949953421311) rfl rfl (by kernel_rfl) (fun _ _ _ h=>h) (Or.inr ⟨by rfl,rfl⟩) ?_ ?_
     rotate_left;·simp only [Act.put,q1_,q2_,q3_,aG,aH];rfl
     refine bE (i:=49) (N:=some 66) (v:=undef) (a':=?_) (bs_ 52 1125899906842623) rfl rfl (by kernel_rfl) (fun _ _ _ h=>h) (Or.inr ⟨by rfl,rfl⟩) ?_ ?_
     rotate_left;·simp only [Act.put,q1_,q2_,q3_,aG,aH];rfl
     refine bE (i:=50) (N:=some 67) (v:=undef) (a':=?_) (bs_ 52 2251799813685247) rfl rfl (by kernel_rfl) (fun _ _ _ h=>h) (Or.inr ⟨by rfl,rfl⟩) ?_ ?_
     rotate_left;·simp only [Act.put,q1_,q2_,q3_,aG,aH];rfl
     refine bE (i:=51) (N:=some 68) (v:=?_) (a':=?_) (bs_ 52 4503599627370495) rfl rfl (by kernel_rfl) (fun _ _ _ h=>h) (Or.inl ⟨by rfl,?_⟩) ?_ ?_
     rotate_left;·intro w';go_simp;with_reducible rfl
     rotate_left;·simp only [Act.put,q1_,q2_,q3_,aG,aH];rfl
     refine mP (by kernel_rfl) ?_
     go_wp2_with fail
     go_ret
     exact ⟨by rw [HST.out];rfl,bQ HB.out Hwa.out⟩
    rw [h3,Bool.true_and] at hst;have UK:=aC.mk h3;clear h3;go_upto_region 6 with fail
    refine mK (n:=52) (S:=fun w'=>w'.cell? (aad.add (i.toNat * 5))=some (.int .i64 (aE xs i).f0)∧w'.cell? ⟨(aad.add (i.toNat * 5)).block,(aad.add (i.toNat * 5)).off+2,none⟩=some (.string (aE xs i).f2)∧w'.cell? ⟨(aad.add (i.toNat * 5)).block,(aad.add (i.toNat * 5)).off+3,none⟩=some (.slice lZ (aE xs i).f3.length l9)∧w'.cell? ⟨(aad.add (i.toNat * 5)).block,(aad.add (i.toNat * 5)).off+4,none⟩=some (.slice nA (aE xs i).f4.length nH)∧w'.cell? (bad.add (i.toNat * 5))=some (.int .i64 (aE ys i).f0)∧w'.cell? ⟨(bad.add (i.toNat * 5)).block,(bad.add (i.toNat * 5)).off+2,none⟩=some (.string (aE ys i).f2)∧w'.cell? ⟨(bad.add (i.toNat * 5)).block,(bad.add (i.toNat * 5)).off+3,none⟩=some (.slice mE (aE ys i).f3.length mF)∧w'.cell? ⟨(bad.add (i.toNat * 5)).block,(bad.add (i.toNat * 5)).off+4,none⟩=some (.slice nU (aE ys i).f4.length nS)) (ds:=[]) #[false,false,false,false,false,false,false,false,false,false,false,false,false,false,false,false,false,false,false,false,false,false,false,false,false,false,false,false,false,false,false,false,false,false,false,false,false,false,false,false,false,false,false,false,false,false,false,false,false,false,false,false] (by kernel_rfl) rfl rfl ⟨(HF.out _ (aJ (Below.refl wr.heap.size wr))).1,(HF.out _ (aJ (Below.refl wr.heap.size wr))).2.1,(HF.out _ (aJ (Below.refl wr.heap.size wr))).2.2.1,(HF.out _ (aJ (Below.refl wr.heap.size wr))).2.2.2.1,(HF.out _ (aJ (Below.refl wr.heap.size wr))).2.2.2.2.1,(HF.out _ (aJ (Below.refl wr.heap.size wr))).2.2.2.2.2.1,(HF.out _ (aJ (Below.refl wr.heap.size wr))).2.2.2.2.2.2.1,(HF.out _ (aJ (Below.refl wr.heap.size wr))).2.2.2.2.2.2.2⟩ (fun hHeld=>?_);refine bE (i:=0) (N:=some 17) (v:=?_) (a':=?_) (bs_ 52 1) rfl rfl (by kernel_rfl) (fun _ _ _ h=>h) (Or.inl ⟨by rfl,?_⟩) ?_ ?_
    rotate_left;·intro w';go_simp;with_reducible rfl
    rotate_left;·simp only [Act.put,q1_,q2_,q3_,aG,aH];rfl
    refine bE (i:=1) (N:=some 18) (v:=?_) (a':=?_) (bs_ 52 3) rfl rfl (by kernel_rfl) (fun _ _ _ h=>h) (Or.inl ⟨by rfl,?_⟩) ?_ ?_
    rotate_left;·intro w';go_simp;with_reducible rfl
    rotate_left;·simp only [Act.put,q1_,q2_,q3_,aG,aH];rfl
    refine bE (i:=2) (N:=some 19) (v:=?_) (a':=?_) (bs_ 52 7) rfl rfl (by kernel_rfl) (fun _ _ _ h=>h) (Or.inl ⟨by rfl,?_⟩) ?_ ?_
    rotate_left;·intro w';go_simp;with_reducible rfl
    rotate_left;·simp only [Act.put,q1_,q2_,q3_,aG,aH];rfl
    refine bE (i:=3) (N:=some 20) (v:=?_) (a':=?_) (bs_ 52 15) rfl rfl (by kernel_rfl) (fun _ _ _ h=>h) (Or.inl ⟨by rfl,?_⟩) ?_ ?_
    rotate_left;·intro w';go_simp;with_reducible rfl
    rotate_left;·simp only [Act.put,q1_,q2_,q3_,aG,aH];rfl
    refine bE (i:=5) (N:=some 22) (v:=?_) (a':=?_) (bs_ 52 47) rfl rfl (by kernel_rfl) (fun _ _ _ h=>h) (Or.inl ⟨by rfl,?_⟩) ?_ ?_
    rotate_left;·intro w';go_simp;with_reducible rfl
    rotate_left;·simp only [Act.put,q1_,q2_,q3_,aG,aH];rfl
    refine bE (i:=6) (N:=some 23) (v:=?_) (a':=?_) (bs_ 52 111) rfl rfl (by kernel_rfl) (fun _ _ _ h=>h) (Or.inl ⟨by rfl,?_⟩) ?_ ?_
    rotate_left;·intro w';go_simp;with_reducible rfl
    rotate_left;·simp only [Act.put,q1_,q2_,q3_,aG,aH];rfl
    refine bE (i:=7) (N:=some 24) (v:=?_) (a':=?_) (bs_ 52 239) rfl rfl (by kernel_rfl) (fun _ _ _ h=>h) (Or.inl ⟨by rfl,?_⟩) ?_ ?_
    rotate_left;·intro w';go_simp;with_reducible rfl
    rotate_left;·simp only [Act.put,q1_,q2_,q3_,aG,aH];rfl
    refine bE (i:=8) (N:=some 25) (v:=?_) (a':=?_) (bs_ 52 495) rfl rfl (by kernel_rfl) (fun _ _ _ h=>h) (Or.inl ⟨by rfl,?_⟩) ?_ ?_
    rotate_left;·intro w';go_simp;with_reducible rfl
    rotate_left;·simp only [Act.put,q1_,q2_,q3_,aG,aH];rfl
    refine eC (i:=4) (N:=some 21) (v:=?_) (a':=?_) (bs_ 52 511) rfl rfl (by kernel_rfl) (fun _ _ _ h=>h) (Or.inl ⟨by rfl,?_⟩) hHeld ?_ ?_
    rotate_left
    ·rintro w' ⟨s0,s1,s2,s3,s4,s5,s6,s7⟩
     go_simp;with_reducible rfl
    rotate_left;·simp only [Act.put,q1_,q2_,q3_,aG,aH];rfl
    refine eC (i:=9) (N:=some 26) (v:=?_) (a':=?_) (bs_ 52 1023) rfl rfl (by kernel_rfl) (fun _ _ _ h=>h) (Or.inl ⟨by rfl,?_⟩) hHeld ?_ ?_
    rotate_left
    ·rintro w' ⟨s0,s1,s2,s3,s4,s5,s6,s7⟩
     go_simp;with_reducible rfl
    rotate_left;·simp only [Act.put,q1_,q2_,q3_,aG,aH];rfl
    refine bE (i:=10) (N:=some 27) (v:=?_) (a':=?_) (bs_ 52 2047) rfl rfl (by kernel_rfl) (fun _ _ _ h=>h) (Or.inl ⟨by rfl,?_⟩) ?_ ?_
    rotate_left;·intro w';go_simp;with_reducible rfl
    rotate_left;·simp only [Act.put,q1_,q2_,q3_,aG,aH];rfl
    refine bE (i:=11) (N:=some 28) (v:=?_) (a':=?_) (bs_ 52 4095) rfl rfl (by kernel_rfl) (fun _ _ _ h=>h) (Or.inl ⟨by rfl,?_⟩) ?_ ?_
    rotate_left;·intro w';go_simp;with_reducible rfl
    rotate_left;·simp only [Act.put,q1_,q2_,q3_,aG,aH];rfl
    refine bE (i:=12) (N:=some 29) (v:=?_) (a':=?_) (bs_ 52 8191) rfl rfl (by kernel_rfl) (fun _ _ _ h=>h) (Or.inl ⟨by rfl,?_⟩) ?_ ?_
    rotate_left;·intro w';go_simp;with_reducible rfl
    rotate_left;·simp only [Act.put,q1_,q2_,q3_,aG,aH];rfl
    refine bE (i:=13) (N:=some 30) (v:=?_) (a':=?_) (bs_ 52 16383) rfl rfl (by kernel_rfl) (fun _ _ _ h=>h) (Or.inl ⟨by rfl,?_⟩) ?_ ?_
    rotate_left;·intro w';go_simp;with_reducible rfl
    rotate_left;·simp only [Act.put,q1_,q2_,q3_,aG,aH];rfl
    refine bE (i:=14) (N:=some 31) (v:=?_) (a':=?_) (bs_ 52 32767) rfl rfl (by kernel_rfl) (fun _ _ _ h=>h) (Or.inl ⟨by rfl,?_⟩) ?_ ?_
    rotate_left;·intro w';go_simp;with_reducible rfl
    rotate_left;·simp only [Act.put,q1_,q2_,q3_,aG,aH];rfl
    refine bE (i:=15) (N:=some 32) (v:=?_) (a':=?_) (bs_ 52 65535) rfl rfl (by kernel_rfl) (fun _ _ _ h=>h) (Or.inl ⟨by rfl,?_⟩) ?_ ?_
    rotate_left;·intro w';go_simp;with_reducible rfl
    rotate_left;·simp only [Act.put,q1_,q2_,q3_,aG,aH];rfl
    refine bE (i:=17) (N:=some 34) (v:=?_) (a':=?_) (bs_ 52 196607) rfl rfl (by kernel_rfl) (fun _ _ _ h=>h) (Or.inl ⟨by rfl,?_⟩) ?_ ?_
    rotate_left;·intro w';go_simp;with_reducible rfl
    rotate_left;·simp only [Act.put,q1_,q2_,q3_,aG,aH];rfl
    refine bE (i:=18) (N:=some 35) (v:=?_) (a':=?_) (bs_ 52 458751) rfl rfl (by kernel_rfl) (fun _ _ _ h=>h) (Or.inl ⟨by rfl,?_⟩) ?_ ?_
    rotate_left;·intro w';go_simp;with_reducible rfl
    rotate_left;·simp only [Act.put,q1_,q2_,q3_,aG,aH];rfl
    refine bE (i:=19) (N:=some 36) (v:=?_) (a':=?_) (bs_ 52 983039) rfl rfl (by kernel_rfl) (fun _ _ _ h=>h) (Or.inl ⟨by rfl,?_⟩) ?_ ?_
    rotate_left;·intro w';go_simp;with_reducible rfl
    rotate_left;·simp only [Act.put,q1_,q2_,q3_,aG,aH];rfl
    refine bE (i:=20) (N:=some 37) (v:=?_) (a':=?_) (bs_ 52 2031615) rfl rfl (by kernel_rfl) (fun _ _ _ h=>h) (Or.inl ⟨by rfl,?_⟩) ?_ ?_
    rotate_left;·intro w';go_simp;with_reducible rfl
    rotate_left;·simp only [Act.put,q1_,q2_,q3_,aG,aH];rfl
    refine eC (i:=16) (N:=some 33) (v:=?_) (a':=?_) (bs_ 52 2097151) rfl rfl (by kernel_rfl) (fun _ _ _ h=>h) (Or.inl ⟨by rfl,?_⟩) hHeld ?_ ?_
    rotate_left
    ·rintro w' ⟨s0,s1,s2,s3,s4,s5,s6,s7⟩
     go_simp;with_reducible rfl
    rotate_left;·simp only [Act.put,q1_,q2_,q3_,aG,aH];rfl
    refine eC (i:=21) (N:=some 38) (v:=?_) (a':=?_) (bs_ 52 4194303) rfl rfl (by kernel_rfl) (fun _ _ _ h=>h) (Or.inl ⟨by rfl,?_⟩) hHeld ?_ ?_
    rotate_left
    ·rintro w' ⟨s0,s1,s2,s3,s4,s5,s6,s7⟩
     go_simp;with_reducible rfl
    rotate_left;·simp only [Act.put,q1_,q2_,q3_,aG,aH];rfl
    refine bE (i:=22) (N:=some 39) (v:=?_) (a':=?_) (bs_ 52 8388607) rfl rfl (by kernel_rfl) (fun _ _ _ h=>h) (Or.inl ⟨by rfl,?_⟩) ?_ ?_
    rotate_left;·intro w';go_simp;with_reducible rfl
    rotate_left;·simp only [Act.put,q1_,q2_,q3_,aG,aH];rfl
    refine bE (i:=23) (N:=some 40) (v:=?_) (a':=?_) (bs_ 52 16777215) rfl rfl (by kernel_rfl) (fun _ _ _ h=>h) (Or.inl ⟨by rfl,?_⟩) ?_ ?_
    rotate_left;·intro w';go_simp;with_reducible rfl
    rotate_left;·simp only [Act.put,q1_,q2_,q3_,aG,aH];rfl
    refine bE (i:=24) (N:=some 41) (v:=?_) (a':=?_) (bs_ 52 33554431) rfl rfl (by kernel_rfl) (fun _ _ _ h=>h) (Or.inl ⟨by rfl,?_⟩) ?_ ?_
    rotate_left;·intro w';go_simp;with_reducible rfl
    rotate_left;·simp only [Act.put,q1_,q2_,q3_,aG,aH];rfl
    refine bE (i:=25) (N:=some 42) (v:=?_) (a':=?_) (bs_ 52 67108863) rfl rfl (by kernel_rfl) (fun _ _ _ h=>h) (Or.inl ⟨by rfl,?_⟩) ?_ ?_
    rotate_left;·intro w';go_simp;with_reducible rfl
    rotate_left;·simp only [Act.put,q1_,q2_,q3_,aG,aH];rfl
    refine bE (i:=26) (N:=some 43) (v:=?_) (a':=?_) (bs_ 52 134217727) rfl rfl (by kernel_rfl) (fun _ _ _ h=>h) (Or.inl ⟨by rfl,?_⟩) ?_ ?_
    rotate_left;·intro w';go_simp;with_reducible rfl
    rotate_left;·simp only [Act.put,q1_,q2_,q3_,aG,aH];rfl
    refine bE (i:=27) (N:=some 44) (v:=?_) (a':=?_) (bs_ 52 268435455) rfl rfl (by kernel_rfl) (fun _ _ _ h=>h) (Or.inl ⟨by rfl,?_⟩) ?_ ?_
    rotate_left;·intro w';go_simp;with_reducible rfl
    rotate_left;·simp only [Act.put,q1_,q2_,q3_,aG,aH];rfl
    refine bE (i:=28) (N:=some 45) (v:=?_) (a':=?_) (bs_ 52 536870911) rfl rfl (by kernel_rfl) (fun _ _ _ h=>h) (Or.inl ⟨by rfl,?_⟩) ?_ ?_
    rotate_left;·intro w';go_simp;with_reducible rfl
    rotate_left;·simp only [Act.put,q1_,q2_,q3_,aG,aH];rfl
    refine bE (i:=30) (N:=some 47) (v:=?_) (a':=?_) (bs_ 52 1610612735) rfl rfl (by kernel_rfl) (fun _ _ _ h=>h) (Or.inl ⟨by rfl,?_⟩) ?_ ?_
    rotate_left;·intro w';go_simp;with_reducible rfl
    rotate_left;·simp only [Act.put,q1_,q2_,q3_,aG,aH];rfl
    refine bE (i:=31) (N:=some 48) (v:=?_) (a':=?_) (bs_ 52 3758096383) rfl rfl (by kernel_rfl) (fun _ _ _ h=>h) (Or.inl ⟨by rfl,?_⟩) ?_ ?_
    rotate_left;·intro w';go_simp;with_reducible rfl
    rotate_left;·simp only [Act.put,q1_,q2_,q3_,aG,aH];rfl
    refine bE (i:=32) (N:=some 49) (v:=?_) (a':=?_) (bs_ 52 8053063679) rfl rfl (by kernel_rfl) (fun _ _ _ h=>h) (Or.inl ⟨by rfl,?_⟩) ?_ ?_
    rotate_left;·intro w';go_simp;with_reducible rfl
    rotate_left;·simp only [Act.put,q1_,q2_,q3_,aG,aH];rfl
    refine bE (i:=33) (N:=some 50) (v:=?_) (a':=?_) (bs_ 52 16642998271) rfl rfl (by kernel_rfl) (fun _ _ _ h=>h) (Or.inl ⟨by rfl,?_⟩) ?_ ?_
    rotate_left;·intro w';go_simp;with_reducible rfl
    rotate_left;·simp only [Act.put,q1_,q2_,q3_,aG,aH];rfl
    refine eC (i:=29) (N:=some 46) (v:=?_) (a':=?_) (bs_ 52 17179869183) rfl rfl (by kernel_rfl) (fun _ _ _ h=>h) (Or.inl ⟨by rfl,?_⟩) hHeld ?_ ?_
    rotate_left
    ·rintro w' ⟨s0,s1,s2,s3,s4,s5,s6,s7⟩
     go_simp;with_reducible rfl
    rotate_left;·simp only [Act.put,q1_,q2_,q3_,aG,aH];rfl
    refine eC (i:=34) (N:=some 51) (v:=?_) (a':=?_) (bs_ 52 34359738367) rfl rfl (by kernel_rfl) (fun _ _ _ h=>h) (Or.inl ⟨by rfl,?_⟩) hHeld ?_ ?_
    rotate_left
    ·rintro w' ⟨s0,s1,s2,s3,s4,s5,s6,s7⟩
     go_simp;with_reducible rfl
    rotate_left;·simp only [Act.put,q1_,q2_,q3_,aG,aH];rfl
    refine one_ (i:=35) (N:=some 52) (bs_ 52 68719476735) rfl rfl (by kernel_rfl) (by decide) (fun K hK=>?_);refine mM Tryd.func42 (by kernel_rfl) rfl #[.slice lZ (aE xs i).f3.length l9,.slice mE (aE ys i).f3.length mF] (by rfl) rfl rfl (by simp only [List.map_toArray,List.map_cons,List.map_nil];rfl) ?_
    with_reducible refine (IH.out (aE xs i).f3 (aE ys i).f3 _ lZ mE l9 mF (by have:=HSZ.out;omega) (Kd.cN BN.out (aJ (Below.refl wr.heap.size wr))) AF.out (Kd.cN AI.out (aJ (Below.refl wr.heap.size wr))) z8.out).mono ?_
    rintro E wa ⟨rfl,hb_⟩
    refine ⟨_,rfl,?_⟩;have Hwa:aC (Below wr.heap.size wr wa):=aC.mk (bQ (aJ (Below.refl wr.heap.size wr)) hb_);clear hb_;rw [UK.out];refine hK.out _ _ ⟨(HF.out _ Hwa.out).1,(HF.out _ Hwa.out).2.1,(HF.out _ Hwa.out).2.2.1,(HF.out _ Hwa.out).2.2.2.1,(HF.out _ Hwa.out).2.2.2.2.1,(HF.out _ Hwa.out).2.2.2.2.2.1,(HF.out _ Hwa.out).2.2.2.2.2.2.1,(HF.out _ Hwa.out).2.2.2.2.2.2.2⟩ (fun hHeld=>?_);clear hK K;refine aZ (a':=?_) ?_ ?_
    rotate_left
    ·show Act.put _ (some 52) _=_
     simp only [Act.put,q1_,q2_,q3_,aG,aH];rfl
    refine bE (i:=36) (N:=some 53) (v:=?_) (a':=?_) (bs_ 52 137438953471) rfl rfl (by kernel_rfl) (fun _ _ _ h=>h) (Or.inl ⟨by rfl,?_⟩) ?_ ?_
    rotate_left;·intro w';go_simp;with_reducible rfl
    rotate_left;·simp only [Act.put,q1_,q2_,q3_,aG,aH];rfl
    refine bE (i:=37) (N:=some 54) (v:=?_) (a':=?_) (bs_ 52 274877906943) rfl rfl (by kernel_rfl) (fun _ _ _ h=>h) (Or.inl ⟨by rfl,?_⟩) ?_ ?_
    rotate_left;·intro w';go_simp;with_reducible rfl
    rotate_left;·simp only [Act.put,q1_,q2_,q3_,aG,aH];rfl
    refine bE (i:=38) (N:=some 55) (v:=?_) (a':=?_) (bs_ 52 549755813887) rfl rfl (by kernel_rfl) (fun _ _ _ h=>h) (Or.inl ⟨by rfl,?_⟩) ?_ ?_
    rotate_left;·intro w';go_simp;with_reducible rfl
    rotate_left;·simp only [Act.put,q1_,q2_,q3_,aG,aH];rfl
    refine bE (i:=39) (N:=some 56) (v:=?_) (a':=?_) (bs_ 52 1099511627775) rfl rfl (by kernel_rfl) (fun _ _ _ h=>h) (Or.inl ⟨by rfl,?_⟩) ?_ ?_
    rotate_left;·intro w';go_simp;with_reducible rfl
    rotate_left;·simp only [Act.put,q1_,q2_,q3_,aG,aH];rfl
    refine bE (i:=40) (N:=some 57) (v:=?_) (a':=?_) (bs_ 52 2199023255551) rfl rfl (by kernel_rfl) (fun _ _ _ h=>h) (Or.inl ⟨by rfl,?_⟩) ?_ ?_
    rotate_left;·intro w';go_simp;with_reducible rfl
    rotate_left;·simp only [Act.put,q1_,q2_,q3_,aG,aH];rfl
    refine bE (i:=41) (N:=some 58) (v:=?_) (a':=?_) (bs_ 52 4398046511103) rfl rfl (by kernel_rfl) (fun _ _ _ h=>h) (Or.inl ⟨by rfl,?_⟩) ?_ ?_
    rotate_left;·intro w';go_simp;with_reducible rfl
    rotate_left;·simp only [Act.put,q1_,q2_,q3_,aG,aH];rfl
    refine bE (i:=42) (N:=some 59) (v:=?_) (a':=?_) (bs_ 52 8796093022207) rfl rfl (by kernel_rfl) (fun _ _ _ h=>h) (Or.inl ⟨by rfl,?_⟩) ?_ ?_
    rotate_left;·intro w';go_simp;with_reducible rfl
    rotate_left;·simp only [Act.put,q1_,q2_,q3_,aG,aH];rfl
    refine bE (i:=44) (N:=some 61) (v:=?_) (a':=?_) (bs_ 52 26388279066623) rfl rfl (by kernel_rfl) (fun _ _ _ h=>h) (Or.inl ⟨by rfl,?_⟩) ?_ ?_
    rotate_left;·intro w';go_simp;with_reducible rfl
    rotate_left;·simp only [Act.put,q1_,q2_,q3_,aG,aH];rfl
    refine bE (i:=45) (N:=some 62) (v:=?_) (a':=?_) (bs_ 52 61572651155455) rfl rfl (by kernel_rfl) (fun _ _ _ h=>h) (Or.inl ⟨by rfl,?_⟩) ?_ ?_
    rotate_left;·intro w';go_simp;with_reducible rfl
    rotate_left;·simp only [Act.put,q1_,q2_,q3_,aG,aH];rfl
    refine bE (i:=46) (N:=some 63) (v:=?_) (a':=?_) (bs_ 52 131941395333119) rfl rfl (by kernel_rfl) (fun _ _ _ h=>h) (Or.inl ⟨by rfl,?_⟩) ?_ ?_
    rotate_left;·intro w';go_simp;with_reducible rfl
    rotate_left;·simp only [Act.put,q1_,q2_,q3_,aG,aH];rfl
    refine bE (i:=47) (N:=some 64) (v:=?_) (a':=?_) (bs_ 52 272678883688447) rfl rfl (by kernel_rfl) (fun _ _ _ h=>h) (Or.inl ⟨by rfl,?_⟩) ?_ ?_
    rotate_left;·intro w';go_simp;with_reducible rfl
    rotate_left;·simp only [Act.put,q1_,q2_,q3_,aG,aH];rfl
    refine eC (i:=43) (N:=some 60) (v:=?_) (a':=?_) (bs_ 52 281474976710655) rfl rfl (by kernel_rfl) (fun _ _ _ h=>h) (Or.inl ⟨by rfl,?_⟩) hHeld ?_ ?_
    rotate_left
    ·rintro w' ⟨s0,s1,s2,s3,s4,s5,s6,s7⟩
     go_simp;with_reducible rfl
    rotate_left;·simp only [Act.put,q1_,q2_,q3_,aG,aH];rfl
    refine eC (i:=48) (N:=some 65) (v:=?_) (a':=?_) (bs_ 52 562949953421311) rfl rfl (by kernel_rfl) (fun _ _ _ h=>h) (Or.inl ⟨by rfl,?_⟩) hHeld ?_ ?_
    rotate_left
    ·rintro w' ⟨s0,s1,s2,s3,s4,s5,s6,s7⟩
     go_simp;with_reducible rfl
    rotate_left;·simp only [Act.put,q1_,q2_,q3_,aG,aH];rfl
    refine one_ (i:=49) (N:=some 66) (bs_ 52 1125899906842623) rfl rfl (by kernel_rfl) (by decide) (fun K hK=>?_);refine mM Tryd.func42 (by kernel_rfl) rfl #[.slice nA (aE xs i).f4.length nH,.slice nU (aE ys i).f4.length nS] (by rfl) rfl rfl (by simp only [List.map_toArray,List.map_cons,List.map_nil];rfl) ?_
    with_reducible refine (IH.out (aE xs i).f4 (aE ys i).f4 _ nA nU nH nS (by have:=HSZ.out;omega) (Kd.cN D8.out Hwa.out) DZ.out (Kd.cN DH.out Hwa.out) DT.out).mono ?_
    rintro E wb ⟨rfl,hb_⟩
    refine ⟨_,rfl,?_⟩;have Hwb:aC (Below wr.heap.size wr wb):=aC.mk (bQ Hwa.out hb_);clear hb_;refine hK.out _ _ ⟨(HF.out _ Hwb.out).1,(HF.out _ Hwb.out).2.1,(HF.out _ Hwb.out).2.2.1,(HF.out _ Hwb.out).2.2.2.1,(HF.out _ Hwb.out).2.2.2.2.1,(HF.out _ Hwb.out).2.2.2.2.2.1,(HF.out _ Hwb.out).2.2.2.2.2.2.1,(HF.out _ Hwb.out).2.2.2.2.2.2.2⟩ (fun hHeld=>?_);clear hK K;refine aZ (a':=?_) ?_ ?_
    rotate_left
    ·show Act.put _ (some 66) _=_
     simp only [Act.put,q1_,q2_,q3_,aG,aH];rfl
    refine bE (i:=50) (N:=some 67) (v:=?_) (a':=?_) (bs_ 52 2251799813685247) rfl rfl (by kernel_rfl) (fun _ _ _ h=>h) (Or.inl ⟨by rfl,?_⟩) ?_ ?_
    rotate_left;·intro w';go_simp;with_reducible rfl
    rotate_left;·simp only [Act.put,q1_,q2_,q3_,aG,aH];rfl
    refine bE (i:=51) (N:=some 68) (v:=?_) (a':=?_) (bs_ 52 4503599627370495) rfl rfl (by kernel_rfl) (fun _ _ _ h=>h) (Or.inl ⟨by rfl,?_⟩) ?_ ?_
    rotate_left;·intro w';go_simp;with_reducible rfl
    rotate_left;·simp only [Act.put,q1_,q2_,q3_,aG,aH];rfl
    refine mP (by kernel_rfl) ?_
    have hst':=hst;cases h4:sameL (aE xs i).f4 (aE ys i).f4 with
    |false=>
     rw [h4,Bool.false_and] at hst';have HST:=aC.mk hst';clear hst hst' h4;go_wp2_with fail
     go_ret
     exact ⟨by rw [HST.out];rfl,bQ HB.out Hwb.out⟩
    |true=>
     rw [h4,Bool.true_and] at hst';have HST:=aC.mk hst';clear hst hst' h4;go_wp2_with fail
     go_roundg k1
     case rel=>exact ⟨i+1,by rw [show wrap64 (i+1)=i+1 from w64 (by have:=HP.out;have:=HX.out.2.1;omega)],⟨by have:=HP.out;omega,by have:=HP.out;have:=HI.out;omega,by have:=HP.out;have:=HI.out;omega⟩,⟨by rw [show (i+1).toNat=i.toNat+1 by have:=HP.out;omega];exact HST.out.symm⟩,aC.mk (bQ HB.out Hwb.out)⟩
     case measure=>omega
theorem WC: ∀ (n:Nat) (xs ys:List St6) (w:World) (A B:Option Addr) (c d:Nat),szL xs<n→Kd.C k86 w A xs.length xs→xs.length≤c→Kd.C k86 w B ys.length ys→ys.length≤d→
  Calls Tryd.prog 42 #[.slice A xs.length c,.slice B ys.length d] w fun e w'=>e= .returned (.bool (sameL xs ys))∧Below w.heap.size w w'
 |0,_,_,_,_,_,_,_,h,_,_,_,_=>absurd h (by omega)
 |n+1,xs,ys,w,A,B,c,d,h,hx,hc,hy,hd=>arF (WC n) xs ys w A B c d h hx hc hy hd
def abL.f (l0 l1:List St6):Option Bool:=some (sameL l0 l1)
theorem abL.calls (A0:Option Addr) (c0:Nat) (l0:List St6) (A1:Option Addr) (c1:Nat) (l1:List St6) (r:Bool) (w:World) (eX:Kd.C k86 w A0 l0.length l0) (fC:l0.length≤c0) (jM:Kd.C k86 w A1 l1.length l1) (lK:l1.length≤c1) (h:abL.f l0 l1=some r):
  Calls Tryd.prog 42 #[.slice A0 l0.length c0,.slice A1 l1.length c1] w fun e w'=>e= .returned (.bool r)∧Below w.heap.size w w':=by
 obtain rfl:=Option.some.inj h;exact WC _ l0 l1 w A0 A1 c0 c1 (Nat.lt_succ_self _) eX fC jM lK
theorem ap2 (xs ys:List De6) (hl:xs.length≤9223372036854775806):EvS (fun k=>jU.f k xs ys) (eqAll sameD xs ys):=by
 have H: ∀ (d i:Nat),xs.length=ys.length→xs.length - i=d→i≤xs.length→EvS (fun k=>jU.l0 k xs ys (i:Int)) (eqAll sameD (xs.drop i) (ys.drop i)):=by
  intro d;induction d with
  |zero=>
   intro i he hd hi;rw [CR (by omega) (by omega)];refine EvS.succ ?_
   simp only [jU.l0];exact EvS.if_neg (by omega) (.some_ _)
  |succ d ih=>
   intro i he hd hi;rw [DQ z59 (by omega) (by omega)];refine EvS.succ ?_
   simp only [jU.l0];refine EvS.if_pos (by omega) (EvS.if_pos (by omega) (EvS.if_pos (by omega) ?_));have hx:dE xs (i:Int)=xs.getD i z59:=rfl;have hy:dE ys (i:Int)=ys.getD i z59:=rfl;rw [hx,hy];by_cases h:(xs.getD i z59).f0.toList=(ys.getD i z59).f0.toList
   ·refine EvS.if_pos h ?_
    rw [show sameD (xs.getD i z59) (ys.getD i z59)=true from beq_iff_eq.mpr h,Bool.true_and,show wrap64 ((i:Int)+1)=((i+1:Nat):Int) by rw [w64 (by omega)];omega];exact ih (i+1) he (by omega) (by omega)
   ·refine EvS.if_neg h ?_
    rw [show sameD (xs.getD i z59) (ys.getD i z59)=false from beq_eq_false_iff_ne.mpr h,Bool.false_and];exact .some_ _
 unfold jU.f
 by_cases h:xs.length=ys.length
 ·exact EvS.if_pos (by omega) (by simpa using H _ 0 h rfl (by omega))
 ·rw [BA h];exact EvS.if_neg (by omega) (.some_ _)
theorem acF {A0 A1:Option Addr} {c0 c1:Nat} {l0 l1:List De6} {w:World} (eX:Kd.C k59 w A0 l0.length l0) (fC:l0.length≤c0) (jM:Kd.C k59 w A1 l1.length l1) (lK:l1.length≤c1) (hl:l0.length≤9223372036854775806):
  Calls Tryd.prog 41 #[.slice A0 l0.length c0,.slice A1 l1.length c1] w fun e w'=>e= .returned (.bool (eqAll sameD l0 l1))∧Below w.heap.size w w':=by
 obtain ⟨k,hk⟩:=(ap2 l0 l1 hl).OR;refine (jU.calls k A0 c0 l0 A1 c1 l1 _ w eX fC jM lK hk).mono ?_
 rintro E w' ⟨rfl,nd,rfl⟩
 exact ⟨rfl,by (with_reducible apply aN);exact Below.refl _ _⟩
def D9.f (cD cH:List De6) (bK:List Fn6) (jI jJ:List De6) (e8:List Fn6):Option Bool:=if cD.length≤9223372036854775806∧cH.length≤9223372036854775806 then some (sameP cD cH bK jI jJ e8) else none
set_option maxRecDepth 100000 in
set_option maxHeartbeats 3200000 in
theorem D9.calls (gR:Option Addr) (gN:Nat) (cD:List De6) (gP:Option Addr) (gQ:Nat) (cH:List De6) (eY:Option Addr) (eO:Nat) (bK:List Fn6) (qZ:Option Addr) (rH:Nat) (jI:List De6) (rF:Option Addr) (rP:Nat) (jJ:List De6) (rI:Option Addr) (oX:Nat) (e8:List Fn6) (r:Bool) (w:World) (uF:Kd.C k59 w gR cD.length cD) (tU:cD.length≤gN) (sV:Kd.C k59 w gP cH.length cH) (u6:cH.length≤gQ) (nM:Kd.C k46 w eY bK.length bK) (oC:bK.length≤eO) (J1:Kd.C k59 w qZ jI.length jI) (FR:jI.length≤rH) (FT:Kd.C k59 w rF jJ.length jJ) (HU:jJ.length≤rP) (IS:Kd.C k46 w rI e8.length e8) (LN:e8.length≤oX) (h:D9.f cD cH bK jI jJ e8=some r):
  Calls Tryd.prog 19 #[.agg #[.slice gR cD.length gN,.slice gP cH.length gQ,.slice eY bK.length eO],.agg #[.slice qZ jI.length rH,.slice rF jJ.length rP,.slice rI e8.length oX]] w fun e w'=>e= .returned (.bool r)∧Below w.heap.size w w':=by
 unfold D9.f at h
 by_cases hlen:cD.length≤9223372036854775806∧cH.length≤9223372036854775806
 rotate_left;·rw [if_neg hlen] at h;cases h
 rw [if_pos hlen] at h;obtain rfl:=Option.some.inj h;have hu:=Tryd.underlying30;have WK:=Tryd.underlying46;have HLEN:=aC.mk hlen;have H0:=aC.mk (And.intro uF (And.intro tU (And.intro J1 FR)));have H1:=aC.mk (And.intro sV (And.intro u6 (And.intro FT HU)));have HX:=aC.mk nM;have HY:=aC.mk IS;have HS:=aC.mk (show sameP cD cH bK jI jJ e8=(eqAll sameD cD jI && (eqAll sameD cH jJ && eqAll sameF bK e8)) from rfl);clear h hlen uF tU sV u6 nM oC J1 FR FT HU IS LN;have cY:=aC.mk (aI (aI (Below.refl w.heap.size w) (.cells #[.slice gR cD.length gN,.slice gP cH.length gQ,.slice eY bK.length eO] 30)) (.cells #[.slice qZ jI.length rH,.slice rF jJ.length rP,.slice rI e8.length oX] 30));have kL:=aQ (gC w (.cells #[.slice gR cD.length gN,.slice gP cH.length gQ,.slice eY bK.length eO] 30)) (.cells #[.slice qZ jI.length rH,.slice rF jJ.length rP,.slice rI e8.length oX] 30);have jN:=gC (w.alloc (.cells #[.slice gR cD.length gN,.slice gP cH.length gQ,.slice eY bK.length eO] 30)) (.cells #[.slice qZ jI.length rH,.slice rF jJ.length rP,.slice rI e8.length oX] 30);have lC:(w.alloc (.cells #[.slice gR cD.length gN,.slice gP cH.length gQ,.slice eY bK.length eO] 30)).heap.size=w.heap.size+1:=by simp only [World.alloc,Array.size_push]
 rw [lC] at jN;clear lC;go_enter Tryd.func19,Tryd.ntmps19
 go_upto_region 1 with fail
 generalize (w.alloc (.cells #[.slice gR cD.length gN,.slice gP cH.length gQ,.slice eY bK.length eO] 30)).alloc (.cells #[.slice qZ jI.length rH,.slice rF jJ.length rP,.slice rI e8.length oX] 30)=W at cY kL jN ⊢;generalize w.heap.size+1=n2 at jN ⊢;generalize nK:w.heap.size=n1 at kL ⊢;have l8:=aC.mk nK;have k9:=aC.mk kL;have qX:=aC.mk jN;clear nK;have u0:=aD kL 0;have v0:=aD jN 0;clear kL jN;go_wp2_with fail
 refine (acF (Kd.cN H0.out.1 cY.out) H0.out.2.1 (Kd.cN H0.out.2.2.1 cY.out) H0.out.2.2.2 HLEN.out.1).mono ?_
 rintro E w2 ⟨rfl,bR⟩
 have cR:=aC.mk (bQ cY.out bR);have rU:=aC.mk (dB k9.out bR);have tZ:=aC.mk (dB qX.out bR);clear bR u0 v0 k9 qX;have u1:=aD rU.out 1;have v1:=aD tZ.out 1;have hs:=HS.out;cases hq:eqAll sameD cD jI with
 |false=>
  rw [hq,Bool.false_and] at hs;have oK:=aC.mk hs;clear hs hq;go_wp2_with fail
  go_ret
  exact ⟨by rw [oK.out];rfl,cR.out⟩
 |true=>
 rw [hq,Bool.true_and] at hs;have oK:=aC.mk hs;clear hs hq;go_wp2_with fail
 refine (acF (Kd.cN H1.out.1 cR.out) H1.out.2.1 (Kd.cN H1.out.2.2.1 cR.out) H1.out.2.2.2 HLEN.out.2).mono ?_
 rintro E w3 ⟨rfl,iV⟩
 have gF:=aC.mk (bQ cR.out iV);have GR:=aC.mk (dB rU.out iV);have abG:=aC.mk (dB tZ.out iV);clear iV u1 v1 rU tZ;have u2:=aD GR.out 2;have v2:=aD abG.out 2;have hs:=oK.out;cases hq:eqAll sameD cH jJ with
 |false=>
  rw [hq,Bool.false_and] at hs;have jH:=aC.mk hs;clear hs hq;go_wp2_with fail
  go_ret
  exact ⟨by rw [jH.out];rfl,gF.out⟩
 |true=>
 rw [hq,Bool.true_and] at hs;have jH:=aC.mk hs;clear hs hq;by_cases hl:bK.length=e8.length
 rotate_left
 ·have q:(((bK.length:Nat):Int) !=((e8.length:Nat):Int))=true:=bne_iff_ne.mpr (by omega);have HR:=aC.mk (jH.out.trans (BA (eq:=sameF) hl));clear hl;go_wp2_with fail
  go_ret
  exact ⟨by rw [HR.out];rfl,gF.out⟩
 have q:(((bK.length:Nat):Int) !=((e8.length:Nat):Int))=false:=bne_eq_false_iff_eq.mpr (by omega);have HL:=aC.mk hl;clear hl;go_wp2_with fail
 clear u2 v2;go_loopg [5] (bK.length+1) (fun kq v5 w'=>∃ i:Int,v5= .int .i64 i∧aC (0≤i∧i.toNat+kq=bK.length+1∧0<kq)∧aC (eqAll sameF (bK.drop i.toNat) (e8.drop i.toNat)=eqAll sameF bK e8)∧aC (Below w3.heap.size w3 w'))
 case atStart=>exact ⟨0,rfl,⟨by omega,by simp,by omega⟩,⟨by simp⟩,⟨Below.refl _ _⟩⟩
 case round=>
  obtain ⟨i,rfl,HI,HE,HB⟩:=hrel;have u2:=aD (dB GR.out HB.out) 2;have v2:=aD (dB abG.out HB.out) 2;cases gk with
  |zero=>exact absurd HI.out.2.2 (by omega)
  |succ k1=>
   by_cases hlt:i<((bK.length:Nat):Int)
   rotate_left
   ·have c1:decide (i<((bK.length:Nat):Int))=false:=decide_eq_false hlt;have HST:aC (sameP cD cH bK jI jJ e8=true):=aC.mk (by rw [jH.out,← HE.out];exact CR (by omega) (by have:=HL.out;omega));clear hlt;go_wp2_with fail
    go_ret
    exact ⟨by rw [HST.out];rfl,bQ gF.out HB.out⟩
   ·have p0:0≤i:=HI.out.1;have p1:=hlt;have p2:i<((e8.length:Nat):Int):=by have:=HL.out;omega
    have HP:=aC.mk (And.intro p0 (And.intro p1 p2));have c1:decide (i<((bK.length:Nat):Int))=true:=decide_eq_true hlt;have HBW:=aC.mk (bQ gF.out HB.out);obtain ⟨aad,nV,nO,ae_,j6,lT,lP,K5,I7⟩:=vJ HX.out i p0 p1;cases ae_
    have DF:=aC.mk K5;have CQ:=aC.mk (Kd.cN I7 HBW.out);clear K5 I7;replace j6:=(HBW.out.cell (World.block_lt_of_cell? w _ j6)).trans j6;replace lT:=(HBW.out.cell (World.block_lt_of_cell? w _ lT)).trans lT;replace lP:=(HBW.out.cell (World.block_lt_of_cell? w _ lP)).trans lP;obtain ⟨bad,oG,oI,be_,jX,lJ,lG,KD,H9⟩:=vJ HY.out i p0 p2;cases be_
    have DG:=aC.mk KD;have D3:=aC.mk (Kd.cN H9 HBW.out);clear KD H9;replace jX:=(HBW.out.cell (World.block_lt_of_cell? w _ jX)).trans jX;replace lJ:=(HBW.out.cell (World.block_lt_of_cell? w _ lJ)).trans lJ;replace lG:=(HBW.out.cell (World.block_lt_of_cell? w _ lG)).trans lG;have HF:aC (∀ w',Below wr.heap.size wr w'→w'.cell? ⟨n1,2,none⟩=some (.slice (some aad) bK.length eO)∧w'.cell? ⟨n2,2,none⟩=some (.slice (some bad) e8.length oX)∧w'.cell? (aad.add (i.toNat * 3))=some (.string (bF bK i).f0)∧w'.cell? ⟨(aad.add (i.toNat * 3)).block,(aad.add (i.toNat * 3)).off+2,none⟩=some (.slice nV (bF bK i).f2.length nO)∧w'.cell? (bad.add (i.toNat * 3))=some (.string (bF e8 i).f0)∧w'.cell? ⟨(bad.add (i.toNat * 3)).block,(bad.add (i.toNat * 3)).off+2,none⟩=some (.slice oG (bF e8 i).f2.length oI)):=aC.mk (fun w' hw=>⟨(hw.cell (World.block_lt_of_cell? wr _ u2)).trans u2,(hw.cell (World.block_lt_of_cell? wr _ v2)).trans v2,(hw.cell (World.block_lt_of_cell? wr _ j6)).trans j6,(hw.cell (World.block_lt_of_cell? wr _ lP)).trans lP,(hw.cell (World.block_lt_of_cell? wr _ jX)).trans jX,(hw.cell (World.block_lt_of_cell? wr _ lG)).trans lG⟩);replace p0:=eq_true p0;replace p1:=eq_true p1;replace p2:=eq_true p2;clear hlt j6 lT lP jX lJ lG;have hst:eqAll sameF bK e8=(sameF (bF bK i) (bF e8 i) && eqAll sameF (bK.drop (i.toNat+1)) (e8.drop (i.toNat+1))):=HE.out.symm.trans (DQ z46 (i:=i.toNat) (by have:=HP.out;omega) (by have:=HP.out;omega));have hsf:sameF (bF bK i) (bF e8 i)=((bF bK i).f0.toList==(bF e8 i).f0.toList && sameL (bF bK i).f2 (bF e8 i).f2):=rfl;rw [hsf] at hst;by_cases h2:(bF bK i).f0.toList=(bF e8 i).f0.toList
    rotate_left
    ·have q2:((bF bK i).f0.toList==(bF e8 i).f0.toList)=false:=beq_eq_false_iff_ne.mpr h2;have q3:((bF bK i).f0.toList !=(bF e8 i).f0.toList)=true:=bne_iff_ne.mpr h2;rw [q2,Bool.false_and,Bool.false_and] at hst;have HST:=aC.mk (jH.out.trans hst);clear hst hsf h2;obtain ⟨k0,ajA,k2,k3,k4,k5⟩:=HF.out wr (Below.refl _ _);go_wp2
     repeat (go_quiet (fail);try go_wp2)
     go_ret
     exact ⟨by rw [HST.out];rfl,by repeat (first|(with_reducible first|exact HBW.out|apply aN|apply aJ)|exact HBW.out)⟩
    have q2:((bF bK i).f0.toList==(bF e8 i).f0.toList)=true:=beq_iff_eq.mpr h2;have q3:((bF bK i).f0.toList !=(bF e8 i).f0.toList)=false:=bne_eq_false_iff_eq.mpr h2;rw [q2,Bool.true_and] at hst;clear hsf h2;go_upto_region 6 with fail
    refine mK (n:=29) (S:=fun w'=>w'.cell? ⟨n1,2,none⟩=some (.slice (some aad) bK.length eO)∧w'.cell? ⟨n2,2,none⟩=some (.slice (some bad) e8.length oX)∧w'.cell? (aad.add (i.toNat * 3))=some (.string (bF bK i).f0)∧w'.cell? ⟨(aad.add (i.toNat * 3)).block,(aad.add (i.toNat * 3)).off+2,none⟩=some (.slice nV (bF bK i).f2.length nO)∧w'.cell? (bad.add (i.toNat * 3))=some (.string (bF e8 i).f0)∧w'.cell? ⟨(bad.add (i.toNat * 3)).block,(bad.add (i.toNat * 3)).off+2,none⟩=some (.slice oG (bF e8 i).f2.length oI)) (ds:=[]) #[false,false,false,false,false,false,false,false,false,false,false,false,false,false,false,false,false,false,false,false,false,false,false,false,false,false,false,false,false] (by kernel_rfl) rfl rfl ⟨(HF.out _ (aJ (Below.refl wr.heap.size wr))).1,(HF.out _ (aJ (Below.refl wr.heap.size wr))).2.1,(HF.out _ (aJ (Below.refl wr.heap.size wr))).2.2.1,(HF.out _ (aJ (Below.refl wr.heap.size wr))).2.2.2.1,(HF.out _ (aJ (Below.refl wr.heap.size wr))).2.2.2.2.1,(HF.out _ (aJ (Below.refl wr.heap.size wr))).2.2.2.2.2⟩ (fun hHeld=>?_);refine bE (i:=0) (N:=some 36) (v:=?_) (a':=?_) (bs_ 29 1) rfl rfl (by kernel_rfl) (fun _ _ _ h=>h) (Or.inl ⟨by rfl,?_⟩) ?_ ?_
    rotate_left;·intro w';go_simp;with_reducible rfl
    rotate_left;·simp only [Act.put,q1_,q2_,q3_,aG,aH];rfl
    refine bE (i:=2) (N:=some 38) (v:=?_) (a':=?_) (bs_ 29 5) rfl rfl (by kernel_rfl) (fun _ _ _ h=>h) (Or.inl ⟨by rfl,?_⟩) ?_ ?_
    rotate_left;·intro w';go_simp;with_reducible rfl
    rotate_left;·simp only [Act.put,q1_,q2_,q3_,aG,aH];rfl
    refine bE (i:=6) (N:=some 42) (v:=?_) (a':=?_) (bs_ 29 69) rfl rfl (by kernel_rfl) (fun _ _ _ h=>h) (Or.inl ⟨by rfl,?_⟩) ?_ ?_
    rotate_left;·intro w';go_simp;with_reducible rfl
    rotate_left;·simp only [Act.put,q1_,q2_,q3_,aG,aH];rfl
    refine bE (i:=8) (N:=some 44) (v:=?_) (a':=?_) (bs_ 29 325) rfl rfl (by kernel_rfl) (fun _ _ _ h=>h) (Or.inl ⟨by rfl,?_⟩) ?_ ?_
    rotate_left;·intro w';go_simp;with_reducible rfl
    rotate_left;·simp only [Act.put,q1_,q2_,q3_,aG,aH];rfl
    refine eC (i:=1) (N:=some 37) (v:=?_) (a':=?_) (bs_ 29 327) rfl rfl (by kernel_rfl) (fun _ _ _ h=>h) (Or.inl ⟨by rfl,?_⟩) hHeld ?_ ?_
    rotate_left
    ·rintro w' ⟨s0,s1,s2,s3,s4,s5⟩
     go_simp;with_reducible rfl
    rotate_left;·simp only [Act.put,q1_,q2_,q3_,aG,aH];rfl
    refine bE (i:=3) (N:=some 39) (v:=?_) (a':=?_) (bs_ 29 335) rfl rfl (by kernel_rfl) (fun _ _ _ h=>h) (Or.inl ⟨by rfl,?_⟩) ?_ ?_
    rotate_left;·intro w';go_simp;with_reducible rfl
    rotate_left;·simp only [Act.put,q1_,q2_,q3_,aG,aH];rfl
    refine bE (i:=4) (N:=some 40) (v:=?_) (a':=?_) (bs_ 29 351) rfl rfl (by kernel_rfl) (fun _ _ _ h=>h) (Or.inl ⟨by rfl,?_⟩) ?_ ?_
    rotate_left;·intro w';go_simp;with_reducible rfl
    rotate_left;·simp only [Act.put,q1_,q2_,q3_,aG,aH];rfl
    refine eC (i:=5) (N:=some 41) (v:=?_) (a':=?_) (bs_ 29 383) rfl rfl (by kernel_rfl) (fun _ _ _ h=>h) (Or.inl ⟨by rfl,?_⟩) hHeld ?_ ?_
    rotate_left
    ·rintro w' ⟨s0,s1,s2,s3,s4,s5⟩
     go_simp;with_reducible rfl
    rotate_left;·simp only [Act.put,q1_,q2_,q3_,aG,aH];rfl
    refine eC (i:=7) (N:=some 43) (v:=?_) (a':=?_) (bs_ 29 511) rfl rfl (by kernel_rfl) (fun _ _ _ h=>h) (Or.inl ⟨by rfl,?_⟩) hHeld ?_ ?_
    rotate_left
    ·rintro w' ⟨s0,s1,s2,s3,s4,s5⟩
     go_simp;with_reducible rfl
    rotate_left;·simp only [Act.put,q1_,q2_,q3_,aG,aH];rfl
    refine bE (i:=9) (N:=some 45) (v:=?_) (a':=?_) (bs_ 29 1023) rfl rfl (by kernel_rfl) (fun _ _ _ h=>h) (Or.inl ⟨by rfl,?_⟩) ?_ ?_
    rotate_left;·intro w';go_simp;with_reducible rfl
    rotate_left;·simp only [Act.put,q1_,q2_,q3_,aG,aH];rfl
    refine bE (i:=10) (N:=some 46) (v:=?_) (a':=?_) (bs_ 29 2047) rfl rfl (by kernel_rfl) (fun _ _ _ h=>h) (Or.inl ⟨by rfl,?_⟩) ?_ ?_
    rotate_left;·intro w';go_simp;with_reducible rfl
    rotate_left;·simp only [Act.put,q1_,q2_,q3_,aG,aH];rfl
    refine eC (i:=11) (N:=some 47) (v:=?_) (a':=?_) (bs_ 29 4095) rfl rfl (by kernel_rfl) (fun _ _ _ h=>h) (Or.inl ⟨by rfl,?_⟩) hHeld ?_ ?_
    rotate_left
    ·rintro w' ⟨s0,s1,s2,s3,s4,s5⟩
     go_simp;with_reducible rfl
    rotate_left;·simp only [Act.put,q1_,q2_,q3_,aG,aH];rfl
    refine bE (i:=12) (N:=some 48) (v:=?_) (a':=?_) (bs_ 29 8191) rfl rfl (by kernel_rfl) (fun _ _ _ h=>h) (Or.inl ⟨by rfl,?_⟩) ?_ ?_
    rotate_left;·intro w';go_simp;with_reducible rfl
    rotate_left;·simp only [Act.put,q1_,q2_,q3_,aG,aH];rfl
    refine bE (i:=13) (N:=some 49) (v:=?_) (a':=?_) (bs_ 29 16383) rfl rfl (by kernel_rfl) (fun _ _ _ h=>h) (Or.inl ⟨by rfl,?_⟩) ?_ ?_
    rotate_left;·intro w';go_simp;with_reducible rfl
    rotate_left;·simp only [Act.put,q1_,q2_,q3_,aG,aH];rfl
    refine bE (i:=14) (N:=some 50) (v:=?_) (a':=?_) (bs_ 29 32767) rfl rfl (by kernel_rfl) (fun _ _ _ h=>h) (Or.inl ⟨by rfl,?_⟩) ?_ ?_
    rotate_left;·intro w';go_simp;with_reducible rfl
    rotate_left;·simp only [Act.put,q1_,q2_,q3_,aG,aH];rfl
    refine bE (i:=16) (N:=some 52) (v:=?_) (a':=?_) (bs_ 29 98303) rfl rfl (by kernel_rfl) (fun _ _ _ h=>h) (Or.inl ⟨by rfl,?_⟩) ?_ ?_
    rotate_left;·intro w';go_simp;with_reducible rfl
    rotate_left;·simp only [Act.put,q1_,q2_,q3_,aG,aH];rfl
    refine bE (i:=20) (N:=some 56) (v:=?_) (a':=?_) (bs_ 29 1146879) rfl rfl (by kernel_rfl) (fun _ _ _ h=>h) (Or.inl ⟨by rfl,?_⟩) ?_ ?_
    rotate_left;·intro w';go_simp;with_reducible rfl
    rotate_left;·simp only [Act.put,q1_,q2_,q3_,aG,aH];rfl
    refine bE (i:=22) (N:=some 58) (v:=?_) (a':=?_) (bs_ 29 5341183) rfl rfl (by kernel_rfl) (fun _ _ _ h=>h) (Or.inl ⟨by rfl,?_⟩) ?_ ?_
    rotate_left;·intro w';go_simp;with_reducible rfl
    rotate_left;·simp only [Act.put,q1_,q2_,q3_,aG,aH];rfl
    refine eC (i:=15) (N:=some 51) (v:=?_) (a':=?_) (bs_ 29 5373951) rfl rfl (by kernel_rfl) (fun _ _ _ h=>h) (Or.inl ⟨by rfl,?_⟩) hHeld ?_ ?_
    rotate_left
    ·rintro w' ⟨s0,s1,s2,s3,s4,s5⟩
     go_simp;with_reducible rfl
    rotate_left;·simp only [Act.put,q1_,q2_,q3_,aG,aH];rfl
    refine bE (i:=17) (N:=some 53) (v:=?_) (a':=?_) (bs_ 29 5505023) rfl rfl (by kernel_rfl) (fun _ _ _ h=>h) (Or.inl ⟨by rfl,?_⟩) ?_ ?_
    rotate_left;·intro w';go_simp;with_reducible rfl
    rotate_left;·simp only [Act.put,q1_,q2_,q3_,aG,aH];rfl
    refine bE (i:=18) (N:=some 54) (v:=?_) (a':=?_) (bs_ 29 5767167) rfl rfl (by kernel_rfl) (fun _ _ _ h=>h) (Or.inl ⟨by rfl,?_⟩) ?_ ?_
    rotate_left;·intro w';go_simp;with_reducible rfl
    rotate_left;·simp only [Act.put,q1_,q2_,q3_,aG,aH];rfl
    refine eC (i:=19) (N:=some 55) (v:=?_) (a':=?_) (bs_ 29 6291455) rfl rfl (by kernel_rfl) (fun _ _ _ h=>h) (Or.inl ⟨by rfl,?_⟩) hHeld ?_ ?_
    rotate_left
    ·rintro w' ⟨s0,s1,s2,s3,s4,s5⟩
     go_simp;with_reducible rfl
    rotate_left;·simp only [Act.put,q1_,q2_,q3_,aG,aH];rfl
    refine eC (i:=21) (N:=some 57) (v:=?_) (a':=?_) (bs_ 29 8388607) rfl rfl (by kernel_rfl) (fun _ _ _ h=>h) (Or.inl ⟨by rfl,?_⟩) hHeld ?_ ?_
    rotate_left
    ·rintro w' ⟨s0,s1,s2,s3,s4,s5⟩
     go_simp;with_reducible rfl
    rotate_left;·simp only [Act.put,q1_,q2_,q3_,aG,aH];rfl
    refine bE (i:=23) (N:=some 59) (v:=?_) (a':=?_) (bs_ 29 16777215) rfl rfl (by kernel_rfl) (fun _ _ _ h=>h) (Or.inl ⟨by rfl,?_⟩) ?_ ?_
    rotate_left;·intro w';go_simp;with_reducible rfl
    rotate_left;·simp only [Act.put,q1_,q2_,q3_,aG,aH];rfl
    refine bE (i:=24) (N:=some 60) (v:=?_) (a':=?_) (bs_ 29 33554431) rfl rfl (by kernel_rfl) (fun _ _ _ h=>h) (Or.inl ⟨by rfl,?_⟩) ?_ ?_
    rotate_left;·intro w';go_simp;with_reducible rfl
    rotate_left;·simp only [Act.put,q1_,q2_,q3_,aG,aH];rfl
    refine eC (i:=25) (N:=some 61) (v:=?_) (a':=?_) (bs_ 29 67108863) rfl rfl (by kernel_rfl) (fun _ _ _ h=>h) (Or.inl ⟨by rfl,?_⟩) hHeld ?_ ?_
    rotate_left
    ·rintro w' ⟨s0,s1,s2,s3,s4,s5⟩
     go_simp;with_reducible rfl
    rotate_left;·simp only [Act.put,q1_,q2_,q3_,aG,aH];rfl
    refine one_ (i:=26) (N:=some 62) (bs_ 29 134217727) rfl rfl (by kernel_rfl) (by decide) (fun K hK=>?_);refine mM Tryd.func42 (by kernel_rfl) rfl #[.slice nV (bF bK i).f2.length nO,.slice oG (bF e8 i).f2.length oI] (by rfl) rfl rfl (by simp only [List.map_toArray,List.map_cons,List.map_nil];rfl) ?_
    with_reducible refine (WC _ (bF bK i).f2 (bF e8 i).f2 _ nV oG nO oI (Nat.lt_succ_self _) (Kd.cN CQ.out (aJ (Below.refl wr.heap.size wr))) DF.out (Kd.cN D3.out (aJ (Below.refl wr.heap.size wr))) DG.out).mono ?_
    rintro E wa ⟨rfl,hb_⟩
    refine ⟨_,rfl,?_⟩;have Hwa:aC (Below wr.heap.size wr wa):=aC.mk (bQ (aJ (Below.refl wr.heap.size wr)) hb_);clear hb_;refine hK.out _ _ ⟨(HF.out _ Hwa.out).1,(HF.out _ Hwa.out).2.1,(HF.out _ Hwa.out).2.2.1,(HF.out _ Hwa.out).2.2.2.1,(HF.out _ Hwa.out).2.2.2.2.1,(HF.out _ Hwa.out).2.2.2.2.2⟩ (fun hHeld=>?_);clear hK K;refine aZ (a':=?_) ?_ ?_
    rotate_left
    ·show Act.put _ (some 62) _=_
     simp only [Act.put,q1_,q2_,q3_,aG,aH];rfl
    refine bE (i:=27) (N:=some 63) (v:=?_) (a':=?_) (bs_ 29 268435455) rfl rfl (by kernel_rfl) (fun _ _ _ h=>h) (Or.inl ⟨by rfl,?_⟩) ?_ ?_
    rotate_left;·intro w';go_simp;with_reducible rfl
    rotate_left;·simp only [Act.put,q1_,q2_,q3_,aG,aH];rfl
    refine bE (i:=28) (N:=some 64) (v:=?_) (a':=?_) (bs_ 29 536870911) rfl rfl (by kernel_rfl) (fun _ _ _ h=>h) (Or.inl ⟨by rfl,?_⟩) ?_ ?_
    rotate_left;·intro w';go_simp;with_reducible rfl
    rotate_left;·simp only [Act.put,q1_,q2_,q3_,aG,aH];rfl
    refine mP (by kernel_rfl) ?_
    have hst':=hst;cases h4:sameL (bF bK i).f2 (bF e8 i).f2 with
    |false=>
     rw [h4,Bool.false_and] at hst';have HST:=aC.mk (jH.out.trans hst');clear hst hst' h4;go_wp2_with fail
     go_ret
     exact ⟨by rw [HST.out];rfl,bQ HBW.out Hwa.out⟩
    |true=>
     rw [h4,Bool.true_and] at hst';have HST:=aC.mk hst';clear hst hst' h4;go_wp2_with fail
     go_roundg k1
     case rel=>exact ⟨i+1,by rw [show wrap64 (i+1)=i+1 from w64 (by have:=HP.out;have:=HX.out.2.1;omega)],⟨by have:=HP.out;omega,by have:=HP.out;have:=HI.out;omega,by have:=HP.out;have:=HI.out;omega⟩,⟨by rw [show (i+1).toNat=i.toNat+1 by have:=HP.out;omega];exact HST.out.symm⟩,aC.mk (bQ HB.out Hwa.out)⟩
     case measure=>omega
end Go.Proofs.YtkmafndljelopaaDoor.Q
