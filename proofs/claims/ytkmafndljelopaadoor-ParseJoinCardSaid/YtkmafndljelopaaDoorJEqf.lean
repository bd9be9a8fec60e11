/- slices.EqualFunc at the program's types, by hand. Written by wip/gen_eqf.py. -/
import Derived.Test.YtkmafndljelopaaDoorJPar1
namespace Go.Proofs.YtkmafndljelopaaDoor.Q
open Go.RowKit Go.Proofs.YtkmafndljelopaaDoorW.PrintWords Go.Proofs.YtkmafndljelopaaDoorW.PrintLast Go.Proofs.YtkmafndljelopaaDoorW.PrintMore Go.Proofs.YtkmafndljelopaaDoor.Lx
set_option linter.unusedVariables false
set_option linter.unusedSimpArgs false
def eqAll {α:Type} (eq:α→α→Bool):List α→List α→Bool
 |[],[]=>true
 |a::r,b::s=>eq a b && eqAll eq r s
 |_,_=>false
theorem BA {α:Type} {eq:α→α→Bool} : ∀ {xs ys:List α},xs.length≠ys.length→eqAll eq xs ys=false
 |[],[],h=>absurd rfl h
 |[],_::_,_=>rfl
 |_::_,[],_=>rfl
 |a::r,b::s,h=>by
  have ih:=BA (eq:=eq) (xs:=r) (ys:=s) (by simpa using h);simp [eqAll,ih]
theorem DQ {α:Type} {eq:α→α→Bool} {xs ys:List α} (d:α) {i:Nat} (h:i<xs.length) (h2:i<ys.length):eqAll eq (xs.drop i) (ys.drop i)=(eq (xs.getD i d) (ys.getD i d) && eqAll eq (xs.drop (i+1)) (ys.drop (i+1))):=by
 rw [List.drop_eq_getElem_cons h,List.drop_eq_getElem_cons h2];simp [eqAll,List.getD_eq_getElem?_getD,List.getElem?_eq_getElem h,List.getElem?_eq_getElem h2]
theorem CR {α:Type} {eq:α→α→Bool} {xs ys:List α} {i:Nat} (h:xs.length≤i) (h2:ys.length≤i):eqAll eq (xs.drop i) (ys.drop i)=true:=by
 rw [List.drop_of_length_le h,List.drop_of_length_le h2];rfl
theorem BW {α:Type} {xs:List α} {d:α} {i:Nat} (h:i<xs.length):xs.getD i d∈xs:=by
 simp [List.getD_eq_getElem?_getD,List.getElem?_eq_getElem h]
set_option maxRecDepth 100000 in
set_option maxHeartbeats 1600000 in
theorem aa8 (eq:S59→S59→Bool) {w:World} {A B:Option Addr} {c d:Nat} {xs ys:List S59} (hx:Kd.C k59 w A xs.length xs) (hc:xs.length≤c) (hy:Kd.C k59 w B ys.length ys) (hd:ys.length≤d)
  (hF: ∀ x∈xs,∀ y∈ys,∀ W cx cy,Below w.heap.size w W→k59.K W x cx→k59.K W y cy→Calls Tryd.prog 52 #[.agg cx.toArray,.agg cy.toArray] W fun e w'=>e= .returned (.bool (eq x y))∧Below W.heap.size W w'):
  Calls Tryd.prog 51 #[.slice A xs.length c,.slice B ys.length d,.func (.func 52) #[] #[]] w fun e w'=>e= .returned (.bool (eqAll eq xs ys))∧Below w.heap.size w w':=by
 have hu:=Tryd.underlying59;have HF:=aC.mk hF;have HX:=aC.mk hx;have HY:=aC.mk hy;clear hF hx hy hc hd;by_cases hl:xs.length=ys.length
 rotate_left
 ·have q:(((xs.length:Nat):Int) !=((ys.length:Nat):Int))=true:=bne_iff_ne.mpr (by omega);have HR:=aC.mk (BA (eq:=eq) hl);clear hl;go_enter Tryd.func51,Tryd.ntmps51
  go_wp2_with fail
  go_ret
  exact ⟨by rw [HR.out];rfl,Below.refl _ _⟩
 have q:(((xs.length:Nat):Int) !=((ys.length:Nat):Int))=false:=bne_eq_false_iff_eq.mpr (by omega);have HL:=aC.mk hl;clear hl;go_enter Tryd.func51,Tryd.ntmps51
 go_wp2_with fail
 go_loopg [17] (xs.length+1) (fun kq v17 w'=>∃ i:Int,v17= .int .i64 i∧aC (0≤i∧i.toNat+kq=xs.length+1∧0<kq)∧aC (eqAll eq (xs.drop i.toNat) (ys.drop i.toNat)=eqAll eq xs ys)∧aC (Below w.heap.size w w'))
 case atStart=>exact ⟨0,rfl,⟨by omega,by simp,by omega⟩,⟨by simp⟩,⟨Below.refl _ _⟩⟩
 case round=>
  obtain ⟨i,rfl,HI,HE,HB⟩:=hrel;cases gk with
  |zero=>exact absurd HI.out.2.2 (by omega)
  |succ k1=>
   by_cases hlt:i<((xs.length:Nat):Int)
   ·have p0:0≤i:=HI.out.1;have p1:=hlt;have p2:i<((ys.length:Nat):Int):=by have:=HL.out;omega
    have HP:=aC.mk (And.intro p0 (And.intro p1 p2));have c1:decide (i<((xs.length:Nat):Int))=true:=decide_eq_true hlt;obtain ⟨aad,ae_,j6,lT⟩:=wD HX.out i p0 p1;cases ae_
    have HM:=(HB.out.cell (World.block_lt_of_cell? w _ j6)).trans j6;have J9:=(HB.out.cell (World.block_lt_of_cell? w _ lT)).trans lT;clear j6 lT;obtain ⟨bad,be_,jX,lJ⟩:=wD HY.out i p0 p2;cases be_
    have uZ:=(HB.out.cell (World.block_lt_of_cell? w _ jX)).trans jX;have uB:=(HB.out.cell (World.block_lt_of_cell? w _ lJ)).trans lJ;clear jX lJ;replace p0:=eq_true p0;replace p1:=eq_true p1;replace p2:=eq_true p2;clear hlt;go_upto_region 6 with fail
    have cY:=aC.mk (aI HB.out (.cells #[.string (dE xs i).f0,.int .i64 (dE xs i).f1] 59));have pM:=aC.mk (aI (Below.refl wr.heap.size wr) (.cells #[.string (dE xs i).f0,.int .i64 (dE xs i).f1] 59));have j7:=aC.mk (gC wr (.cells #[.string (dE xs i).f0,.int .i64 (dE xs i).f1] 59));have yX:=(pM.out.cell (World.block_lt_of_cell? wr _ uZ)).trans uZ;have yT:=(pM.out.cell (World.block_lt_of_cell? wr _ uB)).trans uB;generalize wr.alloc (.cells #[.string (dE xs i).f0,.int .i64 (dE xs i).f1] 59)=w1 at cY pM j7 yX yT ⊢;generalize wr.heap.size=n1 at j7 ⊢;clear HM J9 uZ uB;go_upto_region 7 with fail
    have cR:=aC.mk (aI cY.out (.cells #[.string (dE ys i).f0,.int .i64 (dE ys i).f1] 59));have iT:=gC w1 (.cells #[.string (dE ys i).f0,.int .i64 (dE ys i).f1] 59);have nL:=aQ j7.out (.cells #[.string (dE ys i).f0,.int .i64 (dE ys i).f1] 59);generalize w1.alloc (.cells #[.string (dE ys i).f0,.int .i64 (dE ys i).f1] 59)=w2 at cR iT nL ⊢;generalize w1.heap.size=n2 at iT ⊢;have u0:=aD nL 0;have v0:=aD iT 0;have u1:=aD nL 1;have v1:=aD iT 1;clear j7 iT nL yX yT;go_wp2_with fail
    refine (HF.out (dE xs i) (BW (by have:=HP.out;omega)) (dE ys i) (BW (by have:=HP.out;omega)) _ [.string (dE xs i).f0,.int .i64 (dE xs i).f1] [.string (dE ys i).f0,.int .i64 (dE ys i).f1] cR.out (acC _ (dE xs i)) (acC _ (dE ys i))).mono ?_
    rintro E w3 ⟨rfl,iV⟩
    have gF:=aC.mk (bQ cR.out iV);clear iV u0 v0 u1 v1;have hst:=DQ (eq:=eq) (xs:=xs) (ys:=ys) z59 (i:=i.toNat) (by have:=HP.out;omega) (by have:=HP.out;omega);rw [HE.out] at hst;have l7:eqAll eq xs ys=(eq (dE xs i) (dE ys i) && eqAll eq (xs.drop (i.toNat+1)) (ys.drop (i.toNat+1))):=hst;cases hq:eq (dE xs i) (dE ys i) with
    |false=>
     rw [hq,Bool.false_and] at l7;have HST:=aC.mk l7;clear hst l7 hq;go_wp2_with fail
     go_ret
     exact ⟨by rw [HST.out];rfl,gF.out⟩
    |true=>
     rw [hq,Bool.true_and] at l7;have HST:=aC.mk l7;clear hst l7 hq;go_wp2_with fail
     go_roundg k1
     case rel=>exact ⟨i+1,by rw [show wrap64 (i+1)=i+1 from w64 (by have:=HP.out;have:=HX.out.2.1;omega)],⟨by have:=HP.out;omega,by have:=HP.out;have:=HI.out;omega,by have:=HP.out;have:=HI.out;omega⟩,⟨by rw [show (i+1).toNat=i.toNat+1 by have:=HP.out;omega];exact HST.out.symm⟩,gF⟩
     case measure=>omega
   ·have c1:decide (i<((xs.length:Nat):Int))=false:=decide_eq_false hlt;have HST:aC (eqAll eq xs ys=true):=aC.mk (by rw [← HE.out];exact CR (by omega) (by have:=HL.out;omega));clear hlt;go_wp2_with fail
    go_ret
    exact ⟨by rw [HST.out];rfl,HB.out⟩
set_option maxRecDepth 100000 in
set_option maxHeartbeats 1600000 in
theorem aoH (eq:S46→S46→Bool) {w:World} {A B:Option Addr} {c d:Nat} {xs ys:List S46} (hx:Kd.C k46 w A xs.length xs) (hc:xs.length≤c) (hy:Kd.C k46 w B ys.length ys) (hd:ys.length≤d)
  (hF: ∀ x∈xs,∀ y∈ys,∀ W cx cy,Below w.heap.size w W→k46.K W x cx→k46.K W y cy→Calls Tryd.prog 54 #[.agg cx.toArray,.agg cy.toArray] W fun e w'=>e= .returned (.bool (eq x y))∧Below W.heap.size W w'):
  Calls Tryd.prog 53 #[.slice A xs.length c,.slice B ys.length d,.func (.func 54) #[] #[]] w fun e w'=>e= .returned (.bool (eqAll eq xs ys))∧Below w.heap.size w w':=by
 have hu:=Tryd.underlying46;have HF:=aC.mk hF;have HX:=aC.mk hx;have HY:=aC.mk hy;clear hF hx hy hc hd;by_cases hl:xs.length=ys.length
 rotate_left
 ·have q:(((xs.length:Nat):Int) !=((ys.length:Nat):Int))=true:=bne_iff_ne.mpr (by omega);have HR:=aC.mk (BA (eq:=eq) hl);clear hl;go_enter Tryd.func53,Tryd.ntmps53
  go_wp2_with fail
  go_ret
  exact ⟨by rw [HR.out];rfl,Below.refl _ _⟩
 have q:(((xs.length:Nat):Int) !=((ys.length:Nat):Int))=false:=bne_eq_false_iff_eq.mpr (by omega);have HL:=aC.mk hl;clear hl;go_enter Tryd.func53,Tryd.ntmps53
 go_wp2_with fail
 go_loopg [17] (xs.length+1) (fun kq v17 w'=>∃ i:Int,v17= .int .i64 i∧aC (0≤i∧i.toNat+kq=xs.length+1∧0<kq)∧aC (eqAll eq (xs.drop i.toNat) (ys.drop i.toNat)=eqAll eq xs ys)∧aC (Below w.heap.size w w'))
 case atStart=>exact ⟨0,rfl,⟨by omega,by simp,by omega⟩,⟨by simp⟩,⟨Below.refl _ _⟩⟩
 case round=>
  obtain ⟨i,rfl,HI,HE,HB⟩:=hrel;cases gk with
  |zero=>exact absurd HI.out.2.2 (by omega)
  |succ k1=>
   by_cases hlt:i<((xs.length:Nat):Int)
   ·have p0:0≤i:=HI.out.1;have p1:=hlt;have p2:i<((ys.length:Nat):Int):=by have:=HL.out;omega
    have HP:=aC.mk (And.intro p0 (And.intro p1 p2));have c1:decide (i<((xs.length:Nat):Int))=true:=decide_eq_true hlt;obtain ⟨aad,nV,nO,ae_,j6,lT,lP,K5,I7⟩:=vJ HX.out i p0 p1;cases ae_
    have HM:=(HB.out.cell (World.block_lt_of_cell? w _ j6)).trans j6;have J9:=(HB.out.cell (World.block_lt_of_cell? w _ lT)).trans lT;have WV:=(HB.out.cell (World.block_lt_of_cell? w _ lP)).trans lP;have DF:=aC.mk K5;have CQ:=aC.mk I7;clear K5 I7;clear j6 lT lP;obtain ⟨bad,oG,oI,be_,jX,lJ,lG,KD,H9⟩:=vJ HY.out i p0 p2;cases be_
    have uZ:=(HB.out.cell (World.block_lt_of_cell? w _ jX)).trans jX;have uB:=(HB.out.cell (World.block_lt_of_cell? w _ lJ)).trans lJ;have BM:=(HB.out.cell (World.block_lt_of_cell? w _ lG)).trans lG;have DG:=aC.mk KD;have D3:=aC.mk H9;clear KD H9;clear jX lJ lG;replace p0:=eq_true p0;replace p1:=eq_true p1;replace p2:=eq_true p2;clear hlt;go_upto_region 6 with fail
    have cY:=aC.mk (aI HB.out (.cells #[.string (bF xs i).f0,.int .i64 (bF xs i).f1,.slice nV (bF xs i).f2.length nO] 46));have pM:=aC.mk (aI (Below.refl wr.heap.size wr) (.cells #[.string (bF xs i).f0,.int .i64 (bF xs i).f1,.slice nV (bF xs i).f2.length nO] 46));have j7:=aC.mk (gC wr (.cells #[.string (bF xs i).f0,.int .i64 (bF xs i).f1,.slice nV (bF xs i).f2.length nO] 46));have yX:=(pM.out.cell (World.block_lt_of_cell? wr _ uZ)).trans uZ;have yT:=(pM.out.cell (World.block_lt_of_cell? wr _ uB)).trans uB;have I4:=(pM.out.cell (World.block_lt_of_cell? wr _ BM)).trans BM;generalize wr.alloc (.cells #[.string (bF xs i).f0,.int .i64 (bF xs i).f1,.slice nV (bF xs i).f2.length nO] 46)=w1 at cY pM j7 yX yT I4 ⊢;generalize wr.heap.size=n1 at j7 ⊢;clear HM J9 WV uZ uB BM;go_upto_region 7 with fail
    have cR:=aC.mk (aI cY.out (.cells #[.string (bF ys i).f0,.int .i64 (bF ys i).f1,.slice oG (bF ys i).f2.length oI] 46));have iT:=gC w1 (.cells #[.string (bF ys i).f0,.int .i64 (bF ys i).f1,.slice oG (bF ys i).f2.length oI] 46);have nL:=aQ j7.out (.cells #[.string (bF ys i).f0,.int .i64 (bF ys i).f1,.slice oG (bF ys i).f2.length oI] 46);generalize w1.alloc (.cells #[.string (bF ys i).f0,.int .i64 (bF ys i).f1,.slice oG (bF ys i).f2.length oI] 46)=w2 at cR iT nL ⊢;generalize w1.heap.size=n2 at iT ⊢;have u0:=aD nL 0;have v0:=aD iT 0;have u1:=aD nL 1;have v1:=aD iT 1;have u2:=aD nL 2;have v2:=aD iT 2;clear j7 iT nL yX yT I4;go_wp2_with fail
    refine (HF.out (bF xs i) (BW (by have:=HP.out;omega)) (bF ys i) (BW (by have:=HP.out;omega)) _ [.string (bF xs i).f0,.int .i64 (bF xs i).f1,.slice nV (bF xs i).f2.length nO] [.string (bF ys i).f0,.int .i64 (bF ys i).f1,.slice oG (bF ys i).f2.length oI] cR.out (S8 _ (bF xs i) DF.out (Kd.cN CQ.out cR.out)) (S8 _ (bF ys i) DG.out (Kd.cN D3.out cR.out))).mono ?_
    rintro E w3 ⟨rfl,iV⟩
    have gF:=aC.mk (bQ cR.out iV);clear iV u0 v0 u1 v1 u2 v2;have hst:=DQ (eq:=eq) (xs:=xs) (ys:=ys) z46 (i:=i.toNat) (by have:=HP.out;omega) (by have:=HP.out;omega);rw [HE.out] at hst;have l7:eqAll eq xs ys=(eq (bF xs i) (bF ys i) && eqAll eq (xs.drop (i.toNat+1)) (ys.drop (i.toNat+1))):=hst;cases hq:eq (bF xs i) (bF ys i) with
    |false=>
     rw [hq,Bool.false_and] at l7;have HST:=aC.mk l7;clear hst l7 hq;go_wp2_with fail
     go_ret
     exact ⟨by rw [HST.out];rfl,gF.out⟩
    |true=>
     rw [hq,Bool.true_and] at l7;have HST:=aC.mk l7;clear hst l7 hq;go_wp2_with fail
     go_roundg k1
     case rel=>exact ⟨i+1,by rw [show wrap64 (i+1)=i+1 from w64 (by have:=HP.out;have:=HX.out.2.1;omega)],⟨by have:=HP.out;omega,by have:=HP.out;have:=HI.out;omega,by have:=HP.out;have:=HI.out;omega⟩,⟨by rw [show (i+1).toNat=i.toNat+1 by have:=HP.out;omega];exact HST.out.symm⟩,gF⟩
     case measure=>omega
   ·have c1:decide (i<((xs.length:Nat):Int))=false:=decide_eq_false hlt;have HST:aC (eqAll eq xs ys=true):=aC.mk (by rw [← HE.out];exact CR (by omega) (by have:=HL.out;omega));clear hlt;go_wp2_with fail
    go_ret
    exact ⟨by rw [HST.out];rfl,HB.out⟩
set_option maxRecDepth 100000 in
set_option maxHeartbeats 1600000 in
theorem alV (eq:S86→S86→Bool) {w:World} {A B:Option Addr} {c d:Nat} {xs ys:List S86} (hx:Kd.C k86 w A xs.length xs) (hc:xs.length≤c) (hy:Kd.C k86 w B ys.length ys) (hd:ys.length≤d)
  (hF: ∀ x∈xs,∀ y∈ys,∀ W cx cy,Below w.heap.size w W→k86.K W x cx→k86.K W y cy→Calls Tryd.prog 79 #[.agg cx.toArray,.agg cy.toArray] W fun e w'=>e= .returned (.bool (eq x y))∧Below W.heap.size W w'):
  Calls Tryd.prog 78 #[.slice A xs.length c,.slice B ys.length d,.func (.func 79) #[] #[]] w fun e w'=>e= .returned (.bool (eqAll eq xs ys))∧Below w.heap.size w w':=by
 have hu:=Tryd.underlying86;have HF:=aC.mk hF;have HX:=aC.mk hx;have HY:=aC.mk hy;clear hF hx hy hc hd;by_cases hl:xs.length=ys.length
 rotate_left
 ·have q:(((xs.length:Nat):Int) !=((ys.length:Nat):Int))=true:=bne_iff_ne.mpr (by omega);have HR:=aC.mk (BA (eq:=eq) hl);clear hl;go_enter Tryd.func78,Tryd.ntmps78
  go_wp2_with fail
  go_ret
  exact ⟨by rw [HR.out];rfl,Below.refl _ _⟩
 have q:(((xs.length:Nat):Int) !=((ys.length:Nat):Int))=false:=bne_eq_false_iff_eq.mpr (by omega);have HL:=aC.mk hl;clear hl;go_enter Tryd.func78,Tryd.ntmps78
 go_wp2_with fail
 go_loopg [17] (xs.length+1) (fun kq v17 w'=>∃ i:Int,v17= .int .i64 i∧aC (0≤i∧i.toNat+kq=xs.length+1∧0<kq)∧aC (eqAll eq (xs.drop i.toNat) (ys.drop i.toNat)=eqAll eq xs ys)∧aC (Below w.heap.size w w'))
 case atStart=>exact ⟨0,rfl,⟨by omega,by simp,by omega⟩,⟨by simp⟩,⟨Below.refl _ _⟩⟩
 case round=>
  obtain ⟨i,rfl,HI,HE,HB⟩:=hrel;cases gk with
  |zero=>exact absurd HI.out.2.2 (by omega)
  |succ k1=>
   by_cases hlt:i<((xs.length:Nat):Int)
   ·have p0:0≤i:=HI.out.1;have p1:=hlt;have p2:i<((ys.length:Nat):Int):=by have:=HL.out;omega
    have HP:=aC.mk (And.intro p0 (And.intro p1 p2));have c1:decide (i<((xs.length:Nat):Int))=true:=decide_eq_true hlt;obtain ⟨aad,lZ,l9,nA,nH,ae_,j6,lT,lP,vS,vU,KS,GJ,LD,GX⟩:=kN HX.out i p0 p1;cases ae_
    have HM:=(HB.out.cell (World.block_lt_of_cell? w _ j6)).trans j6;have J9:=(HB.out.cell (World.block_lt_of_cell? w _ lT)).trans lT;have WV:=(HB.out.cell (World.block_lt_of_cell? w _ lP)).trans lP;have avO:=(HB.out.cell (World.block_lt_of_cell? w _ vS)).trans vS;have av5:=(HB.out.cell (World.block_lt_of_cell? w _ vU)).trans vU;have AF:=aC.mk KS;have BN:=aC.mk GJ;clear KS GJ;have DZ:=aC.mk LD;have D8:=aC.mk GX;clear LD GX;clear j6 lT lP vS vU;obtain ⟨bad,mE,mF,nU,nS,be_,jX,lJ,lG,vZ,vV,GZ,FN,GG,KK⟩:=kN HY.out i p0 p2;cases be_
    have uZ:=(HB.out.cell (World.block_lt_of_cell? w _ jX)).trans jX;have uB:=(HB.out.cell (World.block_lt_of_cell? w _ lJ)).trans lJ;have BM:=(HB.out.cell (World.block_lt_of_cell? w _ lG)).trans lG;have WN:=(HB.out.cell (World.block_lt_of_cell? w _ vZ)).trans vZ;have SR:=(HB.out.cell (World.block_lt_of_cell? w _ vV)).trans vV;have z8:=aC.mk GZ;have AI:=aC.mk FN;clear GZ FN;have DT:=aC.mk GG;have DH:=aC.mk KK;clear GG KK;clear jX lJ lG vZ vV;replace p0:=eq_true p0;replace p1:=eq_true p1;replace p2:=eq_true p2;clear hlt;go_upto_region 6 with fail
    have cY:=aC.mk (aI HB.out (.cells #[.int .i64 (aE xs i).f0,.int .i64 (aE xs i).f1,.string (aE xs i).f2,.slice lZ (aE xs i).f3.length l9,.slice nA (aE xs i).f4.length nH] 86));have pM:=aC.mk (aI (Below.refl wr.heap.size wr) (.cells #[.int .i64 (aE xs i).f0,.int .i64 (aE xs i).f1,.string (aE xs i).f2,.slice lZ (aE xs i).f3.length l9,.slice nA (aE xs i).f4.length nH] 86));have j7:=aC.mk (gC wr (.cells #[.int .i64 (aE xs i).f0,.int .i64 (aE xs i).f1,.string (aE xs i).f2,.slice lZ (aE xs i).f3.length l9,.slice nA (aE xs i).f4.length nH] 86));have yX:=(pM.out.cell (World.block_lt_of_cell? wr _ uZ)).trans uZ;have yT:=(pM.out.cell (World.block_lt_of_cell? wr _ uB)).trans uB;have I4:=(pM.out.cell (World.block_lt_of_cell? wr _ BM)).trans BM;have ae2:=(pM.out.cell (World.block_lt_of_cell? wr _ WN)).trans WN;have acZ:=(pM.out.cell (World.block_lt_of_cell? wr _ SR)).trans SR;generalize wr.alloc (.cells #[.int .i64 (aE xs i).f0,.int .i64 (aE xs i).f1,.string (aE xs i).f2,.slice lZ (aE xs i).f3.length l9,.slice nA (aE xs i).f4.length nH] 86)=w1 at cY pM j7 yX yT I4 ae2 acZ ⊢;generalize wr.heap.size=n1 at j7 ⊢;clear HM J9 WV avO av5 uZ uB BM WN SR;go_upto_region 7 with fail
    have cR:=aC.mk (aI cY.out (.cells #[.int .i64 (aE ys i).f0,.int .i64 (aE ys i).f1,.string (aE ys i).f2,.slice mE (aE ys i).f3.length mF,.slice nU (aE ys i).f4.length nS] 86));have iT:=gC w1 (.cells #[.int .i64 (aE ys i).f0,.int .i64 (aE ys i).f1,.string (aE ys i).f2,.slice mE (aE ys i).f3.length mF,.slice nU (aE ys i).f4.length nS] 86);have nL:=aQ j7.out (.cells #[.int .i64 (aE ys i).f0,.int .i64 (aE ys i).f1,.string (aE ys i).f2,.slice mE (aE ys i).f3.length mF,.slice nU (aE ys i).f4.length nS] 86);generalize w1.alloc (.cells #[.int .i64 (aE ys i).f0,.int .i64 (aE ys i).f1,.string (aE ys i).f2,.slice mE (aE ys i).f3.length mF,.slice nU (aE ys i).f4.length nS] 86)=w2 at cR iT nL ⊢;generalize w1.heap.size=n2 at iT ⊢;have u0:=aD nL 0;have v0:=aD iT 0;have u1:=aD nL 1;have v1:=aD iT 1;have u2:=aD nL 2;have v2:=aD iT 2;have u3:=aD nL 3;have v3:=aD iT 3;have u4:=aD nL 4;have v4:=aD iT 4;clear j7 iT nL yX yT I4 ae2 acZ;go_wp2_with fail
    refine (HF.out (aE xs i) (BW (by have:=HP.out;omega)) (aE ys i) (BW (by have:=HP.out;omega)) _ [.int .i64 (aE xs i).f0,.int .i64 (aE xs i).f1,.string (aE xs i).f2,.slice lZ (aE xs i).f3.length l9,.slice nA (aE xs i).f4.length nH] [.int .i64 (aE ys i).f0,.int .i64 (aE ys i).f1,.string (aE ys i).f2,.slice mE (aE ys i).f3.length mF,.slice nU (aE ys i).f4.length nS] cR.out (T9 _ (aE xs i) AF.out (Kd.cN BN.out cR.out) DZ.out (Kd.cN D8.out cR.out)) (T9 _ (aE ys i) z8.out (Kd.cN AI.out cR.out) DT.out (Kd.cN DH.out cR.out))).mono ?_
    rintro E w3 ⟨rfl,iV⟩
    have gF:=aC.mk (bQ cR.out iV);clear iV u0 v0 u1 v1 u2 v2 u3 v3 u4 v4;have hst:=DQ (eq:=eq) (xs:=xs) (ys:=ys) z86 (i:=i.toNat) (by have:=HP.out;omega) (by have:=HP.out;omega);rw [HE.out] at hst;have l7:eqAll eq xs ys=(eq (aE xs i) (aE ys i) && eqAll eq (xs.drop (i.toNat+1)) (ys.drop (i.toNat+1))):=hst;cases hq:eq (aE xs i) (aE ys i) with
    |false=>
     rw [hq,Bool.false_and] at l7;have HST:=aC.mk l7;clear hst l7 hq;go_wp2_with fail
     go_ret
     exact ⟨by rw [HST.out];rfl,gF.out⟩
    |true=>
     rw [hq,Bool.true_and] at l7;have HST:=aC.mk l7;clear hst l7 hq;go_wp2_with fail
     go_roundg k1
     case rel=>exact ⟨i+1,by rw [show wrap64 (i+1)=i+1 from w64 (by have:=HP.out;have:=HX.out.2.1;omega)],⟨by have:=HP.out;omega,by have:=HP.out;have:=HI.out;omega,by have:=HP.out;have:=HI.out;omega⟩,⟨by rw [show (i+1).toNat=i.toNat+1 by have:=HP.out;omega];exact HST.out.symm⟩,gF⟩
     case measure=>omega
   ·have c1:decide (i<((xs.length:Nat):Int))=false:=decide_eq_false hlt;have HST:aC (eqAll eq xs ys=true):=aC.mk (by rw [← HE.out];exact CR (by omega) (by have:=HL.out;omega));clear hlt;go_wp2_with fail
    go_ret
    exact ⟨by rw [HST.out];rfl,HB.out⟩
end Go.Proofs.YtkmafndljelopaaDoor.Q
