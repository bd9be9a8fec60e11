/- A part of this claim. -/
import Derived.Test.YtkmafndljelopaaDoorJQ0
namespace Go.Proofs.YtkmafndljelopaaDoor.Q
open Go.RowKit Go.Proofs.YtkmafndljelopaaDoorW.PrintWords Go.Proofs.YtkmafndljelopaaDoorW.PrintLast Go.Proofs.YtkmafndljelopaaDoorW.PrintMore
attribute [local go_sem] tS tT uD sZ tQ tC uX sO
set_option linter.unusedVariables false
set_option linter.unusedSimpArgs false
mutual
def eB.l0:Nat→List (S105)→Int→Int→Int→Option (Int)
 |0,_,_,_,_=>none
 |k+1,x0,x1,x5,x6=>if x6<(x0.length:Int) then (eB.j1 k x0 x1 x5 x6 (decide (x5≤40))) else (eB.j1 k x0 x1 x5 x6 false)
def eB.j1:Nat→List (S105)→Int→Int→Int→Bool→Option (Int)
 |0,_,_,_,_,_=>none
 |k+1,x0,x1,x5,x6,alW=>if alW=true then (if 0≤x6 then (if x6<(x0.length:Int) then ((eB.f k ((dK x0 x6).f2) (wrap64 (x1+1))).bind fun t192=>((eB.f k ((dK x0 x6).f3) (wrap64 (x1+1))).bind fun t194=>(eB.l0 k x0 x1 (wrap64 ((wrap64 ((wrap64 (x5+1))+t192))+t194)) (wrap64 (x6+1))))) else (none)) else (none)) else (some x5)
def eB.f:Nat→List (S105)→Int→Option (Int)
 |0,_,_=>none
 |k+1,l0,a1=>if a1>12 then (some 1000) else (eB.l0 k l0 a1 0 0)
end
theorem eB.jT: ∀ k,(∀ y0 y1,LeO (eB.f k y0 y1) (eB.f (k+1) y0 y1))∧(∀ y0 y1 y2 y3,LeO (eB.l0 k y0 y1 y2 y3) (eB.l0 (k+1) y0 y1 y2 y3))∧(∀ y0 y1 y2 y3 y4,LeO (eB.j1 k y0 y1 y2 y3 y4) (eB.j1 (k+1) y0 y1 y2 y3 y4))
 |0=>⟨fun _ _ r h=>by simp [eB.f] at h,fun _ _ _ _ r h=>by simp [eB.l0] at h,fun _ _ _ _ _ r h=>by simp [eB.j1] at h⟩
 |k+1=>by
  obtain ⟨dU,fD,iH⟩:=eB.jT k;refine ⟨?_,?_,?_⟩
  ·intro y0 y1;unfold eB.f
   repeat' first
   |(with_reducible exact dU _ _)
   |(with_reducible exact fD _ _ _ _)
   |(with_reducible exact iH _ _ _ _ _)
   |(with_reducible exact LeO.refl _)
   |(with_reducible exact LeO.none _)
   |(with_reducible refine LeO.ite ?_ ?_)
   |(with_reducible refine LeO.bind ?_ (fun _=>?_))
   |exact dU _ _
   |exact fD _ _ _ _
   |exact iH _ _ _ _ _
   |exact LeO.none _
   |refine LeO.ite ?_ ?_
   |refine LeO.bind ?_ (fun _=>?_)
  ·intro y0 y1 y2 y3;unfold eB.l0
   repeat' first
   |(with_reducible exact dU _ _)
   |(with_reducible exact fD _ _ _ _)
   |(with_reducible exact iH _ _ _ _ _)
   |(with_reducible exact LeO.refl _)
   |(with_reducible exact LeO.none _)
   |(with_reducible refine LeO.ite ?_ ?_)
   |(with_reducible refine LeO.bind ?_ (fun _=>?_))
   |exact dU _ _
   |exact fD _ _ _ _
   |exact iH _ _ _ _ _
   |exact LeO.none _
   |refine LeO.ite ?_ ?_
   |refine LeO.bind ?_ (fun _=>?_)
  ·intro y0 y1 y2 y3 y4;unfold eB.j1
   repeat' first
   |(with_reducible exact dU _ _)
   |(with_reducible exact fD _ _ _ _)
   |(with_reducible exact iH _ _ _ _ _)
   |(with_reducible exact LeO.refl _)
   |(with_reducible exact LeO.none _)
   |(with_reducible refine LeO.ite ?_ ?_)
   |(with_reducible refine LeO.bind ?_ (fun _=>?_))
   |exact dU _ _
   |exact fD _ _ _ _
   |exact iH _ _ _ _ _
   |exact LeO.none _
   |refine LeO.ite ?_ ?_
   |refine LeO.bind ?_ (fun _=>?_)
theorem eB.mono: ∀ a0 a1 k,LeO (eB.f k a0 a1) (eB.f (k+1) a0 a1):=by
 intro a0 a1 k;obtain ⟨dU,fD,iH⟩:=eB.jT k;exact dU a0 a1
def eB.T7:Bool×List (List Nat×List Nat):=(true,[([],[]),([0],[0]),([],[]),([],[]),([2,3],[2,3]),([4],[4]),([5],[5]),([],[]),([7],[7]),([6,8],[6,8]),([1,9],[1,9]),([],[]),([],[]),([11,12],[11,12]),([13],[13]),([14],[14]),([],[]),([16],[16]),([15,17,9],[15,17]),([10,18],[10,18]),([19,18,0,1,2,3,4,5,6,7,8,9,10,11,12,13,14,15,16,17,18,19],[0,19])])
def eB.B7:List Nat:= [0,1,0,0,12,28,60,0,128,508,1023,0,0,6144,14336,30720,0,65536,261116,524287,1048575]
theorem eB.tab7:rtab .any (opsOf Tryd.f28 7)=eB.T7:=by kernel_rfl
theorem eB.bits7:waitsOk eB.T7.2 eB.B7=true:=by kernel_rfl
set_option maxHeartbeats 8000000 in
set_option maxRecDepth 100000 in
theorem eB.calls (k:Nat): ∀ (A0:Option Addr) (c0:Nat) (l0:List (S105)) (a1:Int) (r:Int) (w:World) (eX:Kd.C k105 w A0 l0.length l0) (fC:l0.length≤c0) (h:eB.f k l0 a1=some r),
  Calls Tryd.prog 28 #[.slice A0 l0.length c0,.int .i64 a1] w fun e w'=>e= .returned (.int .i64 r)∧Below w.heap.size w w':=by
 induction k using Nat.strongRecOn with
 |_ k ih=>
 intro A0 c0 l0 a1 r w eX fC h;cases k with
 |zero=>exact absurd h (by simp [eB.f])
 |succ k=>
 simp only [eB.f] at h;have fG:=aC.mk eX;have lO:=aC.mk fC;clear eX fC;have HB:=aC.mk (Below.refl w.heap.size w);have H:(if a1>12 then (some 1000) else (eB.l0 k l0 a1 0 0))=some r:=h;clear h;by_cases c3:a1>12
 ·rw [if_pos c3] at H;have j8:decide (12<a1)=true:=decide_eq_true c3;clear c3;obtain rfl:=Option.some.inj H;go_enter Tryd.func28,Tryd.ntmps28
  go_wp2
  go_ret
  exact ⟨by first|rfl|(simp [fJ,fK]<;>rfl)|(simp [*,fJ,fK]<;>rfl),by repeat (first|(with_reducible first|exact HB.out|apply aI|apply aN|apply aJ)|exact HB.out)⟩
 ·rw [if_neg c3] at H;have j8:decide (12<a1)=false:=decide_eq_false c3;clear c3;have H':=aC.mk H;clear H;go_enter Tryd.func28,Tryd.ntmps28
  go_wp2
  go_loopg [5,6] k (fun kq v5 v6 w'=>∃ (gD:Int) (fB:Int),v5= .int .i64 gD∧v6= .int .i64 fB∧aC (eB.l0 kq l0 a1 gD fB=some r)∧aC (kq≤k)∧aC (Below w.heap.size w w'))
  case atStart=>exact ⟨(0),(0),(by first|rfl|(simp;done)|(simp [*];done)),(by first|rfl|(simp;done)|(simp [*];done)),H',⟨Nat.le_refl _⟩,⟨by repeat (first|(with_reducible first|exact HB.out|apply aI|apply aN|apply aJ)|exact HB.out)⟩⟩
  case round=>
   clear H';try clear c2
   try clear p2
   try clear c3
   try clear j8
   obtain ⟨gD,fB,rfl,rfl,HA,dI,HB⟩:=hrel;cases gk with
   |zero=>exact absurd HA.out (by simp [eB.l0])
   |succ k1=>
    have H:=HA.out;clear HA;simp only [eB.l0] at H;have XP:=aC.mk H;clear H;go_upto_region 5 with (fail)
    go_cut [16] (fun anH wc=>∃ (kq:Nat) (L0:Bool),anH= .bool L0∧aC (eB.j1 kq l0 a1 gD fB L0=some r)∧aC (kq≤k1)∧aC (Below w.heap.size w wc))
    case first=>
     have H:=XP.out;clear XP;by_cases c5:fB<(l0.length:Int)
     ·rw [if_pos c5] at H;have mI:decide (fB<(l0.length:Int))=true:=decide_eq_true c5;clear c5;(first|rw [mI]|(simp only [aG,aH];rw [mI])|skip)
      have H':=aC.mk H;clear H;go_wp2
      go_meet
      case rel=>exact ⟨_,(decide (gD≤40)),(by first|rfl|(simp;done)|(simp [*];done)),H',⟨by have:=dI.out;first|omega|exact Nat.le_refl _⟩,⟨by repeat (first|(with_reducible first|exact HB.out|apply aI|apply aN|apply aJ)|exact HB.out)⟩⟩
     ·rw [if_neg c5] at H;have mI:decide (fB<(l0.length:Int))=false:=decide_eq_false c5;clear c5;(first|rw [mI]|(simp only [aG,aH];rw [mI])|skip)
      have H':=aC.mk H;clear H;go_wp2
      go_meet
      case rel=>exact ⟨_,(false),(by first|rfl|(simp;done)|(simp [*];done)),H',⟨by have:=dI.out;first|omega|exact Nat.le_refl _⟩,⟨by repeat (first|(with_reducible first|exact HB.out|apply aI|apply aN|apply aJ)|exact HB.out)⟩⟩
    case rest=>
     clear XP;try clear c2
     try clear p2
     try clear c3
     try clear j8
     try clear c5
     try clear mI
     try clear p2
     obtain ⟨kq,L0,rfl,HA,QI,HB⟩:=hcut;cases kq with
     |zero=>exact absurd HA.out (by simp [eB.j1])
     |succ xJ=>
      have H:=HA.out;clear HA;simp only [eB.j1] at H;by_cases c6:L0=true
      ·subst c6;have H1:(if 0≤fB then (if fB<(l0.length:Int) then ((eB.f xJ ((dK l0 fB).f2) (wrap64 (a1+1))).bind fun t192=>((eB.f xJ ((dK l0 fB).f3) (wrap64 (a1+1))).bind fun t194=>(eB.l0 xJ l0 a1 (wrap64 ((wrap64 ((wrap64 (gD+1))+t192))+t194)) (wrap64 (fB+1))))) else (none)) else (none))=some r:=by rw [if_pos rfl] at H;exact H
       clear H;have H:=H1;clear H1;by_cases c7:0≤fB
       ·rw [if_pos c7] at H;have rX:decide (0≤fB)=true:=decide_eq_true c7;clear c7;by_cases c8:fB<(l0.length:Int)
        ·rw [if_pos c8] at H;have rC:decide (fB<(l0.length:Int))=true:=decide_eq_true c8;clear c8;replace H:=Option.bind_eq_some_iff.mp H;obtain ⟨t192,KR,H⟩:=H;replace H:((eB.f xJ ((dK l0 fB).f3) (wrap64 (a1+1))).bind fun t194=>(eB.l0 xJ l0 a1 (wrap64 ((wrap64 ((wrap64 (gD+1))+t192))+t194)) (wrap64 (fB+1))))=some r:=H;have A9:=aC.mk KR;clear KR;replace H:=Option.bind_eq_some_iff.mp H;obtain ⟨t194,tW,H⟩:=H;replace H:(eB.l0 xJ l0 a1 (wrap64 ((wrap64 ((wrap64 (gD+1))+t192))+t194)) (wrap64 (fB+1)))=some r:=H;have tR:=aC.mk tW;clear tW;have H':=aC.mk H;clear H;try go_wp2
         have aM:=aC.mk (aJ HB.out);clear HB;have HB:=aM;clear aM;have VM:0≤(fB:Int):=of_decide_eq_true (by assumption);have R8:fB<(l0.length:Int):=of_decide_eq_true (by assumption);obtain ⟨oU,UC,WS,UU,S5,asK,IW,KZ,E7,CV,ajT,af1,akM,ahR⟩:=BP fG.out fB VM R8;have CY:=CV;have DA:=E7;have FG:=KZ;have C8:=IW;cases asK
         replace IW:=(HB.out.cell (World.block_lt_of_cell? w _ IW)).trans IW;replace KZ:=(HB.out.cell (World.block_lt_of_cell? w _ KZ)).trans KZ;replace E7:=(HB.out.cell (World.block_lt_of_cell? w _ E7)).trans E7;replace CV:=(HB.out.cell (World.block_lt_of_cell? w _ CV)).trans CV;have aaV:=aC.mk af1;have apW:=aC.mk ajT;clear af1 ajT;have arH:=aC.mk ahR;have aKK:=aC.mk akM;clear ahR akM;replace VM:=eq_true VM;replace R8:=eq_true R8;have XD:0≤(fB:Int):=of_decide_eq_true (by assumption);have TF:fB<(l0.length:Int):=of_decide_eq_true (by assumption);obtain ⟨azE,aDH,aLC,aO6,aIG,aw0,KW,JU,EK,EJ,ajC,aiA,ae6,afV⟩:=BP fG.out fB XD TF;have C4:=EJ;have DJ:=EK;have FH:=JU;have EB:=KW;obtain rfl:oU=azE:=(by injection aw0);replace KW:=(HB.out.cell (World.block_lt_of_cell? w _ KW)).trans KW;replace JU:=(HB.out.cell (World.block_lt_of_cell? w _ JU)).trans JU;replace EK:=(HB.out.cell (World.block_lt_of_cell? w _ EK)).trans EK;replace EJ:=(HB.out.cell (World.block_lt_of_cell? w _ EJ)).trans EJ;have amK:=aC.mk aiA;have aM4:=aC.mk ajC;clear aiA ajC;have agW:=aC.mk afV;have atC:=aC.mk ae6;clear afV ae6;replace XD:=eq_true XD;replace TF:=eq_true TF;have ea_:=Option.some.inj (E7.symm.trans EK);injection ea_ with ea_ en_ ec_
         subst ea_;subst ec_;clear en_;have ea_:=Option.some.inj (CV.symm.trans EJ);injection ea_ with ea_ en_ ec_
         subst ea_;subst ec_;clear en_;refine mK (n:=21) (S:=fun w'=>w'.cell? (oU.add ((fB).toNat * 4))=some (.int .i64 ((dK l0 fB).f0))∧w'.cell? ⟨(oU.add ((fB).toNat * 4)).block,(oU.add ((fB).toNat * 4)).off+1,none⟩=some (.int .i64 ((dK l0 fB).f1))∧w'.cell? ⟨(oU.add ((fB).toNat * 4)).block,(oU.add ((fB).toNat * 4)).off+2,none⟩=some (.slice UC ((dK l0 fB).f2).length WS)∧w'.cell? ⟨(oU.add ((fB).toNat * 4)).block,(oU.add ((fB).toNat * 4)).off+3,none⟩=some (.slice UU ((dK l0 fB).f3).length S5)∧w'.cell? (oU.add ((fB).toNat * 4))=some (.int .i64 ((dK l0 fB).f0))∧w'.cell? ⟨(oU.add ((fB).toNat * 4)).block,(oU.add ((fB).toNat * 4)).off+1,none⟩=some (.int .i64 ((dK l0 fB).f1))∧w'.cell? ⟨(oU.add ((fB).toNat * 4)).block,(oU.add ((fB).toNat * 4)).off+2,none⟩=some (.slice UC ((dK l0 fB).f2).length WS)∧w'.cell? ⟨(oU.add ((fB).toNat * 4)).block,(oU.add ((fB).toNat * 4)).off+3,none⟩=some (.slice UU ((dK l0 fB).f3).length S5)) (ds:=[]) #[false,false,false,false,false,false,false,false,false,false,false,false,false,false,false,false,false,false,false,false,false] (by kernel_rfl) rfl rfl ⟨((HB.out.cell (World.block_lt_of_cell? w _ C8)).trans C8),((HB.out.cell (World.block_lt_of_cell? w _ FG)).trans FG),((HB.out.cell (World.block_lt_of_cell? w _ DA)).trans DA),((HB.out.cell (World.block_lt_of_cell? w _ CY)).trans CY),((HB.out.cell (World.block_lt_of_cell? w _ EB)).trans EB),((HB.out.cell (World.block_lt_of_cell? w _ FH)).trans FH),((HB.out.cell (World.block_lt_of_cell? w _ DJ)).trans DJ),((HB.out.cell (World.block_lt_of_cell? w _ C4)).trans C4)⟩ (fun hHeld=>?_);refine PT eB.tab7 eB.bits7 (fun HT_ HW_=>?_);generalize wc.drew=azT at HB aaV arH amK agW IW KZ E7 CV KW JU EK EJ hHeld ⊢;refine bE (i:=0) (N:=some 19) (v:=?_) (a':=?_) #[true,false,false,false,false,false,false,false,false,false,false,false,false,false,false,false,false,false,false,false,false] rfl rfl (gE HT_.out (by kernel_rfl)) (fun _ _ _ h=>h) (Or.inl ⟨by rfl,?_⟩) ?_ ?_
         rotate_left;·intro w';go_simp;with_reducible rfl
         rotate_left;·simp only [Act.put,List.setIfInBounds_toArray,List.set_cons_zero,List.set_cons_succ,aG,aH];rfl
         refine bE (i:=1) (N:=some 20) (v:=?_) (a':=?_) #[true,true,false,false,false,false,false,false,false,false,false,false,false,false,false,false,false,false,false,false,false] rfl rfl (gE HT_.out (by kernel_rfl)) (fun _ _ _ h=>h) (Or.inl ⟨by rfl,?_⟩) ?_ ?_
         rotate_left;·intro w';go_simp;with_reducible rfl
         rotate_left;·simp only [Act.put,List.setIfInBounds_toArray,List.set_cons_zero,List.set_cons_succ,aG,aH];rfl
         refine bE (i:=2) (N:=some 21) (v:=?_) (a':=?_) #[true,true,true,false,false,false,false,false,false,false,false,false,false,false,false,false,false,false,false,false,false] rfl rfl (gE HT_.out (by kernel_rfl)) (fun _ _ _ h=>h) (Or.inl ⟨by rfl,?_⟩) ?_ ?_
         rotate_left;·intro w';go_simp;with_reducible rfl
         rotate_left;·simp only [Act.put,List.setIfInBounds_toArray,List.set_cons_zero,List.set_cons_succ,aG,aH];rfl
         refine bE (i:=3) (N:=some 22) (v:=?_) (a':=?_) #[true,true,true,true,false,false,false,false,false,false,false,false,false,false,false,false,false,false,false,false,false] rfl rfl (gE HT_.out (by kernel_rfl)) (fun _ _ _ h=>h) (Or.inl ⟨by rfl,?_⟩) ?_ ?_
         rotate_left;·intro w';go_simp;with_reducible rfl
         rotate_left;·simp only [Act.put,List.setIfInBounds_toArray,List.set_cons_zero,List.set_cons_succ,aG,aH];rfl
         refine bE (i:=4) (N:=some 23) (v:=?_) (a':=?_) #[true,true,true,true,true,false,false,false,false,false,false,false,false,false,false,false,false,false,false,false,false] rfl rfl (gE HT_.out (by kernel_rfl)) (fun _ _ _ h=>h) (Or.inl ⟨by rfl,?_⟩) ?_ ?_
         rotate_left;·intro w';go_simp;with_reducible rfl
         rotate_left;·simp only [Act.put,List.setIfInBounds_toArray,List.set_cons_zero,List.set_cons_succ,aG,aH];rfl
         refine bE (i:=5) (N:=some 24) (v:=?_) (a':=?_) #[true,true,true,true,true,true,false,false,false,false,false,false,false,false,false,false,false,false,false,false,false] rfl rfl (gE HT_.out (by kernel_rfl)) (fun _ _ _ h=>h) (Or.inl ⟨by rfl,?_⟩) ?_ ?_
         rotate_left;·intro w';go_simp;with_reducible rfl
         rotate_left;·simp only [Act.put,List.setIfInBounds_toArray,List.set_cons_zero,List.set_cons_succ,aG,aH];rfl
         refine bE (i:=7) (N:=some 26) (v:=?_) (a':=?_) #[true,true,true,true,true,true,false,true,false,false,false,false,false,false,false,false,false,false,false,false,false] rfl rfl (gE HT_.out (by kernel_rfl)) (fun _ _ _ h=>h) (Or.inl ⟨by rfl,?_⟩) ?_ ?_
         rotate_left;·intro w';go_simp;with_reducible rfl
         rotate_left;·simp only [Act.put,List.setIfInBounds_toArray,List.set_cons_zero,List.set_cons_succ,aG,aH];rfl
         refine bE (i:=8) (N:=some 27) (v:=?_) (a':=?_) #[true,true,true,true,true,true,false,true,true,false,false,false,false,false,false,false,false,false,false,false,false] rfl rfl (gE HT_.out (by kernel_rfl)) (fun _ _ _ h=>h) (Or.inl ⟨by rfl,?_⟩) ?_ ?_
         rotate_left;·intro w';go_simp;with_reducible rfl
         rotate_left;·simp only [Act.put,List.setIfInBounds_toArray,List.set_cons_zero,List.set_cons_succ,aG,aH];rfl
         refine bE (i:=11) (N:=some 30) (v:=?_) (a':=?_) #[true,true,true,true,true,true,false,true,true,false,false,true,false,false,false,false,false,false,false,false,false] rfl rfl (gE HT_.out (by kernel_rfl)) (fun _ _ _ h=>h) (Or.inl ⟨by rfl,?_⟩) ?_ ?_
         rotate_left;·intro w';go_simp;with_reducible rfl
         rotate_left;·simp only [Act.put,List.setIfInBounds_toArray,List.set_cons_zero,List.set_cons_succ,aG,aH];rfl
         refine bE (i:=12) (N:=some 31) (v:=?_) (a':=?_) #[true,true,true,true,true,true,false,true,true,false,false,true,true,false,false,false,false,false,false,false,false] rfl rfl (gE HT_.out (by kernel_rfl)) (fun _ _ _ h=>h) (Or.inl ⟨by rfl,?_⟩) ?_ ?_
         rotate_left;·intro w';go_simp;with_reducible rfl
         rotate_left;·simp only [Act.put,List.setIfInBounds_toArray,List.set_cons_zero,List.set_cons_succ,aG,aH];rfl
         refine bE (i:=13) (N:=some 32) (v:=?_) (a':=?_) #[true,true,true,true,true,true,false,true,true,false,false,true,true,true,false,false,false,false,false,false,false] rfl rfl (gE HT_.out (by kernel_rfl)) (fun _ _ _ h=>h) (Or.inl ⟨by rfl,?_⟩) ?_ ?_
         rotate_left;·intro w';go_simp;with_reducible rfl
         rotate_left;·simp only [Act.put,List.setIfInBounds_toArray,List.set_cons_zero,List.set_cons_succ,aG,aH];rfl
         refine bE (i:=14) (N:=some 33) (v:=?_) (a':=?_) #[true,true,true,true,true,true,false,true,true,false,false,true,true,true,true,false,false,false,false,false,false] rfl rfl (gE HT_.out (by kernel_rfl)) (fun _ _ _ h=>h) (Or.inl ⟨by rfl,?_⟩) ?_ ?_
         rotate_left;·intro w';go_simp;with_reducible rfl
         rotate_left;·simp only [Act.put,List.setIfInBounds_toArray,List.set_cons_zero,List.set_cons_succ,aG,aH];rfl
         refine bE (i:=16) (N:=some 35) (v:=?_) (a':=?_) #[true,true,true,true,true,true,false,true,true,false,false,true,true,true,true,false,true,false,false,false,false] rfl rfl (gE HT_.out (by kernel_rfl)) (fun _ _ _ h=>h) (Or.inl ⟨by rfl,?_⟩) ?_ ?_
         rotate_left;·intro w';go_simp;with_reducible rfl
         rotate_left;·simp only [Act.put,List.setIfInBounds_toArray,List.set_cons_zero,List.set_cons_succ,aG,aH];rfl
         refine bE (i:=17) (N:=some 36) (v:=?_) (a':=?_) #[true,true,true,true,true,true,false,true,true,false,false,true,true,true,true,false,true,true,false,false,false] rfl rfl (gE HT_.out (by kernel_rfl)) (fun _ _ _ h=>h) (Or.inl ⟨by rfl,?_⟩) ?_ ?_
         rotate_left;·intro w';go_simp;with_reducible rfl
         rotate_left;·simp only [Act.put,List.setIfInBounds_toArray,List.set_cons_zero,List.set_cons_succ,aG,aH];rfl
         refine eC (i:=6) (N:=some 25) (v:=?_) (a':=?_) #[true,true,true,true,true,true,true,true,true,false,false,true,true,true,true,false,true,true,false,false,false] rfl rfl (wW HT_.out HW_.out (by kernel_rfl)) (fun _ _ _ h=>h) (Or.inl ⟨by rfl,?_⟩) hHeld ?_ ?_
         rotate_left
         ·rintro w' ⟨s0,s1,s2,s3,s4,s5,s6,s7⟩
          go_simp;with_reducible rfl
         rotate_left;·simp only [Act.put,List.setIfInBounds_toArray,List.set_cons_zero,List.set_cons_succ,aG,aH];rfl
         refine eC (i:=15) (N:=some 34) (v:=?_) (a':=?_) #[true,true,true,true,true,true,true,true,true,false,false,true,true,true,true,true,true,true,false,false,false] rfl rfl (wW HT_.out HW_.out (by kernel_rfl)) (fun _ _ _ h=>h) (Or.inl ⟨by rfl,?_⟩) hHeld ?_ ?_
         rotate_left
         ·rintro w' ⟨s0,s1,s2,s3,s4,s5,s6,s7⟩
          go_simp;with_reducible rfl
         rotate_left;·simp only [Act.put,List.setIfInBounds_toArray,List.set_cons_zero,List.set_cons_succ,aG,aH];rfl
         refine one_ (i:=9) (N:=some 28) #[true,true,true,true,true,true,true,true,true,true,false,true,true,true,true,true,true,true,false,false,false] rfl rfl (tA HT_.out (by kernel_rfl)) (by decide) (fun K hK=>?_);refine mM Tryd.func28 (by kernel_rfl) rfl #[.slice UC ((dK l0 fB).f2).length WS,.int .i64 (wrap64 (a1+1))] (by rfl) rfl rfl (by (try simp only [List.map_toArray,List.map_cons,List.map_nil]);first|done|rfl|(simp only [List.length_drop,List.length_take];rfl)) ?_
         with_reducible refine (ih xJ (by have:=dI.out;have:=QI.out;omega) _ _ ((dK l0 fB).f2) (wrap64 (a1+1)) t192 _ ?cJ ?cK A9.out).mono ?_
         (case cJ=>repeat (first|exact (Kd.cN aaV.out HB.out)|(with_reducible refine Kd.eE ?_ _)|(with_reducible refine Kd.eG ?_ _)|(with_reducible refine Kd.eF ?_)))
         (case cK=>exact apW.out)
         rintro e CD ⟨rfl,hb⟩
         refine ⟨_,rfl,?_⟩;have aM:=aC.mk (bQ (by repeat (first|(with_reducible first|exact HB.out|apply aI|apply aN|apply aJ)|exact HB.out)) hb);clear HB;have HB:=aM;clear aM;(try clear hb)
         (try clear bR)
         (try clear hk)
         (try clear hi)
         refine hK.out _ _ ⟨((HB.out.cell (World.block_lt_of_cell? w _ C8)).trans C8),((HB.out.cell (World.block_lt_of_cell? w _ FG)).trans FG),((HB.out.cell (World.block_lt_of_cell? w _ DA)).trans DA),((HB.out.cell (World.block_lt_of_cell? w _ CY)).trans CY),((HB.out.cell (World.block_lt_of_cell? w _ EB)).trans EB),((HB.out.cell (World.block_lt_of_cell? w _ FH)).trans FH),((HB.out.cell (World.block_lt_of_cell? w _ DJ)).trans DJ),((HB.out.cell (World.block_lt_of_cell? w _ C4)).trans C4)⟩ (fun hHeld=>?_);clear hK K;refine aZ (a':=?_) ?_ ?_
         rotate_left
         ·show Act.put _ (some 28) _=_
          simp only [Act.put,List.setIfInBounds_toArray,List.set_cons_zero,List.set_cons_succ,aG,aH];rfl
         refine bE (i:=10) (N:=some 29) (v:=?_) (a':=?_) #[true,true,true,true,true,true,true,true,true,true,true,true,true,true,true,true,true,true,false,false,false] rfl rfl (gE HT_.out (by kernel_rfl)) (fun _ _ _ h=>h) (Or.inl ⟨by rfl,?_⟩) ?_ ?_
         rotate_left;·intro w';go_simp;with_reducible rfl
         rotate_left;·simp only [Act.put,List.setIfInBounds_toArray,List.set_cons_zero,List.set_cons_succ,aG,aH];rfl
         refine one_ (i:=18) (N:=some 37) #[true,true,true,true,true,true,true,true,true,true,true,true,true,true,true,true,true,true,true,false,false] rfl rfl (tA HT_.out (by kernel_rfl)) (by decide) (fun K hK=>?_);refine mM Tryd.func28 (by kernel_rfl) rfl #[.slice UU ((dK l0 fB).f3).length S5,.int .i64 (wrap64 (a1+1))] (by rfl) rfl rfl (by (try simp only [List.map_toArray,List.map_cons,List.map_nil]);first|done|rfl|(simp only [List.length_drop,List.length_take];rfl)) ?_
         with_reducible refine (ih xJ (by have:=dI.out;have:=QI.out;omega) _ _ ((dK l0 fB).f3) (wrap64 (a1+1)) t194 _ ?cJ ?cK tR.out).mono ?_
         (case cJ=>repeat (first|exact (Kd.cN agW.out HB.out)|(with_reducible refine Kd.eE ?_ _)|(with_reducible refine Kd.eG ?_ _)|(with_reducible refine Kd.eF ?_)))
         (case cK=>exact atC.out)
         rintro e EV ⟨rfl,hb⟩
         refine ⟨_,rfl,?_⟩;have aM:=aC.mk (bQ (by repeat (first|(with_reducible first|exact HB.out|apply aI|apply aN|apply aJ)|exact HB.out)) hb);clear HB;have HB:=aM;clear aM;(try clear hb)
         (try clear bR)
         (try clear hk)
         (try clear hi)
         refine hK.out _ _ ⟨((HB.out.cell (World.block_lt_of_cell? w _ C8)).trans C8),((HB.out.cell (World.block_lt_of_cell? w _ FG)).trans FG),((HB.out.cell (World.block_lt_of_cell? w _ DA)).trans DA),((HB.out.cell (World.block_lt_of_cell? w _ CY)).trans CY),((HB.out.cell (World.block_lt_of_cell? w _ EB)).trans EB),((HB.out.cell (World.block_lt_of_cell? w _ FH)).trans FH),((HB.out.cell (World.block_lt_of_cell? w _ DJ)).trans DJ),((HB.out.cell (World.block_lt_of_cell? w _ C4)).trans C4)⟩ (fun hHeld=>?_);clear hK K;refine aZ (a':=?_) ?_ ?_
         rotate_left
         ·show Act.put _ (some 37) _=_
          simp only [Act.put,List.setIfInBounds_toArray,List.set_cons_zero,List.set_cons_succ,aG,aH];rfl
         refine bE (i:=19) (N:=some 38) (v:=?_) (a':=?_) #[true,true,true,true,true,true,true,true,true,true,true,true,true,true,true,true,true,true,true,true,false] rfl rfl (gE HT_.out (by kernel_rfl)) (fun _ _ _ h=>h) (Or.inl ⟨by rfl,?_⟩) ?_ ?_
         rotate_left;·intro w';go_simp;with_reducible rfl
         rotate_left;·simp only [Act.put,List.setIfInBounds_toArray,List.set_cons_zero,List.set_cons_succ,aG,aH];rfl
         refine bE (i:=20) (N:=some 5) (v:=?_) (a':=?_) #[true,true,true,true,true,true,true,true,true,true,true,true,true,true,true,true,true,true,true,true,true] rfl rfl (gE HT_.out (by kernel_rfl)) (fun _ _ _ h=>h) (Or.inl ⟨by rfl,?_⟩) ?_ ?_
         rotate_left;·intro w';go_simp;with_reducible rfl
         rotate_left;·simp only [Act.put,List.setIfInBounds_toArray,List.set_cons_zero,List.set_cons_succ,aG,aH];rfl
         refine mP (OU HT_.out (by kernel_rfl)) ?_
         try go_wp2
         go_roundg xJ
         case measure=>have:=dI.out;have:=QI.out;omega
         case rel=>exact ⟨(wrap64 ((wrap64 ((wrap64 (gD+1))+t192))+t194)),(wrap64 (fB+1)),(by first|rfl|(simp;done)|(simp [*];done)),(by first|rfl|(simp;done)|(simp [*];done)),H',⟨by have:=dI.out;have:=QI.out;omega⟩,⟨by repeat (first|(with_reducible first|exact HB.out|apply aI|apply aN|apply aJ)|exact HB.out)⟩⟩
        ·rw [if_neg c8] at H;exact absurd H (by simp)
       ·rw [if_neg c7] at H;exact absurd H (by simp)
      ·replace c6:=Bool.eq_false_iff.mpr c6;subst c6;have H1:(some gD)=some r:=by rw [if_neg (show ¬ (false=true) by decide)] at H;exact H
       clear H;have H:=H1;clear H1;obtain rfl:=Option.some.inj H;go_wp2
       go_ret
       exact ⟨by first|rfl|(simp [fJ,fK]<;>rfl)|(simp [*,fJ,fK]<;>rfl),by repeat (first|(with_reducible first|exact HB.out|apply aI|apply aN|apply aJ)|exact HB.out)⟩
def dX.f (k:Nat) (l0:List (S105)):Option (Bool):=(eB.f k l0 0).bind fun t195=>(some (decide (t195≤40)))
theorem dX.mono: ∀ a0 k,LeO (dX.f k a0) (dX.f (k+1) a0):=by
 intro a0 k;unfold dX.f
 repeat' first
   |(with_reducible exact eB.mono _ _ _)
   |(with_reducible exact LeO.refl _)
   |(with_reducible exact LeO.none _)
   |(with_reducible refine LeO.ite ?_ ?_)
   |(with_reducible refine LeO.bind ?_ (fun _=>?_))
   |exact eB.mono _ _ _
   |exact LeO.none _
   |refine LeO.ite ?_ ?_
   |refine LeO.bind ?_ (fun _=>?_)
set_option maxHeartbeats 8000000 in
set_option maxRecDepth 100000 in
theorem dX.calls (k:Nat) (A0:Option Addr) (c0:Nat) (l0:List (S105)) (r:Bool) (w:World) (eX:Kd.C k105 w A0 l0.length l0) (fC:l0.length≤c0) (h:dX.f k l0=some r):
  Calls Tryd.prog 12 #[.slice A0 l0.length c0] w fun e w'=>e= .returned (.bool r)∧Below w.heap.size w w':=by
 have fG:=aC.mk eX;have lO:=aC.mk fC;clear eX fC;have HB:=aC.mk (Below.refl w.heap.size w);have H:((eB.f k l0 0).bind fun t195=>(some (decide (t195≤40))))=some r:=h;clear h;replace H:=Option.bind_eq_some_iff.mp H;obtain ⟨t195,lQ,H⟩:=H;replace H:(some (decide (t195≤40)))=some r:=H;have A2:=aC.mk lQ;clear lQ;obtain rfl:=Option.some.inj H;go_enter Tryd.func12,Tryd.ntmps12
 go_wp2_with (first|((with_reducible refine eI (f:=28) rfl ?_);refine eJ (some 4) rfl rfl Tryd.func28 (by kernel_rfl) rfl #[.slice A0 l0.length c0,.int .i64 0] rfl (by (try simp only [List.map_toArray,List.map_cons,List.map_nil]);first|done|rfl|(simp only [List.length_drop,List.length_take];rfl)) ?_;(with_reducible refine (eB.calls k _ _ l0 0 t195 _ ?cJ ?cK A2.out).mono ?_);(case cJ=>repeat (first|exact fG.out|(with_reducible refine Kd.eE ?_ _)|(with_reducible refine Kd.eG ?_ _)|(with_reducible refine Kd.eF ?_)));(case cK=>exact lO.out);rintro e w3 ⟨rfl,hb⟩;refine ⟨_,rfl,?_⟩;have aM:=aC.mk (bQ (by repeat (first|(with_reducible first|exact HB.out|apply aI|apply aN|apply aJ)|exact HB.out)) hb);clear HB;have HB:=aM;clear aM;(try clear hb);(try clear bR);(try clear hk);(try clear hi)))
 go_ret
 exact ⟨by first|rfl|(simp [fJ,fK]<;>rfl)|(simp [*,fJ,fK]<;>rfl),by repeat (first|(with_reducible first|exact HB.out|apply aI|apply aN|apply aJ)|exact HB.out)⟩
end Go.Proofs.YtkmafndljelopaaDoor.Q
