/- A part of this claim. -/
import Derived.Test.YtkmafndljelopaaDoorJQ0
import Derived.Test.YtkmafndljelopaaDoorJQ5
namespace Go.Proofs.YtkmafndljelopaaDoor.Q
open Go.RowKit Go.Proofs.YtkmafndljelopaaDoorW.PrintWords Go.Proofs.YtkmafndljelopaaDoorW.PrintLast Go.Proofs.YtkmafndljelopaaDoorW.PrintMore
attribute [local go_sem] tS tT uD sZ tQ tC uX sO
set_option linter.unusedVariables false
set_option linter.unusedSimpArgs false
mutual
def dD.l0:Nat→ByteArray→Int→List (S59)→List (S59)→List (S46)→Option (ByteArray)
 |0,_,_,_,_,_=>none
 |k+1,x3,x4,uV,u9,n7=>if x4<(uV.length:Int) then (if x3.size+4≤9223372036854775807 then (if 0≤x4 then (if (x3++(⟨#[118,97,114,32]⟩:ByteArray)).size+((dE uV x4).f0).size≤9223372036854775807 then (if ((x3++(⟨#[118,97,114,32]⟩:ByteArray))++((dE uV x4).f0)).size+1≤9223372036854775807 then (dD.l0 k (((x3++(⟨#[118,97,114,32]⟩:ByteArray))++((dE uV x4).f0))++(⟨#[10]⟩:ByteArray)) (wrap64 (x4+1)) uV u9 n7) else (none)) else (none)) else (none)) else (none)) else (dD.l1 k x3 0 uV u9 n7)
def dD.l1:Nat→ByteArray→Int→List (S59)→List (S59)→List (S46)→Option (ByteArray)
 |0,_,_,_,_,_=>none
 |k+1,x3,x5,uV,u9,n7=>if x5<(u9.length:Int) then (if x3.size+5≤9223372036854775807 then (if 0≤x5 then (if (x3++(⟨#[108,111,99,107,32]⟩:ByteArray)).size+((dE u9 x5).f0).size≤9223372036854775807 then (if ((x3++(⟨#[108,111,99,107,32]⟩:ByteArray))++((dE u9 x5).f0)).size+1≤9223372036854775807 then (dD.l1 k (((x3++(⟨#[108,111,99,107,32]⟩:ByteArray))++((dE u9 x5).f0))++(⟨#[10]⟩:ByteArray)) (wrap64 (x5+1)) uV u9 n7) else (none)) else (none)) else (none)) else (none)) else (dD.l2 k x3 0 uV u9 n7)
def dD.l2:Nat→ByteArray→Int→List (S59)→List (S59)→List (S46)→Option (ByteArray)
 |0,_,_,_,_,_=>none
 |k+1,x3,x6,uV,u9,n7=>if x6<(n7.length:Int) then (if x3.size+5≤9223372036854775807 then (if 0≤x6 then (if (x3++(⟨#[102,117,110,99,32]⟩:ByteArray)).size+((bF n7 x6).f0).size≤9223372036854775807 then (if ((x3++(⟨#[102,117,110,99,32]⟩:ByteArray))++((bF n7 x6).f0)).size+1≤9223372036854775807 then ((nJ.f k ((bF n7 x6).f0) ((bF n7 x6).f1) ((bF n7 x6).f2)).bind fun t218=>(if (((x3++(⟨#[102,117,110,99,32]⟩:ByteArray))++((bF n7 x6).f0))++(⟨#[32]⟩:ByteArray)).size+t218.size≤9223372036854775807 then (if ((((x3++(⟨#[102,117,110,99,32]⟩:ByteArray))++((bF n7 x6).f0))++(⟨#[32]⟩:ByteArray))++t218).size+1≤9223372036854775807 then (dD.l2 k (((((x3++(⟨#[102,117,110,99,32]⟩:ByteArray))++((bF n7 x6).f0))++(⟨#[32]⟩:ByteArray))++t218)++(⟨#[10]⟩:ByteArray)) (wrap64 (x6+1)) uV u9 n7) else (none)) else (none))) else (none)) else (none)) else (none)) else (none)) else (some x3)
end
def dD.f (k:Nat) (cD:List (S59)) (cH:List (S59)) (bK:List (S46)):Option (ByteArray):=dD.l0 k (⟨#[]⟩:ByteArray) 0 cD cH bK
theorem dD.jT: ∀ k,(∀ y0 y1 y2 y3 y4,LeO (dD.l0 k y0 y1 y2 y3 y4) (dD.l0 (k+1) y0 y1 y2 y3 y4))∧(∀ y0 y1 y2 y3 y4,LeO (dD.l1 k y0 y1 y2 y3 y4) (dD.l1 (k+1) y0 y1 y2 y3 y4))∧(∀ y0 y1 y2 y3 y4,LeO (dD.l2 k y0 y1 y2 y3 y4) (dD.l2 (k+1) y0 y1 y2 y3 y4))
 |0=>⟨fun _ _ _ _ _ r h=>by simp [dD.l0] at h,fun _ _ _ _ _ r h=>by simp [dD.l1] at h,fun _ _ _ _ _ r h=>by simp [dD.l2] at h⟩
 |k+1=>by
  obtain ⟨dU,fD,iH⟩:=dD.jT k;refine ⟨?_,?_,?_⟩
  ·intro y0 y1 y2 y3 y4;unfold dD.l0
   repeat' first
   |(with_reducible exact dU _ _ _ _ _)
   |(with_reducible exact fD _ _ _ _ _)
   |(with_reducible exact iH _ _ _ _ _)
   |(with_reducible exact nJ.mono _ _ _ _)
   |(with_reducible exact LeO.refl _)
   |(with_reducible exact LeO.none _)
   |(with_reducible refine LeO.ite ?_ ?_)
   |(with_reducible refine LeO.bind ?_ (fun _=>?_))
   |exact dU _ _ _ _ _
   |exact fD _ _ _ _ _
   |exact iH _ _ _ _ _
   |exact nJ.mono _ _ _ _
   |exact LeO.none _
   |refine LeO.ite ?_ ?_
   |refine LeO.bind ?_ (fun _=>?_)
  ·intro y0 y1 y2 y3 y4;unfold dD.l1
   repeat' first
   |(with_reducible exact dU _ _ _ _ _)
   |(with_reducible exact fD _ _ _ _ _)
   |(with_reducible exact iH _ _ _ _ _)
   |(with_reducible exact nJ.mono _ _ _ _)
   |(with_reducible exact LeO.refl _)
   |(with_reducible exact LeO.none _)
   |(with_reducible refine LeO.ite ?_ ?_)
   |(with_reducible refine LeO.bind ?_ (fun _=>?_))
   |exact dU _ _ _ _ _
   |exact fD _ _ _ _ _
   |exact iH _ _ _ _ _
   |exact nJ.mono _ _ _ _
   |exact LeO.none _
   |refine LeO.ite ?_ ?_
   |refine LeO.bind ?_ (fun _=>?_)
  ·intro y0 y1 y2 y3 y4;unfold dD.l2
   repeat' first
   |(with_reducible exact dU _ _ _ _ _)
   |(with_reducible exact fD _ _ _ _ _)
   |(with_reducible exact iH _ _ _ _ _)
   |(with_reducible exact nJ.mono _ _ _ _)
   |(with_reducible exact LeO.refl _)
   |(with_reducible exact LeO.none _)
   |(with_reducible refine LeO.ite ?_ ?_)
   |(with_reducible refine LeO.bind ?_ (fun _=>?_))
   |exact dU _ _ _ _ _
   |exact fD _ _ _ _ _
   |exact iH _ _ _ _ _
   |exact nJ.mono _ _ _ _
   |exact LeO.none _
   |refine LeO.ite ?_ ?_
   |refine LeO.bind ?_ (fun _=>?_)
theorem dD.mono: ∀ a0 a1 a2 k,LeO (dD.f k a0 a1 a2) (dD.f (k+1) a0 a1 a2):=by
 intro a0 a1 a2 k;obtain ⟨dU,fD,iH⟩:=dD.jT k;unfold dD.f
 repeat' first
   |(with_reducible exact dU _ _ _ _ _)
   |(with_reducible exact fD _ _ _ _ _)
   |(with_reducible exact iH _ _ _ _ _)
   |(with_reducible exact nJ.mono _ _ _ _)
   |(with_reducible exact LeO.refl _)
   |(with_reducible exact LeO.none _)
   |(with_reducible refine LeO.ite ?_ ?_)
   |(with_reducible refine LeO.bind ?_ (fun _=>?_))
   |exact dU _ _ _ _ _
   |exact fD _ _ _ _ _
   |exact iH _ _ _ _ _
   |exact nJ.mono _ _ _ _
   |exact LeO.none _
   |refine LeO.ite ?_ ?_
   |refine LeO.bind ?_ (fun _=>?_)
def dD.T13:Bool×List (List Nat×List Nat):=(true,[([],[]),([0],[0]),([],[]),([2],[2]),([],[]),([3,4],[3,4]),([5],[5]),([6],[6]),([1,7],[1,7]),([8],[8]),([],[]),([10],[10]),([],[]),([11,12],[11,12]),([13],[13]),([14],[14]),([9,15],[9,15]),([16],[16]),([17,15,0,1,2,3,4,5,6,7,8,9,10,11,12,13,14,15,16,17],[0,17])])
def dD.B13:List Nat:= [0,1,0,4,0,28,60,124,255,511,0,1024,0,7168,15360,31744,65535,131071,262143]
theorem dD.tab13:rtab .any (opsOf Tryd.f13 13)=dD.T13:=by kernel_rfl
theorem dD.bits13:waitsOk dD.T13.2 dD.B13=true:=by kernel_rfl
set_option maxHeartbeats 8000000 in
set_option maxRecDepth 100000 in
theorem dD.calls (k:Nat) (gR:Option Addr) (gN:Nat) (cD:List (S59)) (gP:Option Addr) (gQ:Nat) (cH:List (S59)) (eY:Option Addr) (eO:Nat) (bK:List (S46)) (r:ByteArray) (w:World) (uF:Kd.C k59 w gR cD.length cD) (tU:cD.length≤gN) (sV:Kd.C k59 w gP cH.length cH) (u6:cH.length≤gQ) (nM:Kd.C k46 w eY bK.length bK) (oC:bK.length≤eO) (h:dD.f k cD cH bK=some r):
  Calls Tryd.prog 13 #[.agg #[.slice gR cD.length gN,.slice gP cH.length gQ,.slice eY bK.length eO]] w fun e w'=>e= .returned (.string r)∧Below w.heap.size w w':=by
 have wQ:=Tryd.underlying30;have IQ:=Tryd.underlying46;have ay7:=aC.mk uF;have aF4:=aC.mk tU;clear uF tU;have alJ:=aC.mk sV;have aO1:=aC.mk u6;clear sV u6;have DX:=aC.mk nM;have MQ:=aC.mk oC;clear nM oC;have HB:=aC.mk (Below.refl w.heap.size w);have H:(dD.l0 k (⟨#[]⟩:ByteArray) 0 cD cH bK)=some r:=h;clear h;have H':=aC.mk H;clear H;go_enter Tryd.func13,Tryd.ntmps13
 go_wp2_with (first|((with_reducible refine iJ (N:=1) rfl ?_);refine lF ?hg (N:=1) ?hd (cs:=#[.slice gR cD.length gN,.slice gP cH.length gQ,.slice eY bK.length eO]) (t:=30) ?hr ?_;(case hd=>rfl);(case hg=>rfl);(case hr=>first|(go_simp;done)|(go_simp;rfl));intro jP hg w2 hbox hb;have aM:=aC.mk (bQ (by repeat (first|(with_reducible first|exact HB.out|apply aI|apply aN|apply aJ)|exact HB.out)) hb);have aU:=aC.mk (hbox);have aX:=aC.mk ((by rw [hg];exact (bZ (by repeat (first|(with_reducible first|exact HB.out|apply aI|apply aN|apply aJ)|exact HB.out))):w.heap.size≤jP));have bD:=aC.mk ((by rw [hg];exact (bZ (by repeat (first|(with_reducible first|exact HB.out|apply aI|apply aN|apply aJ)|exact HB.out))):w.heap.size≤jP));clear HB;have HB:=aM;have eQ:=aU;have aB7:=aX;have xY:=bD;clear aM aU aX bD;clear hb hbox hg))
 go_loopg [3,4] k (fun kq v3 v4 w'=>∃ (bI:ByteArray) (a7:Int),v3= .string bI∧v4= .int .i64 a7∧aC (dD.l0 kq bI a7 cD cH bK=some r)∧aC (kq≤k)∧aC (w'.heap[jP]? =some (.cells #[(.slice gR cD.length gN),(.slice gP cH.length gQ),(.slice eY bK.length eO)] 30 (0,0)))∧aC (Below w.heap.size w w'))
 case atStart=>exact ⟨((⟨#[]⟩:ByteArray)),(0),(by first|rfl|(simp;done)|(simp [*];done)),(by first|rfl|(simp;done)|(simp [*];done)),H',⟨Nat.le_refl _⟩,⟨by (with_reducible repeat (first|refine aW ?_ _|refine aV ?_|refine aQ ?_ _));exact eQ.out⟩,⟨by repeat (first|(with_reducible first|exact HB.out|apply aI|apply aN|apply aJ|refine a8 ?_ xY.out)|exact HB.out)⟩⟩
 case round=>
  clear H';try clear c1
  try clear p2
  obtain ⟨bI,a7,rfl,rfl,HA,dI,eQ,HB⟩:=hrel;cases gk with
  |zero=>exact absurd HA.out (by simp [dD.l0])
  |succ k1=>
   have H:=HA.out;clear HA;simp only [dD.l0] at H;by_cases c3:a7<(cD.length:Int)
   ·rw [if_pos c3] at H;have j8:decide (a7<(cD.length:Int))=true:=decide_eq_true c3;clear c3;by_cases c4:bI.size+4≤9223372036854775807
    ·rw [if_pos c4] at H;have nN:=eq_true c4;have yC:decide (bI.size+4≤9223372036854775807)=true:=decide_eq_true c4;try have ah5:(9223372036854775807<bI.size+4)=False:=eq_false (Nat.not_lt.2 c4)
     by_cases c5:0≤a7
     ·rw [if_pos c5] at H;have mI:decide (0≤a7)=true:=decide_eq_true c5;clear c5;by_cases c6:(bI++(⟨#[118,97,114,32]⟩:ByteArray)).size+((dE cD a7).f0).size≤9223372036854775807
      ·rw [if_pos c6] at H;have sC:=eq_true c6;have sM:decide ((bI++(⟨#[118,97,114,32]⟩:ByteArray)).size+((dE cD a7).f0).size≤9223372036854775807)=true:=decide_eq_true c6;(try (have aoI:decide (bI.size+4+((dE cD a7).f0).size≤9223372036854775807)=true:=by have h_:=sM;simp only [ByteArray.size_append] at h_;exact h_))
       try have I5:(9223372036854775807<(bI++(⟨#[118,97,114,32]⟩:ByteArray)).size+((dE cD a7).f0).size)=False:=eq_false (Nat.not_lt.2 c6)
       (try (have aAV:(9223372036854775807<bI.size+4+((dE cD a7).f0).size)=False:=by have h_:=I5;simp only [ByteArray.size_append] at h_;exact h_))
       by_cases c7:((bI++(⟨#[118,97,114,32]⟩:ByteArray))++((dE cD a7).f0)).size+1≤9223372036854775807
       ·rw [if_pos c7] at H;have rX:=eq_true c7;have rT:decide (((bI++(⟨#[118,97,114,32]⟩:ByteArray))++((dE cD a7).f0)).size+1≤9223372036854775807)=true:=decide_eq_true c7;(try (have aMG:decide (bI.size+4+((dE cD a7).f0).size+1≤9223372036854775807)=true:=by have h_:=rT;simp only [ByteArray.size_append] at h_;exact h_))
        try have SA:(9223372036854775807<((bI++(⟨#[118,97,114,32]⟩:ByteArray))++((dE cD a7).f0)).size+1)=False:=eq_false (Nat.not_lt.2 c7)
        (try (have aKP:(9223372036854775807<bI.size+4+((dE cD a7).f0).size+1)=False:=by have h_:=SA;simp only [ByteArray.size_append] at h_;exact h_))
        have H':=aC.mk H;clear H;have aj4:wr.cell? ⟨jP,0,none⟩=some (.slice gR cD.length gN):=(aD eQ.out 0).trans rfl;have acQ:wr.cell? ⟨jP,1,none⟩=some (.slice gP cH.length gQ):=(aD eQ.out 1).trans rfl;have acB:wr.cell? ⟨jP,2,none⟩=some (.slice eY bK.length eO):=(aD eQ.out 2).trans rfl;have agM:=aT eQ.out 0;have Z5:=aT eQ.out 1;have afU:=aT eQ.out 2;have KJ:0≤(a7:Int):=of_decide_eq_true (by assumption);have JM:a7<(cD.length:Int):=of_decide_eq_true (by assumption);obtain ⟨aGF,asP,GA,GN⟩:=wD ay7.out a7 KJ JM;cases asP
        replace GA:=(HB.out.cell (World.block_lt_of_cell? w _ GA)).trans GA;replace GN:=(HB.out.cell (World.block_lt_of_cell? w _ GN)).trans GN;replace KJ:=eq_true KJ;replace JM:=eq_true JM;go_wp2
        go_roundg k1
        case measure=>have:=dI.out;omega
        case rel=>exact ⟨(((bI++(⟨#[118,97,114,32]⟩:ByteArray))++((dE cD a7).f0))++(⟨#[10]⟩:ByteArray)),(wrap64 (a7+1)),(by first|rfl|(simp;done)|(simp [*];done)),(by first|rfl|(simp;done)|(simp [*];done)),H',⟨by have:=dI.out;omega⟩,⟨by (with_reducible repeat (first|refine aW ?_ _|refine aV ?_|refine aQ ?_ _));exact eQ.out⟩,⟨by repeat (first|(with_reducible first|exact HB.out|apply aI|apply aN|apply aJ|refine a8 ?_ xY.out)|exact HB.out)⟩⟩
       ·rw [if_neg c7] at H;exact absurd H (by simp)
      ·rw [if_neg c6] at H;exact absurd H (by simp)
     ·rw [if_neg c5] at H;exact absurd H (by simp)
    ·rw [if_neg c4] at H;exact absurd H (by simp)
   ·rw [if_neg c3] at H;have j8:decide (a7<(cD.length:Int))=false:=decide_eq_false c3;clear c3;have H':=aC.mk H;clear H;have SC:wr.cell? ⟨jP,0,none⟩=some (.slice gR cD.length gN):=(aD eQ.out 0).trans rfl;have Y6:wr.cell? ⟨jP,1,none⟩=some (.slice gP cH.length gQ):=(aD eQ.out 1).trans rfl;have ae9:wr.cell? ⟨jP,2,none⟩=some (.slice eY bK.length eO):=(aD eQ.out 2).trans rfl;have ad1:=aT eQ.out 0;have RG:=aT eQ.out 1;have ajF:=aT eQ.out 2;go_wp2
    go_loopg [3,5] k1 (fun kq v3 v5 w'=>∃ (mZ:ByteArray) (kS:Int),v3= .string mZ∧v5= .int .i64 kS∧aC (dD.l1 kq mZ kS cD cH bK=some r)∧aC (kq≤k1)∧aC (w'.heap[jP]? =some (.cells #[(.slice gR cD.length gN),(.slice gP cH.length gQ),(.slice eY bK.length eO)] 30 (0,0)))∧aC (Below w.heap.size w w'))
    case atStart=>exact ⟨(bI),(0),(by first|rfl|(simp;done)|(simp [*];done)),(by first|rfl|(simp;done)|(simp [*];done)),H',⟨Nat.le_refl _⟩,⟨by (with_reducible repeat (first|refine aW ?_ _|refine aV ?_|refine aQ ?_ _));exact eQ.out⟩,⟨by repeat (first|(with_reducible first|exact HB.out|apply aI|apply aN|apply aJ|refine a8 ?_ xY.out)|exact HB.out)⟩⟩
    case round=>
     clear H';try clear c1
     try clear p2
     try clear q2
     try clear BB
     try clear c3
     try clear j8
     try clear c4
     try clear nN
     try clear yC
     try clear ah5
     try clear c5
     try clear mI
     try clear c6
     try clear sC
     try clear sM
     try clear I5
     try clear p6
     try clear c7
     try clear rX
     try clear rT
     try clear SA
     try clear aj4
     try clear acQ
     try clear acB
     try clear SC
     try clear Y6
     try clear ae9
     try clear agM
     try clear Z5
     try clear afU
     try clear ad1
     try clear RG
     try clear ajF
     try clear GA
     try clear GN
     try clear p2
     try clear KJ
     try clear JM
     obtain ⟨mZ,kS,rfl,rfl,HA,vN,eQ,HB⟩:=hrel;cases gk with
     |zero=>exact absurd HA.out (by simp [dD.l1])
     |succ k2=>
      have H:=HA.out;clear HA;simp only [dD.l1] at H;by_cases c10:kS<(cH.length:Int)
      ·rw [if_pos c10] at H;have YM:decide (kS<(cH.length:Int))=true:=decide_eq_true c10;clear c10;by_cases iX:mZ.size+5≤9223372036854775807
       ·rw [if_pos iX] at H;have C0:=eq_true iX;have YY:decide (mZ.size+5≤9223372036854775807)=true:=decide_eq_true iX;try have aA0:(9223372036854775807<mZ.size+5)=False:=eq_false (Nat.not_lt.2 iX)
        by_cases mA:0≤kS
        ·rw [if_pos mA] at H;have F0:decide (0≤kS)=true:=decide_eq_true mA;clear mA;by_cases lD:(mZ++(⟨#[108,111,99,107,32]⟩:ByteArray)).size+((dE cH kS).f0).size≤9223372036854775807
         ·rw [if_pos lD] at H;have anR:=eq_true lD;have aj8:decide ((mZ++(⟨#[108,111,99,107,32]⟩:ByteArray)).size+((dE cH kS).f0).size≤9223372036854775807)=true:=decide_eq_true lD;(try (have aMB:decide (mZ.size+5+((dE cH kS).f0).size≤9223372036854775807)=true:=by have h_:=aj8;simp only [ByteArray.size_append] at h_;exact h_))
          try have adV:(9223372036854775807<(mZ++(⟨#[108,111,99,107,32]⟩:ByteArray)).size+((dE cH kS).f0).size)=False:=eq_false (Nat.not_lt.2 lD)
          (try (have aM1:(9223372036854775807<mZ.size+5+((dE cH kS).f0).size)=False:=by have h_:=adV;simp only [ByteArray.size_append] at h_;exact h_))
          by_cases p7:((mZ++(⟨#[108,111,99,107,32]⟩:ByteArray))++((dE cH kS).f0)).size+1≤9223372036854775807
          ·rw [if_pos p7] at H;have afE:=eq_true p7;have PC:decide (((mZ++(⟨#[108,111,99,107,32]⟩:ByteArray))++((dE cH kS).f0)).size+1≤9223372036854775807)=true:=decide_eq_true p7;(try (have alE:decide (mZ.size+5+((dE cH kS).f0).size+1≤9223372036854775807)=true:=by have h_:=PC;simp only [ByteArray.size_append] at h_;exact h_))
           try have QB:(9223372036854775807<((mZ++(⟨#[108,111,99,107,32]⟩:ByteArray))++((dE cH kS).f0)).size+1)=False:=eq_false (Nat.not_lt.2 p7)
           (try (have aAN:(9223372036854775807<mZ.size+5+((dE cH kS).f0).size+1)=False:=by have h_:=QB;simp only [ByteArray.size_append] at h_;exact h_))
           have H':=aC.mk H;clear H;have anC:wr.cell? ⟨jP,0,none⟩=some (.slice gR cD.length gN):=(aD eQ.out 0).trans rfl;have apI:wr.cell? ⟨jP,1,none⟩=some (.slice gP cH.length gQ):=(aD eQ.out 1).trans rfl;have aq5:wr.cell? ⟨jP,2,none⟩=some (.slice eY bK.length eO):=(aD eQ.out 2).trans rfl;have ao8:=aT eQ.out 0;have alZ:=aT eQ.out 1;have arJ:=aT eQ.out 2;have LL:0≤(kS:Int):=of_decide_eq_true (by assumption);have O8:kS<(cH.length:Int):=of_decide_eq_true (by assumption);obtain ⟨aLZ,ao0,PI,MG⟩:=wD alJ.out kS LL O8;cases ao0
           replace PI:=(HB.out.cell (World.block_lt_of_cell? w _ PI)).trans PI;replace MG:=(HB.out.cell (World.block_lt_of_cell? w _ MG)).trans MG;replace LL:=eq_true LL;replace O8:=eq_true O8;go_wp2
           go_roundg k2
           case measure=>have:=dI.out;have:=vN.out;omega
           case rel=>exact ⟨(((mZ++(⟨#[108,111,99,107,32]⟩:ByteArray))++((dE cH kS).f0))++(⟨#[10]⟩:ByteArray)),(wrap64 (kS+1)),(by first|rfl|(simp;done)|(simp [*];done)),(by first|rfl|(simp;done)|(simp [*];done)),H',⟨by have:=dI.out;have:=vN.out;omega⟩,⟨by (with_reducible repeat (first|refine aW ?_ _|refine aV ?_|refine aQ ?_ _));exact eQ.out⟩,⟨by repeat (first|(with_reducible first|exact HB.out|apply aI|apply aN|apply aJ|refine a8 ?_ xY.out)|exact HB.out)⟩⟩
          ·rw [if_neg p7] at H;exact absurd H (by simp)
         ·rw [if_neg lD] at H;exact absurd H (by simp)
        ·rw [if_neg mA] at H;exact absurd H (by simp)
       ·rw [if_neg iX] at H;exact absurd H (by simp)
      ·rw [if_neg c10] at H;have YM:decide (kS<(cH.length:Int))=false:=decide_eq_false c10;clear c10;have H':=aC.mk H;clear H;have agE:wr.cell? ⟨jP,0,none⟩=some (.slice gR cD.length gN):=(aD eQ.out 0).trans rfl;have akW:wr.cell? ⟨jP,1,none⟩=some (.slice gP cH.length gQ):=(aD eQ.out 1).trans rfl;have adG:wr.cell? ⟨jP,2,none⟩=some (.slice eY bK.length eO):=(aD eQ.out 2).trans rfl;have agK:=aT eQ.out 0;have aaT:=aT eQ.out 1;have ag5:=aT eQ.out 2;go_wp2
       go_loopg [3,6] k2 (fun kq v3 v6 w'=>∃ (jC:ByteArray) (eK:Int),v3= .string jC∧v6= .int .i64 eK∧aC (dD.l2 kq jC eK cD cH bK=some r)∧aC (kq≤k2)∧aC (w'.heap[jP]? =some (.cells #[(.slice gR cD.length gN),(.slice gP cH.length gQ),(.slice eY bK.length eO)] 30 (0,0)))∧aC (Below w.heap.size w w'))
       case atStart=>exact ⟨(mZ),(0),(by first|rfl|(simp;done)|(simp [*];done)),(by first|rfl|(simp;done)|(simp [*];done)),H',⟨Nat.le_refl _⟩,⟨by (with_reducible repeat (first|refine aW ?_ _|refine aV ?_|refine aQ ?_ _));exact eQ.out⟩,⟨by repeat (first|(with_reducible first|exact HB.out|apply aI|apply aN|apply aJ|refine a8 ?_ xY.out)|exact HB.out)⟩⟩
       case round=>
        clear H';try clear c1
        try clear p2
        try clear q2
        try clear BB
        try clear c3
        try clear j8
        try clear c4
        try clear nN
        try clear yC
        try clear ah5
        try clear c5
        try clear mI
        try clear c6
        try clear sC
        try clear sM
        try clear I5
        try clear p6
        try clear c7
        try clear rX
        try clear rT
        try clear SA
        try clear c10
        try clear YM
        try clear iX
        try clear C0
        try clear YY
        try clear aA0
        try clear mA
        try clear F0
        try clear lD
        try clear anR
        try clear aj8
        try clear adV
        try clear p7
        try clear afE
        try clear PC
        try clear QB
        try clear anC
        try clear apI
        try clear aq5
        try clear agE
        try clear akW
        try clear adG
        try clear aj4
        try clear acQ
        try clear acB
        try clear SC
        try clear Y6
        try clear ae9
        try clear ao8
        try clear alZ
        try clear arJ
        try clear agK
        try clear aaT
        try clear ag5
        try clear agM
        try clear Z5
        try clear afU
        try clear ad1
        try clear RG
        try clear ajF
        try clear GA
        try clear GN
        try clear PI
        try clear MG
        try clear p2
        try clear KJ
        try clear LL
        try clear p6
        try clear q2
        try clear JM
        try clear O8
        obtain ⟨jC,eK,rfl,rfl,HA,EF,eQ,HB⟩:=hrel;cases gk with
        |zero=>exact absurd HA.out (by simp [dD.l2])
        |succ k3=>
         have H:=HA.out;clear HA;simp only [dD.l2] at H;by_cases AH:eK<(bK.length:Int)
         ·rw [if_pos AH] at H;have am1:decide (eK<(bK.length:Int))=true:=decide_eq_true AH;clear AH;by_cases qS:jC.size+5≤9223372036854775807
          ·rw [if_pos qS] at H;have AU:=eq_true qS;have Q9:decide (jC.size+5≤9223372036854775807)=true:=decide_eq_true qS;try have aFQ:(9223372036854775807<jC.size+5)=False:=eq_false (Nat.not_lt.2 qS)
           by_cases vF:0≤eK
           ·rw [if_pos vF] at H;have aG4:decide (0≤eK)=true:=decide_eq_true vF;clear vF;by_cases jD:(jC++(⟨#[102,117,110,99,32]⟩:ByteArray)).size+((bF bK eK).f0).size≤9223372036854775807
            ·rw [if_pos jD] at H;have sI:=eq_true jD;have wR:decide ((jC++(⟨#[102,117,110,99,32]⟩:ByteArray)).size+((bF bK eK).f0).size≤9223372036854775807)=true:=decide_eq_true jD;(try (have aJL:decide (jC.size+5+((bF bK eK).f0).size≤9223372036854775807)=true:=by have h_:=wR;simp only [ByteArray.size_append] at h_;exact h_))
             try have avK:(9223372036854775807<(jC++(⟨#[102,117,110,99,32]⟩:ByteArray)).size+((bF bK eK).f0).size)=False:=eq_false (Nat.not_lt.2 jD)
             (try (have aF9:(9223372036854775807<jC.size+5+((bF bK eK).f0).size)=False:=by have h_:=avK;simp only [ByteArray.size_append] at h_;exact h_))
             by_cases mC:((jC++(⟨#[102,117,110,99,32]⟩:ByteArray))++((bF bK eK).f0)).size+1≤9223372036854775807
             ·rw [if_pos mC] at H;have ajH:=eq_true mC;have UH:decide (((jC++(⟨#[102,117,110,99,32]⟩:ByteArray))++((bF bK eK).f0)).size+1≤9223372036854775807)=true:=decide_eq_true mC;(try (have aM8:decide (jC.size+5+((bF bK eK).f0).size+1≤9223372036854775807)=true:=by have h_:=UH;simp only [ByteArray.size_append] at h_;exact h_))
              try have as5:(9223372036854775807<((jC++(⟨#[102,117,110,99,32]⟩:ByteArray))++((bF bK eK).f0)).size+1)=False:=eq_false (Nat.not_lt.2 mC)
              (try (have aJM:(9223372036854775807<jC.size+5+((bF bK eK).f0).size+1)=False:=by have h_:=as5;simp only [ByteArray.size_append] at h_;exact h_))
              replace H:=Option.bind_eq_some_iff.mp H;obtain ⟨t218,uI,H⟩:=H;replace H:(if (((jC++(⟨#[102,117,110,99,32]⟩:ByteArray))++((bF bK eK).f0))++(⟨#[32]⟩:ByteArray)).size+t218.size≤9223372036854775807 then (if ((((jC++(⟨#[102,117,110,99,32]⟩:ByteArray))++((bF bK eK).f0))++(⟨#[32]⟩:ByteArray))++t218).size+1≤9223372036854775807 then (dD.l2 k3 (((((jC++(⟨#[102,117,110,99,32]⟩:ByteArray))++((bF bK eK).f0))++(⟨#[32]⟩:ByteArray))++t218)++(⟨#[10]⟩:ByteArray)) (wrap64 (eK+1)) cD cH bK) else (none)) else (none))=some r:=H;have zO:=aC.mk uI;clear uI;by_cases kF:(((jC++(⟨#[102,117,110,99,32]⟩:ByteArray))++((bF bK eK).f0))++(⟨#[32]⟩:ByteArray)).size+t218.size≤9223372036854775807
              ·rw [if_pos kF] at H;have IF:=eq_true kF;have GQ:decide ((((jC++(⟨#[102,117,110,99,32]⟩:ByteArray))++((bF bK eK).f0))++(⟨#[32]⟩:ByteArray)).size+t218.size≤9223372036854775807)=true:=decide_eq_true kF;(try (have aw2:decide (jC.size+5+((bF bK eK).f0).size+1+t218.size≤9223372036854775807)=true:=by have h_:=GQ;simp only [ByteArray.size_append] at h_;exact h_))
               try have W7:(9223372036854775807<(((jC++(⟨#[102,117,110,99,32]⟩:ByteArray))++((bF bK eK).f0))++(⟨#[32]⟩:ByteArray)).size+t218.size)=False:=eq_false (Nat.not_lt.2 kF)
               (try (have aoX:(9223372036854775807<jC.size+5+((bF bK eK).f0).size+1+t218.size)=False:=by have h_:=W7;simp only [ByteArray.size_append] at h_;exact h_))
               by_cases jA:((((jC++(⟨#[102,117,110,99,32]⟩:ByteArray))++((bF bK eK).f0))++(⟨#[32]⟩:ByteArray))++t218).size+1≤9223372036854775807
               ·rw [if_pos jA] at H;have xK:=eq_true jA;have S7:decide (((((jC++(⟨#[102,117,110,99,32]⟩:ByteArray))++((bF bK eK).f0))++(⟨#[32]⟩:ByteArray))++t218).size+1≤9223372036854775807)=true:=decide_eq_true jA;(try (have am6:decide (jC.size+5+((bF bK eK).f0).size+1+t218.size+1≤9223372036854775807)=true:=by have h_:=S7;simp only [ByteArray.size_append] at h_;exact h_))
                try have YR:(9223372036854775807<((((jC++(⟨#[102,117,110,99,32]⟩:ByteArray))++((bF bK eK).f0))++(⟨#[32]⟩:ByteArray))++t218).size+1)=False:=eq_false (Nat.not_lt.2 jA)
                (try (have avY:(9223372036854775807<jC.size+5+((bF bK eK).f0).size+1+t218.size+1)=False:=by have h_:=YR;simp only [ByteArray.size_append] at h_;exact h_))
                have H':=aC.mk H;clear H;have aEU:wr.cell? ⟨jP,0,none⟩=some (.slice gR cD.length gN):=(aD eQ.out 0).trans rfl;have aDC:wr.cell? ⟨jP,1,none⟩=some (.slice gP cH.length gQ):=(aD eQ.out 1).trans rfl;have aHG:wr.cell? ⟨jP,2,none⟩=some (.slice eY bK.length eO):=(aD eQ.out 2).trans rfl;have aOP:=aT eQ.out 0;have aF3:=aT eQ.out 1;have aLY:=aT eQ.out 2;try go_wp2
                have aM:=aC.mk (aV eQ.out);have aU:=aC.mk (aJ HB.out);clear eQ;clear HB;have eQ:=aM;have HB:=aU;clear aM aU;have WI:0≤(eK:Int):=of_decide_eq_true (by assumption);have YB:eK<(bK.length:Int):=of_decide_eq_true (by assumption);obtain ⟨rD,YZ,U3,aAE,KA,K8,FE,agX,abS⟩:=vJ DX.out eK WI YB;have OO:=FE;have PG:=K8;have OS:=KA;cases aAE
                replace KA:=(HB.out.cell (World.block_lt_of_cell? w _ KA)).trans KA;replace K8:=(HB.out.cell (World.block_lt_of_cell? w _ K8)).trans K8;replace FE:=(HB.out.cell (World.block_lt_of_cell? w _ FE)).trans FE;have awD:=aC.mk abS;have aEA:=aC.mk agX;clear abS agX;replace WI:=eq_true WI;replace YB:=eq_true YB;have X5:0≤(eK:Int):=of_decide_eq_true (by assumption);have VR:eK<(bK.length:Int):=of_decide_eq_true (by assumption);obtain ⟨aqM,aK5,aOF,ax6,IY,LC,CW,ajU,aaD⟩:=vJ DX.out eK X5 VR;have QG:=CW;have PB:=LC;have M6:=IY;obtain rfl:rD=aqM:=(by injection ax6);replace IY:=(HB.out.cell (World.block_lt_of_cell? w _ IY)).trans IY;replace LC:=(HB.out.cell (World.block_lt_of_cell? w _ LC)).trans LC;replace CW:=(HB.out.cell (World.block_lt_of_cell? w _ CW)).trans CW;have afY:=aC.mk aaD;have amA:=aC.mk ajU;clear aaD ajU;replace X5:=eq_true X5;replace VR:=eq_true VR;have ea_:=Option.some.inj (FE.symm.trans CW);injection ea_ with ea_ en_ ec_
                subst ea_;subst ec_;clear en_;refine mK (n:=19) (S:=fun w'=>w'.cell? ⟨jP,0,none⟩=some (.slice gR cD.length gN)∧w'.cell? ⟨jP,1,none⟩=some (.slice gP cH.length gQ)∧w'.cell? ⟨jP,2,none⟩=some (.slice (some rD) bK.length eO)∧w'.cell? (rD.add ((eK).toNat * 3))=some (.string ((bF bK eK).f0))∧w'.cell? ⟨(rD.add ((eK).toNat * 3)).block,(rD.add ((eK).toNat * 3)).off+1,none⟩=some (.int .i64 ((bF bK eK).f1))∧w'.cell? ⟨(rD.add ((eK).toNat * 3)).block,(rD.add ((eK).toNat * 3)).off+2,none⟩=some (.slice YZ ((bF bK eK).f2).length U3)∧w'.cell? (rD.add ((eK).toNat * 3))=some (.string ((bF bK eK).f0))∧w'.cell? ⟨(rD.add ((eK).toNat * 3)).block,(rD.add ((eK).toNat * 3)).off+1,none⟩=some (.int .i64 ((bF bK eK).f1))∧w'.cell? ⟨(rD.add ((eK).toNat * 3)).block,(rD.add ((eK).toNat * 3)).off+2,none⟩=some (.slice YZ ((bF bK eK).f2).length U3)) (ds:=[]) #[false,false,false,false,false,false,false,false,false,false,false,false,false,false,false,false,false,false,false] (by kernel_rfl) rfl rfl ⟨(aD eQ.out 0).trans rfl,(aD eQ.out 1).trans rfl,(aD eQ.out 2).trans rfl,((HB.out.cell (World.block_lt_of_cell? w _ OS)).trans OS),((HB.out.cell (World.block_lt_of_cell? w _ PG)).trans PG),((HB.out.cell (World.block_lt_of_cell? w _ OO)).trans OO),((HB.out.cell (World.block_lt_of_cell? w _ M6)).trans M6),((HB.out.cell (World.block_lt_of_cell? w _ PB)).trans PB),((HB.out.cell (World.block_lt_of_cell? w _ QG)).trans QG)⟩ (fun hHeld=>?_);refine PT dD.tab13 dD.bits13 (fun HT_ HW_=>?_);generalize wr.drew=qE at eQ HB awD afY KA K8 FE IY LC CW hHeld ⊢;refine bE (i:=0) (N:=some 48) (v:=?_) (a':=?_) #[true,false,false,false,false,false,false,false,false,false,false,false,false,false,false,false,false,false,false] rfl rfl (gE HT_.out (by kernel_rfl)) (fun _ _ _ h=>h) (Or.inl ⟨by rfl,?_⟩) ?_ ?_
                rotate_left;·intro w';go_simp;with_reducible rfl
                rotate_left;·simp only [Act.put,q1_,q2_,q3_,aG,aH];rfl
                refine bE (i:=1) (N:=some 49) (v:=?_) (a':=?_) #[true,true,false,false,false,false,false,false,false,false,false,false,false,false,false,false,false,false,false] rfl rfl (gE HT_.out (by kernel_rfl)) (fun _ _ _ h=>h) (Or.inl ⟨by rfl,?_⟩) ?_ ?_
                rotate_left;·intro w';go_simp;with_reducible rfl
                rotate_left;·simp only [Act.put,q1_,q2_,q3_,aG,aH];rfl
                refine bE (i:=2) (N:=some 50) (v:=?_) (a':=?_) #[true,true,true,false,false,false,false,false,false,false,false,false,false,false,false,false,false,false,false] rfl rfl (gE HT_.out (by kernel_rfl)) (fun _ _ _ h=>h) (Or.inl ⟨by rfl,?_⟩) ?_ ?_
                rotate_left;·intro w';go_simp;with_reducible rfl
                rotate_left;·simp only [Act.put,q1_,q2_,q3_,aG,aH];rfl
                refine bE (i:=4) (N:=some 52) (v:=?_) (a':=?_) #[true,true,true,false,true,false,false,false,false,false,false,false,false,false,false,false,false,false,false] rfl rfl (gE HT_.out (by kernel_rfl)) (fun _ _ _ h=>h) (Or.inl ⟨by rfl,?_⟩) ?_ ?_
                rotate_left;·intro w';go_simp;with_reducible rfl
                rotate_left;·simp only [Act.put,q1_,q2_,q3_,aG,aH];rfl
                refine bE (i:=10) (N:=some 58) (v:=?_) (a':=?_) #[true,true,true,false,true,false,false,false,false,false,true,false,false,false,false,false,false,false,false] rfl rfl (gE HT_.out (by kernel_rfl)) (fun _ _ _ h=>h) (Or.inl ⟨by rfl,?_⟩) ?_ ?_
                rotate_left;·intro w';go_simp;with_reducible rfl
                rotate_left;·simp only [Act.put,q1_,q2_,q3_,aG,aH];rfl
                refine bE (i:=12) (N:=some 60) (v:=?_) (a':=?_) #[true,true,true,false,true,false,false,false,false,false,true,false,true,false,false,false,false,false,false] rfl rfl (gE HT_.out (by kernel_rfl)) (fun _ _ _ h=>h) (Or.inl ⟨by rfl,?_⟩) ?_ ?_
                rotate_left;·intro w';go_simp;with_reducible rfl
                rotate_left;·simp only [Act.put,q1_,q2_,q3_,aG,aH];rfl
                refine eC (i:=3) (N:=some 51) (v:=?_) (a':=?_) #[true,true,true,true,true,false,false,false,false,false,true,false,true,false,false,false,false,false,false] rfl rfl (wW HT_.out HW_.out (by kernel_rfl)) (fun _ _ _ h=>h) (Or.inl ⟨by rfl,?_⟩) hHeld ?_ ?_
                rotate_left
                ·rintro w' ⟨s0,s1,s2,s3,s4,s5,s6,s7,s8⟩
                 go_simp;with_reducible rfl
                rotate_left;·simp only [Act.put,q1_,q2_,q3_,aG,aH];rfl
                refine bE (i:=5) (N:=some 53) (v:=?_) (a':=?_) #[true,true,true,true,true,true,false,false,false,false,true,false,true,false,false,false,false,false,false] rfl rfl (gE HT_.out (by kernel_rfl)) (fun _ _ _ h=>h) (Or.inl ⟨by rfl,?_⟩) ?_ ?_
                rotate_left;·intro w';go_simp;with_reducible rfl
                rotate_left;·simp only [Act.put,q1_,q2_,q3_,aG,aH];rfl
                refine bE (i:=6) (N:=some 54) (v:=?_) (a':=?_) #[true,true,true,true,true,true,true,false,false,false,true,false,true,false,false,false,false,false,false] rfl rfl (gE HT_.out (by kernel_rfl)) (fun _ _ _ h=>h) (Or.inl ⟨by rfl,?_⟩) ?_ ?_
                rotate_left;·intro w';go_simp;with_reducible rfl
                rotate_left;·simp only [Act.put,q1_,q2_,q3_,aG,aH];rfl
                refine eC (i:=7) (N:=some 55) (v:=?_) (a':=?_) #[true,true,true,true,true,true,true,true,false,false,true,false,true,false,false,false,false,false,false] rfl rfl (wW HT_.out HW_.out (by kernel_rfl)) (fun _ _ _ h=>h) (Or.inl ⟨by rfl,?_⟩) hHeld ?_ ?_
                rotate_left
                ·rintro w' ⟨s0,s1,s2,s3,s4,s5,s6,s7,s8⟩
                 go_simp;with_reducible rfl
                rotate_left;·simp only [Act.put,q1_,q2_,q3_,aG,aH];rfl
                refine bE (i:=8) (N:=some 56) (v:=?_) (a':=?_) #[true,true,true,true,true,true,true,true,true,false,true,false,true,false,false,false,false,false,false] rfl rfl (gE HT_.out (by kernel_rfl)) (fun _ _ _ h=>h) (Or.inl ⟨by rfl,?_⟩) ?_ ?_
                rotate_left;·intro w';go_simp;with_reducible rfl
                rotate_left;·simp only [Act.put,q1_,q2_,q3_,aG,aH];rfl
                refine bE (i:=9) (N:=some 57) (v:=?_) (a':=?_) #[true,true,true,true,true,true,true,true,true,true,true,false,true,false,false,false,false,false,false] rfl rfl (gE HT_.out (by kernel_rfl)) (fun _ _ _ h=>h) (Or.inl ⟨by rfl,?_⟩) ?_ ?_
                rotate_left;·intro w';go_simp;with_reducible rfl
                rotate_left;·simp only [Act.put,q1_,q2_,q3_,aG,aH];rfl
                refine eC (i:=11) (N:=some 59) (v:=?_) (a':=?_) #[true,true,true,true,true,true,true,true,true,true,true,true,true,false,false,false,false,false,false] rfl rfl (wW HT_.out HW_.out (by kernel_rfl)) (fun _ _ _ h=>h) (Or.inl ⟨by rfl,?_⟩) hHeld ?_ ?_
                rotate_left
                ·rintro w' ⟨s0,s1,s2,s3,s4,s5,s6,s7,s8⟩
                 go_simp;with_reducible rfl
                rotate_left;·simp only [Act.put,q1_,q2_,q3_,aG,aH];rfl
                refine bE (i:=13) (N:=some 61) (v:=?_) (a':=?_) #[true,true,true,true,true,true,true,true,true,true,true,true,true,true,false,false,false,false,false] rfl rfl (gE HT_.out (by kernel_rfl)) (fun _ _ _ h=>h) (Or.inl ⟨by rfl,?_⟩) ?_ ?_
                rotate_left;·intro w';go_simp;with_reducible rfl
                rotate_left;·simp only [Act.put,q1_,q2_,q3_,aG,aH];rfl
                refine eC (i:=14) (N:=some 62) (v:=?_) (a':=?_) #[true,true,true,true,true,true,true,true,true,true,true,true,true,true,true,false,false,false,false] rfl rfl (wW HT_.out HW_.out (by kernel_rfl)) (fun _ _ _ h=>h) (Or.inl ⟨by rfl,?_⟩) hHeld ?_ ?_
                rotate_left
                ·rintro w' ⟨s0,s1,s2,s3,s4,s5,s6,s7,s8⟩
                 go_simp;with_reducible rfl
                rotate_left;·simp only [Act.put,q1_,q2_,q3_,aG,aH];rfl
                refine one_ (i:=15) (N:=some 63) #[true,true,true,true,true,true,true,true,true,true,true,true,true,true,true,true,false,false,false] rfl rfl (tA HT_.out (by kernel_rfl)) (by decide) (fun K hK=>?_);refine mM Tryd.func25 (by kernel_rfl) rfl #[.agg #[.string ((bF bK eK).f0),.int .i64 ((bF bK eK).f1),.slice YZ ((bF bK eK).f2).length U3]] (by rfl) rfl rfl (by (try simp only [List.map_toArray,List.map_cons,List.map_nil]);first|done|rfl|(simp only [List.length_drop,List.length_take];rfl)) ?_
                with_reducible refine (nJ.calls k3 ((bF bK eK).f0) ((bF bK eK).f1) _ _ ((bF bK eK).f2) t218 _ ?cJ ?cK zO.out).mono ?_
                (case cJ=>repeat (first|exact (Kd.cN afY.out HB.out)|(with_reducible refine Kd.eE ?_ _)|(with_reducible refine Kd.eG ?_ _)|(with_reducible refine Kd.eF ?_)))
                (case cK=>exact amA.out)
                rintro e DB ⟨rfl,hb⟩
                refine ⟨_,rfl,?_⟩;have aM:=aC.mk (dB (g:=jP) (o:=.cells #[.slice gR cD.length gN,.slice gP cH.length gQ,.slice (some rD) bK.length eO] 30 (0,0)) (by (with_reducible repeat (first|refine aW ?_ _|refine aV ?_|refine aQ ?_ _));exact eQ.out) hb);have aU:=aC.mk (bQ (by repeat (first|(with_reducible first|exact HB.out|apply aI|apply aN|apply aJ|refine a8 ?_ xY.out)|exact HB.out)) hb);clear eQ;clear HB;have eQ:=aM;have HB:=aU;clear aM aU;(try clear hb)
                (try clear bR)
                (try clear hk)
                (try clear hi)
                refine hK.out _ _ ⟨(aD eQ.out 0).trans rfl,(aD eQ.out 1).trans rfl,(aD eQ.out 2).trans rfl,((HB.out.cell (World.block_lt_of_cell? w _ OS)).trans OS),((HB.out.cell (World.block_lt_of_cell? w _ PG)).trans PG),((HB.out.cell (World.block_lt_of_cell? w _ OO)).trans OO),((HB.out.cell (World.block_lt_of_cell? w _ M6)).trans M6),((HB.out.cell (World.block_lt_of_cell? w _ PB)).trans PB),((HB.out.cell (World.block_lt_of_cell? w _ QG)).trans QG)⟩ (fun hHeld=>?_);clear hK K;refine aZ (a':=?_) ?_ ?_
                rotate_left
                ·show Act.put _ (some 63) _=_
                 simp only [Act.put,q1_,q2_,q3_,aG,aH];rfl
                refine bE (i:=16) (N:=some 64) (v:=?_) (a':=?_) #[true,true,true,true,true,true,true,true,true,true,true,true,true,true,true,true,true,false,false] rfl rfl (gE HT_.out (by kernel_rfl)) (fun _ _ _ h=>h) (Or.inl ⟨by rfl,?_⟩) ?_ ?_
                rotate_left;·intro w';go_simp;with_reducible rfl
                rotate_left;·simp only [Act.put,q1_,q2_,q3_,aG,aH];rfl
                refine bE (i:=17) (N:=some 65) (v:=?_) (a':=?_) #[true,true,true,true,true,true,true,true,true,true,true,true,true,true,true,true,true,true,false] rfl rfl (gE HT_.out (by kernel_rfl)) (fun _ _ _ h=>h) (Or.inl ⟨by rfl,?_⟩) ?_ ?_
                rotate_left;·intro w';go_simp;with_reducible rfl
                rotate_left;·simp only [Act.put,q1_,q2_,q3_,aG,aH];rfl
                refine bE (i:=18) (N:=some 3) (v:=?_) (a':=?_) #[true,true,true,true,true,true,true,true,true,true,true,true,true,true,true,true,true,true,true] rfl rfl (gE HT_.out (by kernel_rfl)) (fun _ _ _ h=>h) (Or.inl ⟨by rfl,?_⟩) ?_ ?_
                rotate_left;·intro w';go_simp;with_reducible rfl
                rotate_left;·simp only [Act.put,q1_,q2_,q3_,aG,aH];rfl
                refine mP (OU HT_.out (by kernel_rfl)) ?_
                try go_wp2
                go_roundg k3
                case measure=>have:=dI.out;have:=vN.out;have:=EF.out;omega
                case rel=>exact ⟨(((((jC++(⟨#[102,117,110,99,32]⟩:ByteArray))++((bF bK eK).f0))++(⟨#[32]⟩:ByteArray))++t218)++(⟨#[10]⟩:ByteArray)),(wrap64 (eK+1)),(by first|rfl|(simp;done)|(simp [*];done)),(by first|rfl|(simp;done)|(simp [*];done)),H',⟨by have:=dI.out;have:=vN.out;have:=EF.out;omega⟩,⟨by (with_reducible repeat (first|refine aW ?_ _|refine aV ?_|refine aQ ?_ _));exact eQ.out⟩,⟨by repeat (first|(with_reducible first|exact HB.out|apply aI|apply aN|apply aJ|refine a8 ?_ xY.out)|exact HB.out)⟩⟩
               ·rw [if_neg jA] at H;exact absurd H (by simp)
              ·rw [if_neg kF] at H;exact absurd H (by simp)
             ·rw [if_neg mC] at H;exact absurd H (by simp)
            ·rw [if_neg jD] at H;exact absurd H (by simp)
           ·rw [if_neg vF] at H;exact absurd H (by simp)
          ·rw [if_neg qS] at H;exact absurd H (by simp)
         ·rw [if_neg AH] at H;have am1:decide (eK<(bK.length:Int))=false:=decide_eq_false AH;clear AH;obtain rfl:=Option.some.inj H;have ak5:wr.cell? ⟨jP,0,none⟩=some (.slice gR cD.length gN):=(aD eQ.out 0).trans rfl;have azQ:wr.cell? ⟨jP,1,none⟩=some (.slice gP cH.length gQ):=(aD eQ.out 1).trans rfl;have avJ:wr.cell? ⟨jP,2,none⟩=some (.slice eY bK.length eO):=(aD eQ.out 2).trans rfl;have aA7:=aT eQ.out 0;have avG:=aT eQ.out 1;have atA:=aT eQ.out 2;go_wp2
          go_ret
          exact ⟨by first|rfl|(simp [fJ,fK]<;>rfl)|(simp [*,fJ,fK]<;>rfl),by repeat (first|(with_reducible first|exact HB.out|apply aI|apply aN|apply aJ|refine a8 ?_ xY.out)|exact HB.out)⟩
end Go.Proofs.YtkmafndljelopaaDoor.Q
