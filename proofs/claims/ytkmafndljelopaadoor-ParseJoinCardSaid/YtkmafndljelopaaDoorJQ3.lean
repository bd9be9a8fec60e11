/- A part of this claim. -/
import Derived.Test.YtkmafndljelopaaDoorJQ0
import Derived.Test.YtkmafndljelopaaDoorJQ1
namespace Go.Proofs.YtkmafndljelopaaDoor.Q
open Go.RowKit Go.Proofs.YtkmafndljelopaaDoorW.PrintWords Go.Proofs.YtkmafndljelopaaDoorW.PrintLast Go.Proofs.YtkmafndljelopaaDoorW.PrintMore
attribute [local go_sem] tS tT uD sZ tQ tC uX sO
set_option linter.unusedVariables false
set_option linter.unusedSimpArgs false
mutual
def bP.l0:Nat→List (S105)→List (S86)→Int→Option ((List (S86)))
 |0,_,_,_=>none
 |k+1,x0,x3,x4=>if x4<(x0.length:Int) then (if 0≤x4 then ((i6.f ((dK x0 x4).f0) 8).bind fun t220=>(if (wrap64 (1+t220))=1 then (bP.j1 k x0 x3 x4 ((dK x0 x4).f1) (wrap64 (1+t220)) ((wrap64 (1+t220))==1) (wrap64 (1+t220)) 0 (⟨#[]⟩:ByteArray)) else (bP.j1 k x0 x3 x4 ((dK x0 x4).f1) (wrap64 (1+t220)) ((wrap64 (1+t220))==2) (wrap64 (1+t220)) 0 (⟨#[]⟩:ByteArray)))) else (none)) else (some x3)
def bP.j1:Nat→List (S105)→List (S86)→Int→Int→Int→Bool→Int→Int→ByteArray→Option ((List (S86)))
 |0,_,_,_,_,_,_,_,_,_=>none
 |k+1,x0,x3,x4,x6,pU,auT,r7,rV,xD=>if auT=true then ((some (([(⟨#[120]⟩:ByteArray),(⟨#[121]⟩:ByteArray),(⟨#[122]⟩:ByteArray)]:List ByteArray):List ByteArray)).bind fun kQ=>((i6.f x6 3).bind fun t226=>(if 0≤t226 then (if t226<(kQ.length:Int) then (if x3.length<1759218604441 then (bP.l0 k x0 (x3++ [(⟨r7,rV,rdOf ByteArray.empty kQ t226,([]:List (S86)),([]:List (S86))⟩:S86)]) (wrap64 (x4+1))) else (none)) else (none)) else (none)))) else (if pU=3 then (bP.j2 k x0 x3 x4 x6 pU (pU==3) r7 rV xD) else (bP.j2 k x0 x3 x4 x6 pU (pU==4) r7 rV xD))
def bP.j2:Nat→List (S105)→List (S86)→Int→Int→Int→Bool→Int→Int→ByteArray→Option ((List (S86)))
 |0,_,_,_,_,_,_,_,_,_=>none
 |k+1,x0,x3,x4,x6,pU,arP,r7,rV,xD=>if arP=true then ((some (([(⟨#[108]⟩:ByteArray),(⟨#[109]⟩:ByteArray),(⟨#[110]⟩:ByteArray)]:List ByteArray):List ByteArray)).bind fun kM=>((i6.f x6 3).bind fun t234=>(if 0≤t234 then (if t234<(kM.length:Int) then (if x3.length<1759218604441 then (bP.l0 k x0 (x3++ [(⟨r7,rV,rdOf ByteArray.empty kM t234,([]:List (S86)),([]:List (S86))⟩:S86)]) (wrap64 (x4+1))) else (none)) else (none)) else (none)))) else (if pU=5 then (bP.j3 k x0 x3 x4 x6 pU (pU==5) r7 rV xD) else (bP.j3 k x0 x3 x4 x6 pU (pU==6) r7 rV xD))
def bP.j3:Nat→List (S105)→List (S86)→Int→Int→Int→Bool→Int→Int→ByteArray→Option ((List (S86)))
 |0,_,_,_,_,_,_,_,_,_=>none
 |k+1,x0,x3,x4,x6,pU,aqT,r7,rV,xD=>if aqT=true then ((some (([(⟨#[102]⟩:ByteArray),(⟨#[103]⟩:ByteArray),(⟨#[104]⟩:ByteArray),(⟨#[109,97,105,110]⟩:ByteArray)]:List ByteArray):List ByteArray)).bind fun kG=>((i6.f x6 4).bind fun t242=>(if 0≤t242 then (if t242<(kG.length:Int) then (if x3.length<1759218604441 then (bP.l0 k x0 (x3++ [(⟨r7,rV,rdOf ByteArray.empty kG t242,([]:List (S86)),([]:List (S86))⟩:S86)]) (wrap64 (x4+1))) else (none)) else (none)) else (none)))) else (if pU=7 then (if 0≤x4 then (if x4<(x0.length:Int) then ((bP.f k ((dK x0 x4).f2)).bind fun t248=>((bP.f k ((dK x0 x4).f3)).bind fun jK=>(if x3.length<1759218604441 then (bP.l0 k x0 (x3++ [(⟨r7,rV,xD,t248,jK⟩:S86)]) (wrap64 (x4+1))) else (none)))) else (none)) else (none)) else (if pU=8 then (if 0≤x4 then (if x4<(x0.length:Int) then ((bP.f k ((dK x0 x4).f2)).bind fun mB=>(if x3.length<1759218604441 then (bP.l0 k x0 (x3++ [(⟨r7,rV,xD,mB,([]:List (S86))⟩:S86)]) (wrap64 (x4+1))) else (none))) else (none)) else (none)) else (if x3.length<1759218604441 then (bP.l0 k x0 (x3++ [(⟨r7,rV,xD,([]:List (S86)),([]:List (S86))⟩:S86)]) (wrap64 (x4+1))) else (none))))
def bP.f:Nat→List (S105)→Option ((List (S86)))
 |0,_=>none
 |k+1,l0=>bP.l0 k l0 ([]:List (S86)) 0
end
theorem bP.jT: ∀ k,(∀ y0,LeO (bP.f k y0) (bP.f (k+1) y0))∧(∀ y0 y1 y2,LeO (bP.l0 k y0 y1 y2) (bP.l0 (k+1) y0 y1 y2))∧(∀ y0 y1 y2 y3 y4 y5 y6 y7 y8,LeO (bP.j1 k y0 y1 y2 y3 y4 y5 y6 y7 y8) (bP.j1 (k+1) y0 y1 y2 y3 y4 y5 y6 y7 y8))∧(∀ y0 y1 y2 y3 y4 y5 y6 y7 y8,LeO (bP.j2 k y0 y1 y2 y3 y4 y5 y6 y7 y8) (bP.j2 (k+1) y0 y1 y2 y3 y4 y5 y6 y7 y8))∧(∀ y0 y1 y2 y3 y4 y5 y6 y7 y8,LeO (bP.j3 k y0 y1 y2 y3 y4 y5 y6 y7 y8) (bP.j3 (k+1) y0 y1 y2 y3 y4 y5 y6 y7 y8))
 |0=>⟨fun _ r h=>by simp [bP.f] at h,fun _ _ _ r h=>by simp [bP.l0] at h,fun _ _ _ _ _ _ _ _ _ r h=>by simp [bP.j1] at h,fun _ _ _ _ _ _ _ _ _ r h=>by simp [bP.j2] at h,fun _ _ _ _ _ _ _ _ _ r h=>by simp [bP.j3] at h⟩
 |k+1=>by
  obtain ⟨dU,fD,iH,qC,qP⟩:=bP.jT k;refine ⟨?_,?_,?_,?_,?_⟩
  ·intro y0;unfold bP.f
   repeat' first
   |(with_reducible exact dU _)
   |(with_reducible exact fD _ _ _)
   |(with_reducible exact iH _ _ _ _ _ _ _ _ _)
   |(with_reducible exact qC _ _ _ _ _ _ _ _ _)
   |(with_reducible exact qP _ _ _ _ _ _ _ _ _)
   |(with_reducible exact LeO.refl _)
   |(with_reducible exact LeO.none _)
   |(with_reducible refine LeO.ite ?_ ?_)
   |(with_reducible refine LeO.bind ?_ (fun _=>?_))
   |exact dU _
   |exact fD _ _ _
   |exact iH _ _ _ _ _ _ _ _ _
   |exact qC _ _ _ _ _ _ _ _ _
   |exact qP _ _ _ _ _ _ _ _ _
   |exact LeO.none _
   |refine LeO.ite ?_ ?_
   |refine LeO.bind ?_ (fun _=>?_)
  ·intro y0 y1 y2;unfold bP.l0
   repeat' first
   |(with_reducible exact dU _)
   |(with_reducible exact fD _ _ _)
   |(with_reducible exact iH _ _ _ _ _ _ _ _ _)
   |(with_reducible exact qC _ _ _ _ _ _ _ _ _)
   |(with_reducible exact qP _ _ _ _ _ _ _ _ _)
   |(with_reducible exact LeO.refl _)
   |(with_reducible exact LeO.none _)
   |(with_reducible refine LeO.ite ?_ ?_)
   |(with_reducible refine LeO.bind ?_ (fun _=>?_))
   |exact dU _
   |exact fD _ _ _
   |exact iH _ _ _ _ _ _ _ _ _
   |exact qC _ _ _ _ _ _ _ _ _
   |exact qP _ _ _ _ _ _ _ _ _
   |exact LeO.none _
   |refine LeO.ite ?_ ?_
   |refine LeO.bind ?_ (fun _=>?_)
  ·intro y0 y1 y2 y3 y4 y5 y6 y7 y8;unfold bP.j1
   repeat' first
   |(with_reducible exact dU _)
   |(with_reducible exact fD _ _ _)
   |(with_reducible exact iH _ _ _ _ _ _ _ _ _)
   |(with_reducible exact qC _ _ _ _ _ _ _ _ _)
   |(with_reducible exact qP _ _ _ _ _ _ _ _ _)
   |(with_reducible exact LeO.refl _)
   |(with_reducible exact LeO.none _)
   |(with_reducible refine LeO.ite ?_ ?_)
   |(with_reducible refine LeO.bind ?_ (fun _=>?_))
   |exact dU _
   |exact fD _ _ _
   |exact iH _ _ _ _ _ _ _ _ _
   |exact qC _ _ _ _ _ _ _ _ _
   |exact qP _ _ _ _ _ _ _ _ _
   |exact LeO.none _
   |refine LeO.ite ?_ ?_
   |refine LeO.bind ?_ (fun _=>?_)
  ·intro y0 y1 y2 y3 y4 y5 y6 y7 y8;unfold bP.j2
   repeat' first
   |(with_reducible exact dU _)
   |(with_reducible exact fD _ _ _)
   |(with_reducible exact iH _ _ _ _ _ _ _ _ _)
   |(with_reducible exact qC _ _ _ _ _ _ _ _ _)
   |(with_reducible exact qP _ _ _ _ _ _ _ _ _)
   |(with_reducible exact LeO.refl _)
   |(with_reducible exact LeO.none _)
   |(with_reducible refine LeO.ite ?_ ?_)
   |(with_reducible refine LeO.bind ?_ (fun _=>?_))
   |exact dU _
   |exact fD _ _ _
   |exact iH _ _ _ _ _ _ _ _ _
   |exact qC _ _ _ _ _ _ _ _ _
   |exact qP _ _ _ _ _ _ _ _ _
   |exact LeO.none _
   |refine LeO.ite ?_ ?_
   |refine LeO.bind ?_ (fun _=>?_)
  ·intro y0 y1 y2 y3 y4 y5 y6 y7 y8;unfold bP.j3
   repeat' first
   |(with_reducible exact dU _)
   |(with_reducible exact fD _ _ _)
   |(with_reducible exact iH _ _ _ _ _ _ _ _ _)
   |(with_reducible exact qC _ _ _ _ _ _ _ _ _)
   |(with_reducible exact qP _ _ _ _ _ _ _ _ _)
   |(with_reducible exact LeO.refl _)
   |(with_reducible exact LeO.none _)
   |(with_reducible refine LeO.ite ?_ ?_)
   |(with_reducible refine LeO.bind ?_ (fun _=>?_))
   |exact dU _
   |exact fD _ _ _
   |exact iH _ _ _ _ _ _ _ _ _
   |exact qC _ _ _ _ _ _ _ _ _
   |exact qP _ _ _ _ _ _ _ _ _
   |exact LeO.none _
   |refine LeO.ite ?_ ?_
   |refine LeO.bind ?_ (fun _=>?_)
theorem bP.mono: ∀ a0 k,LeO (bP.f k a0) (bP.f (k+1) a0):=by
 intro a0 k;obtain ⟨dU,fD,iH,qC,qP⟩:=bP.jT k;exact dU a0
def bP.T18:Bool×List (List Nat×List Nat):=(true,[([],[]),([],[]),([0,1],[0,1]),([2],[2]),([3],[3]),([4],[4]),([],[]),([],[]),([6,7],[6,7]),([8],[8]),([9],[9]),([10,5],[10]),([0,1,2,3,4,5],[]),([12,5,11,0,1,2,3,4,5],[5,12]),([0,1,2,3,4,5,6,7,8,9,10,11,12,13],[]),([14,11,13,0,1,2,3,4,5,6,7,8,9,10,11,12,13],[11,14])])
def bP.B18:List Nat:= [0,0,3,7,15,31,0,0,192,448,960,2047,63,8191,16383,32767]
theorem bP.tab18:rtab .any (opsOf Tryd.f29 18)=bP.T18:=by kernel_rfl
theorem bP.bits18:waitsOk bP.T18.2 bP.B18=true:=by kernel_rfl
set_option maxHeartbeats 8000000 in
set_option maxRecDepth 100000 in
theorem bP.calls (k:Nat): ∀ (A0:Option Addr) (c0:Nat) (l0:List (S105)) (r:List (S86)) (w:World) (eX:Kd.C k105 w A0 l0.length l0) (fC:l0.length≤c0) (h:bP.f k l0=some r),
  Calls Tryd.prog 29 #[.slice A0 l0.length c0] w fun e w'=>∃ mO:Value,e= .returned (mO)∧Kd.R k86 86 w' w.heap.size (fun _=>True) mO r∧Below w.heap.size w w':=by
 induction k using Nat.strongRecOn with
 |_ k ih=>
 intro A0 c0 l0 r w eX fC h;cases k with
 |zero=>exact absurd h (by simp [bP.f])
 |succ k=>
 simp only [bP.f] at h;have YQ:=Tryd.underlying86;have fG:=aC.mk eX;have lO:=aC.mk fC;clear eX fC;have HB:=aC.mk (Below.refl w.heap.size w);have H:(bP.l0 k l0 ([]:List (S86)) 0)=some r:=h;clear h;have H':=aC.mk H;clear H;go_enter Tryd.func29,Tryd.ntmps29
 go_wp2
 go_loopg [3,4] k (fun kq v3 v4 w'=>∃ (bI:List (S86)) (a7:Int),v4= .int .i64 a7∧aC (bP.l0 kq l0 bI a7=some r)∧aC (kq≤k)∧aC (Kd.R k86 86 w' w.heap.size (fun _=>True) v3 bI)∧aC (Below w.heap.size w w'))
 case atStart=>exact ⟨(([]:List (S86))),(0),(by first|rfl|(simp;done)|(simp [*];done)),H',⟨Nat.le_refl _⟩,⟨by first|exact Kd.jZ _ _ _ _ _|exact Kd.L9 _ _ _ _ _|exact Kd.z7 _ _ _ _ _|exact Kd.atL _ _ _ _ _|exact Kd.amP _ _ _ _ _⟩,⟨by repeat (first|(with_reducible first|exact HB.out|apply aI|apply aN|apply aJ)|exact HB.out)⟩⟩
 case round=>
  clear H';obtain ⟨bI,a7,rfl,HA,dI,b9,HB⟩:=hrel;cases gk with
  |zero=>exact absurd HA.out (by simp [bP.l0])
  |succ k1=>
   have H:=HA.out;clear HA;simp only [bP.l0] at H;by_cases c2:a7<(l0.length:Int)
   ·rw [if_pos c2] at H;have lM:decide (a7<(l0.length:Int))=true:=decide_eq_true c2;clear c2;by_cases c3:0≤a7
    ·rw [if_pos c3] at H;have j8:decide (0≤a7)=true:=decide_eq_true c3;clear c3;replace H:=Option.bind_eq_some_iff.mp H;obtain ⟨t220,tV,H⟩:=H;replace H:(if (wrap64 (1+t220))=1 then (bP.j1 k1 l0 bI a7 ((dK l0 a7).f1) (wrap64 (1+t220)) ((wrap64 (1+t220))==1) (wrap64 (1+t220)) 0 (⟨#[]⟩:ByteArray)) else (bP.j1 k1 l0 bI a7 ((dK l0 a7).f1) (wrap64 (1+t220)) ((wrap64 (1+t220))==2) (wrap64 (1+t220)) 0 (⟨#[]⟩:ByteArray)))=some r:=H;have A4:=aC.mk tV;clear tV;have zL:=aC.mk H;clear H;have D4:0≤(a7:Int):=of_decide_eq_true (by assumption);have FF:a7<(l0.length:Int):=of_decide_eq_true (by assumption);obtain ⟨kI,aKV,aGO,aD5,aN0,apR,FD,E3,E9,DE,ZS,agT,afN,agQ⟩:=BP fG.out a7 D4 FF;cases apR
     replace FD:=(HB.out.cell (World.block_lt_of_cell? w _ FD)).trans FD;replace E3:=(HB.out.cell (World.block_lt_of_cell? w _ E3)).trans E3;replace E9:=(HB.out.cell (World.block_lt_of_cell? w _ E9)).trans E9;replace DE:=(HB.out.cell (World.block_lt_of_cell? w _ DE)).trans DE;have aFS:=aC.mk agT;have aBH:=aC.mk ZS;clear agT ZS;have aMC:=aC.mk agQ;have aFX:=aC.mk afN;clear agQ afN;replace D4:=eq_true D4;replace FF:=eq_true FF;go_upto_if 28 with (first|((with_reducible refine eI (f:=15) rfl ?_);refine eJ (some 18) rfl rfl Tryd.func15 (by kernel_rfl) rfl #[.int .i64 ((dK l0 a7).f0),.int .i64 8] rfl (by (try simp only [List.map_toArray,List.map_cons,List.map_nil]);first|done|rfl|(simp only [List.length_drop,List.length_take];rfl)) ?_;(with_reducible refine (i6.calls ((dK l0 a7).f0) 8 t220 _ A4.out).mono ?_);rintro e w' ⟨rfl,⟨nd,rfl⟩⟩;refine ⟨_,rfl,?_⟩;(try (rw [J4 wr];generalize hq_:World.drewN wr _=wr;have aM:aC (Kd.R k86 86 wr w.heap.size (fun _=>True) u3 bI):=⟨by rw [← hq_];exact (by (with_reducible repeat (first|apply Kd.bC|apply Kd.bA|apply Kd.bB));exact b9.out)⟩;have aU:aC (Below w.heap.size w wr):=⟨by rw [← hq_];exact (by repeat (first|(with_reducible first|exact HB.out|apply aI|apply aN|apply aJ)|exact HB.out))⟩;clear b9 HB hq_;have b9:=aM;have HB:=aU;clear aM aU)))|((with_reducible refine iJ (N:=5) rfl ?_);refine lF ?hg (N:=5) ?hd (cs:=#[.int .i64 0,.int .i64 0,.string (⟨#[]⟩:ByteArray),.slice none 0 0,.slice none 0 0]) (t:=86) ?hr ?_;(case hd=>rfl);(case hg=>rfl);(case hr=>first|(go_simp;done)|(go_simp;rfl));intro bJ hg w6 hbox hb;have aM:=aC.mk (Kd.dC (Kd.anD (by (with_reducible repeat (first|apply Kd.bC|apply Kd.bA|apply Kd.bB));exact b9.out) bJ (Nat.le_of_eq hg.symm)) hb);have aU:=aC.mk (bQ (by repeat (first|(with_reducible first|exact HB.out|apply aI|apply aN|apply aJ)|exact HB.out)) hb);have aX:=aC.mk (hbox);have bD:=aC.mk ((by rw [hg];exact (bZ (by repeat (first|(with_reducible first|exact HB.out|apply aI|apply aN|apply aJ)|exact HB.out))):w.heap.size≤bJ));have bY:=aC.mk ((by rw [hg];exact (bZ (by repeat (first|(with_reducible first|exact HB.out|apply aI|apply aN|apply aJ)|exact HB.out))):w.heap.size≤bJ));clear b9;clear HB;have b9:=aM;have HB:=aU;have bN:=aX;have dV:=bD;have gO:=bY;clear aM aU aX bD bY;clear hb hbox hg;have LP:w6.cell? ⟨bJ,0,none⟩=some (.int .i64 0):=(aD bN.out 0).trans rfl;have L7:w6.cell? ⟨bJ,1,none⟩=some (.int .i64 0):=(aD bN.out 1).trans rfl;have VD:w6.cell? ⟨bJ,2,none⟩=some (.string (⟨#[]⟩:ByteArray)):=(aD bN.out 2).trans rfl;have SS:w6.cell? ⟨bJ,3,none⟩=some (.slice none 0 0):=(aD bN.out 3).trans rfl;have XK:w6.cell? ⟨bJ,4,none⟩=some (.slice none 0 0):=(aD bN.out 4).trans rfl;have NW:=aT bN.out 0;have ML:=aT bN.out 1;have QM:=aT bN.out 2;have XT:=aT bN.out 3;have Q8:=aT bN.out 4;have E6:0≤(a7:Int):=of_decide_eq_true (by assumption);have EW:a7<(l0.length:Int):=of_decide_eq_true (by assumption);obtain ⟨awL,aK7,aON,aB5,aPF,auS,lU,oD,oH,oA,adE,ZY,ZT,ajQ⟩:=BP fG.out a7 E6 EW;obtain rfl:kI=awL:=(by injection auS);have rL:kI.block≠bJ:=Nat.ne_of_lt (Nat.lt_of_lt_of_le (by have:=World.block_lt_of_cell? _ _ lU;first|rwa [bT] at this|exact this) dV.out);have rQ:kI.block≠bJ:=Nat.ne_of_lt (Nat.lt_of_lt_of_le (by have:=World.block_lt_of_cell? _ _ lU;first|rwa [bT] at this|exact this) dV.out);have rJ:kI.block≠bJ:=Nat.ne_of_lt (Nat.lt_of_lt_of_le (by have:=World.block_lt_of_cell? _ _ lU;first|rwa [bT] at this|exact this) dV.out);have rR:kI.block≠bJ:=Nat.ne_of_lt (Nat.lt_of_lt_of_le (by have:=World.block_lt_of_cell? _ _ lU;first|rwa [bT] at this|exact this) dV.out);have rM:kI.block≠bJ:=Nat.ne_of_lt (Nat.lt_of_lt_of_le (by have:=World.block_lt_of_cell? _ _ lU;first|rwa [bT] at this|exact this) dV.out);replace lU:=(HB.out.cell (World.block_lt_of_cell? w _ lU)).trans lU;replace oD:=(HB.out.cell (World.block_lt_of_cell? w _ oD)).trans oD;replace oH:=(HB.out.cell (World.block_lt_of_cell? w _ oH)).trans oH;replace oA:=(HB.out.cell (World.block_lt_of_cell? w _ oA)).trans oA;have aIE:=aC.mk ZY;have aI4:=aC.mk adE;clear ZY adE;have aM9:=aC.mk ajQ;have aO8:=aC.mk ZT;clear ajQ ZT;replace lU:=(cell_far (p:=⟨bJ,0,none⟩) (by first|(rw [bT];exact rL)|(show (Addr.add _ _).block≠_;rw [bT];exact rL)|exact rL) (.int .i64 (wrap64 (1+t220)))).trans lU;replace oD:=(cell_far (p:=⟨bJ,0,none⟩) (by first|(rw [bT];exact rL)|(show (Addr.add _ _).block≠_;rw [bT];exact rL)|exact rL) (.int .i64 (wrap64 (1+t220)))).trans oD;replace oH:=(cell_far (p:=⟨bJ,0,none⟩) (by first|(rw [bT];exact rL)|(show (Addr.add _ _).block≠_;rw [bT];exact rL)|exact rL) (.int .i64 (wrap64 (1+t220)))).trans oH;replace oA:=(cell_far (p:=⟨bJ,0,none⟩) (by first|(rw [bT];exact rL)|(show (Addr.add _ _).block≠_;rw [bT];exact rL)|exact rL) (.int .i64 (wrap64 (1+t220)))).trans oA;replace lU:=(cell_far (p:=⟨bJ,1,none⟩) (by first|(rw [bT];exact rQ)|(show (Addr.add _ _).block≠_;rw [bT];exact rQ)|exact rQ) (.int .i64 0)).trans lU;replace oD:=(cell_far (p:=⟨bJ,1,none⟩) (by first|(rw [bT];exact rQ)|(show (Addr.add _ _).block≠_;rw [bT];exact rQ)|exact rQ) (.int .i64 0)).trans oD;replace oH:=(cell_far (p:=⟨bJ,1,none⟩) (by first|(rw [bT];exact rQ)|(show (Addr.add _ _).block≠_;rw [bT];exact rQ)|exact rQ) (.int .i64 0)).trans oH;replace oA:=(cell_far (p:=⟨bJ,1,none⟩) (by first|(rw [bT];exact rQ)|(show (Addr.add _ _).block≠_;rw [bT];exact rQ)|exact rQ) (.int .i64 0)).trans oA;replace lU:=(cell_far (p:=⟨bJ,2,none⟩) (by first|(rw [bT];exact rJ)|(show (Addr.add _ _).block≠_;rw [bT];exact rJ)|exact rJ) (.string (⟨#[]⟩:ByteArray))).trans lU;replace oD:=(cell_far (p:=⟨bJ,2,none⟩) (by first|(rw [bT];exact rJ)|(show (Addr.add _ _).block≠_;rw [bT];exact rJ)|exact rJ) (.string (⟨#[]⟩:ByteArray))).trans oD;replace oH:=(cell_far (p:=⟨bJ,2,none⟩) (by first|(rw [bT];exact rJ)|(show (Addr.add _ _).block≠_;rw [bT];exact rJ)|exact rJ) (.string (⟨#[]⟩:ByteArray))).trans oH;replace oA:=(cell_far (p:=⟨bJ,2,none⟩) (by first|(rw [bT];exact rJ)|(show (Addr.add _ _).block≠_;rw [bT];exact rJ)|exact rJ) (.string (⟨#[]⟩:ByteArray))).trans oA;replace lU:=(cell_far (p:=⟨bJ,3,none⟩) (by first|(rw [bT];exact rR)|(show (Addr.add _ _).block≠_;rw [bT];exact rR)|exact rR) (.slice none 0 0)).trans lU;replace oD:=(cell_far (p:=⟨bJ,3,none⟩) (by first|(rw [bT];exact rR)|(show (Addr.add _ _).block≠_;rw [bT];exact rR)|exact rR) (.slice none 0 0)).trans oD;replace oH:=(cell_far (p:=⟨bJ,3,none⟩) (by first|(rw [bT];exact rR)|(show (Addr.add _ _).block≠_;rw [bT];exact rR)|exact rR) (.slice none 0 0)).trans oH;replace oA:=(cell_far (p:=⟨bJ,3,none⟩) (by first|(rw [bT];exact rR)|(show (Addr.add _ _).block≠_;rw [bT];exact rR)|exact rR) (.slice none 0 0)).trans oA;replace lU:=(cell_far (p:=⟨bJ,4,none⟩) (by first|(rw [bT];exact rM)|(show (Addr.add _ _).block≠_;rw [bT];exact rM)|exact rM) (.slice none 0 0)).trans lU;replace oD:=(cell_far (p:=⟨bJ,4,none⟩) (by first|(rw [bT];exact rM)|(show (Addr.add _ _).block≠_;rw [bT];exact rM)|exact rM) (.slice none 0 0)).trans oD;replace oH:=(cell_far (p:=⟨bJ,4,none⟩) (by first|(rw [bT];exact rM)|(show (Addr.add _ _).block≠_;rw [bT];exact rM)|exact rM) (.slice none 0 0)).trans oH;replace oA:=(cell_far (p:=⟨bJ,4,none⟩) (by first|(rw [bT];exact rM)|(show (Addr.add _ _).block≠_;rw [bT];exact rM)|exact rM) (.slice none 0 0)).trans oA;clear rL;clear rQ;clear rJ;clear rR;clear rM;replace E6:=eq_true E6;replace EW:=eq_true EW))
     (try simp only [Act.put,q1_,q2_,q3_])
     go_cut [28] (fun v28 wc=>∃ (kq:Nat) (PR:Bool),v28= .bool PR∧aC (bP.j1 kq l0 bI a7 ((dK l0 a7).f1) (wrap64 (1+t220)) PR (wrap64 (1+t220)) 0 (⟨#[]⟩:ByteArray)=some r)∧aC (kq≤k1)∧aC (Kd.R k86 86 wc w.heap.size (fun k_=>k_≠bJ) u3 bI)∧aC (wc.heap[bJ]? =some (.cells #[.int .i64 (wrap64 (1+t220)),.int .i64 0,.string (⟨#[]⟩:ByteArray),(.slice none 0 0),(.slice none 0 0)] 86 (0,0)))∧aC (Below w.heap.size w wc))
     case first=>
      have H:=zL.out;clear zL;by_cases c8:(wrap64 (1+t220))=1
      ·rw [if_pos c8] at H;have rC:((wrap64 (1+t220))==1)=true:=beq_iff_eq.mpr c8;(try (have aAR:(((1+t220))==1)=true:=by have h_:=rC;rwa [show wrap64 (1+t220)=(1+t220) from by unfold wrap64;omega] at h_))
       have yI:((wrap64 (1+t220)) !=1)=false:=bne_eq_false_iff_eq.mpr c8;(try (have an8:(((1+t220)) !=1)=false:=by have h_:=yI;rwa [show wrap64 (1+t220)=(1+t220) from by unfold wrap64;omega] at h_))
       clear c8;(first|rw [rC]|(simp only [aG,aH];rw [rC])|skip)
       have H':=aC.mk H;clear H;go_wp2
       go_meet
       case rel=>exact ⟨_,(((wrap64 (1+t220))==1)),(by first|rfl|(simp;done)|(simp [*];done)),H',⟨by have:=dI.out;first|omega|exact Nat.le_refl _⟩,⟨by (with_reducible repeat (first|apply Kd.bC|apply Kd.bA|apply Kd.bB));exact Kd.bW (Kd.bH (p:=⟨bJ,4,none⟩) (Kd.bH (p:=⟨bJ,3,none⟩) (Kd.bH (p:=⟨bJ,2,none⟩) (Kd.bH (p:=⟨bJ,1,none⟩) (Kd.bH (p:=⟨bJ,0,none⟩) (Kd.bW b9.out (fun k_ hk=>(⟨hk,hk.2⟩:_∧k_≠bJ))) (fun _ hk=>hk.2) (.int .i64 (wrap64 (1+t220)))) (fun _ hk=>hk.2) (.int .i64 0)) (fun _ hk=>hk.2) (.string (⟨#[]⟩:ByteArray))) (fun _ hk=>hk.2) (.slice none 0 0)) (fun _ hk=>hk.2) (.slice none 0 0)) (fun _ hk=>hk.1.2)⟩,⟨by (with_reducible repeat (first|refine aW ?_ _|refine aV ?_|refine aQ ?_ _));refine bX (cs:=#[.int .i64 (wrap64 (1+t220)),.int .i64 0,.string (⟨#[]⟩:ByteArray),.slice none 0 0,.slice none 0 0]) ?_ 4 _ rfl;(with_reducible repeat (first|refine aW ?_ _|refine aV ?_|refine aQ ?_ _));refine bX (cs:=#[.int .i64 (wrap64 (1+t220)),.int .i64 0,.string (⟨#[]⟩:ByteArray),.slice none 0 0,.slice none 0 0]) ?_ 3 _ rfl;(with_reducible repeat (first|refine aW ?_ _|refine aV ?_|refine aQ ?_ _));refine bX (cs:=#[.int .i64 (wrap64 (1+t220)),.int .i64 0,.string (⟨#[]⟩:ByteArray),.slice none 0 0,.slice none 0 0]) ?_ 2 _ rfl;(with_reducible repeat (first|refine aW ?_ _|refine aV ?_|refine aQ ?_ _));refine bX (cs:=#[.int .i64 (wrap64 (1+t220)),.int .i64 0,.string (⟨#[]⟩:ByteArray),.slice none 0 0,.slice none 0 0]) ?_ 1 _ rfl;(with_reducible repeat (first|refine aW ?_ _|refine aV ?_|refine aQ ?_ _));refine bX (cs:=#[.int .i64 0,.int .i64 0,.string (⟨#[]⟩:ByteArray),.slice none 0 0,.slice none 0 0]) ?_ 0 _ rfl;(with_reducible repeat (first|refine aW ?_ _|refine aV ?_|refine aQ ?_ _));exact bN.out⟩,⟨by repeat (first|(with_reducible first|exact HB.out|apply aI|apply aN|apply aJ|refine a8 ?_ gO.out)|exact HB.out)⟩⟩
      ·rw [if_neg c8] at H;have rC:((wrap64 (1+t220))==1)=false:=beq_eq_false_iff_ne.mpr c8;(try (have aAR:(((1+t220))==1)=false:=by have h_:=rC;rwa [show wrap64 (1+t220)=(1+t220) from by unfold wrap64;omega] at h_))
       have yI:((wrap64 (1+t220)) !=1)=true:=bne_iff_ne.mpr c8;(try (have an8:(((1+t220)) !=1)=true:=by have h_:=yI;rwa [show wrap64 (1+t220)=(1+t220) from by unfold wrap64;omega] at h_))
       (first|rw [rC]|(simp only [aG,aH];rw [rC])|skip)
       have H':=aC.mk H;clear H;go_wp2
       go_meet
       case rel=>exact ⟨_,(((wrap64 (1+t220))==2)),(by first|rfl|(simp;done)|(simp [*];done)),H',⟨by have:=dI.out;first|omega|exact Nat.le_refl _⟩,⟨by (with_reducible repeat (first|apply Kd.bC|apply Kd.bA|apply Kd.bB));exact Kd.bW (Kd.bH (p:=⟨bJ,4,none⟩) (Kd.bH (p:=⟨bJ,3,none⟩) (Kd.bH (p:=⟨bJ,2,none⟩) (Kd.bH (p:=⟨bJ,1,none⟩) (Kd.bH (p:=⟨bJ,0,none⟩) (Kd.bW b9.out (fun k_ hk=>(⟨hk,hk.2⟩:_∧k_≠bJ))) (fun _ hk=>hk.2) (.int .i64 (wrap64 (1+t220)))) (fun _ hk=>hk.2) (.int .i64 0)) (fun _ hk=>hk.2) (.string (⟨#[]⟩:ByteArray))) (fun _ hk=>hk.2) (.slice none 0 0)) (fun _ hk=>hk.2) (.slice none 0 0)) (fun _ hk=>hk.1.2)⟩,⟨by (with_reducible repeat (first|refine aW ?_ _|refine aV ?_|refine aQ ?_ _));refine bX (cs:=#[.int .i64 (wrap64 (1+t220)),.int .i64 0,.string (⟨#[]⟩:ByteArray),.slice none 0 0,.slice none 0 0]) ?_ 4 _ rfl;(with_reducible repeat (first|refine aW ?_ _|refine aV ?_|refine aQ ?_ _));refine bX (cs:=#[.int .i64 (wrap64 (1+t220)),.int .i64 0,.string (⟨#[]⟩:ByteArray),.slice none 0 0,.slice none 0 0]) ?_ 3 _ rfl;(with_reducible repeat (first|refine aW ?_ _|refine aV ?_|refine aQ ?_ _));refine bX (cs:=#[.int .i64 (wrap64 (1+t220)),.int .i64 0,.string (⟨#[]⟩:ByteArray),.slice none 0 0,.slice none 0 0]) ?_ 2 _ rfl;(with_reducible repeat (first|refine aW ?_ _|refine aV ?_|refine aQ ?_ _));refine bX (cs:=#[.int .i64 (wrap64 (1+t220)),.int .i64 0,.string (⟨#[]⟩:ByteArray),.slice none 0 0,.slice none 0 0]) ?_ 1 _ rfl;(with_reducible repeat (first|refine aW ?_ _|refine aV ?_|refine aQ ?_ _));refine bX (cs:=#[.int .i64 0,.int .i64 0,.string (⟨#[]⟩:ByteArray),.slice none 0 0,.slice none 0 0]) ?_ 0 _ rfl;(with_reducible repeat (first|refine aW ?_ _|refine aV ?_|refine aQ ?_ _));exact bN.out⟩,⟨by repeat (first|(with_reducible first|exact HB.out|apply aI|apply aN|apply aJ|refine a8 ?_ gO.out)|exact HB.out)⟩⟩
     case rest=>
      clear zL;try clear c1
      try clear c2
      try clear lM
      try clear p2
      try clear q2
      try clear BB
      try clear c3
      try clear j8
      try clear p6
      try clear c8
      try clear rC
      try clear yI
      try clear LP
      try clear L7
      try clear VD
      try clear SS
      try clear XK
      try clear NW
      try clear ML
      try clear QM
      try clear XT
      try clear Q8
      try clear FD
      try clear E3
      try clear E9
      try clear DE
      try clear lU
      try clear oD
      try clear oH
      try clear oA
      try clear D4
      try clear E6
      try clear FF
      try clear EW
      obtain ⟨kq,PR,rfl,HA,mN,b9,bN,HB⟩:=hcut;cases kq with
      |zero=>exact absurd HA.out (by simp [bP.j1])
      |succ yB=>
       have H:=HA.out;clear HA;simp only [bP.j1] at H;by_cases c9:PR=true
       ·subst c9;have H1:((some (([(⟨#[120]⟩:ByteArray),(⟨#[121]⟩:ByteArray),(⟨#[122]⟩:ByteArray)]:List ByteArray):List ByteArray)).bind fun kQ=>((i6.f ((dK l0 a7).f1) 3).bind fun t226=>(if 0≤t226 then (if t226<(kQ.length:Int) then (if bI.length<1759218604441 then (bP.l0 yB l0 (bI++ [(⟨(wrap64 (1+t220)),0,rdOf ByteArray.empty kQ t226,([]:List (S86)),([]:List (S86))⟩:S86)]) (wrap64 (a7+1))) else (none)) else (none)) else (none))))=some r:=by rw [if_pos rfl] at H;exact H
        clear H;have H:=H1;clear H1;obtain ⟨kQ,JH⟩: ∃ y_:List ByteArray,y_=(([(⟨#[120]⟩:ByteArray),(⟨#[121]⟩:ByteArray),(⟨#[122]⟩:ByteArray)]:List ByteArray)):=⟨_,rfl⟩;replace H:((i6.f ((dK l0 a7).f1) 3).bind fun t226=>(if 0≤t226 then (if t226<(kQ.length:Int) then (if bI.length<1759218604441 then (bP.l0 yB l0 (bI++ [(⟨(wrap64 (1+t220)),0,rdOf ByteArray.empty kQ t226,([]:List (S86)),([]:List (S86))⟩:S86)]) (wrap64 (a7+1))) else (none)) else (none)) else (none)))=some r:=by first|(rw [JH];with_reducible exact H)|(have cO:=(Option.bind_some _ _).symm.trans H;rw [JH];with_reducible exact cO)|(have cO:=(Option.bind_some _ _).symm.trans H;with_reducible exact cO)|with_reducible exact H|(rw [JH];exact H)|exact H
        have agU:=aC.mk JH;clear JH;replace H:=Option.bind_eq_some_iff.mp H;obtain ⟨t226,tW,H⟩:=H;replace H:(if 0≤t226 then (if t226<(kQ.length:Int) then (if bI.length<1759218604441 then (bP.l0 yB l0 (bI++ [(⟨(wrap64 (1+t220)),0,rdOf ByteArray.empty kQ t226,([]:List (S86)),([]:List (S86))⟩:S86)]) (wrap64 (a7+1))) else (none)) else (none)) else (none))=some r:=H;have tR:=aC.mk tW;clear tW;by_cases iX:0≤t226
        ·rw [if_pos iX] at H;have C0:decide (0≤t226)=true:=decide_eq_true iX;clear iX;by_cases mA:t226<(kQ.length:Int)
         ·rw [if_pos mA] at H;have F0:decide (t226<(kQ.length:Int))=true:=decide_eq_true mA;clear mA;by_cases lD:bI.length<1759218604441
          ·rw [if_pos lD] at H;have ayG:=aC.mk lD;clear lD;obtain ⟨aiX,I0⟩: ∃ y_:List (S86),y_=(bI++ [(⟨(wrap64 (1+t220)),0,rdOf ByteArray.empty kQ t226,([]:List (S86)),([]:List (S86))⟩:S86)]):=⟨_,rfl⟩;replace H:(bP.l0 yB l0 aiX (wrap64 (a7+1)))=some r:=by first|(rw [I0];with_reducible exact H)|(have cO:=(Option.bind_some _ _).symm.trans H;rw [I0];with_reducible exact cO)|(have cO:=(Option.bind_some _ _).symm.trans H;with_reducible exact cO)|with_reducible exact H|(rw [I0];exact H)|exact H
           have ay6:=aC.mk I0;clear I0;have H':=aC.mk H;clear H;go_wp2_with (first|((with_reducible refine iJ (N:=31) rfl ?_);refine Kd.xB Kd.string _ 9 ?hg (N:=31) ?hd (xs:=([(⟨#[120]⟩:ByteArray),(⟨#[121]⟩:ByteArray),(⟨#[122]⟩:ByteArray)]:List ByteArray)) (inner:=[.string (⟨#[120]⟩:ByteArray),.string (⟨#[121]⟩:ByteArray),.string (⟨#[122]⟩:ByteArray)]) (ok:=fun _=>True) (okp:=fun _=>True) ?hr ?hp (fun _ hk=>hk) trivial (Below.refl _ _) (Nat.le_refl _) (by simp) ?_;(case hd=>rfl);(case hg=>rfl);(case hr=>first|(go_simp;done)|(go_simp;rfl));(case hp=>exact (Reps.one (show Kd.M Kd.string _ _ _ (⟨#[120]⟩:ByteArray) [.string (⟨#[120]⟩:ByteArray)] from rfl) (Reps.one (show Kd.M Kd.string _ _ _ (⟨#[121]⟩:ByteArray) [.string (⟨#[121]⟩:ByteArray)] from rfl) (Reps.one (show Kd.M Kd.string _ _ _ (⟨#[122]⟩:ByteArray) [.string (⟨#[122]⟩:ByteArray)] from rfl) (Reps.none _ _)))));intro aqQ pL K7 hb hg_ hnew_;clear hg_ hnew_;(first|rw [← agU.out] at K7|(simp only [Int.reduceToNat] at K7;rw [← agU.out] at K7));have aM:=aC.mk (Kd.dC (by (with_reducible repeat (first|apply Kd.bC|apply Kd.bA|apply Kd.bB));exact b9.out) hb);have aU:=aC.mk (Kd.iW K7 (bZ (by repeat (first|(with_reducible first|exact HB.out|apply aI|apply aN|apply aJ|refine a8 ?_ gO.out)|exact HB.out))));have aX:=aC.mk (dB (g:=bJ) (o:=.cells #[.int .i64 (wrap64 (1+t220)),.int .i64 0,.string (⟨#[]⟩:ByteArray),.slice none 0 0,.slice none 0 0] 86 (0,0)) (by (with_reducible repeat (first|refine aW ?_ _|refine aV ?_|refine aQ ?_ _));exact bN.out) hb);have bD:=aC.mk (bQ (by repeat (first|(with_reducible first|exact HB.out|apply aI|apply aN|apply aJ|refine a8 ?_ gO.out)|exact HB.out)) hb);clear b9;clear bN;clear HB;have b9:=aM;have yV:=aU;have bN:=aX;have HB:=bD;clear aM aU aX bD;clear hb K7)|((with_reducible refine eI (f:=15) rfl ?_);refine eJ (some 33) rfl rfl Tryd.func15 (by kernel_rfl) rfl #[.int .i64 ((dK l0 a7).f1),.int .i64 3] rfl (by (try simp only [List.map_toArray,List.map_cons,List.map_nil]);first|done|rfl|(simp only [List.length_drop,List.length_take];rfl)) ?_;(with_reducible refine (i6.calls ((dK l0 a7).f1) 3 t226 _ tR.out).mono ?_);rintro e w' ⟨rfl,⟨nd,rfl⟩⟩;refine ⟨_,rfl,?_⟩;(try (rw [J4 pL];generalize hq_:World.drewN pL _=pL;have aM:aC (Kd.R Kd.string 9 pL w.heap.size (fun _=>True) aqQ kQ):=⟨by rw [← hq_];exact (by (with_reducible repeat (first|apply Kd.bC|apply Kd.bA|apply Kd.bB));exact yV.out)⟩;have aU:aC (Kd.R k86 86 pL w.heap.size (fun k_=>k_≠bJ) u3 bI):=⟨by rw [← hq_];exact (by (with_reducible repeat (first|apply Kd.bC|apply Kd.bA|apply Kd.bB));exact b9.out)⟩;have aX:aC (pL.heap[bJ]? =some (.cells #[.int .i64 (wrap64 (1+t220)),.int .i64 0,.string (⟨#[]⟩:ByteArray),.slice none 0 0,.slice none 0 0] 86 (0,0))):=⟨by rw [← hq_];exact (by (with_reducible repeat (first|refine aW ?_ _|refine aV ?_|refine aQ ?_ _));exact bN.out)⟩;have bD:aC (Below w.heap.size w pL):=⟨by rw [← hq_];exact (by repeat (first|(with_reducible first|exact HB.out|apply aI|apply aN|apply aJ|refine a8 ?_ gO.out)|exact HB.out))⟩;clear yV b9 bN HB hq_;have yV:=aM;have b9:=aU;have bN:=aX;have HB:=bD;clear aM aU aX bD));obtain ⟨aIT,aEY,arA⟩:=Kd.gI yV.out;subst arA;have G8:0≤(t226:Int):=of_decide_eq_true (by assumption);have JZ:t226<(kQ.length:Int):=of_decide_eq_true (by assumption);obtain ⟨aL1,apE,ah1⟩:=Kd.CX (Kd.iU yV.out).2.2 t226 G8 JZ;cases apE;replace G8:=eq_true G8;replace JZ:=eq_true JZ;have PW:pL.cell? ⟨bJ,0,none⟩=some (.int .i64 (wrap64 (1+t220))):=(aD bN.out 0).trans rfl;have MW:pL.cell? ⟨bJ,1,none⟩=some (.int .i64 0):=(aD bN.out 1).trans rfl;have MD:pL.cell? ⟨bJ,2,none⟩=some (.string (⟨#[]⟩:ByteArray)):=(aD bN.out 2).trans rfl;have aeO:pL.cell? ⟨bJ,3,none⟩=some (.slice none 0 0):=(aD bN.out 3).trans rfl;have akK:pL.cell? ⟨bJ,4,none⟩=some (.slice none 0 0):=(aD bN.out 4).trans rfl;have N1:=aT bN.out 0;have NV:=aT bN.out 1;have NX:=aT bN.out 2;have aeM:=aT bN.out 3;have abW:=aT bN.out 4)|((with_reducible refine lB (b:=.append) (xs:=#[.tmp 80,.tmp 82]) rfl ?_);at_builtin;refine Kd.n9 k86 (w0:=w) w.heap.size rfl (.tmp 80) (.tmp 82) 44 86 (.agg #[(.int .i64 0),(.int .i64 0),(.string ⟨#[]⟩),(.slice none 0 0),(.slice none 0 0)]) 80 rfl Tryd.underlying44 info86 rfl (by decide) (by omega) u3 bI (⟨(wrap64 (1+t220)),0,rdOf ByteArray.empty kQ t226,([]:List (S86)),([]:List (S86))⟩:S86) [.int .i64 (wrap64 (1+t220)),.int .i64 0,.string (rdOf ByteArray.empty kQ t226),.slice none 0 0,.slice none 0 0] (fun k_=>k_≠bJ) (fun k_=>((fun k_=>k_≠bJ)) k_∧some k_≠(u3:Value).ownBlock) rfl (by first|(go_simp;done)|(go_simp;rfl)) ?aP (fun _ hk=>hk) ?aF ?aO ?aB ?aS ?aL ?_;(case aP=>exact BS _ _ _ (⟨(wrap64 (1+t220)),0,rdOf ByteArray.empty kQ t226,([]:List (S86)),([]:List (S86))⟩:S86) (Kd.jZ _ _ _ _ _) (Kd.jZ _ _ _ _ _));(case aB=>exact (by repeat (first|(with_reducible first|exact HB.out|apply aI|apply aN|apply aJ|refine a8 ?_ gO.out)|exact HB.out)));(case aF=>exact (fun k_ hk=>Kd.freshB (g:=bJ) (o:=.cells #[.int .i64 (wrap64 (1+t220)),.int .i64 0,.string (rdOf ByteArray.empty kQ t226),.slice none 0 0,.slice none 0 0] 86 (0,0)) (by (with_reducible repeat (first|refine aW ?_ _|refine aV ?_|refine aQ ?_ _));refine bX (cs:=#[.int .i64 (wrap64 (1+t220)),.int .i64 0,.string (⟨#[]⟩:ByteArray),.slice none 0 0,.slice none 0 0]) ?_ 2 _ rfl;(with_reducible repeat (first|refine aW ?_ _|refine aV ?_|refine aQ ?_ _));exact bN.out) k_ hk));(case aO=>exact (by (with_reducible repeat (first|apply Kd.bC|apply Kd.bA|apply Kd.bB));exact Kd.bW (Kd.bH (p:=⟨bJ,2,none⟩) (Kd.bW b9.out (fun k_ hk=>(⟨hk,hk⟩:_∧k_≠bJ))) (fun _ hk=>hk.2) (.string (rdOf ByteArray.empty kQ t226))) (fun _ hk=>hk.1)));(case aS=>exact (bZ (by repeat (first|(with_reducible first|exact HB.out|apply aI|apply aN|apply aJ|refine a8 ?_ gO.out)|exact HB.out))));(case aL=>have:=ayG.out;omega);intro v229 NH ho hb hg hat;rw [← ay6.out] at ho;have aM:=aC.mk (iY (g:=bJ) (o:=.cells #[.int .i64 (wrap64 (1+t220)),.int .i64 0,.string (rdOf ByteArray.empty kQ t226),.slice none 0 0,.slice none 0 0] 86 (0,0)) (by (with_reducible repeat (first|refine aW ?_ _|refine aV ?_|refine aQ ?_ _));refine bX (cs:=#[.int .i64 (wrap64 (1+t220)),.int .i64 0,.string (⟨#[]⟩:ByteArray),.slice none 0 0,.slice none 0 0]) ?_ 2 _ rfl;(with_reducible repeat (first|refine aW ?_ _|refine aV ?_|refine aQ ?_ _));exact bN.out) hg (Kd.EC b9.out (fun _ hk=>hk)));have aU:=aC.mk (Kd.BV (by (with_reducible repeat (first|apply Kd.bC|apply Kd.bA|apply Kd.bB));exact (Kd.bW (Kd.bH (p:=⟨bJ,2,none⟩) (Kd.eU yV.out bN.out (by decide)) (fun _ hk=>hk.2) (.string (rdOf ByteArray.empty kQ t226))) (fun _ h_=>h_.1))) (Kd.DY (by (with_reducible repeat (first|apply Kd.bC|apply Kd.bA|apply Kd.bB));exact (Kd.bW (Kd.bH (p:=⟨bJ,2,none⟩) (Kd.bW b9.out (fun k_ hk=>(⟨hk,hk⟩:_∧k_≠bJ))) (fun _ hk=>hk.2) (.string (rdOf ByteArray.empty kQ t226))) (fun _ h_=>h_.1)))) (by decide) hg);have aX:=aC.mk (hb);have bD:=aC.mk (ho);clear bN;clear yV;clear HB;clear b9;have bN:=aM;have yV:=aU;have HB:=aX;have asB:=bD;clear aM aU aX bD;clear ho hb hg hat))
           go_roundg yB
           case measure=>have:=dI.out;have:=mN.out;omega
           case rel=>exact ⟨(aiX),(wrap64 (a7+1)),(by first|rfl|(simp;done)|(simp [*];done)),H',⟨by have:=dI.out;have:=mN.out;omega⟩,⟨by (with_reducible repeat (first|apply Kd.bC|apply Kd.bA|apply Kd.bB));exact Kd.bW asB.out (fun _ hk=>trivial)⟩,⟨by repeat (first|(with_reducible first|exact HB.out|apply aI|apply aN|apply aJ|refine a8 ?_ gO.out)|exact HB.out)⟩⟩
          ·rw [if_neg lD] at H;exact absurd H (by simp)
         ·rw [if_neg mA] at H;exact absurd H (by simp)
        ·rw [if_neg iX] at H;exact absurd H (by simp)
       ·replace c9:=Bool.eq_false_iff.mpr c9;subst c9;have H1:(if (wrap64 (1+t220))=3 then (bP.j2 yB l0 bI a7 ((dK l0 a7).f1) (wrap64 (1+t220)) ((wrap64 (1+t220))==3) (wrap64 (1+t220)) 0 (⟨#[]⟩:ByteArray)) else (bP.j2 yB l0 bI a7 ((dK l0 a7).f1) (wrap64 (1+t220)) ((wrap64 (1+t220))==4) (wrap64 (1+t220)) 0 (⟨#[]⟩:ByteArray)))=some r:=by rw [if_neg (show ¬ (false=true) by decide)] at H;exact H
        clear H;have H:=H1;clear H1;have W8:=aC.mk H;clear H;go_upto_if 37 with (fail)
        go_cut [37] (fun v37 wc=>∃ (kq:Nat) (M7:Bool),v37= .bool M7∧aC (bP.j2 kq l0 bI a7 ((dK l0 a7).f1) (wrap64 (1+t220)) M7 (wrap64 (1+t220)) 0 (⟨#[]⟩:ByteArray)=some r)∧aC (kq≤yB)∧aC (Kd.R k86 86 wc w.heap.size (fun k_=>k_≠bJ) u3 bI)∧aC (wc.heap[bJ]? =some (.cells #[.int .i64 (wrap64 (1+t220)),.int .i64 0,.string (⟨#[]⟩:ByteArray),(.slice none 0 0),(.slice none 0 0)] 86 (0,0)))∧aC (Below w.heap.size w wc))
        case first=>
         have H:=W8.out;clear W8;by_cases jD:(wrap64 (1+t220))=3
         ·rw [if_pos jD] at H;have sI:((wrap64 (1+t220))==3)=true:=beq_iff_eq.mpr jD;(try (have axA:(((1+t220))==3)=true:=by have h_:=sI;rwa [show wrap64 (1+t220)=(1+t220) from by unfold wrap64;omega] at h_))
          have wR:((wrap64 (1+t220)) !=3)=false:=bne_eq_false_iff_eq.mpr jD;(try (have asT:(((1+t220)) !=3)=false:=by have h_:=wR;rwa [show wrap64 (1+t220)=(1+t220) from by unfold wrap64;omega] at h_))
          clear jD;(first|rw [sI]|(simp only [aG,aH];rw [sI])|skip)
          have H':=aC.mk H;clear H;go_wp2
          go_meet
          case rel=>exact ⟨_,(((wrap64 (1+t220))==3)),(by first|rfl|(simp;done)|(simp [*];done)),H',⟨by have:=dI.out;have:=mN.out;first|omega|exact Nat.le_refl _⟩,⟨by (with_reducible repeat (first|apply Kd.bC|apply Kd.bA|apply Kd.bB));exact b9.out⟩,⟨by (with_reducible repeat (first|refine aW ?_ _|refine aV ?_|refine aQ ?_ _));exact bN.out⟩,⟨by repeat (first|(with_reducible first|exact HB.out|apply aI|apply aN|apply aJ|refine a8 ?_ gO.out)|exact HB.out)⟩⟩
         ·rw [if_neg jD] at H;have sI:((wrap64 (1+t220))==3)=false:=beq_eq_false_iff_ne.mpr jD;(try (have axA:(((1+t220))==3)=false:=by have h_:=sI;rwa [show wrap64 (1+t220)=(1+t220) from by unfold wrap64;omega] at h_))
          have wR:((wrap64 (1+t220)) !=3)=true:=bne_iff_ne.mpr jD;(try (have asT:(((1+t220)) !=3)=true:=by have h_:=wR;rwa [show wrap64 (1+t220)=(1+t220) from by unfold wrap64;omega] at h_))
          (first|rw [sI]|(simp only [aG,aH];rw [sI])|skip)
          have H':=aC.mk H;clear H;go_wp2
          go_meet
          case rel=>exact ⟨_,(((wrap64 (1+t220))==4)),(by first|rfl|(simp;done)|(simp [*];done)),H',⟨by have:=dI.out;have:=mN.out;first|omega|exact Nat.le_refl _⟩,⟨by (with_reducible repeat (first|apply Kd.bC|apply Kd.bA|apply Kd.bB));exact b9.out⟩,⟨by (with_reducible repeat (first|refine aW ?_ _|refine aV ?_|refine aQ ?_ _));exact bN.out⟩,⟨by repeat (first|(with_reducible first|exact HB.out|apply aI|apply aN|apply aJ|refine a8 ?_ gO.out)|exact HB.out)⟩⟩
        case rest=>
         clear W8;try clear c1
         try clear c2
         try clear lM
         try clear p2
         try clear q2
         try clear BB
         try clear c3
         try clear j8
         try clear p6
         try clear c8
         try clear rC
         try clear yI
         try clear c9
         try clear iX
         try clear C0
         try clear mA
         try clear F0
         try clear lD
         try clear zS
         try clear jD
         try clear sI
         try clear wR
         try clear PW
         try clear MW
         try clear MD
         try clear aeO
         try clear akK
         try clear LP
         try clear L7
         try clear VD
         try clear SS
         try clear XK
         try clear N1
         try clear NV
         try clear NX
         try clear aeM
         try clear abW
         try clear NW
         try clear ML
         try clear QM
         try clear XT
         try clear Q8
         try clear FD
         try clear E3
         try clear E9
         try clear DE
         try clear lU
         try clear oD
         try clear oH
         try clear oA
         try clear ah1
         try clear p2
         try clear D4
         try clear E6
         try clear G8
         try clear p6
         try clear q2
         try clear FF
         try clear EW
         try clear JZ
         obtain ⟨kq,M7,rfl,HA,pK,b9,bN,HB⟩:=hcut;cases kq with
         |zero=>exact absurd HA.out (by simp [bP.j2])
         |succ yA=>
          have H:=HA.out;clear HA;simp only [bP.j2] at H;by_cases mC:M7=true
          ·subst mC;have H1:((some (([(⟨#[108]⟩:ByteArray),(⟨#[109]⟩:ByteArray),(⟨#[110]⟩:ByteArray)]:List ByteArray):List ByteArray)).bind fun kM=>((i6.f ((dK l0 a7).f1) 3).bind fun t234=>(if 0≤t234 then (if t234<(kM.length:Int) then (if bI.length<1759218604441 then (bP.l0 yA l0 (bI++ [(⟨(wrap64 (1+t220)),0,rdOf ByteArray.empty kM t234,([]:List (S86)),([]:List (S86))⟩:S86)]) (wrap64 (a7+1))) else (none)) else (none)) else (none))))=some r:=by rw [if_pos rfl] at H;exact H
           clear H;have H:=H1;clear H1;obtain ⟨kM,IB⟩: ∃ y_:List ByteArray,y_=(([(⟨#[108]⟩:ByteArray),(⟨#[109]⟩:ByteArray),(⟨#[110]⟩:ByteArray)]:List ByteArray)):=⟨_,rfl⟩;replace H:((i6.f ((dK l0 a7).f1) 3).bind fun t234=>(if 0≤t234 then (if t234<(kM.length:Int) then (if bI.length<1759218604441 then (bP.l0 yA l0 (bI++ [(⟨(wrap64 (1+t220)),0,rdOf ByteArray.empty kM t234,([]:List (S86)),([]:List (S86))⟩:S86)]) (wrap64 (a7+1))) else (none)) else (none)) else (none)))=some r:=by first|(rw [IB];with_reducible exact H)|(have cO:=(Option.bind_some _ _).symm.trans H;rw [IB];with_reducible exact cO)|(have cO:=(Option.bind_some _ _).symm.trans H;with_reducible exact cO)|with_reducible exact H|(rw [IB];exact H)|exact H
           have abU:=aC.mk IB;clear IB;replace H:=Option.bind_eq_some_iff.mp H;obtain ⟨t234,uI,H⟩:=H;replace H:(if 0≤t234 then (if t234<(kM.length:Int) then (if bI.length<1759218604441 then (bP.l0 yA l0 (bI++ [(⟨(wrap64 (1+t220)),0,rdOf ByteArray.empty kM t234,([]:List (S86)),([]:List (S86))⟩:S86)]) (wrap64 (a7+1))) else (none)) else (none)) else (none))=some r:=H;have zO:=aC.mk uI;clear uI;by_cases kF:0≤t234
           ·rw [if_pos kF] at H;have IF:decide (0≤t234)=true:=decide_eq_true kF;clear kF;by_cases jA:t234<(kM.length:Int)
            ·rw [if_pos jA] at H;have xK:decide (t234<(kM.length:Int))=true:=decide_eq_true jA;clear jA;by_cases FZ:bI.length<1759218604441
             ·rw [if_pos FZ] at H;have aoM:=aC.mk FZ;clear FZ;obtain ⟨ahA,GI⟩: ∃ y_:List (S86),y_=(bI++ [(⟨(wrap64 (1+t220)),0,rdOf ByteArray.empty kM t234,([]:List (S86)),([]:List (S86))⟩:S86)]):=⟨_,rfl⟩;replace H:(bP.l0 yA l0 ahA (wrap64 (a7+1)))=some r:=by first|(rw [GI];with_reducible exact H)|(have cO:=(Option.bind_some _ _).symm.trans H;rw [GI];with_reducible exact cO)|(have cO:=(Option.bind_some _ _).symm.trans H;with_reducible exact cO)|with_reducible exact H|(rw [GI];exact H)|exact H
              have arE:=aC.mk GI;clear GI;have H':=aC.mk H;clear H;go_wp2_with (first|((with_reducible refine iJ (N:=40) rfl ?_);refine Kd.xB Kd.string _ 9 ?hg (N:=40) ?hd (xs:=([(⟨#[108]⟩:ByteArray),(⟨#[109]⟩:ByteArray),(⟨#[110]⟩:ByteArray)]:List ByteArray)) (inner:=[.string (⟨#[108]⟩:ByteArray),.string (⟨#[109]⟩:ByteArray),.string (⟨#[110]⟩:ByteArray)]) (ok:=fun _=>True) (okp:=fun _=>True) ?hr ?hp (fun _ hk=>hk) trivial (Below.refl _ _) (Nat.le_refl _) (by simp) ?_;(case hd=>rfl);(case hg=>rfl);(case hr=>first|(go_simp;done)|(go_simp;rfl));(case hp=>exact (Reps.one (show Kd.M Kd.string _ _ _ (⟨#[108]⟩:ByteArray) [.string (⟨#[108]⟩:ByteArray)] from rfl) (Reps.one (show Kd.M Kd.string _ _ _ (⟨#[109]⟩:ByteArray) [.string (⟨#[109]⟩:ByteArray)] from rfl) (Reps.one (show Kd.M Kd.string _ _ _ (⟨#[110]⟩:ByteArray) [.string (⟨#[110]⟩:ByteArray)] from rfl) (Reps.none _ _)))));intro v232 qE IG hb hg_ hnew_;clear hg_ hnew_;(first|rw [← abU.out] at IG|(simp only [Int.reduceToNat] at IG;rw [← abU.out] at IG));have aM:=aC.mk (Kd.dC (by (with_reducible repeat (first|apply Kd.bC|apply Kd.bA|apply Kd.bB));exact b9.out) hb);have aU:=aC.mk (Kd.iW IG (bZ (by repeat (first|(with_reducible first|exact HB.out|apply aI|apply aN|apply aJ|refine a8 ?_ gO.out)|exact HB.out))));have aX:=aC.mk (dB (g:=bJ) (o:=.cells #[.int .i64 (wrap64 (1+t220)),.int .i64 0,.string (⟨#[]⟩:ByteArray),.slice none 0 0,.slice none 0 0] 86 (0,0)) (by (with_reducible repeat (first|refine aW ?_ _|refine aV ?_|refine aQ ?_ _));exact bN.out) hb);have bD:=aC.mk (bQ (by repeat (first|(with_reducible first|exact HB.out|apply aI|apply aN|apply aJ|refine a8 ?_ gO.out)|exact HB.out)) hb);clear b9;clear bN;clear HB;have b9:=aM;have yD:=aU;have bN:=aX;have HB:=bD;clear aM aU aX bD;clear hb IG)|((with_reducible refine eI (f:=15) rfl ?_);refine eJ (some 42) rfl rfl Tryd.func15 (by kernel_rfl) rfl #[.int .i64 ((dK l0 a7).f1),.int .i64 3] rfl (by (try simp only [List.map_toArray,List.map_cons,List.map_nil]);first|done|rfl|(simp only [List.length_drop,List.length_take];rfl)) ?_;(with_reducible refine (i6.calls ((dK l0 a7).f1) 3 t234 _ zO.out).mono ?_);rintro e w' ⟨rfl,⟨nd,rfl⟩⟩;refine ⟨_,rfl,?_⟩;(try (rw [J4 qE];generalize hq_:World.drewN qE _=qE;have aM:aC (Kd.R Kd.string 9 qE w.heap.size (fun _=>True) v232 kM):=⟨by rw [← hq_];exact (by (with_reducible repeat (first|apply Kd.bC|apply Kd.bA|apply Kd.bB));exact yD.out)⟩;have aU:aC (Kd.R k86 86 qE w.heap.size (fun k_=>k_≠bJ) u3 bI):=⟨by rw [← hq_];exact (by (with_reducible repeat (first|apply Kd.bC|apply Kd.bA|apply Kd.bB));exact b9.out)⟩;have aX:aC (qE.heap[bJ]? =some (.cells #[.int .i64 (wrap64 (1+t220)),.int .i64 0,.string (⟨#[]⟩:ByteArray),.slice none 0 0,.slice none 0 0] 86 (0,0))):=⟨by rw [← hq_];exact (by (with_reducible repeat (first|refine aW ?_ _|refine aV ?_|refine aQ ?_ _));exact bN.out)⟩;have bD:aC (Below w.heap.size w qE):=⟨by rw [← hq_];exact (by repeat (first|(with_reducible first|exact HB.out|apply aI|apply aN|apply aJ|refine a8 ?_ gO.out)|exact HB.out))⟩;clear yD b9 bN HB hq_;have yD:=aM;have b9:=aU;have bN:=aX;have HB:=bD;clear aM aU aX bD));obtain ⟨sU,sL,JW⟩:=Kd.gI yD.out;subst JW;have OL:0≤(t234:Int):=of_decide_eq_true (by assumption);have MF:t234<(kM.length:Int):=of_decide_eq_true (by assumption);obtain ⟨aDB,alS,al7⟩:=Kd.CX (Kd.iU yD.out).2.2 t234 OL MF;cases alS;replace OL:=eq_true OL;replace MF:=eq_true MF;have aoO:qE.cell? ⟨bJ,0,none⟩=some (.int .i64 (wrap64 (1+t220))):=(aD bN.out 0).trans rfl;have aoJ:qE.cell? ⟨bJ,1,none⟩=some (.int .i64 0):=(aD bN.out 1).trans rfl;have aoF:qE.cell? ⟨bJ,2,none⟩=some (.string (⟨#[]⟩:ByteArray)):=(aD bN.out 2).trans rfl;have anU:qE.cell? ⟨bJ,3,none⟩=some (.slice none 0 0):=(aD bN.out 3).trans rfl;have aAI:qE.cell? ⟨bJ,4,none⟩=some (.slice none 0 0):=(aD bN.out 4).trans rfl;have anL:=aT bN.out 0;have ar2:=aT bN.out 1;have aw5:=aT bN.out 2;have ar8:=aT bN.out 3;have amS:=aT bN.out 4)|((with_reducible refine lB (b:=.append) (xs:=#[.tmp 80,.tmp 82]) rfl ?_);at_builtin;refine Kd.n9 k86 (w0:=w) w.heap.size rfl (.tmp 80) (.tmp 82) 44 86 (.agg #[(.int .i64 0),(.int .i64 0),(.string ⟨#[]⟩),(.slice none 0 0),(.slice none 0 0)]) 80 rfl Tryd.underlying44 info86 rfl (by decide) (by omega) u3 bI (⟨(wrap64 (1+t220)),0,rdOf ByteArray.empty kM t234,([]:List (S86)),([]:List (S86))⟩:S86) [.int .i64 (wrap64 (1+t220)),.int .i64 0,.string (rdOf ByteArray.empty kM t234),.slice none 0 0,.slice none 0 0] (fun k_=>k_≠bJ) (fun k_=>((fun k_=>k_≠bJ)) k_∧some k_≠(u3:Value).ownBlock) rfl (by first|(go_simp;done)|(go_simp;rfl)) ?aP (fun _ hk=>hk) ?aF ?aO ?aB ?aS ?aL ?_;(case aP=>exact BS _ _ _ (⟨(wrap64 (1+t220)),0,rdOf ByteArray.empty kM t234,([]:List (S86)),([]:List (S86))⟩:S86) (Kd.jZ _ _ _ _ _) (Kd.jZ _ _ _ _ _));(case aB=>exact (by repeat (first|(with_reducible first|exact HB.out|apply aI|apply aN|apply aJ|refine a8 ?_ gO.out)|exact HB.out)));(case aF=>exact (fun k_ hk=>Kd.freshB (g:=bJ) (o:=.cells #[.int .i64 (wrap64 (1+t220)),.int .i64 0,.string (rdOf ByteArray.empty kM t234),.slice none 0 0,.slice none 0 0] 86 (0,0)) (by (with_reducible repeat (first|refine aW ?_ _|refine aV ?_|refine aQ ?_ _));refine bX (cs:=#[.int .i64 (wrap64 (1+t220)),.int .i64 0,.string (⟨#[]⟩:ByteArray),.slice none 0 0,.slice none 0 0]) ?_ 2 _ rfl;(with_reducible repeat (first|refine aW ?_ _|refine aV ?_|refine aQ ?_ _));exact bN.out) k_ hk));(case aO=>exact (by (with_reducible repeat (first|apply Kd.bC|apply Kd.bA|apply Kd.bB));exact Kd.bW (Kd.bH (p:=⟨bJ,2,none⟩) (Kd.bW b9.out (fun k_ hk=>(⟨hk,hk⟩:_∧k_≠bJ))) (fun _ hk=>hk.2) (.string (rdOf ByteArray.empty kM t234))) (fun _ hk=>hk.1)));(case aS=>exact (bZ (by repeat (first|(with_reducible first|exact HB.out|apply aI|apply aN|apply aJ|refine a8 ?_ gO.out)|exact HB.out))));(case aL=>have:=aoM.out;omega);intro aB6 zF ho hb hg hat;rw [← arE.out] at ho;have aM:=aC.mk (iY (g:=bJ) (o:=.cells #[.int .i64 (wrap64 (1+t220)),.int .i64 0,.string (rdOf ByteArray.empty kM t234),.slice none 0 0,.slice none 0 0] 86 (0,0)) (by (with_reducible repeat (first|refine aW ?_ _|refine aV ?_|refine aQ ?_ _));refine bX (cs:=#[.int .i64 (wrap64 (1+t220)),.int .i64 0,.string (⟨#[]⟩:ByteArray),.slice none 0 0,.slice none 0 0]) ?_ 2 _ rfl;(with_reducible repeat (first|refine aW ?_ _|refine aV ?_|refine aQ ?_ _));exact bN.out) hg (Kd.EC b9.out (fun _ hk=>hk)));have aU:=aC.mk (Kd.BV (by (with_reducible repeat (first|apply Kd.bC|apply Kd.bA|apply Kd.bB));exact (Kd.bW (Kd.bH (p:=⟨bJ,2,none⟩) (Kd.eU yD.out bN.out (by decide)) (fun _ hk=>hk.2) (.string (rdOf ByteArray.empty kM t234))) (fun _ h_=>h_.1))) (Kd.DY (by (with_reducible repeat (first|apply Kd.bC|apply Kd.bA|apply Kd.bB));exact (Kd.bW (Kd.bH (p:=⟨bJ,2,none⟩) (Kd.bW b9.out (fun k_ hk=>(⟨hk,hk⟩:_∧k_≠bJ))) (fun _ hk=>hk.2) (.string (rdOf ByteArray.empty kM t234))) (fun _ h_=>h_.1)))) (by decide) hg);have aX:=aC.mk (hb);have bD:=aC.mk (ho);clear bN;clear yD;clear HB;clear b9;have bN:=aM;have yD:=aU;have HB:=aX;have aAB:=bD;clear aM aU aX bD;clear ho hb hg hat))
              go_roundg yA
              case measure=>have:=dI.out;have:=mN.out;have:=pK.out;omega
              case rel=>exact ⟨(ahA),(wrap64 (a7+1)),(by first|rfl|(simp;done)|(simp [*];done)),H',⟨by have:=dI.out;have:=mN.out;have:=pK.out;omega⟩,⟨by (with_reducible repeat (first|apply Kd.bC|apply Kd.bA|apply Kd.bB));exact Kd.bW aAB.out (fun _ hk=>trivial)⟩,⟨by repeat (first|(with_reducible first|exact HB.out|apply aI|apply aN|apply aJ|refine a8 ?_ gO.out)|exact HB.out)⟩⟩
             ·rw [if_neg FZ] at H;exact absurd H (by simp)
            ·rw [if_neg jA] at H;exact absurd H (by simp)
           ·rw [if_neg kF] at H;exact absurd H (by simp)
          ·replace mC:=Bool.eq_false_iff.mpr mC;subst mC;have H1:(if (wrap64 (1+t220))=5 then (bP.j3 yA l0 bI a7 ((dK l0 a7).f1) (wrap64 (1+t220)) ((wrap64 (1+t220))==5) (wrap64 (1+t220)) 0 (⟨#[]⟩:ByteArray)) else (bP.j3 yA l0 bI a7 ((dK l0 a7).f1) (wrap64 (1+t220)) ((wrap64 (1+t220))==6) (wrap64 (1+t220)) 0 (⟨#[]⟩:ByteArray)))=some r:=by rw [if_neg (show ¬ (false=true) by decide)] at H;exact H
           clear H;have H:=H1;clear H1;have WU:=aC.mk H;clear H;go_upto_if 46 with (fail)
           go_cut [46] (fun v46 wc=>∃ (kq:Nat) (OI:Bool),v46= .bool OI∧aC (bP.j3 kq l0 bI a7 ((dK l0 a7).f1) (wrap64 (1+t220)) OI (wrap64 (1+t220)) 0 (⟨#[]⟩:ByteArray)=some r)∧aC (kq≤yA)∧aC (Kd.R k86 86 wc w.heap.size (fun k_=>k_≠bJ) u3 bI)∧aC (wc.heap[bJ]? =some (.cells #[.int .i64 (wrap64 (1+t220)),.int .i64 0,.string (⟨#[]⟩:ByteArray),(.slice none 0 0),(.slice none 0 0)] 86 (0,0)))∧aC (Below w.heap.size w wc))
           case first=>
            have H:=WU.out;clear WU;by_cases zG:(wrap64 (1+t220))=5
            ·rw [if_pos zG] at H;have zW:((wrap64 (1+t220))==5)=true:=beq_iff_eq.mpr zG;(try (have arN:(((1+t220))==5)=true:=by have h_:=zW;rwa [show wrap64 (1+t220)=(1+t220) from by unfold wrap64;omega] at h_))
             have LQ:((wrap64 (1+t220)) !=5)=false:=bne_eq_false_iff_eq.mpr zG;(try (have aAP:(((1+t220)) !=5)=false:=by have h_:=LQ;rwa [show wrap64 (1+t220)=(1+t220) from by unfold wrap64;omega] at h_))
             clear zG;(first|rw [zW]|(simp only [aG,aH];rw [zW])|skip)
             have H':=aC.mk H;clear H;go_wp2
             go_meet
             case rel=>exact ⟨_,(((wrap64 (1+t220))==5)),(by first|rfl|(simp;done)|(simp [*];done)),H',⟨by have:=dI.out;have:=mN.out;have:=pK.out;first|omega|exact Nat.le_refl _⟩,⟨by (with_reducible repeat (first|apply Kd.bC|apply Kd.bA|apply Kd.bB));exact b9.out⟩,⟨by (with_reducible repeat (first|refine aW ?_ _|refine aV ?_|refine aQ ?_ _));exact bN.out⟩,⟨by repeat (first|(with_reducible first|exact HB.out|apply aI|apply aN|apply aJ|refine a8 ?_ gO.out)|exact HB.out)⟩⟩
            ·rw [if_neg zG] at H;have zW:((wrap64 (1+t220))==5)=false:=beq_eq_false_iff_ne.mpr zG;(try (have arN:(((1+t220))==5)=false:=by have h_:=zW;rwa [show wrap64 (1+t220)=(1+t220) from by unfold wrap64;omega] at h_))
             have LQ:((wrap64 (1+t220)) !=5)=true:=bne_iff_ne.mpr zG;(try (have aAP:(((1+t220)) !=5)=true:=by have h_:=LQ;rwa [show wrap64 (1+t220)=(1+t220) from by unfold wrap64;omega] at h_))
             (first|rw [zW]|(simp only [aG,aH];rw [zW])|skip)
             have H':=aC.mk H;clear H;go_wp2
             go_meet
             case rel=>exact ⟨_,(((wrap64 (1+t220))==6)),(by first|rfl|(simp;done)|(simp [*];done)),H',⟨by have:=dI.out;have:=mN.out;have:=pK.out;first|omega|exact Nat.le_refl _⟩,⟨by (with_reducible repeat (first|apply Kd.bC|apply Kd.bA|apply Kd.bB));exact b9.out⟩,⟨by (with_reducible repeat (first|refine aW ?_ _|refine aV ?_|refine aQ ?_ _));exact bN.out⟩,⟨by repeat (first|(with_reducible first|exact HB.out|apply aI|apply aN|apply aJ|refine a8 ?_ gO.out)|exact HB.out)⟩⟩
           case rest=>
            clear WU;try clear c1
            try clear c2
            try clear lM
            try clear p2
            try clear q2
            try clear BB
            try clear c3
            try clear j8
            try clear p6
            try clear c8
            try clear rC
            try clear yI
            try clear c9
            try clear iX
            try clear C0
            try clear mA
            try clear F0
            try clear lD
            try clear zS
            try clear jD
            try clear sI
            try clear wR
            try clear mC
            try clear aOR
            try clear aD3
            try clear aM2
            try clear CZ
            try clear aI7
            try clear aGH
            try clear aDF
            try clear kF
            try clear IF
            try clear aG0
            try clear aCD
            try clear aEX
            try clear jA
            try clear xK
            try clear FZ
            try clear yP
            try clear zG
            try clear zW
            try clear LQ
            try clear PW
            try clear MW
            try clear MD
            try clear aeO
            try clear akK
            try clear aoO
            try clear aoJ
            try clear aoF
            try clear anU
            try clear aAI
            try clear LP
            try clear L7
            try clear VD
            try clear SS
            try clear XK
            try clear N1
            try clear NV
            try clear NX
            try clear aeM
            try clear abW
            try clear anL
            try clear ar2
            try clear aw5
            try clear ar8
            try clear amS
            try clear NW
            try clear ML
            try clear QM
            try clear XT
            try clear Q8
            try clear FD
            try clear E3
            try clear E9
            try clear DE
            try clear lU
            try clear oD
            try clear oH
            try clear oA
            try clear ah1
            try clear al7
            try clear p2
            try clear D4
            try clear E6
            try clear G8
            try clear OL
            try clear p6
            try clear q2
            try clear FF
            try clear EW
            try clear JZ
            try clear MF
            obtain ⟨kq,OI,rfl,HA,tN,b9,bN,HB⟩:=hcut;cases kq with
            |zero=>exact absurd HA.out (by simp [bP.j3])
            |succ kE=>
             have H:=HA.out;clear HA;simp only [bP.j3] at H;by_cases P7:OI=true
             ·subst P7;have H1:((some (([(⟨#[102]⟩:ByteArray),(⟨#[103]⟩:ByteArray),(⟨#[104]⟩:ByteArray),(⟨#[109,97,105,110]⟩:ByteArray)]:List ByteArray):List ByteArray)).bind fun kG=>((i6.f ((dK l0 a7).f1) 4).bind fun t242=>(if 0≤t242 then (if t242<(kG.length:Int) then (if bI.length<1759218604441 then (bP.l0 kE l0 (bI++ [(⟨(wrap64 (1+t220)),0,rdOf ByteArray.empty kG t242,([]:List (S86)),([]:List (S86))⟩:S86)]) (wrap64 (a7+1))) else (none)) else (none)) else (none))))=some r:=by rw [if_pos rfl] at H;exact H
              clear H;have H:=H1;clear H1;obtain ⟨kG,JN⟩: ∃ y_:List ByteArray,y_=(([(⟨#[102]⟩:ByteArray),(⟨#[103]⟩:ByteArray),(⟨#[104]⟩:ByteArray),(⟨#[109,97,105,110]⟩:ByteArray)]:List ByteArray)):=⟨_,rfl⟩;replace H:((i6.f ((dK l0 a7).f1) 4).bind fun t242=>(if 0≤t242 then (if t242<(kG.length:Int) then (if bI.length<1759218604441 then (bP.l0 kE l0 (bI++ [(⟨(wrap64 (1+t220)),0,rdOf ByteArray.empty kG t242,([]:List (S86)),([]:List (S86))⟩:S86)]) (wrap64 (a7+1))) else (none)) else (none)) else (none)))=some r:=by first|(rw [JN];with_reducible exact H)|(have cO:=(Option.bind_some _ _).symm.trans H;rw [JN];with_reducible exact cO)|(have cO:=(Option.bind_some _ _).symm.trans H;with_reducible exact cO)|with_reducible exact H|(rw [JN];exact H)|exact H
              have adJ:=aC.mk JN;clear JN;replace H:=Option.bind_eq_some_iff.mp H;obtain ⟨t242,af8,H⟩:=H;replace H:(if 0≤t242 then (if t242<(kG.length:Int) then (if bI.length<1759218604441 then (bP.l0 kE l0 (bI++ [(⟨(wrap64 (1+t220)),0,rdOf ByteArray.empty kG t242,([]:List (S86)),([]:List (S86))⟩:S86)]) (wrap64 (a7+1))) else (none)) else (none)) else (none))=some r:=H;have aqY:=aC.mk af8;clear af8;by_cases NP:0≤t242
              ·rw [if_pos NP] at H;have aEL:decide (0≤t242)=true:=decide_eq_true NP;clear NP;by_cases O9:t242<(kG.length:Int)
               ·rw [if_pos O9] at H;have aKE:decide (t242<(kG.length:Int))=true:=decide_eq_true O9;clear O9;by_cases sX:bI.length<1759218604441
                ·rw [if_pos sX] at H;have aAJ:=aC.mk sX;clear sX;obtain ⟨ad5,G6⟩: ∃ y_:List (S86),y_=(bI++ [(⟨(wrap64 (1+t220)),0,rdOf ByteArray.empty kG t242,([]:List (S86)),([]:List (S86))⟩:S86)]):=⟨_,rfl⟩;replace H:(bP.l0 kE l0 ad5 (wrap64 (a7+1)))=some r:=by first|(rw [G6];with_reducible exact H)|(have cO:=(Option.bind_some _ _).symm.trans H;rw [G6];with_reducible exact cO)|(have cO:=(Option.bind_some _ _).symm.trans H;with_reducible exact cO)|with_reducible exact H|(rw [G6];exact H)|exact H
                 have azJ:=aC.mk G6;clear G6;have H':=aC.mk H;clear H;go_wp2_with (first|((with_reducible refine iJ (N:=49) rfl ?_);refine Kd.xB Kd.string _ 9 ?hg (N:=49) ?hd (xs:=([(⟨#[102]⟩:ByteArray),(⟨#[103]⟩:ByteArray),(⟨#[104]⟩:ByteArray),(⟨#[109,97,105,110]⟩:ByteArray)]:List ByteArray)) (inner:=[.string (⟨#[102]⟩:ByteArray),.string (⟨#[103]⟩:ByteArray),.string (⟨#[104]⟩:ByteArray),.string (⟨#[109,97,105,110]⟩:ByteArray)]) (ok:=fun _=>True) (okp:=fun _=>True) ?hr ?hp (fun _ hk=>hk) trivial (Below.refl _ _) (Nat.le_refl _) (by simp) ?_;(case hd=>rfl);(case hg=>rfl);(case hr=>first|(go_simp;done)|(go_simp;rfl));(case hp=>exact (Reps.one (show Kd.M Kd.string _ _ _ (⟨#[102]⟩:ByteArray) [.string (⟨#[102]⟩:ByteArray)] from rfl) (Reps.one (show Kd.M Kd.string _ _ _ (⟨#[103]⟩:ByteArray) [.string (⟨#[103]⟩:ByteArray)] from rfl) (Reps.one (show Kd.M Kd.string _ _ _ (⟨#[104]⟩:ByteArray) [.string (⟨#[104]⟩:ByteArray)] from rfl) (Reps.one (show Kd.M Kd.string _ _ _ (⟨#[109,97,105,110]⟩:ByteArray) [.string (⟨#[109,97,105,110]⟩:ByteArray)] from rfl) (Reps.none _ _))))));intro ao1 pV KM hb hg_ hnew_;clear hg_ hnew_;(first|rw [← adJ.out] at KM|(simp only [Int.reduceToNat] at KM;rw [← adJ.out] at KM));have aM:=aC.mk (Kd.dC (by (with_reducible repeat (first|apply Kd.bC|apply Kd.bA|apply Kd.bB));exact b9.out) hb);have aU:=aC.mk (Kd.iW KM (bZ (by repeat (first|(with_reducible first|exact HB.out|apply aI|apply aN|apply aJ|refine a8 ?_ gO.out)|exact HB.out))));have aX:=aC.mk (dB (g:=bJ) (o:=.cells #[.int .i64 (wrap64 (1+t220)),.int .i64 0,.string (⟨#[]⟩:ByteArray),.slice none 0 0,.slice none 0 0] 86 (0,0)) (by (with_reducible repeat (first|refine aW ?_ _|refine aV ?_|refine aQ ?_ _));exact bN.out) hb);have bD:=aC.mk (bQ (by repeat (first|(with_reducible first|exact HB.out|apply aI|apply aN|apply aJ|refine a8 ?_ gO.out)|exact HB.out)) hb);clear b9;clear bN;clear HB;have b9:=aM;have zT:=aU;have bN:=aX;have HB:=bD;clear aM aU aX bD;clear hb KM)|((with_reducible refine eI (f:=15) rfl ?_);refine eJ (some 51) rfl rfl Tryd.func15 (by kernel_rfl) rfl #[.int .i64 ((dK l0 a7).f1),.int .i64 4] rfl (by (try simp only [List.map_toArray,List.map_cons,List.map_nil]);first|done|rfl|(simp only [List.length_drop,List.length_take];rfl)) ?_;(with_reducible refine (i6.calls ((dK l0 a7).f1) 4 t242 _ aqY.out).mono ?_);rintro e w' ⟨rfl,⟨nd,rfl⟩⟩;refine ⟨_,rfl,?_⟩;(try (rw [J4 pV];generalize hq_:World.drewN pV _=pV;have aM:aC (Kd.R Kd.string 9 pV w.heap.size (fun _=>True) ao1 kG):=⟨by rw [← hq_];exact (by (with_reducible repeat (first|apply Kd.bC|apply Kd.bA|apply Kd.bB));exact zT.out)⟩;have aU:aC (Kd.R k86 86 pV w.heap.size (fun k_=>k_≠bJ) u3 bI):=⟨by rw [← hq_];exact (by (with_reducible repeat (first|apply Kd.bC|apply Kd.bA|apply Kd.bB));exact b9.out)⟩;have aX:aC (pV.heap[bJ]? =some (.cells #[.int .i64 (wrap64 (1+t220)),.int .i64 0,.string (⟨#[]⟩:ByteArray),.slice none 0 0,.slice none 0 0] 86 (0,0))):=⟨by rw [← hq_];exact (by (with_reducible repeat (first|refine aW ?_ _|refine aV ?_|refine aQ ?_ _));exact bN.out)⟩;have bD:aC (Below w.heap.size w pV):=⟨by rw [← hq_];exact (by repeat (first|(with_reducible first|exact HB.out|apply aI|apply aN|apply aJ|refine a8 ?_ gO.out)|exact HB.out))⟩;clear zT b9 bN HB hq_;have zT:=aM;have b9:=aU;have bN:=aX;have HB:=bD;clear aM aU aX bD));obtain ⟨UB,Y7,N4⟩:=Kd.gI zT.out;subst N4;have WM:0≤(t242:Int):=of_decide_eq_true (by assumption);have SB:t242<(kG.length:Int):=of_decide_eq_true (by assumption);obtain ⟨aEE,atU,aDR⟩:=Kd.CX (Kd.iU zT.out).2.2 t242 WM SB;cases atU;replace WM:=eq_true WM;replace SB:=eq_true SB;have aN7:pV.cell? ⟨bJ,0,none⟩=some (.int .i64 (wrap64 (1+t220))):=(aD bN.out 0).trans rfl;have aG5:pV.cell? ⟨bJ,1,none⟩=some (.int .i64 0):=(aD bN.out 1).trans rfl;have aO9:pV.cell? ⟨bJ,2,none⟩=some (.string (⟨#[]⟩:ByteArray)):=(aD bN.out 2).trans rfl;have aBY:pV.cell? ⟨bJ,3,none⟩=some (.slice none 0 0):=(aD bN.out 3).trans rfl;have aC4:pV.cell? ⟨bJ,4,none⟩=some (.slice none 0 0):=(aD bN.out 4).trans rfl;have aHS:=aT bN.out 0;have aLG:=aT bN.out 1;have aBV:=aT bN.out 2;have aCM:=aT bN.out 3;have aKY:=aT bN.out 4)|((with_reducible refine lB (b:=.append) (xs:=#[.tmp 80,.tmp 82]) rfl ?_);at_builtin;refine Kd.n9 k86 (w0:=w) w.heap.size rfl (.tmp 80) (.tmp 82) 44 86 (.agg #[(.int .i64 0),(.int .i64 0),(.string ⟨#[]⟩),(.slice none 0 0),(.slice none 0 0)]) 80 rfl Tryd.underlying44 info86 rfl (by decide) (by omega) u3 bI (⟨(wrap64 (1+t220)),0,rdOf ByteArray.empty kG t242,([]:List (S86)),([]:List (S86))⟩:S86) [.int .i64 (wrap64 (1+t220)),.int .i64 0,.string (rdOf ByteArray.empty kG t242),.slice none 0 0,.slice none 0 0] (fun k_=>k_≠bJ) (fun k_=>((fun k_=>k_≠bJ)) k_∧some k_≠(u3:Value).ownBlock) rfl (by first|(go_simp;done)|(go_simp;rfl)) ?aP (fun _ hk=>hk) ?aF ?aO ?aB ?aS ?aL ?_;(case aP=>exact BS _ _ _ (⟨(wrap64 (1+t220)),0,rdOf ByteArray.empty kG t242,([]:List (S86)),([]:List (S86))⟩:S86) (Kd.jZ _ _ _ _ _) (Kd.jZ _ _ _ _ _));(case aB=>exact (by repeat (first|(with_reducible first|exact HB.out|apply aI|apply aN|apply aJ|refine a8 ?_ gO.out)|exact HB.out)));(case aF=>exact (fun k_ hk=>Kd.freshB (g:=bJ) (o:=.cells #[.int .i64 (wrap64 (1+t220)),.int .i64 0,.string (rdOf ByteArray.empty kG t242),.slice none 0 0,.slice none 0 0] 86 (0,0)) (by (with_reducible repeat (first|refine aW ?_ _|refine aV ?_|refine aQ ?_ _));refine bX (cs:=#[.int .i64 (wrap64 (1+t220)),.int .i64 0,.string (⟨#[]⟩:ByteArray),.slice none 0 0,.slice none 0 0]) ?_ 2 _ rfl;(with_reducible repeat (first|refine aW ?_ _|refine aV ?_|refine aQ ?_ _));exact bN.out) k_ hk));(case aO=>exact (by (with_reducible repeat (first|apply Kd.bC|apply Kd.bA|apply Kd.bB));exact Kd.bW (Kd.bH (p:=⟨bJ,2,none⟩) (Kd.bW b9.out (fun k_ hk=>(⟨hk,hk⟩:_∧k_≠bJ))) (fun _ hk=>hk.2) (.string (rdOf ByteArray.empty kG t242))) (fun _ hk=>hk.1)));(case aS=>exact (bZ (by repeat (first|(with_reducible first|exact HB.out|apply aI|apply aN|apply aJ|refine a8 ?_ gO.out)|exact HB.out))));(case aL=>have:=aAJ.out;omega);intro aE5 LH ho hb hg hat;rw [← azJ.out] at ho;have aM:=aC.mk (iY (g:=bJ) (o:=.cells #[.int .i64 (wrap64 (1+t220)),.int .i64 0,.string (rdOf ByteArray.empty kG t242),.slice none 0 0,.slice none 0 0] 86 (0,0)) (by (with_reducible repeat (first|refine aW ?_ _|refine aV ?_|refine aQ ?_ _));refine bX (cs:=#[.int .i64 (wrap64 (1+t220)),.int .i64 0,.string (⟨#[]⟩:ByteArray),.slice none 0 0,.slice none 0 0]) ?_ 2 _ rfl;(with_reducible repeat (first|refine aW ?_ _|refine aV ?_|refine aQ ?_ _));exact bN.out) hg (Kd.EC b9.out (fun _ hk=>hk)));have aU:=aC.mk (Kd.BV (by (with_reducible repeat (first|apply Kd.bC|apply Kd.bA|apply Kd.bB));exact (Kd.bW (Kd.bH (p:=⟨bJ,2,none⟩) (Kd.eU zT.out bN.out (by decide)) (fun _ hk=>hk.2) (.string (rdOf ByteArray.empty kG t242))) (fun _ h_=>h_.1))) (Kd.DY (by (with_reducible repeat (first|apply Kd.bC|apply Kd.bA|apply Kd.bB));exact (Kd.bW (Kd.bH (p:=⟨bJ,2,none⟩) (Kd.bW b9.out (fun k_ hk=>(⟨hk,hk⟩:_∧k_≠bJ))) (fun _ hk=>hk.2) (.string (rdOf ByteArray.empty kG t242))) (fun _ h_=>h_.1)))) (by decide) hg);have aX:=aC.mk (hb);have bD:=aC.mk (ho);clear bN;clear zT;clear HB;clear b9;have bN:=aM;have zT:=aU;have HB:=aX;have awH:=bD;clear aM aU aX bD;clear ho hb hg hat))
                 go_roundg kE
                 case measure=>have:=dI.out;have:=mN.out;have:=pK.out;have:=tN.out;omega
                 case rel=>exact ⟨(ad5),(wrap64 (a7+1)),(by first|rfl|(simp;done)|(simp [*];done)),H',⟨by have:=dI.out;have:=mN.out;have:=pK.out;have:=tN.out;omega⟩,⟨by (with_reducible repeat (first|apply Kd.bC|apply Kd.bA|apply Kd.bB));exact Kd.bW awH.out (fun _ hk=>trivial)⟩,⟨by repeat (first|(with_reducible first|exact HB.out|apply aI|apply aN|apply aJ|refine a8 ?_ gO.out)|exact HB.out)⟩⟩
                ·rw [if_neg sX] at H;exact absurd H (by simp)
               ·rw [if_neg O9] at H;exact absurd H (by simp)
              ·rw [if_neg NP] at H;exact absurd H (by simp)
             ·replace P7:=Bool.eq_false_iff.mpr P7;subst P7;have H1:(if (wrap64 (1+t220))=7 then (if 0≤a7 then (if a7<(l0.length:Int) then ((bP.f kE ((dK l0 a7).f2)).bind fun t248=>((bP.f kE ((dK l0 a7).f3)).bind fun jK=>(if bI.length<1759218604441 then (bP.l0 kE l0 (bI++ [(⟨(wrap64 (1+t220)),0,(⟨#[]⟩:ByteArray),t248,jK⟩:S86)]) (wrap64 (a7+1))) else (none)))) else (none)) else (none)) else (if (wrap64 (1+t220))=8 then (if 0≤a7 then (if a7<(l0.length:Int) then ((bP.f kE ((dK l0 a7).f2)).bind fun mB=>(if bI.length<1759218604441 then (bP.l0 kE l0 (bI++ [(⟨(wrap64 (1+t220)),0,(⟨#[]⟩:ByteArray),mB,([]:List (S86))⟩:S86)]) (wrap64 (a7+1))) else (none))) else (none)) else (none)) else (if bI.length<1759218604441 then (bP.l0 kE l0 (bI++ [(⟨(wrap64 (1+t220)),0,(⟨#[]⟩:ByteArray),([]:List (S86)),([]:List (S86))⟩:S86)]) (wrap64 (a7+1))) else (none))))=some r:=by rw [if_neg (show ¬ (false=true) by decide)] at H;exact H
              clear H;have H:=H1;clear H1;by_cases AZ:(wrap64 (1+t220))=7
              ·rw [if_pos AZ] at H;have WA:((wrap64 (1+t220))==7)=true:=beq_iff_eq.mpr AZ;(try (have aoC:(((1+t220))==7)=true:=by have h_:=WA;rwa [show wrap64 (1+t220)=(1+t220) from by unfold wrap64;omega] at h_))
               have TZ:((wrap64 (1+t220)) !=7)=false:=bne_eq_false_iff_eq.mpr AZ;(try (have aqI:(((1+t220)) !=7)=false:=by have h_:=TZ;rwa [show wrap64 (1+t220)=(1+t220) from by unfold wrap64;omega] at h_))
               clear AZ;by_cases OT:0≤a7
               ·rw [if_pos OT] at H;have aJZ:decide (0≤a7)=true:=decide_eq_true OT;clear OT;by_cases PK:a7<(l0.length:Int)
                ·rw [if_pos PK] at H;have aDO:decide (a7<(l0.length:Int))=true:=decide_eq_true PK;clear PK;replace H:=Option.bind_eq_some_iff.mp H;obtain ⟨t248,abB,H⟩:=H;replace H:((bP.f kE ((dK l0 a7).f3)).bind fun jK=>(if bI.length<1759218604441 then (bP.l0 kE l0 (bI++ [(⟨(wrap64 (1+t220)),0,(⟨#[]⟩:ByteArray),t248,jK⟩:S86)]) (wrap64 (a7+1))) else (none)))=some r:=H;have alP:=aC.mk abB;clear abB;replace H:=Option.bind_eq_some_iff.mp H;obtain ⟨jK,ahC,H⟩:=H;replace H:(if bI.length<1759218604441 then (bP.l0 kE l0 (bI++ [(⟨(wrap64 (1+t220)),0,(⟨#[]⟩:ByteArray),t248,jK⟩:S86)]) (wrap64 (a7+1))) else (none))=some r:=H;have az6:=aC.mk ahC;clear ahC;by_cases N8:bI.length<1759218604441
                 ·rw [if_pos N8] at H;have apZ:=aC.mk N8;clear N8;obtain ⟨aeW,G7⟩: ∃ y_:List (S86),y_=(bI++ [(⟨(wrap64 (1+t220)),0,(⟨#[]⟩:ByteArray),t248,jK⟩:S86)]):=⟨_,rfl⟩;replace H:(bP.l0 kE l0 aeW (wrap64 (a7+1)))=some r:=by first|(rw [G7];with_reducible exact H)|(have cO:=(Option.bind_some _ _).symm.trans H;rw [G7];with_reducible exact cO)|(have cO:=(Option.bind_some _ _).symm.trans H;with_reducible exact cO)|with_reducible exact H|(rw [G7];exact H)|exact H
                  have aAS:=aC.mk G7;clear G7;have H':=aC.mk H;clear H;try go_wp2
                  have aM:=aC.mk (Kd.bB b9.out);have aU:=aC.mk (aV bN.out);have aX:=aC.mk (aJ HB.out);clear b9;clear bN;clear HB;have b9:=aM;have bN:=aU;have HB:=aX;clear aM aU aX;have TD:0≤(a7:Int):=of_decide_eq_true (by assumption);have XH:a7<(l0.length:Int):=of_decide_eq_true (by assumption);obtain ⟨awO,RU,U6,XW,Q7,amT,J2,GK,D7,EA,aiY,ah4,aiJ,abD⟩:=BP fG.out a7 TD XH;have qV:=EA;have qH:=D7;have pT:=GK;have pW:=J2;obtain rfl:kI=awO:=(by injection amT);replace J2:=(HB.out.cell (World.block_lt_of_cell? w _ J2)).trans J2;replace GK:=(HB.out.cell (World.block_lt_of_cell? w _ GK)).trans GK;replace D7:=(HB.out.cell (World.block_lt_of_cell? w _ D7)).trans D7;replace EA:=(HB.out.cell (World.block_lt_of_cell? w _ EA)).trans EA;have acK:=aC.mk ah4;have ayD:=aC.mk aiY;clear ah4 aiY;have aAX:=aC.mk abD;have aMA:=aC.mk aiJ;clear abD aiJ;replace TD:=eq_true TD;replace XH:=eq_true XH;have WH:0≤(a7:Int):=of_decide_eq_true (by assumption);have Q0:a7<(l0.length:Int):=of_decide_eq_true (by assumption);obtain ⟨arX,aCL,aFY,aIO,aJ6,auL,KQ,K6,EO,EG,ajZ,ah2,adI,aiI⟩:=BP fG.out a7 WH Q0;have qM:=EG;have pY:=EO;have qI:=K6;have pX:=KQ;obtain rfl:kI=arX:=(by injection auL);replace KQ:=(HB.out.cell (World.block_lt_of_cell? w _ KQ)).trans KQ;replace K6:=(HB.out.cell (World.block_lt_of_cell? w _ K6)).trans K6;replace EO:=(HB.out.cell (World.block_lt_of_cell? w _ EO)).trans EO;replace EG:=(HB.out.cell (World.block_lt_of_cell? w _ EG)).trans EG;have aqH:=aC.mk ah2;have aFC:=aC.mk ajZ;clear ah2 ajZ;have ad9:=aC.mk aiI;have avX:=aC.mk adI;clear aiI adI;replace WH:=eq_true WH;replace Q0:=eq_true Q0;have ea_:=Option.some.inj (D7.symm.trans EO);injection ea_ with ea_ en_ ec_
                  subst ea_;subst ec_;clear en_;have ea_:=Option.some.inj (EA.symm.trans EG);injection ea_ with ea_ en_ ec_
                  subst ea_;subst ec_;clear en_;refine mK (n:=16) (S:=fun w'=>w'.cell? (kI.add ((a7).toNat * 4))=some (.int .i64 ((dK l0 a7).f0))∧w'.cell? ⟨(kI.add ((a7).toNat * 4)).block,(kI.add ((a7).toNat * 4)).off+1,none⟩=some (.int .i64 ((dK l0 a7).f1))∧w'.cell? ⟨(kI.add ((a7).toNat * 4)).block,(kI.add ((a7).toNat * 4)).off+2,none⟩=some (.slice RU ((dK l0 a7).f2).length U6)∧w'.cell? ⟨(kI.add ((a7).toNat * 4)).block,(kI.add ((a7).toNat * 4)).off+3,none⟩=some (.slice XW ((dK l0 a7).f3).length Q7)∧w'.cell? (kI.add ((a7).toNat * 4))=some (.int .i64 ((dK l0 a7).f0))∧w'.cell? ⟨(kI.add ((a7).toNat * 4)).block,(kI.add ((a7).toNat * 4)).off+1,none⟩=some (.int .i64 ((dK l0 a7).f1))∧w'.cell? ⟨(kI.add ((a7).toNat * 4)).block,(kI.add ((a7).toNat * 4)).off+2,none⟩=some (.slice RU ((dK l0 a7).f2).length U6)∧w'.cell? ⟨(kI.add ((a7).toNat * 4)).block,(kI.add ((a7).toNat * 4)).off+3,none⟩=some (.slice XW ((dK l0 a7).f3).length Q7)) (ds:=[]) #[false,false,false,false,false,false,false,false,false,false,false,false,false,false,false,false] (by kernel_rfl) rfl rfl ⟨((HB.out.cell (World.block_lt_of_cell? w _ pW)).trans pW),((HB.out.cell (World.block_lt_of_cell? w _ pT)).trans pT),((HB.out.cell (World.block_lt_of_cell? w _ qH)).trans qH),((HB.out.cell (World.block_lt_of_cell? w _ qV)).trans qV),((HB.out.cell (World.block_lt_of_cell? w _ pX)).trans pX),((HB.out.cell (World.block_lt_of_cell? w _ qI)).trans qI),((HB.out.cell (World.block_lt_of_cell? w _ pY)).trans pY),((HB.out.cell (World.block_lt_of_cell? w _ qM)).trans qM)⟩ (fun hHeld=>?_);refine PT bP.tab18 bP.bits18 (fun HT_ HW_=>?_);generalize wc.drew=awM at b9 bN HB acK aAX aqH ad9 J2 GK D7 EA KQ K6 EO EG hHeld ⊢;refine bE (i:=0) (N:=some 57) (v:=?_) (a':=?_) #[true,false,false,false,false,false,false,false,false,false,false,false,false,false,false,false] rfl rfl (gE HT_.out (by kernel_rfl)) (fun _ _ _ h=>h) (Or.inl ⟨by rfl,?_⟩) ?_ ?_
                  rotate_left;·intro w';go_simp;with_reducible rfl
                  rotate_left;·simp only [Act.put,q1_,q2_,q3_,aG,aH];rfl
                  refine bE (i:=1) (N:=some 58) (v:=?_) (a':=?_) #[true,true,false,false,false,false,false,false,false,false,false,false,false,false,false,false] rfl rfl (gE HT_.out (by kernel_rfl)) (fun _ _ _ h=>h) (Or.inl ⟨by rfl,?_⟩) ?_ ?_
                  rotate_left;·intro w';go_simp;with_reducible rfl
                  rotate_left;·simp only [Act.put,q1_,q2_,q3_,aG,aH];rfl
                  refine bE (i:=2) (N:=some 59) (v:=?_) (a':=?_) #[true,true,true,false,false,false,false,false,false,false,false,false,false,false,false,false] rfl rfl (gE HT_.out (by kernel_rfl)) (fun _ _ _ h=>h) (Or.inl ⟨by rfl,?_⟩) ?_ ?_
                  rotate_left;·intro w';go_simp;with_reducible rfl
                  rotate_left;·simp only [Act.put,q1_,q2_,q3_,aG,aH];rfl
                  refine bE (i:=3) (N:=some 60) (v:=?_) (a':=?_) #[true,true,true,true,false,false,false,false,false,false,false,false,false,false,false,false] rfl rfl (gE HT_.out (by kernel_rfl)) (fun _ _ _ h=>h) (Or.inl ⟨by rfl,?_⟩) ?_ ?_
                  rotate_left;·intro w';go_simp;with_reducible rfl
                  rotate_left;·simp only [Act.put,q1_,q2_,q3_,aG,aH];rfl
                  refine bE (i:=6) (N:=some 63) (v:=?_) (a':=?_) #[true,true,true,true,false,false,true,false,false,false,false,false,false,false,false,false] rfl rfl (gE HT_.out (by kernel_rfl)) (fun _ _ _ h=>h) (Or.inl ⟨by rfl,?_⟩) ?_ ?_
                  rotate_left;·intro w';go_simp;with_reducible rfl
                  rotate_left;·simp only [Act.put,q1_,q2_,q3_,aG,aH];rfl
                  refine bE (i:=7) (N:=some 64) (v:=?_) (a':=?_) #[true,true,true,true,false,false,true,true,false,false,false,false,false,false,false,false] rfl rfl (gE HT_.out (by kernel_rfl)) (fun _ _ _ h=>h) (Or.inl ⟨by rfl,?_⟩) ?_ ?_
                  rotate_left;·intro w';go_simp;with_reducible rfl
                  rotate_left;·simp only [Act.put,q1_,q2_,q3_,aG,aH];rfl
                  refine bE (i:=8) (N:=some 65) (v:=?_) (a':=?_) #[true,true,true,true,false,false,true,true,true,false,false,false,false,false,false,false] rfl rfl (gE HT_.out (by kernel_rfl)) (fun _ _ _ h=>h) (Or.inl ⟨by rfl,?_⟩) ?_ ?_
                  rotate_left;·intro w';go_simp;with_reducible rfl
                  rotate_left;·simp only [Act.put,q1_,q2_,q3_,aG,aH];rfl
                  refine bE (i:=9) (N:=some 66) (v:=?_) (a':=?_) #[true,true,true,true,false,false,true,true,true,true,false,false,false,false,false,false] rfl rfl (gE HT_.out (by kernel_rfl)) (fun _ _ _ h=>h) (Or.inl ⟨by rfl,?_⟩) ?_ ?_
                  rotate_left;·intro w';go_simp;with_reducible rfl
                  rotate_left;·simp only [Act.put,q1_,q2_,q3_,aG,aH];rfl
                  refine eC (i:=4) (N:=some 61) (v:=?_) (a':=?_) #[true,true,true,true,true,false,true,true,true,true,false,false,false,false,false,false] rfl rfl (wW HT_.out HW_.out (by kernel_rfl)) (fun _ _ _ h=>h) (Or.inl ⟨by rfl,?_⟩) hHeld ?_ ?_
                  rotate_left
                  ·rintro w' ⟨s0,s1,s2,s3,s4,s5,s6,s7⟩
                   go_simp;with_reducible rfl
                  rotate_left;·simp only [Act.put,q1_,q2_,q3_,aG,aH];rfl
                  refine eC (i:=10) (N:=some 67) (v:=?_) (a':=?_) #[true,true,true,true,true,false,true,true,true,true,true,false,false,false,false,false] rfl rfl (wW HT_.out HW_.out (by kernel_rfl)) (fun _ _ _ h=>h) (Or.inl ⟨by rfl,?_⟩) hHeld ?_ ?_
                  rotate_left
                  ·rintro w' ⟨s0,s1,s2,s3,s4,s5,s6,s7⟩
                   go_simp;with_reducible rfl
                  rotate_left;·simp only [Act.put,q1_,q2_,q3_,aG,aH];rfl
                  refine one_ (i:=5) (N:=some 62) #[true,true,true,true,true,true,true,true,true,true,true,false,false,false,false,false] rfl rfl (tA HT_.out (by kernel_rfl)) (by decide) (fun K hK=>?_);refine mM Tryd.func29 (by kernel_rfl) rfl #[.slice RU ((dK l0 a7).f2).length U6] (by rfl) rfl rfl (by (try simp only [List.map_toArray,List.map_cons,List.map_nil]);first|done|rfl|(simp only [List.length_drop,List.length_take];rfl)) ?_
                  with_reducible refine (ih kE (by have:=dI.out;have:=mN.out;have:=pK.out;have:=tN.out;omega) _ _ ((dK l0 a7).f2) t248 _ ?cJ ?cK alP.out).mono ?_
                  (case cJ=>repeat (first|exact (Kd.cN acK.out HB.out)|(with_reducible refine Kd.eE ?_ _)|(with_reducible refine Kd.eG ?_ _)|(with_reducible refine Kd.eF ?_)))
                  (case cK=>exact ayD.out)
                  rintro e qA ⟨aOA,rfl,cI,hb⟩
                  refine ⟨_,rfl,?_⟩;have aM:=aC.mk (Kd.r8 (by (with_reducible repeat (first|apply Kd.bC|apply Kd.bA|apply Kd.bB));exact b9.out) (Kd.gX cI) hb);have aU:=aC.mk (Kd.iW (Kd.VO (Kd.lX cI (Kd.R_lt (by (with_reducible repeat (first|apply Kd.bC|apply Kd.bA|apply Kd.bB));exact b9.out))) (g:=bJ) (o:=.cells #[.int .i64 (wrap64 (1+t220)),.int .i64 0,.string (⟨#[]⟩:ByteArray),.slice none 0 0,.slice none 0 0] 86 (0,0)) (by (with_reducible repeat (first|refine aW ?_ _|refine aV ?_|refine aQ ?_ _));exact bN.out)) (bZ (by repeat (first|(with_reducible first|exact HB.out|apply aI|apply aN|apply aJ|refine a8 ?_ gO.out)|exact HB.out))));have aX:=aC.mk (dB (g:=bJ) (o:=.cells #[.int .i64 (wrap64 (1+t220)),.int .i64 0,.string (⟨#[]⟩:ByteArray),.slice none 0 0,.slice none 0 0] 86 (0,0)) (by (with_reducible repeat (first|refine aW ?_ _|refine aV ?_|refine aQ ?_ _));exact bN.out) hb);have bD:=aC.mk (bQ (by repeat (first|(with_reducible first|exact HB.out|apply aI|apply aN|apply aJ|refine a8 ?_ gO.out)|exact HB.out)) hb);clear b9;clear bN;clear HB;have b9:=aM;have vP:=aU;have bN:=aX;have HB:=bD;clear aM aU aX bD;(try clear hb)
                  (try clear bR)
                  (try clear hk)
                  (try clear hi)
                  (try clear cI)
                  refine hK.out _ _ ⟨((HB.out.cell (World.block_lt_of_cell? w _ pW)).trans pW),((HB.out.cell (World.block_lt_of_cell? w _ pT)).trans pT),((HB.out.cell (World.block_lt_of_cell? w _ qH)).trans qH),((HB.out.cell (World.block_lt_of_cell? w _ qV)).trans qV),((HB.out.cell (World.block_lt_of_cell? w _ pX)).trans pX),((HB.out.cell (World.block_lt_of_cell? w _ qI)).trans qI),((HB.out.cell (World.block_lt_of_cell? w _ pY)).trans pY),((HB.out.cell (World.block_lt_of_cell? w _ qM)).trans qM)⟩ (fun hHeld=>?_);clear hK K;refine aZ (a':=?_) ?_ ?_
                  rotate_left
                  ·show Act.put _ (some 62) _=_
                   simp only [Act.put,q1_,q2_,q3_,aG,aH];rfl
                  refine bE (i:=12) (N:=some 69) (v:=?_) (a':=?_) #[true,true,true,true,true,true,true,true,true,true,true,false,true,false,false,false] rfl rfl (gE HT_.out (by kernel_rfl)) (fun _ _ _ h=>h) (Or.inl ⟨by rfl,?_⟩) ?_ ?_
                  rotate_left;·intro w';go_simp;with_reducible rfl
                  rotate_left;·simp only [Act.put,q1_,q2_,q3_,aG,aH];rfl
                  refine one_ (i:=11) (N:=some 68) #[true,true,true,true,true,true,true,true,true,true,true,true,true,false,false,false] rfl rfl (tA HT_.out (by kernel_rfl)) (by decide) (fun K hK=>?_);refine mM Tryd.func29 (by kernel_rfl) rfl #[.slice XW ((dK l0 a7).f3).length Q7] (by rfl) rfl rfl (by (try simp only [List.map_toArray,List.map_cons,List.map_nil]);first|done|rfl|(simp only [List.length_drop,List.length_take];rfl)) ?_
                  with_reducible refine (ih kE (by have:=dI.out;have:=mN.out;have:=pK.out;have:=tN.out;omega) _ _ ((dK l0 a7).f3) jK _ ?cJ ?cK az6.out).mono ?_
                  (case cJ=>repeat (first|exact (Kd.cN ad9.out HB.out)|(with_reducible refine Kd.eE ?_ _)|(with_reducible refine Kd.eG ?_ _)|(with_reducible refine Kd.eF ?_)))
                  (case cK=>exact avX.out)
                  rintro e nI ⟨aBG,rfl,cI,hb⟩
                  refine ⟨_,rfl,?_⟩;have aM:=aC.mk (Kd.r8 (by (with_reducible repeat (first|apply Kd.bC|apply Kd.bA|apply Kd.bB));exact b9.out) (Kd.gX cI) hb);have aU:=aC.mk (Kd.r8 (by (with_reducible repeat (first|apply Kd.bC|apply Kd.bA|apply Kd.bB));exact vP.out) (Kd.gX cI) hb);have aX:=aC.mk (Kd.iW (Kd.VO (Kd.lX (Kd.lX cI (Kd.R_lt (by (with_reducible repeat (first|apply Kd.bC|apply Kd.bA|apply Kd.bB));exact b9.out))) (Kd.R_lt (by (with_reducible repeat (first|apply Kd.bC|apply Kd.bA|apply Kd.bB));exact vP.out))) (g:=bJ) (o:=.cells #[.int .i64 (wrap64 (1+t220)),.int .i64 0,.string (⟨#[]⟩:ByteArray),.slice none 0 0,.slice none 0 0] 86 (0,0)) (by (with_reducible repeat (first|refine aW ?_ _|refine aV ?_|refine aQ ?_ _));exact bN.out)) (bZ (by repeat (first|(with_reducible first|exact HB.out|apply aI|apply aN|apply aJ|refine a8 ?_ gO.out)|exact HB.out))));have bD:=aC.mk (dB (g:=bJ) (o:=.cells #[.int .i64 (wrap64 (1+t220)),.int .i64 0,.string (⟨#[]⟩:ByteArray),.slice none 0 0,.slice none 0 0] 86 (0,0)) (by (with_reducible repeat (first|refine aW ?_ _|refine aV ?_|refine aQ ?_ _));exact bN.out) hb);have bY:=aC.mk (bQ (by repeat (first|(with_reducible first|exact HB.out|apply aI|apply aN|apply aJ|refine a8 ?_ gO.out)|exact HB.out)) hb);clear b9;clear vP;clear bN;clear HB;have b9:=aM;have vP:=aU;have EZ:=aX;have bN:=bD;have HB:=bY;clear aM aU aX bD bY;(try clear hb)
                  (try clear bR)
                  (try clear hk)
                  (try clear hi)
                  (try clear cI)
                  obtain ⟨dL,dM,OA⟩:=Kd.gI vP.out;(first|subst OA|(injection OA with yM IU zM;have K9:=yM.symm;have IX:=zM.symm;clear yM IU zM;subst K9;subst IX))
                  obtain ⟨dY,dZ,O5⟩:=Kd.gI EZ.out;(first|subst O5|(injection O5 with yM IU zM;have K9:=yM.symm;have IX:=zM.symm;clear yM IU zM;subst K9;subst IX))
                  refine hK.out _ _ ⟨((HB.out.cell (World.block_lt_of_cell? w _ pW)).trans pW),((HB.out.cell (World.block_lt_of_cell? w _ pT)).trans pT),((HB.out.cell (World.block_lt_of_cell? w _ qH)).trans qH),((HB.out.cell (World.block_lt_of_cell? w _ qV)).trans qV),((HB.out.cell (World.block_lt_of_cell? w _ pX)).trans pX),((HB.out.cell (World.block_lt_of_cell? w _ qI)).trans qI),((HB.out.cell (World.block_lt_of_cell? w _ pY)).trans pY),((HB.out.cell (World.block_lt_of_cell? w _ qM)).trans qM)⟩ (fun hHeld=>?_);clear hK K;refine aZ (a':=?_) ?_ ?_
                  rotate_left
                  ·show Act.put _ (some 68) _=_
                   simp only [Act.put,q1_,q2_,q3_,aG,aH];rfl
                  refine one_ (i:=13) (N:=none) #[true,true,true,true,true,true,true,true,true,true,true,true,true,true,false,false] rfl rfl (tA HT_.out (by kernel_rfl)) (by decide) (fun K hK=>?_);have aCI:nI.cell? ⟨bJ,3,none⟩=some (.slice none 0 0):=(aD bN.out 3).trans rfl;have aL3:=aT bN.out 3;refine lV (w1:=?_) (by rfl) rfl ?_ ?_
                  rotate_left;·go_simp;rfl
                  refine hK.out _ _ ⟨((cell_far (p:=⟨bJ,_,none⟩) (by first|exact Nat.ne_of_lt (Nat.lt_of_lt_of_le (by have:=World.block_lt_of_cell? _ _ pW;first|rwa [bT] at this|exact this) dV.out)|(rw [bT];exact Nat.ne_of_lt (Nat.lt_of_lt_of_le (by have:=World.block_lt_of_cell? _ _ pW;first|rwa [bT] at this|exact this) dV.out))|(show (Addr.add _ _).block≠_;rw [bT];exact Nat.ne_of_lt (Nat.lt_of_lt_of_le (by have:=World.block_lt_of_cell? _ _ pW;first|rwa [bT] at this|exact this) dV.out))|(dsimp only;exact Nat.ne_of_lt (Nat.lt_of_lt_of_le (by have:=World.block_lt_of_cell? _ _ pW;first|rwa [bT] at this|exact this) dV.out))) _).trans (hHeld.1)),((cell_far (p:=⟨bJ,_,none⟩) (by first|exact Nat.ne_of_lt (Nat.lt_of_lt_of_le (by have:=World.block_lt_of_cell? _ _ pT;first|rwa [bT] at this|exact this) dV.out)|(rw [bT];exact Nat.ne_of_lt (Nat.lt_of_lt_of_le (by have:=World.block_lt_of_cell? _ _ pT;first|rwa [bT] at this|exact this) dV.out))|(show (Addr.add _ _).block≠_;rw [bT];exact Nat.ne_of_lt (Nat.lt_of_lt_of_le (by have:=World.block_lt_of_cell? _ _ pT;first|rwa [bT] at this|exact this) dV.out))|(dsimp only;exact Nat.ne_of_lt (Nat.lt_of_lt_of_le (by have:=World.block_lt_of_cell? _ _ pT;first|rwa [bT] at this|exact this) dV.out))) _).trans (hHeld.2.1)),((cell_far (p:=⟨bJ,_,none⟩) (by first|exact Nat.ne_of_lt (Nat.lt_of_lt_of_le (by have:=World.block_lt_of_cell? _ _ qH;first|rwa [bT] at this|exact this) dV.out)|(rw [bT];exact Nat.ne_of_lt (Nat.lt_of_lt_of_le (by have:=World.block_lt_of_cell? _ _ qH;first|rwa [bT] at this|exact this) dV.out))|(show (Addr.add _ _).block≠_;rw [bT];exact Nat.ne_of_lt (Nat.lt_of_lt_of_le (by have:=World.block_lt_of_cell? _ _ qH;first|rwa [bT] at this|exact this) dV.out))|(dsimp only;exact Nat.ne_of_lt (Nat.lt_of_lt_of_le (by have:=World.block_lt_of_cell? _ _ qH;first|rwa [bT] at this|exact this) dV.out))) _).trans (hHeld.2.2.1)),((cell_far (p:=⟨bJ,_,none⟩) (by first|exact Nat.ne_of_lt (Nat.lt_of_lt_of_le (by have:=World.block_lt_of_cell? _ _ qV;first|rwa [bT] at this|exact this) dV.out)|(rw [bT];exact Nat.ne_of_lt (Nat.lt_of_lt_of_le (by have:=World.block_lt_of_cell? _ _ qV;first|rwa [bT] at this|exact this) dV.out))|(show (Addr.add _ _).block≠_;rw [bT];exact Nat.ne_of_lt (Nat.lt_of_lt_of_le (by have:=World.block_lt_of_cell? _ _ qV;first|rwa [bT] at this|exact this) dV.out))|(dsimp only;exact Nat.ne_of_lt (Nat.lt_of_lt_of_le (by have:=World.block_lt_of_cell? _ _ qV;first|rwa [bT] at this|exact this) dV.out))) _).trans (hHeld.2.2.2.1)),((cell_far (p:=⟨bJ,_,none⟩) (by first|exact Nat.ne_of_lt (Nat.lt_of_lt_of_le (by have:=World.block_lt_of_cell? _ _ pX;first|rwa [bT] at this|exact this) dV.out)|(rw [bT];exact Nat.ne_of_lt (Nat.lt_of_lt_of_le (by have:=World.block_lt_of_cell? _ _ pX;first|rwa [bT] at this|exact this) dV.out))|(show (Addr.add _ _).block≠_;rw [bT];exact Nat.ne_of_lt (Nat.lt_of_lt_of_le (by have:=World.block_lt_of_cell? _ _ pX;first|rwa [bT] at this|exact this) dV.out))|(dsimp only;exact Nat.ne_of_lt (Nat.lt_of_lt_of_le (by have:=World.block_lt_of_cell? _ _ pX;first|rwa [bT] at this|exact this) dV.out))) _).trans (hHeld.2.2.2.2.1)),((cell_far (p:=⟨bJ,_,none⟩) (by first|exact Nat.ne_of_lt (Nat.lt_of_lt_of_le (by have:=World.block_lt_of_cell? _ _ qI;first|rwa [bT] at this|exact this) dV.out)|(rw [bT];exact Nat.ne_of_lt (Nat.lt_of_lt_of_le (by have:=World.block_lt_of_cell? _ _ qI;first|rwa [bT] at this|exact this) dV.out))|(show (Addr.add _ _).block≠_;rw [bT];exact Nat.ne_of_lt (Nat.lt_of_lt_of_le (by have:=World.block_lt_of_cell? _ _ qI;first|rwa [bT] at this|exact this) dV.out))|(dsimp only;exact Nat.ne_of_lt (Nat.lt_of_lt_of_le (by have:=World.block_lt_of_cell? _ _ qI;first|rwa [bT] at this|exact this) dV.out))) _).trans (hHeld.2.2.2.2.2.1)),((cell_far (p:=⟨bJ,_,none⟩) (by first|exact Nat.ne_of_lt (Nat.lt_of_lt_of_le (by have:=World.block_lt_of_cell? _ _ pY;first|rwa [bT] at this|exact this) dV.out)|(rw [bT];exact Nat.ne_of_lt (Nat.lt_of_lt_of_le (by have:=World.block_lt_of_cell? _ _ pY;first|rwa [bT] at this|exact this) dV.out))|(show (Addr.add _ _).block≠_;rw [bT];exact Nat.ne_of_lt (Nat.lt_of_lt_of_le (by have:=World.block_lt_of_cell? _ _ pY;first|rwa [bT] at this|exact this) dV.out))|(dsimp only;exact Nat.ne_of_lt (Nat.lt_of_lt_of_le (by have:=World.block_lt_of_cell? _ _ pY;first|rwa [bT] at this|exact this) dV.out))) _).trans (hHeld.2.2.2.2.2.2.1)),((cell_far (p:=⟨bJ,_,none⟩) (by first|exact Nat.ne_of_lt (Nat.lt_of_lt_of_le (by have:=World.block_lt_of_cell? _ _ qM;first|rwa [bT] at this|exact this) dV.out)|(rw [bT];exact Nat.ne_of_lt (Nat.lt_of_lt_of_le (by have:=World.block_lt_of_cell? _ _ qM;first|rwa [bT] at this|exact this) dV.out))|(show (Addr.add _ _).block≠_;rw [bT];exact Nat.ne_of_lt (Nat.lt_of_lt_of_le (by have:=World.block_lt_of_cell? _ _ qM;first|rwa [bT] at this|exact this) dV.out))|(dsimp only;exact Nat.ne_of_lt (Nat.lt_of_lt_of_le (by have:=World.block_lt_of_cell? _ _ qM;first|rwa [bT] at this|exact this) dV.out))) _).trans (hHeld.2.2.2.2.2.2.2))⟩ (fun hHeld=>?_);clear hK K;refine bE (i:=14) (N:=some 70) (v:=?_) (a':=?_) #[true,true,true,true,true,true,true,true,true,true,true,true,true,true,true,false] rfl rfl (gE HT_.out (by kernel_rfl)) (fun _ _ _ h=>h) (Or.inl ⟨by rfl,?_⟩) ?_ ?_
                  rotate_left;·intro w';go_simp;with_reducible rfl
                  rotate_left;·simp only [Act.put,q1_,q2_,q3_,aG,aH];rfl
                  refine one_ (i:=15) (N:=none) #[true,true,true,true,true,true,true,true,true,true,true,true,true,true,true,true] rfl rfl (tA HT_.out (by kernel_rfl)) (by decide) (fun K hK=>?_);have aFT:nI.cell? ⟨bJ,4,none⟩=some (.slice none 0 0):=(aD bN.out 4).trans rfl;have aN4:=aT bN.out 4;refine lV (w1:=?_) (by rfl) rfl ?_ ?_
                  rotate_left;·go_simp;rfl
                  refine hK.out _ _ ⟨((cell_far (p:=⟨bJ,_,none⟩) (by first|exact Nat.ne_of_lt (Nat.lt_of_lt_of_le (by have:=World.block_lt_of_cell? _ _ pW;first|rwa [bT] at this|exact this) dV.out)|(rw [bT];exact Nat.ne_of_lt (Nat.lt_of_lt_of_le (by have:=World.block_lt_of_cell? _ _ pW;first|rwa [bT] at this|exact this) dV.out))|(show (Addr.add _ _).block≠_;rw [bT];exact Nat.ne_of_lt (Nat.lt_of_lt_of_le (by have:=World.block_lt_of_cell? _ _ pW;first|rwa [bT] at this|exact this) dV.out))|(dsimp only;exact Nat.ne_of_lt (Nat.lt_of_lt_of_le (by have:=World.block_lt_of_cell? _ _ pW;first|rwa [bT] at this|exact this) dV.out))) _).trans (hHeld.1)),((cell_far (p:=⟨bJ,_,none⟩) (by first|exact Nat.ne_of_lt (Nat.lt_of_lt_of_le (by have:=World.block_lt_of_cell? _ _ pT;first|rwa [bT] at this|exact this) dV.out)|(rw [bT];exact Nat.ne_of_lt (Nat.lt_of_lt_of_le (by have:=World.block_lt_of_cell? _ _ pT;first|rwa [bT] at this|exact this) dV.out))|(show (Addr.add _ _).block≠_;rw [bT];exact Nat.ne_of_lt (Nat.lt_of_lt_of_le (by have:=World.block_lt_of_cell? _ _ pT;first|rwa [bT] at this|exact this) dV.out))|(dsimp only;exact Nat.ne_of_lt (Nat.lt_of_lt_of_le (by have:=World.block_lt_of_cell? _ _ pT;first|rwa [bT] at this|exact this) dV.out))) _).trans (hHeld.2.1)),((cell_far (p:=⟨bJ,_,none⟩) (by first|exact Nat.ne_of_lt (Nat.lt_of_lt_of_le (by have:=World.block_lt_of_cell? _ _ qH;first|rwa [bT] at this|exact this) dV.out)|(rw [bT];exact Nat.ne_of_lt (Nat.lt_of_lt_of_le (by have:=World.block_lt_of_cell? _ _ qH;first|rwa [bT] at this|exact this) dV.out))|(show (Addr.add _ _).block≠_;rw [bT];exact Nat.ne_of_lt (Nat.lt_of_lt_of_le (by have:=World.block_lt_of_cell? _ _ qH;first|rwa [bT] at this|exact this) dV.out))|(dsimp only;exact Nat.ne_of_lt (Nat.lt_of_lt_of_le (by have:=World.block_lt_of_cell? _ _ qH;first|rwa [bT] at this|exact this) dV.out))) _).trans (hHeld.2.2.1)),((cell_far (p:=⟨bJ,_,none⟩) (by first|exact Nat.ne_of_lt (Nat.lt_of_lt_of_le (by have:=World.block_lt_of_cell? _ _ qV;first|rwa [bT] at this|exact this) dV.out)|(rw [bT];exact Nat.ne_of_lt (Nat.lt_of_lt_of_le (by have:=World.block_lt_of_cell? _ _ qV;first|rwa [bT] at this|exact this) dV.out))|(show (Addr.add _ _).block≠_;rw [bT];exact Nat.ne_of_lt (Nat.lt_of_lt_of_le (by have:=World.block_lt_of_cell? _ _ qV;first|rwa [bT] at this|exact this) dV.out))|(dsimp only;exact Nat.ne_of_lt (Nat.lt_of_lt_of_le (by have:=World.block_lt_of_cell? _ _ qV;first|rwa [bT] at this|exact this) dV.out))) _).trans (hHeld.2.2.2.1)),((cell_far (p:=⟨bJ,_,none⟩) (by first|exact Nat.ne_of_lt (Nat.lt_of_lt_of_le (by have:=World.block_lt_of_cell? _ _ pX;first|rwa [bT] at this|exact this) dV.out)|(rw [bT];exact Nat.ne_of_lt (Nat.lt_of_lt_of_le (by have:=World.block_lt_of_cell? _ _ pX;first|rwa [bT] at this|exact this) dV.out))|(show (Addr.add _ _).block≠_;rw [bT];exact Nat.ne_of_lt (Nat.lt_of_lt_of_le (by have:=World.block_lt_of_cell? _ _ pX;first|rwa [bT] at this|exact this) dV.out))|(dsimp only;exact Nat.ne_of_lt (Nat.lt_of_lt_of_le (by have:=World.block_lt_of_cell? _ _ pX;first|rwa [bT] at this|exact this) dV.out))) _).trans (hHeld.2.2.2.2.1)),((cell_far (p:=⟨bJ,_,none⟩) (by first|exact Nat.ne_of_lt (Nat.lt_of_lt_of_le (by have:=World.block_lt_of_cell? _ _ qI;first|rwa [bT] at this|exact this) dV.out)|(rw [bT];exact Nat.ne_of_lt (Nat.lt_of_lt_of_le (by have:=World.block_lt_of_cell? _ _ qI;first|rwa [bT] at this|exact this) dV.out))|(show (Addr.add _ _).block≠_;rw [bT];exact Nat.ne_of_lt (Nat.lt_of_lt_of_le (by have:=World.block_lt_of_cell? _ _ qI;first|rwa [bT] at this|exact this) dV.out))|(dsimp only;exact Nat.ne_of_lt (Nat.lt_of_lt_of_le (by have:=World.block_lt_of_cell? _ _ qI;first|rwa [bT] at this|exact this) dV.out))) _).trans (hHeld.2.2.2.2.2.1)),((cell_far (p:=⟨bJ,_,none⟩) (by first|exact Nat.ne_of_lt (Nat.lt_of_lt_of_le (by have:=World.block_lt_of_cell? _ _ pY;first|rwa [bT] at this|exact this) dV.out)|(rw [bT];exact Nat.ne_of_lt (Nat.lt_of_lt_of_le (by have:=World.block_lt_of_cell? _ _ pY;first|rwa [bT] at this|exact this) dV.out))|(show (Addr.add _ _).block≠_;rw [bT];exact Nat.ne_of_lt (Nat.lt_of_lt_of_le (by have:=World.block_lt_of_cell? _ _ pY;first|rwa [bT] at this|exact this) dV.out))|(dsimp only;exact Nat.ne_of_lt (Nat.lt_of_lt_of_le (by have:=World.block_lt_of_cell? _ _ pY;first|rwa [bT] at this|exact this) dV.out))) _).trans (hHeld.2.2.2.2.2.2.1)),((cell_far (p:=⟨bJ,_,none⟩) (by first|exact Nat.ne_of_lt (Nat.lt_of_lt_of_le (by have:=World.block_lt_of_cell? _ _ qM;first|rwa [bT] at this|exact this) dV.out)|(rw [bT];exact Nat.ne_of_lt (Nat.lt_of_lt_of_le (by have:=World.block_lt_of_cell? _ _ qM;first|rwa [bT] at this|exact this) dV.out))|(show (Addr.add _ _).block≠_;rw [bT];exact Nat.ne_of_lt (Nat.lt_of_lt_of_le (by have:=World.block_lt_of_cell? _ _ qM;first|rwa [bT] at this|exact this) dV.out))|(dsimp only;exact Nat.ne_of_lt (Nat.lt_of_lt_of_le (by have:=World.block_lt_of_cell? _ _ qM;first|rwa [bT] at this|exact this) dV.out))) _).trans (hHeld.2.2.2.2.2.2.2))⟩ (fun hHeld=>?_);clear hK K;refine mP (OU HT_.out (by kernel_rfl)) ?_
                  have aM:aC (Kd.R k86 86 ((nI.setCell ⟨bJ,3,none⟩ (.slice dL t248.length dM)).setCell ⟨bJ,4,none⟩ (.slice dY jK.length dZ)) w.heap.size (fun k_=>some k_≠(.slice dL t248.length dM:Value).ownBlock∧some k_≠(.slice dY jK.length dZ:Value).ownBlock∧k_≠bJ) u3 bI):=⟨by (with_reducible repeat (first|apply Kd.bC|apply Kd.bA|apply Kd.bB));exact Kd.bW (Kd.bH (p:=⟨bJ,4,none⟩) (Kd.bH (p:=⟨bJ,3,none⟩) (Kd.bW b9.out (fun k_ hk=>(⟨hk,hk.1.1⟩:_∧k_≠bJ))) (fun _ hk=>hk.2) (.slice dL t248.length dM)) (fun _ hk=>hk.2) (.slice dY jK.length dZ)) (fun _ hk=>⟨hk.1.1.2,⟨hk.1.2,hk.1.1.1⟩⟩)⟩;have aU:aC (Kd.R k86 86 ((nI.setCell ⟨bJ,3,none⟩ (.slice dL t248.length dM)).setCell ⟨bJ,4,none⟩ (.slice dY jK.length dZ)) w.heap.size (fun k_=>some k_≠(u3:Value).ownBlock∧some k_≠(.slice dY jK.length dZ:Value).ownBlock∧k_≠bJ) (.slice dL t248.length dM) t248):=⟨by (with_reducible repeat (first|apply Kd.bC|apply Kd.bA|apply Kd.bB));exact Kd.bW (Kd.bH (p:=⟨bJ,4,none⟩) (Kd.bH (p:=⟨bJ,3,none⟩) (Kd.bW vP.out (fun k_ hk=>(⟨hk,hk.1.2⟩:_∧k_≠bJ))) (fun _ hk=>hk.2) (.slice dL t248.length dM)) (fun _ hk=>hk.2) (.slice dY jK.length dZ)) (fun _ hk=>⟨hk.1.1.1.2,⟨hk.1.2,hk.1.1.2⟩⟩)⟩;have aX:aC (Kd.R k86 86 ((nI.setCell ⟨bJ,3,none⟩ (.slice dL t248.length dM)).setCell ⟨bJ,4,none⟩ (.slice dY jK.length dZ)) w.heap.size (fun k_=>some k_≠(u3:Value).ownBlock∧some k_≠(.slice dL t248.length dM:Value).ownBlock∧k_≠bJ) (.slice dY jK.length dZ) jK):=⟨by (with_reducible repeat (first|apply Kd.bC|apply Kd.bA|apply Kd.bB));exact Kd.bW (Kd.bH (p:=⟨bJ,4,none⟩) (Kd.bH (p:=⟨bJ,3,none⟩) (Kd.bW EZ.out (fun k_ hk=>(⟨hk,hk.2⟩:_∧k_≠bJ))) (fun _ hk=>hk.2) (.slice dL t248.length dM)) (fun _ hk=>hk.2) (.slice dY jK.length dZ)) (fun _ hk=>⟨hk.1.1.1.2,⟨hk.1.1.2,hk.1.2⟩⟩)⟩;have bD:aC (((nI.setCell ⟨bJ,3,none⟩ (.slice dL t248.length dM)).setCell ⟨bJ,4,none⟩ (.slice dY jK.length dZ)).heap[bJ]? =some (.cells #[.int .i64 (wrap64 (1+t220)),.int .i64 0,.string (⟨#[]⟩:ByteArray),.slice dL t248.length dM,.slice dY jK.length dZ] 86 (0,0))):=⟨by (with_reducible repeat (first|refine aW ?_ _|refine aV ?_|refine aQ ?_ _));refine bX (cs:=#[.int .i64 (wrap64 (1+t220)),.int .i64 0,.string (⟨#[]⟩:ByteArray),.slice dL t248.length dM,.slice none 0 0]) ?_ 4 _ rfl;(with_reducible repeat (first|refine aW ?_ _|refine aV ?_|refine aQ ?_ _));refine bX (cs:=#[.int .i64 (wrap64 (1+t220)),.int .i64 0,.string (⟨#[]⟩:ByteArray),.slice none 0 0,.slice none 0 0]) ?_ 3 _ rfl;(with_reducible repeat (first|refine aW ?_ _|refine aV ?_|refine aQ ?_ _));exact bN.out⟩;have bY:aC (Below w.heap.size w ((nI.setCell ⟨bJ,3,none⟩ (.slice dL t248.length dM)).setCell ⟨bJ,4,none⟩ (.slice dY jK.length dZ))):=⟨by repeat (first|(with_reducible first|exact HB.out|apply aI|apply aN|apply aJ|refine a8 ?_ gO.out)|exact HB.out)⟩;(try clear b9)
                  (try clear vP)
                  (try clear EZ)
                  (try clear bN)
                  (try clear HB)
                  generalize ((nI.setCell ⟨bJ,3,none⟩ (.slice dL t248.length dM)).setCell ⟨bJ,4,none⟩ (.slice dY jK.length dZ))=zX at aM aU aX bD bY ⊢;have b9:=aM;have vP:=aU;have EZ:=aX;have bN:=bD;have HB:=bY;clear aM aU aX bD bY;have aFN:zX.cell? ⟨bJ,0,none⟩=some (.int .i64 (wrap64 (1+t220))):=(aD bN.out 0).trans rfl;have aHL:zX.cell? ⟨bJ,1,none⟩=some (.int .i64 0):=(aD bN.out 1).trans rfl;have aIK:zX.cell? ⟨bJ,2,none⟩=some (.string (⟨#[]⟩:ByteArray)):=(aD bN.out 2).trans rfl;have aOO:zX.cell? ⟨bJ,3,none⟩=some (.slice dL t248.length dM):=(aD bN.out 3).trans rfl;have aCN:zX.cell? ⟨bJ,4,none⟩=some (.slice dY jK.length dZ):=(aD bN.out 4).trans rfl;have aLD:=aT bN.out 0;have aEH:=aT bN.out 1;have aDJ:=aT bN.out 2;have aI3:=aT bN.out 3;have aHA:=aT bN.out 4;try go_wp2_with (first|((with_reducible refine lB (b:=.append) (xs:=#[.tmp 80,.tmp 82]) rfl ?_);at_builtin;refine Kd.n9 k86 (w0:=w) w.heap.size rfl (.tmp 80) (.tmp 82) 44 86 (.agg #[(.int .i64 0),(.int .i64 0),(.string ⟨#[]⟩),(.slice none 0 0),(.slice none 0 0)]) 80 rfl Tryd.underlying44 info86 rfl (by decide) (by omega) u3 bI (⟨(wrap64 (1+t220)),0,(⟨#[]⟩:ByteArray),t248,jK⟩:S86) [.int .i64 (wrap64 (1+t220)),.int .i64 0,.string (⟨#[]⟩:ByteArray),.slice dL t248.length dM,.slice dY jK.length dZ] (fun k_=>k_≠bJ) (fun k_=>((fun k_=>k_≠bJ)) k_∧some k_≠(u3:Value).ownBlock) rfl rfl ?aP (fun _ hk=>hk) ?aF ?aO ?aB ?aS ?aL ?_;(case aP=>exact BS _ _ _ (⟨(wrap64 (1+t220)),0,(⟨#[]⟩:ByteArray),t248,jK⟩:S86) (Kd.bW (vP.out) (fun k_ hk=>⟨hk.2.2,hk.1⟩)) (Kd.bW (EZ.out) (fun k_ hk=>⟨hk.2.2,hk.1⟩)));(case aB=>exact (by repeat (first|(with_reducible first|exact HB.out|apply aI|apply aN|apply aJ|refine a8 ?_ gO.out)|exact HB.out)));(case aF=>exact (fun k_ hk=>Kd.freshB (g:=bJ) (o:=.cells #[.int .i64 (wrap64 (1+t220)),.int .i64 0,.string (⟨#[]⟩:ByteArray),.slice dL t248.length dM,.slice dY jK.length dZ] 86 (0,0)) (by (with_reducible repeat (first|refine aW ?_ _|refine aV ?_|refine aQ ?_ _));exact bN.out) k_ hk));(case aO=>exact (by (with_reducible repeat (first|apply Kd.bC|apply Kd.bA|apply Kd.bB));exact Kd.bW b9.out (fun _ hk=>hk.2.2)));(case aS=>exact (bZ (by repeat (first|(with_reducible first|exact HB.out|apply aI|apply aN|apply aJ|refine a8 ?_ gO.out)|exact HB.out))));(case aL=>have:=apZ.out;omega);intro aJ2 aiD ho hb hg hat;rw [← aAS.out] at ho;have aM:=aC.mk (iY (g:=bJ) (o:=.cells #[.int .i64 (wrap64 (1+t220)),.int .i64 0,.string (⟨#[]⟩:ByteArray),.slice dL t248.length dM,.slice dY jK.length dZ] 86 (0,0)) (by (with_reducible repeat (first|refine aW ?_ _|refine aV ?_|refine aQ ?_ _));exact bN.out) hg (Kd.EC b9.out (fun _ hk=>hk.2.2)));have aU:=aC.mk (hb);have aX:=aC.mk (ho);clear bN;clear HB;clear b9;clear vP;clear EZ;have bN:=aM;have HB:=aU;have apT:=aX;clear aM aU aX;clear ho hb hg hat))
                  go_roundg kE
                  case measure=>have:=dI.out;have:=mN.out;have:=pK.out;have:=tN.out;omega
                  case rel=>exact ⟨(aeW),(wrap64 (a7+1)),(by first|rfl|(simp;done)|(simp [*];done)),H',⟨by have:=dI.out;have:=mN.out;have:=pK.out;have:=tN.out;omega⟩,⟨by (with_reducible repeat (first|apply Kd.bC|apply Kd.bA|apply Kd.bB));exact Kd.bW apT.out (fun _ hk=>trivial)⟩,⟨by repeat (first|(with_reducible first|exact HB.out|apply aI|apply aN|apply aJ|refine a8 ?_ gO.out)|exact HB.out)⟩⟩
                 ·rw [if_neg N8] at H;exact absurd H (by simp)
                ·rw [if_neg PK] at H;exact absurd H (by simp)
               ·rw [if_neg OT] at H;exact absurd H (by simp)
              ·rw [if_neg AZ] at H;have WA:((wrap64 (1+t220))==7)=false:=beq_eq_false_iff_ne.mpr AZ;(try (have aoC:(((1+t220))==7)=false:=by have h_:=WA;rwa [show wrap64 (1+t220)=(1+t220) from by unfold wrap64;omega] at h_))
               have TZ:((wrap64 (1+t220)) !=7)=true:=bne_iff_ne.mpr AZ;(try (have aqI:(((1+t220)) !=7)=true:=by have h_:=TZ;rwa [show wrap64 (1+t220)=(1+t220) from by unfold wrap64;omega] at h_))
               by_cases zA:(wrap64 (1+t220))=8
               ·rw [if_pos zA] at H;have XQ:((wrap64 (1+t220))==8)=true:=beq_iff_eq.mpr zA;(try (have avD:(((1+t220))==8)=true:=by have h_:=XQ;rwa [show wrap64 (1+t220)=(1+t220) from by unfold wrap64;omega] at h_))
                have YT:((wrap64 (1+t220)) !=8)=false:=bne_eq_false_iff_eq.mpr zA;(try (have aqU:(((1+t220)) !=8)=false:=by have h_:=YT;rwa [show wrap64 (1+t220)=(1+t220) from by unfold wrap64;omega] at h_))
                clear zA;by_cases LJ:0≤a7
                ·rw [if_pos LJ] at H;have aL5:decide (0≤a7)=true:=decide_eq_true LJ;clear LJ;by_cases LM:a7<(l0.length:Int)
                 ·rw [if_pos LM] at H;have aBJ:decide (a7<(l0.length:Int))=true:=decide_eq_true LM;clear LM;replace H:=Option.bind_eq_some_iff.mp H;obtain ⟨mB,adK,H⟩:=H;replace H:(if bI.length<1759218604441 then (bP.l0 kE l0 (bI++ [(⟨(wrap64 (1+t220)),0,(⟨#[]⟩:ByteArray),mB,([]:List (S86))⟩:S86)]) (wrap64 (a7+1))) else (none))=some r:=H;have azB:=aC.mk adK;clear adK;by_cases OK:bI.length<1759218604441
                  ·rw [if_pos OK] at H;have atJ:=aC.mk OK;clear OK;obtain ⟨abJ,KO⟩: ∃ y_:List (S86),y_=(bI++ [(⟨(wrap64 (1+t220)),0,(⟨#[]⟩:ByteArray),mB,([]:List (S86))⟩:S86)]):=⟨_,rfl⟩;replace H:(bP.l0 kE l0 abJ (wrap64 (a7+1)))=some r:=by first|(rw [KO];with_reducible exact H)|(have cO:=(Option.bind_some _ _).symm.trans H;rw [KO];with_reducible exact cO)|(have cO:=(Option.bind_some _ _).symm.trans H;with_reducible exact cO)|with_reducible exact H|(rw [KO];exact H)|exact H
                   have apM:=aC.mk KO;clear KO;have H':=aC.mk H;clear H;have TG:0≤(a7:Int):=of_decide_eq_true (by assumption);have QR:a7<(l0.length:Int):=of_decide_eq_true (by assumption);obtain ⟨an0,ayV,awJ,aH9,aHC,ar4,XU,XS,TK,WL,aeZ,acW,ab6,aa9⟩:=BP fG.out a7 TG QR;obtain rfl:kI=an0:=(by injection ar4);replace XU:=(HB.out.cell (World.block_lt_of_cell? w _ XU)).trans XU;replace XS:=(HB.out.cell (World.block_lt_of_cell? w _ XS)).trans XS;replace TK:=(HB.out.cell (World.block_lt_of_cell? w _ TK)).trans TK;replace WL:=(HB.out.cell (World.block_lt_of_cell? w _ WL)).trans WL;have al6:=aC.mk acW;have ayB:=aC.mk aeZ;clear acW aeZ;have aD0:=aC.mk aa9;have aCG:=aC.mk ab6;clear aa9 ab6;replace TG:=eq_true TG;replace QR:=eq_true QR;go_wp2_with (first|((with_reducible refine eI (f:=29) rfl ?_);refine eJ (some 78) rfl rfl Tryd.func29 (by kernel_rfl) rfl #[.slice ayV ((dK l0 a7).f2).length awJ] rfl (by (try simp only [List.map_toArray,List.map_cons,List.map_nil]);first|done|rfl|(simp only [List.length_drop,List.length_take];rfl)) ?_;(with_reducible refine (ih kE (by have:=dI.out;have:=mN.out;have:=pK.out;have:=tN.out;omega) _ _ ((dK l0 a7).f2) mB _ ?cJ ?cK azB.out).mono ?_);(case cJ=>repeat (first|exact (Kd.cN al6.out HB.out)|(with_reducible refine Kd.eE ?_ _)|(with_reducible refine Kd.eG ?_ _)|(with_reducible refine Kd.eF ?_)));(case cK=>exact ayB.out);rintro e w64 ⟨aJX,rfl,cI,hb⟩;refine ⟨_,rfl,?_⟩;have aM:=aC.mk (Kd.r8 (by (with_reducible repeat (first|apply Kd.bC|apply Kd.bA|apply Kd.bB));exact b9.out) (Kd.gX cI) hb);have aU:=aC.mk (Kd.iW (Kd.VO (Kd.lX cI (Kd.R_lt (by (with_reducible repeat (first|apply Kd.bC|apply Kd.bA|apply Kd.bB));exact b9.out))) (g:=bJ) (o:=.cells #[.int .i64 (wrap64 (1+t220)),.int .i64 0,.string (⟨#[]⟩:ByteArray),.slice none 0 0,.slice none 0 0] 86 (0,0)) (by (with_reducible repeat (first|refine aW ?_ _|refine aV ?_|refine aQ ?_ _));exact bN.out)) (bZ (by repeat (first|(with_reducible first|exact HB.out|apply aI|apply aN|apply aJ|refine a8 ?_ gO.out)|exact HB.out))));have aX:=aC.mk (dB (g:=bJ) (o:=.cells #[.int .i64 (wrap64 (1+t220)),.int .i64 0,.string (⟨#[]⟩:ByteArray),.slice none 0 0,.slice none 0 0] 86 (0,0)) (by (with_reducible repeat (first|refine aW ?_ _|refine aV ?_|refine aQ ?_ _));exact bN.out) hb);have bD:=aC.mk (bQ (by repeat (first|(with_reducible first|exact HB.out|apply aI|apply aN|apply aJ|refine a8 ?_ gO.out)|exact HB.out)) hb);clear b9;clear bN;clear HB;have b9:=aM;have ER:=aU;have bN:=aX;have HB:=bD;clear aM aU aX bD;(try clear hb);(try clear bR);(try clear hk);(try clear hi);(try clear cI);obtain ⟨fX,fZ,R4⟩:=Kd.gI ER.out;subst R4;have aOG:w64.cell? ⟨bJ,0,none⟩=some (.int .i64 (wrap64 (1+t220))):=(aD bN.out 0).trans rfl;have aMM:w64.cell? ⟨bJ,1,none⟩=some (.int .i64 0):=(aD bN.out 1).trans rfl;have aH0:w64.cell? ⟨bJ,2,none⟩=some (.string (⟨#[]⟩:ByteArray)):=(aD bN.out 2).trans rfl;have aC8:w64.cell? ⟨bJ,3,none⟩=some (.slice none 0 0):=(aD bN.out 3).trans rfl;have aD9:w64.cell? ⟨bJ,4,none⟩=some (.slice none 0 0):=(aD bN.out 4).trans rfl;have aF5:=aT bN.out 0;have aMU:=aT bN.out 1;have aNN:=aT bN.out 2;have aPI:=aT bN.out 3;have aNR:=aT bN.out 4)|((with_reducible refine akJ (t:=44) (p:=79) rfl ?_);refine aaX (t:=44) (p:=79) (v:=?vo_w67) (w1:=(w64.setCell ⟨bJ,3,none⟩ (.slice fX mB.length fZ))) ?hg ?ho ?hn ?hr ?_;(case ho=>rfl);(case hg=>rfl);(case hn=>rfl);(case hr=>first|(go_simp;done)|(go_simp;rfl));intro wT hw;have aM:aC (Kd.R k86 86 wT w.heap.size (fun k_=>some k_≠(.slice fX mB.length fZ:Value).ownBlock∧k_≠bJ) u3 bI):=⟨(by rw [hw];exact (by (with_reducible repeat (first|apply Kd.bC|apply Kd.bA|apply Kd.bB));exact Kd.bW (Kd.bH (p:=⟨bJ,3,none⟩) (Kd.bW b9.out (fun k_ hk=>(⟨hk,hk.1⟩:_∧k_≠bJ))) (fun _ hk=>hk.2) (.slice fX mB.length fZ)) (fun _ hk=>⟨hk.1.2,hk.1.1⟩)))⟩;have aU:aC (Kd.R k86 86 wT w.heap.size (fun k_=>some k_≠(u3:Value).ownBlock∧k_≠bJ) (.slice fX mB.length fZ) mB):=⟨(by rw [hw];exact (by (with_reducible repeat (first|apply Kd.bC|apply Kd.bA|apply Kd.bB));exact Kd.bW (Kd.bH (p:=⟨bJ,3,none⟩) (Kd.bW ER.out (fun k_ hk=>(⟨hk,hk.2⟩:_∧k_≠bJ))) (fun _ hk=>hk.2) (.slice fX mB.length fZ)) (fun _ hk=>⟨hk.1.1.2,hk.1.2⟩)))⟩;have aX:aC (wT.heap[bJ]? =some (.cells #[.int .i64 (wrap64 (1+t220)),.int .i64 0,.string (⟨#[]⟩:ByteArray),.slice fX mB.length fZ,.slice none 0 0] 86 (0,0))):=⟨(by rw [hw];exact (by (with_reducible repeat (first|refine aW ?_ _|refine aV ?_|refine aQ ?_ _));refine bX (cs:=#[.int .i64 (wrap64 (1+t220)),.int .i64 0,.string (⟨#[]⟩:ByteArray),.slice none 0 0,.slice none 0 0]) ?_ 3 _ rfl;(with_reducible repeat (first|refine aW ?_ _|refine aV ?_|refine aQ ?_ _));exact bN.out))⟩;have bD:aC (Below w.heap.size w wT):=⟨(by rw [hw];exact (by repeat (first|(with_reducible first|exact HB.out|apply aI|apply aN|apply aJ|refine a8 ?_ gO.out)|exact HB.out)))⟩;clear hw;clear b9;clear ER;clear bN;clear HB;have b9:=aM;have ER:=aU;have bN:=aX;have HB:=bD;clear aM aU aX bD;have S4:wT.cell? ⟨bJ,0,none⟩=some (.int .i64 (wrap64 (1+t220))):=(aD bN.out 0).trans rfl;have WJ:wT.cell? ⟨bJ,1,none⟩=some (.int .i64 0):=(aD bN.out 1).trans rfl;have XL:wT.cell? ⟨bJ,2,none⟩=some (.string (⟨#[]⟩:ByteArray)):=(aD bN.out 2).trans rfl;have aBT:wT.cell? ⟨bJ,3,none⟩=some (.slice fX mB.length fZ):=(aD bN.out 3).trans rfl;have aCH:wT.cell? ⟨bJ,4,none⟩=some (.slice none 0 0):=(aD bN.out 4).trans rfl;have RY:=aT bN.out 0;have UX:=aT bN.out 1;have S1:=aT bN.out 2;have aPJ:=aT bN.out 3;have aGK:=aT bN.out 4)|((with_reducible refine lB (b:=.append) (xs:=#[.tmp 80,.tmp 82]) rfl ?_);at_builtin;refine Kd.n9 k86 (w0:=w) w.heap.size rfl (.tmp 80) (.tmp 82) 44 86 (.agg #[(.int .i64 0),(.int .i64 0),(.string ⟨#[]⟩),(.slice none 0 0),(.slice none 0 0)]) 80 rfl Tryd.underlying44 info86 rfl (by decide) (by omega) u3 bI (⟨(wrap64 (1+t220)),0,(⟨#[]⟩:ByteArray),mB,([]:List (S86))⟩:S86) [.int .i64 (wrap64 (1+t220)),.int .i64 0,.string (⟨#[]⟩:ByteArray),.slice fX mB.length fZ,.slice none 0 0] (fun k_=>k_≠bJ) (fun k_=>((fun k_=>k_≠bJ)) k_∧some k_≠(u3:Value).ownBlock) rfl rfl ?aP (fun _ hk=>hk) ?aF ?aO ?aB ?aS ?aL ?_;(case aP=>exact BS _ _ _ (⟨(wrap64 (1+t220)),0,(⟨#[]⟩:ByteArray),mB,([]:List (S86))⟩:S86) (Kd.bW (ER.out) (fun k_ hk=>⟨hk.2,hk.1⟩)) (Kd.jZ _ _ _ _ _));(case aB=>exact (by repeat (first|(with_reducible first|exact HB.out|apply aI|apply aN|apply aJ|refine a8 ?_ gO.out)|exact HB.out)));(case aF=>exact (fun k_ hk=>Kd.freshB (g:=bJ) (o:=.cells #[.int .i64 (wrap64 (1+t220)),.int .i64 0,.string (⟨#[]⟩:ByteArray),.slice fX mB.length fZ,.slice none 0 0] 86 (0,0)) (by (with_reducible repeat (first|refine aW ?_ _|refine aV ?_|refine aQ ?_ _));exact bN.out) k_ hk));(case aO=>exact (by (with_reducible repeat (first|apply Kd.bC|apply Kd.bA|apply Kd.bB));exact Kd.bW b9.out (fun _ hk=>hk.2)));(case aS=>exact (bZ (by repeat (first|(with_reducible first|exact HB.out|apply aI|apply aN|apply aJ|refine a8 ?_ gO.out)|exact HB.out))));(case aL=>have:=atJ.out;omega);intro aKZ aJ5 ho hb hg hat;rw [← apM.out] at ho;have aM:=aC.mk (iY (g:=bJ) (o:=.cells #[.int .i64 (wrap64 (1+t220)),.int .i64 0,.string (⟨#[]⟩:ByteArray),.slice fX mB.length fZ,.slice none 0 0] 86 (0,0)) (by (with_reducible repeat (first|refine aW ?_ _|refine aV ?_|refine aQ ?_ _));exact bN.out) hg (Kd.EC b9.out (fun _ hk=>hk.2)));have aU:=aC.mk (hb);have aX:=aC.mk (ho);clear bN;clear HB;clear b9;clear ER;have bN:=aM;have HB:=aU;have avE:=aX;clear aM aU aX;clear ho hb hg hat))
                   go_roundg kE
                   case measure=>have:=dI.out;have:=mN.out;have:=pK.out;have:=tN.out;omega
                   case rel=>exact ⟨(abJ),(wrap64 (a7+1)),(by first|rfl|(simp;done)|(simp [*];done)),H',⟨by have:=dI.out;have:=mN.out;have:=pK.out;have:=tN.out;omega⟩,⟨by (with_reducible repeat (first|apply Kd.bC|apply Kd.bA|apply Kd.bB));exact Kd.bW avE.out (fun _ hk=>trivial)⟩,⟨by repeat (first|(with_reducible first|exact HB.out|apply aI|apply aN|apply aJ|refine a8 ?_ gO.out)|exact HB.out)⟩⟩
                  ·rw [if_neg OK] at H;exact absurd H (by simp)
                 ·rw [if_neg LM] at H;exact absurd H (by simp)
                ·rw [if_neg LJ] at H;exact absurd H (by simp)
               ·rw [if_neg zA] at H;have XQ:((wrap64 (1+t220))==8)=false:=beq_eq_false_iff_ne.mpr zA;(try (have avD:(((1+t220))==8)=false:=by have h_:=XQ;rwa [show wrap64 (1+t220)=(1+t220) from by unfold wrap64;omega] at h_))
                have YT:((wrap64 (1+t220)) !=8)=true:=bne_iff_ne.mpr zA;(try (have aqU:(((1+t220)) !=8)=true:=by have h_:=YT;rwa [show wrap64 (1+t220)=(1+t220) from by unfold wrap64;omega] at h_))
                by_cases MT:bI.length<1759218604441
                ·rw [if_pos MT] at H;have auN:=aC.mk MT;clear MT;obtain ⟨ZX,KU⟩: ∃ y_:List (S86),y_=(bI++ [(⟨(wrap64 (1+t220)),0,(⟨#[]⟩:ByteArray),([]:List (S86)),([]:List (S86))⟩:S86)]):=⟨_,rfl⟩;replace H:(bP.l0 kE l0 ZX (wrap64 (a7+1)))=some r:=by first|(rw [KU];with_reducible exact H)|(have cO:=(Option.bind_some _ _).symm.trans H;rw [KU];with_reducible exact cO)|(have cO:=(Option.bind_some _ _).symm.trans H;with_reducible exact cO)|with_reducible exact H|(rw [KU];exact H)|exact H
                 have aqP:=aC.mk KU;clear KU;have H':=aC.mk H;clear H;have aIJ:wc.cell? ⟨bJ,0,none⟩=some (.int .i64 (wrap64 (1+t220))):=(aD bN.out 0).trans rfl;have aBF:wc.cell? ⟨bJ,1,none⟩=some (.int .i64 0):=(aD bN.out 1).trans rfl;have aI2:wc.cell? ⟨bJ,2,none⟩=some (.string (⟨#[]⟩:ByteArray)):=(aD bN.out 2).trans rfl;have aJJ:wc.cell? ⟨bJ,3,none⟩=some (.slice none 0 0):=(aD bN.out 3).trans rfl;have aN1:wc.cell? ⟨bJ,4,none⟩=some (.slice none 0 0):=(aD bN.out 4).trans rfl;have aFW:=aT bN.out 0;have aBE:=aT bN.out 1;have aB8:=aT bN.out 2;have aM5:=aT bN.out 3;have aI0:=aT bN.out 4;go_wp2_with (first|((with_reducible refine lB (b:=.append) (xs:=#[.tmp 80,.tmp 82]) rfl ?_);at_builtin;refine Kd.n9 k86 (w0:=w) w.heap.size rfl (.tmp 80) (.tmp 82) 44 86 (.agg #[(.int .i64 0),(.int .i64 0),(.string ⟨#[]⟩),(.slice none 0 0),(.slice none 0 0)]) 80 rfl Tryd.underlying44 info86 rfl (by decide) (by omega) u3 bI (⟨(wrap64 (1+t220)),0,(⟨#[]⟩:ByteArray),([]:List (S86)),([]:List (S86))⟩:S86) [.int .i64 (wrap64 (1+t220)),.int .i64 0,.string (⟨#[]⟩:ByteArray),.slice none 0 0,.slice none 0 0] (fun k_=>k_≠bJ) (fun k_=>((fun k_=>k_≠bJ)) k_∧some k_≠(u3:Value).ownBlock) rfl rfl ?aP (fun _ hk=>hk) ?aF ?aO ?aB ?aS ?aL ?_;(case aP=>exact BS _ _ _ (⟨(wrap64 (1+t220)),0,(⟨#[]⟩:ByteArray),([]:List (S86)),([]:List (S86))⟩:S86) (Kd.jZ _ _ _ _ _) (Kd.jZ _ _ _ _ _));(case aB=>exact (by repeat (first|(with_reducible first|exact HB.out|apply aI|apply aN|apply aJ|refine a8 ?_ gO.out)|exact HB.out)));(case aF=>exact (fun k_ hk=>Kd.freshB (g:=bJ) (o:=.cells #[.int .i64 (wrap64 (1+t220)),.int .i64 0,.string (⟨#[]⟩:ByteArray),.slice none 0 0,.slice none 0 0] 86 (0,0)) (by (with_reducible repeat (first|refine aW ?_ _|refine aV ?_|refine aQ ?_ _));exact bN.out) k_ hk));(case aO=>exact (by (with_reducible repeat (first|apply Kd.bC|apply Kd.bA|apply Kd.bB));exact b9.out));(case aS=>exact (bZ (by repeat (first|(with_reducible first|exact HB.out|apply aI|apply aN|apply aJ|refine a8 ?_ gO.out)|exact HB.out))));(case aL=>have:=auN.out;omega);intro aEC aCO ho hb hg hat;rw [← aqP.out] at ho;have aM:=aC.mk (iY (g:=bJ) (o:=.cells #[.int .i64 (wrap64 (1+t220)),.int .i64 0,.string (⟨#[]⟩:ByteArray),.slice none 0 0,.slice none 0 0] 86 (0,0)) (by (with_reducible repeat (first|refine aW ?_ _|refine aV ?_|refine aQ ?_ _));exact bN.out) hg (Kd.EC b9.out (fun _ hk=>hk)));have aU:=aC.mk (hb);have aX:=aC.mk (ho);clear bN;clear HB;clear b9;have bN:=aM;have HB:=aU;have asL:=aX;clear aM aU aX;clear ho hb hg hat))
                 go_roundg kE
                 case measure=>have:=dI.out;have:=mN.out;have:=pK.out;have:=tN.out;omega
                 case rel=>exact ⟨(ZX),(wrap64 (a7+1)),(by first|rfl|(simp;done)|(simp [*];done)),H',⟨by have:=dI.out;have:=mN.out;have:=pK.out;have:=tN.out;omega⟩,⟨by (with_reducible repeat (first|apply Kd.bC|apply Kd.bA|apply Kd.bB));exact Kd.bW asL.out (fun _ hk=>trivial)⟩,⟨by repeat (first|(with_reducible first|exact HB.out|apply aI|apply aN|apply aJ|refine a8 ?_ gO.out)|exact HB.out)⟩⟩
                ·rw [if_neg MT] at H;exact absurd H (by simp)
    ·rw [if_neg c3] at H;exact absurd H (by simp)
   ·rw [if_neg c2] at H;have lM:decide (a7<(l0.length:Int))=false:=decide_eq_false c2;clear c2;obtain rfl:=Option.some.inj H;go_wp2
    go_ret
    exact ⟨_,by first|rfl|(simp [fJ,fK]<;>rfl)|(simp [*,fJ,fK]<;>rfl),by (with_reducible repeat (first|apply Kd.bC|apply Kd.bA|apply Kd.bB));exact b9.out,by repeat (first|(with_reducible first|exact HB.out|apply aI|apply aN|apply aJ)|exact HB.out)⟩
end Go.Proofs.YtkmafndljelopaaDoor.Q
