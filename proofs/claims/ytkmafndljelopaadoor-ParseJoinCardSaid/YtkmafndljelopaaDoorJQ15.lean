/- A part of this claim. -/
import Derived.Test.YtkmafndljelopaaDoorJQ0
import Derived.Test.YtkmafndljelopaaDoorJQ2
import Derived.Test.YtkmafndljelopaaDoorJQ4
import Derived.Test.YtkmafndljelopaaDoorJQ6
import Derived.Test.YtkmafndljelopaaDoorJQ12
import Derived.Test.YtkmafndljelopaaDoorJJoin6
import Derived.Test.YtkmafndljelopaaDoorJPar3
import Derived.Test.YtkmafndljelopaaDoorJStm
import Derived.Test.YtkmafndljelopaaDoorJTree
namespace Go.Proofs.YtkmafndljelopaaDoor.Q
open Go.RowKit Go.Proofs.YtkmafndljelopaaDoorW.PrintWords Go.Proofs.YtkmafndljelopaaDoorW.PrintLast Go.Proofs.YtkmafndljelopaaDoorW.PrintMore
attribute [local go_sem] tS tT uD sZ tQ tC uX sO
set_option linter.unusedVariables false
set_option linter.unusedSimpArgs false
mutual
def dA.j0:Nat→List (S105)→List (S105)→List (S105)→Bool→Option (Bool)
 |0,_,_,_,_=>none
 |k+1,x0,x1,x2,aoS=>if aoS=true then (some true) else ((fR.f k x0 x1 ([]:List (S105)) ([]:List (S105)) 1).bind fun CM=>((dD.f k CM.1 CM.2.1 CM.2.2).bind fun fA=>((fR.f k x2 ([]:List (S105)) ([]:List (S105)) ([]:List (S105)) 0).bind fun pO=>((dD.f k pO.1 pO.2.1 pO.2.2).bind fun eV=>(if (wrap64 ((fA.size:Int)+(eV.size:Int)))>2000 then (some true) else ((gY.f fA).bind fun eD=>((gY.f eV).bind fun dJ=>(if fA.size+eV.size≤9223372036854775807 then ((gY.f (fA++eV)).bind fun cU=>(if eD.2.2.2.2=0 then (if dJ.2.2.2.2=0 then (dA.j1 k (cU.2.2.2.2 !=0) eD.1 eD.2.1 eD.2.2.1 dJ.1 dJ.2.1 dJ.2.2.1 cU.1 cU.2.1 cU.2.2.1) else (dA.j1 k true eD.1 eD.2.1 eD.2.2.1 dJ.1 dJ.2.1 dJ.2.2.1 cU.1 cU.2.1 cU.2.2.1)) else (dA.j1 k true eD.1 eD.2.1 eD.2.2.1 dJ.1 dJ.2.1 dJ.2.2.1 cU.1 cU.2.1 cU.2.2.1))) else (none)))))))))
def dA.j1:Nat→Bool→List (S59)→List (S59)→List (S46)→List (S59)→List (S59)→List (S46)→List (S59)→List (S59)→List (S46)→Option (Bool)
 |0,_,_,_,_,_,_,_,_,_,_=>none
 |k+1,alB,apN,ay8,az8,asD,ap6,aAF,as9,an6,alF=>if alB=true then (none) else ((joined6.f apN ay8 az8 asD ap6 aAF as9 an6 alF).bind fun JL=>(some JL))
end
def dA.f (k:Nat) (l0:List (S105)) (l1:List (S105)) (l2:List (S105)):Option (Bool):=(DO.f).bind fun DD=>(if DD=true then ((dX.f k l0).bind fun vW=>(if vW=true then ((dX.f k l1).bind fun qG=>(if qG=true then ((dX.f k l2).bind fun mV=>(dA.j0 k l0 l1 l2 (!mV))) else (dA.j0 k l0 l1 l2 true))) else (dA.j0 k l0 l1 l2 true))) else (none))
theorem dA.jT: ∀ k,(∀ y0 y1 y2 y3,LeO (dA.j0 k y0 y1 y2 y3) (dA.j0 (k+1) y0 y1 y2 y3))∧(∀ y0 y1 y2 y3 y4 y5 y6 y7 y8 y9,LeO (dA.j1 k y0 y1 y2 y3 y4 y5 y6 y7 y8 y9) (dA.j1 (k+1) y0 y1 y2 y3 y4 y5 y6 y7 y8 y9))
 |0=>⟨fun _ _ _ _ r h=>by simp [dA.j0] at h,fun _ _ _ _ _ _ _ _ _ _ r h=>by simp [dA.j1] at h⟩
 |k+1=>by
  obtain ⟨dU,fD⟩:=dA.jT k;refine ⟨?_,?_⟩
  ·intro y0 y1 y2 y3;unfold dA.j0
   repeat' first
   |(with_reducible exact dU _ _ _ _)
   |(with_reducible exact fD _ _ _ _ _ _ _ _ _ _)
   |(with_reducible exact dX.mono _ _)
   |(with_reducible exact fR.mono _ _ _ _ _ _)
   |(with_reducible exact dD.mono _ _ _ _)
   |(with_reducible exact LeO.refl _)
   |(with_reducible exact LeO.none _)
   |(with_reducible refine LeO.ite ?_ ?_)
   |(with_reducible refine LeO.bind ?_ (fun _=>?_))
   |exact dU _ _ _ _
   |exact fD _ _ _ _ _ _ _ _ _ _
   |exact dX.mono _ _
   |exact fR.mono _ _ _ _ _ _
   |exact dD.mono _ _ _ _
   |exact LeO.none _
   |refine LeO.ite ?_ ?_
   |refine LeO.bind ?_ (fun _=>?_)
  ·intro y0 y1 y2 y3 y4 y5 y6 y7 y8 y9;unfold dA.j1
   repeat' first
   |(with_reducible exact dU _ _ _ _)
   |(with_reducible exact fD _ _ _ _ _ _ _ _ _ _)
   |(with_reducible exact dX.mono _ _)
   |(with_reducible exact fR.mono _ _ _ _ _ _)
   |(with_reducible exact dD.mono _ _ _ _)
   |(with_reducible exact LeO.refl _)
   |(with_reducible exact LeO.none _)
   |(with_reducible refine LeO.ite ?_ ?_)
   |(with_reducible refine LeO.bind ?_ (fun _=>?_))
   |exact dU _ _ _ _
   |exact fD _ _ _ _ _ _ _ _ _ _
   |exact dX.mono _ _
   |exact fR.mono _ _ _ _ _ _
   |exact dD.mono _ _ _ _
   |exact LeO.none _
   |refine LeO.ite ?_ ?_
   |refine LeO.bind ?_ (fun _=>?_)
theorem dA.mono: ∀ a0 a1 a2 k,LeO (dA.f k a0 a1 a2) (dA.f (k+1) a0 a1 a2):=by
 intro a0 a1 a2 k;obtain ⟨dU,fD⟩:=dA.jT k;unfold dA.f
 repeat' first
   |(with_reducible exact dU _ _ _ _)
   |(with_reducible exact fD _ _ _ _ _ _ _ _ _ _)
   |(with_reducible exact dX.mono _ _)
   |(with_reducible exact fR.mono _ _ _ _ _ _)
   |(with_reducible exact dD.mono _ _ _ _)
   |(with_reducible exact LeO.refl _)
   |(with_reducible exact LeO.none _)
   |(with_reducible refine LeO.ite ?_ ?_)
   |(with_reducible refine LeO.bind ?_ (fun _=>?_))
   |exact dU _ _ _ _
   |exact fD _ _ _ _ _ _ _ _ _ _
   |exact dX.mono _ _
   |exact fR.mono _ _ _ _ _ _
   |exact dD.mono _ _ _ _
   |exact LeO.none _
   |refine LeO.ite ?_ ?_
   |refine LeO.bind ?_ (fun _=>?_)
set_option maxHeartbeats 8000000 in
set_option maxRecDepth 100000 in
theorem dA.calls (k:Nat) (A0:Option Addr) (c0:Nat) (l0:List (S105)) (A1:Option Addr) (c1:Nat) (l1:List (S105)) (A2:Option Addr) (c2:Nat) (l2:List (S105)) (r:Bool) (w:World) (eX:Kd.C k105 w A0 l0.length l0) (fC:l0.length≤c0) (jM:Kd.C k105 w A1 l1.length l1) (lK:l1.length≤c1) (yS:Kd.C k105 w A2 l2.length l2) (nW:l2.length≤c2) (h:dA.f k l0 l1 l2=some r) (hG:GL w):
  Calls Tryd.prog 9 #[.slice A0 l0.length c0,.slice A1 l1.length c1,.slice A2 l2.length c2] w fun e w'=>e= .returned (.bool r)∧Below w.heap.size w w':=by
 have HG:=aC.mk hG;clear hG;have wQ:=Tryd.underlying30;have fG:=aC.mk eX;have lO:=aC.mk fC;clear eX fC;have nX:=aC.mk jM;have pZ:=aC.mk lK;clear jM lK;have nF:=aC.mk yS;have uJ:=aC.mk nW;clear yS nW;have HB:=aC.mk (Below.refl w.heap.size w);have H:((DO.f).bind fun DD=>(if DD=true then ((dX.f k l0).bind fun vW=>(if vW=true then ((dX.f k l1).bind fun qG=>(if qG=true then ((dX.f k l2).bind fun mV=>(dA.j0 k l0 l1 l2 (!mV))) else (dA.j0 k l0 l1 l2 true))) else (dA.j0 k l0 l1 l2 true))) else (none)))=some r:=h;clear h;replace H:=Option.bind_eq_some_iff.mp H;obtain ⟨DD,tV,H⟩:=H;replace H:(if DD=true then ((dX.f k l0).bind fun vW=>(if vW=true then ((dX.f k l1).bind fun qG=>(if qG=true then ((dX.f k l2).bind fun mV=>(dA.j0 k l0 l1 l2 (!mV))) else (dA.j0 k l0 l1 l2 true))) else (dA.j0 k l0 l1 l2 true))) else (none))=some r:=H;have A4:=aC.mk tV;clear tV;by_cases c5:DD=true
 ·subst c5;have H1:((dX.f k l0).bind fun vW=>(if vW=true then ((dX.f k l1).bind fun qG=>(if qG=true then ((dX.f k l2).bind fun mV=>(dA.j0 k l0 l1 l2 (!mV))) else (dA.j0 k l0 l1 l2 true))) else (dA.j0 k l0 l1 l2 true)))=some r:=by rw [if_pos rfl] at H;exact H
  clear H;have H:=H1;clear H1;have W9:=aC.mk H;clear H;go_enter Tryd.func9,Tryd.ntmps9
  go_upto_region 3 with (first|((with_reducible refine eI (f:=11) rfl ?_);refine eJ (some 19) rfl rfl Tryd.func11 (by kernel_rfl) rfl #[] rfl (by (try simp only [List.map_toArray,List.map_cons,List.map_nil]);first|done|rfl|(simp only [List.length_drop,List.length_take];rfl)) ?_;(with_reducible refine (DO.calls true _ A4.out (by first|exact HG.out|exact GL.drewN HG.out _|exact GL.drewN (GL.drewN HG.out _) _|exact GL.fS HG.out (by repeat (first|(with_reducible first|exact HB.out|apply aI|apply aN|apply aJ|refine a8 ?_ lE.out|refine a8 ?_ qL.out|refine a8 ?_ BF.out)|exact HB.out)))).mono ?_);rintro e w7 ⟨rfl,hb⟩;refine ⟨_,rfl,?_⟩;have aM:=aC.mk (bQ (by repeat (first|(with_reducible first|exact HB.out|apply aI|apply aN|apply aJ)|exact HB.out)) hb);clear HB;have HB:=aM;clear aM;(try clear hb);(try clear bR);(try clear hk);(try clear hi)))
  (try simp only [Act.put,q1_,q2_,q3_])
  go_cut [33] (fun v33 wc=>∃ (kq:Nat) (OE:Bool),v33= .bool OE∧aC (dA.j0 kq l0 l1 l2 OE=some r)∧aC (kq≤k)∧aC (Below w.heap.size w wc))
  case first=>
   have H:=W9.out;clear W9;replace H:=Option.bind_eq_some_iff.mp H;obtain ⟨vW,H5,H⟩:=H;replace H:(if vW=true then ((dX.f k l1).bind fun qG=>(if qG=true then ((dX.f k l2).bind fun mV=>(dA.j0 k l0 l1 l2 (!mV))) else (dA.j0 k l0 l1 l2 true))) else (dA.j0 k l0 l1 l2 true))=some r:=H;have A8:=aC.mk H5;clear H5;by_cases c9:vW=true
   ·subst c9;have H1:((dX.f k l1).bind fun qG=>(if qG=true then ((dX.f k l2).bind fun mV=>(dA.j0 k l0 l1 l2 (!mV))) else (dA.j0 k l0 l1 l2 true)))=some r:=by rw [if_pos rfl] at H;exact H
    clear H;have H:=H1;clear H1;replace H:=Option.bind_eq_some_iff.mp H;obtain ⟨qG,tW,H⟩:=H;replace H:(if qG=true then ((dX.f k l2).bind fun mV=>(dA.j0 k l0 l1 l2 (!mV))) else (dA.j0 k l0 l1 l2 true))=some r:=H;have tR:=aC.mk tW;clear tW;by_cases iX:qG=true
    ·subst iX;have H1:((dX.f k l2).bind fun mV=>(dA.j0 k l0 l1 l2 (!mV)))=some r:=by rw [if_pos rfl] at H;exact H
     clear H;have H:=H1;clear H1;replace H:=Option.bind_eq_some_iff.mp H;obtain ⟨mV,afB,H⟩:=H;replace H:(dA.j0 k l0 l1 l2 (!mV))=some r:=H;have ayA:=aC.mk afB;clear afB;have H':=aC.mk H;clear H;go_wp2_with (first|((with_reducible refine eI (f:=12) rfl ?_);refine eJ (some 22) rfl rfl Tryd.func12 (by kernel_rfl) rfl #[.slice A0 l0.length c0] rfl (by (try simp only [List.map_toArray,List.map_cons,List.map_nil]);first|done|rfl|(simp only [List.length_drop,List.length_take];rfl)) ?_;(with_reducible refine (dX.calls k _ _ l0 true _ ?cJ ?cK A8.out).mono ?_);(case cJ=>repeat (first|exact (Kd.cN fG.out HB.out)|(with_reducible refine Kd.eE ?_ _)|(with_reducible refine Kd.eG ?_ _)|(with_reducible refine Kd.eF ?_)));(case cK=>exact lO.out);rintro e EV ⟨rfl,hb⟩;refine ⟨_,rfl,?_⟩;have aM:=aC.mk (bQ (by repeat (first|(with_reducible first|exact HB.out|apply aI|apply aN|apply aJ)|exact HB.out)) hb);clear HB;have HB:=aM;clear aM;(try clear hb);(try clear bR);(try clear hk);(try clear hi))|(go_at_call 12;(with_reducible refine (dX.calls k _ _ l1 true _ ?cJ ?cK tR.out).mono ?_);(case cJ=>repeat (first|exact (Kd.cN nX.out HB.out)|(with_reducible refine Kd.eE ?_ _)|(with_reducible refine Kd.eG ?_ _)|(with_reducible refine Kd.eF ?_)));(case cK=>exact pZ.out);rintro e pL ⟨rfl,hb⟩;have aM:=aC.mk (bQ (by repeat (first|(with_reducible first|exact HB.out|apply aI|apply aN|apply aJ)|exact HB.out)) hb);clear HB;have HB:=aM;clear aM;(try clear hb);(try clear bR);(try clear hk);(try clear hi))|(go_at_call 12;(with_reducible refine (dX.calls k _ _ l2 mV _ ?cJ ?cK ayA.out).mono ?_);(case cJ=>repeat (first|exact (Kd.cN nF.out HB.out)|(with_reducible refine Kd.eE ?_ _)|(with_reducible refine Kd.eG ?_ _)|(with_reducible refine Kd.eF ?_)));(case cK=>exact uJ.out);rintro e sH ⟨rfl,hb⟩;have aM:=aC.mk (bQ (by repeat (first|(with_reducible first|exact HB.out|apply aI|apply aN|apply aJ)|exact HB.out)) hb);clear HB;have HB:=aM;clear aM;(try clear hb);(try clear bR);(try clear hk);(try clear hi)))
     go_meet
     case rel=>exact ⟨_,(!mV),(by first|rfl|(simp;done)|(simp [*];done)),H',⟨by first|omega|exact Nat.le_refl _⟩,⟨by repeat (first|(with_reducible first|exact HB.out|apply aI|apply aN|apply aJ)|exact HB.out)⟩⟩
    ·replace iX:=Bool.eq_false_iff.mpr iX;subst iX;have H1:(dA.j0 k l0 l1 l2 true)=some r:=by rw [if_neg (show ¬ (false=true) by decide)] at H;exact H
     clear H;have H:=H1;clear H1;have H':=aC.mk H;clear H;go_wp2_with (first|((with_reducible refine eI (f:=12) rfl ?_);refine eJ (some 22) rfl rfl Tryd.func12 (by kernel_rfl) rfl #[.slice A0 l0.length c0] rfl (by (try simp only [List.map_toArray,List.map_cons,List.map_nil]);first|done|rfl|(simp only [List.length_drop,List.length_take];rfl)) ?_;(with_reducible refine (dX.calls k _ _ l0 true _ ?cJ ?cK A8.out).mono ?_);(case cJ=>repeat (first|exact (Kd.cN fG.out HB.out)|(with_reducible refine Kd.eE ?_ _)|(with_reducible refine Kd.eG ?_ _)|(with_reducible refine Kd.eF ?_)));(case cK=>exact lO.out);rintro e DL ⟨rfl,hb⟩;refine ⟨_,rfl,?_⟩;have aM:=aC.mk (bQ (by repeat (first|(with_reducible first|exact HB.out|apply aI|apply aN|apply aJ)|exact HB.out)) hb);clear HB;have HB:=aM;clear aM;(try clear hb);(try clear bR);(try clear hk);(try clear hi))|(go_at_call 12;(with_reducible refine (dX.calls k _ _ l1 false _ ?cJ ?cK tR.out).mono ?_);(case cJ=>repeat (first|exact (Kd.cN nX.out HB.out)|(with_reducible refine Kd.eE ?_ _)|(with_reducible refine Kd.eG ?_ _)|(with_reducible refine Kd.eF ?_)));(case cK=>exact pZ.out);rintro e Q3 ⟨rfl,hb⟩;have aM:=aC.mk (bQ (by repeat (first|(with_reducible first|exact HB.out|apply aI|apply aN|apply aJ)|exact HB.out)) hb);clear HB;have HB:=aM;clear aM;(try clear hb);(try clear bR);(try clear hk);(try clear hi)))
     go_meet
     case rel=>exact ⟨_,(true),(by first|rfl|(simp;done)|(simp [*];done)),H',⟨by first|omega|exact Nat.le_refl _⟩,⟨by repeat (first|(with_reducible first|exact HB.out|apply aI|apply aN|apply aJ)|exact HB.out)⟩⟩
   ·replace c9:=Bool.eq_false_iff.mpr c9;subst c9;have H1:(dA.j0 k l0 l1 l2 true)=some r:=by rw [if_neg (show ¬ (false=true) by decide)] at H;exact H
    clear H;have H:=H1;clear H1;have H':=aC.mk H;clear H;go_wp2_with (first|((with_reducible refine eI (f:=12) rfl ?_);refine eJ (some 22) rfl rfl Tryd.func12 (by kernel_rfl) rfl #[.slice A0 l0.length c0] rfl (by (try simp only [List.map_toArray,List.map_cons,List.map_nil]);first|done|rfl|(simp only [List.length_drop,List.length_take];rfl)) ?_;(with_reducible refine (dX.calls k _ _ l0 false _ ?cJ ?cK A8.out).mono ?_);(case cJ=>repeat (first|exact (Kd.cN fG.out HB.out)|(with_reducible refine Kd.eE ?_ _)|(with_reducible refine Kd.eG ?_ _)|(with_reducible refine Kd.eF ?_)));(case cK=>exact lO.out);rintro e NH ⟨rfl,hb⟩;refine ⟨_,rfl,?_⟩;have aM:=aC.mk (bQ (by repeat (first|(with_reducible first|exact HB.out|apply aI|apply aN|apply aJ)|exact HB.out)) hb);clear HB;have HB:=aM;clear aM;(try clear hb);(try clear bR);(try clear hk);(try clear hi)))
    go_meet
    case rel=>exact ⟨_,(true),(by first|rfl|(simp;done)|(simp [*];done)),H',⟨by first|omega|exact Nat.le_refl _⟩,⟨by repeat (first|(with_reducible first|exact HB.out|apply aI|apply aN|apply aJ)|exact HB.out)⟩⟩
  case rest=>
   clear W9;try clear c1
   try clear c2
   try clear p2
   try clear c5
   try clear c9
   try clear iX
   try clear mA
   obtain ⟨kq,OE,rfl,HA,VH,HB⟩:=hcut;cases kq with
   |zero=>exact absurd HA.out (by simp [dA.j0])
   |succ gJ=>
    have H:=HA.out;clear HA;simp only [dA.j0] at H;by_cases vF:OE=true
    ·subst vF;have H1:(some true)=some r:=by rw [if_pos rfl] at H;exact H
     clear H;have H:=H1;clear H1;obtain rfl:=Option.some.inj H;go_wp2
     go_ret
     exact ⟨by first|rfl|(simp [fJ,fK]<;>rfl)|(simp [*,fJ,fK]<;>rfl),by repeat (first|(with_reducible first|exact HB.out|apply aI|apply aN|apply aJ)|exact HB.out)⟩
    ·replace vF:=Bool.eq_false_iff.mpr vF;subst vF;have H1:((fR.f gJ l0 l1 ([]:List (S105)) ([]:List (S105)) 1).bind fun CM=>((dD.f gJ CM.1 CM.2.1 CM.2.2).bind fun fA=>((fR.f gJ l2 ([]:List (S105)) ([]:List (S105)) ([]:List (S105)) 0).bind fun pO=>((dD.f gJ pO.1 pO.2.1 pO.2.2).bind fun eV=>(if (wrap64 ((fA.size:Int)+(eV.size:Int)))>2000 then (some true) else ((gY.f fA).bind fun eD=>((gY.f eV).bind fun dJ=>(if fA.size+eV.size≤9223372036854775807 then ((gY.f (fA++eV)).bind fun cU=>(if eD.2.2.2.2=0 then (if dJ.2.2.2.2=0 then (dA.j1 gJ (cU.2.2.2.2 !=0) eD.1 eD.2.1 eD.2.2.1 dJ.1 dJ.2.1 dJ.2.2.1 cU.1 cU.2.1 cU.2.2.1) else (dA.j1 gJ true eD.1 eD.2.1 eD.2.2.1 dJ.1 dJ.2.1 dJ.2.2.1 cU.1 cU.2.1 cU.2.2.1)) else (dA.j1 gJ true eD.1 eD.2.1 eD.2.2.1 dJ.1 dJ.2.1 dJ.2.2.1 cU.1 cU.2.1 cU.2.2.1))) else (none)))))))))=some r:=by rw [if_neg (show ¬ (false=true) by decide)] at H;exact H
     clear H;have H:=H1;clear H1;replace H:=Option.bind_eq_some_iff.mp H;obtain ⟨⟨nD,nG,nC⟩,Z9,H⟩:=H;replace H:((dD.f gJ nD nG nC).bind fun fA=>((fR.f gJ l2 ([]:List (S105)) ([]:List (S105)) ([]:List (S105)) 0).bind fun pO=>((dD.f gJ pO.1 pO.2.1 pO.2.2).bind fun eV=>(if (wrap64 ((fA.size:Int)+(eV.size:Int)))>2000 then (some true) else ((gY.f fA).bind fun eD=>((gY.f eV).bind fun dJ=>(if fA.size+eV.size≤9223372036854775807 then ((gY.f (fA++eV)).bind fun cU=>(if eD.2.2.2.2=0 then (if dJ.2.2.2.2=0 then (dA.j1 gJ (cU.2.2.2.2 !=0) eD.1 eD.2.1 eD.2.2.1 dJ.1 dJ.2.1 dJ.2.2.1 cU.1 cU.2.1 cU.2.2.1) else (dA.j1 gJ true eD.1 eD.2.1 eD.2.2.1 dJ.1 dJ.2.1 dJ.2.2.1 cU.1 cU.2.1 cU.2.2.1)) else (dA.j1 gJ true eD.1 eD.2.1 eD.2.2.1 dJ.1 dJ.2.1 dJ.2.2.1 cU.1 cU.2.1 cU.2.2.1))) else (none))))))))=some r:=H;have lQ:=aC.mk Z9;clear Z9;replace H:=Option.bind_eq_some_iff.mp H;obtain ⟨fA,JC,H⟩:=H;replace H:((fR.f gJ l2 ([]:List (S105)) ([]:List (S105)) ([]:List (S105)) 0).bind fun pO=>((dD.f gJ pO.1 pO.2.1 pO.2.2).bind fun eV=>(if (wrap64 ((fA.size:Int)+(eV.size:Int)))>2000 then (some true) else ((gY.f fA).bind fun eD=>((gY.f eV).bind fun dJ=>(if fA.size+eV.size≤9223372036854775807 then ((gY.f (fA++eV)).bind fun cU=>(if eD.2.2.2.2=0 then (if dJ.2.2.2.2=0 then (dA.j1 gJ (cU.2.2.2.2 !=0) eD.1 eD.2.1 eD.2.2.1 dJ.1 dJ.2.1 dJ.2.2.1 cU.1 cU.2.1 cU.2.2.1) else (dA.j1 gJ true eD.1 eD.2.1 eD.2.2.1 dJ.1 dJ.2.1 dJ.2.2.1 cU.1 cU.2.1 cU.2.2.1)) else (dA.j1 gJ true eD.1 eD.2.1 eD.2.2.1 dJ.1 dJ.2.1 dJ.2.2.1 cU.1 cU.2.1 cU.2.2.1))) else (none)))))))=some r:=H;have JO:=aC.mk JC;clear JC;replace H:=Option.bind_eq_some_iff.mp H;obtain ⟨⟨oB,oE,oJ⟩,uI,H⟩:=H;replace H:((dD.f gJ oB oE oJ).bind fun eV=>(if (wrap64 ((fA.size:Int)+(eV.size:Int)))>2000 then (some true) else ((gY.f fA).bind fun eD=>((gY.f eV).bind fun dJ=>(if fA.size+eV.size≤9223372036854775807 then ((gY.f (fA++eV)).bind fun cU=>(if eD.2.2.2.2=0 then (if dJ.2.2.2.2=0 then (dA.j1 gJ (cU.2.2.2.2 !=0) eD.1 eD.2.1 eD.2.2.1 dJ.1 dJ.2.1 dJ.2.2.1 cU.1 cU.2.1 cU.2.2.1) else (dA.j1 gJ true eD.1 eD.2.1 eD.2.2.1 dJ.1 dJ.2.1 dJ.2.2.1 cU.1 cU.2.1 cU.2.2.1)) else (dA.j1 gJ true eD.1 eD.2.1 eD.2.2.1 dJ.1 dJ.2.1 dJ.2.2.1 cU.1 cU.2.1 cU.2.2.1))) else (none))))))=some r:=H;have zO:=aC.mk uI;clear uI;replace H:=Option.bind_eq_some_iff.mp H;obtain ⟨eV,ZP,H⟩:=H;replace H:(if (wrap64 ((fA.size:Int)+(eV.size:Int)))>2000 then (some true) else ((gY.f fA).bind fun eD=>((gY.f eV).bind fun dJ=>(if fA.size+eV.size≤9223372036854775807 then ((gY.f (fA++eV)).bind fun cU=>(if eD.2.2.2.2=0 then (if dJ.2.2.2.2=0 then (dA.j1 gJ (cU.2.2.2.2 !=0) eD.1 eD.2.1 eD.2.2.1 dJ.1 dJ.2.1 dJ.2.2.1 cU.1 cU.2.1 cU.2.2.1) else (dA.j1 gJ true eD.1 eD.2.1 eD.2.2.1 dJ.1 dJ.2.1 dJ.2.2.1 cU.1 cU.2.1 cU.2.2.1)) else (dA.j1 gJ true eD.1 eD.2.1 eD.2.2.1 dJ.1 dJ.2.1 dJ.2.2.1 cU.1 cU.2.1 cU.2.2.1))) else (none)))))=some r:=H;have ahW:=aC.mk ZP;clear ZP;by_cases jA:(wrap64 ((fA.size:Int)+(eV.size:Int)))>2000
     ·rw [if_pos jA] at H;have xK:decide (2000<(wrap64 ((fA.size:Int)+(eV.size:Int))))=true:=decide_eq_true jA;(try (have az4:decide (2000<(((fA.size:Int)+(eV.size:Int))))=true:=by have h_:=xK;rwa [show wrap64 ((fA.size:Int)+(eV.size:Int))=((fA.size:Int)+(eV.size:Int)) from by unfold wrap64;omega] at h_))
      clear jA;obtain rfl:=Option.some.inj H;go_wp2_with (first|((with_reducible refine eI (f:=14) rfl ?_);refine eJ (some 36) rfl rfl Tryd.func14 (by kernel_rfl) rfl #[.slice A0 l0.length c0,.slice A1 l1.length c1,.slice none 0 0,.slice none 0 0,.int .i64 1] rfl (by (try simp only [List.map_toArray,List.map_cons,List.map_nil]);first|done|rfl|(simp only [List.length_drop,List.length_take];rfl)) ?_;(refine (fR.calls gJ _ _ l0 _ _ l1 _ _ ([]:List (S105)) _ _ ([]:List (S105)) 1 nD nG nC _ ?cJ ?cK ?lN ?lS ?lI ?lL ?BQ ?CL lQ.out).mono ?_);(case cJ=>repeat (first|exact (Kd.cN fG.out HB.out)|(with_reducible refine Kd.eE ?_ _)|(with_reducible refine Kd.eG ?_ _)|(with_reducible refine Kd.eF ?_)));(case cK=>exact lO.out);(case lN=>repeat (first|exact (Kd.cN nX.out HB.out)|(with_reducible refine Kd.eE ?_ _)|(with_reducible refine Kd.eG ?_ _)|(with_reducible refine Kd.eF ?_)));(case lS=>exact pZ.out);(case lI=>exact Kd.uT _ _);(case lL=>exact Nat.le_refl _);(case BQ=>exact Kd.uT _ _);(case CL=>exact Nat.le_refl _);rintro e avR ⟨KP,JX,ayP,rfl,cI,hU,iB,hb⟩;refine ⟨_,rfl,?_⟩;have aM:=aC.mk (Kd.iW (Kd.bW (ok':=fun k_=>some k_≠(JX:Value).ownBlock) cI (fun _ hk_=>hk_.2)) (bZ (by repeat (first|(with_reducible first|exact HB.out|apply aI|apply aN|apply aJ)|exact HB.out))));have aU:=aC.mk (Kd.iW (Kd.bW (ok':=fun k_=>some k_≠(KP:Value).ownBlock) hU (fun _ hk_=>hk_.2)) (bZ (by repeat (first|(with_reducible first|exact HB.out|apply aI|apply aN|apply aJ)|exact HB.out))));have aX:=aC.mk (Kd.qO (Kd.dN (ok':=fun k_=>some k_≠(KP:Value).ownBlock∧some k_≠(JX:Value).ownBlock) iB (fun k_ hk_=>⟨hk_.2.1,hk_.2.2⟩)) (bZ (by repeat (first|(with_reducible first|exact HB.out|apply aI|apply aN|apply aJ)|exact HB.out))));have bD:=aC.mk (bQ (by repeat (first|(with_reducible first|exact HB.out|apply aI|apply aN|apply aJ)|exact HB.out)) hb);clear HB;have eR:=aM;have eP:=aU;have eZ:=aX;have HB:=bD;clear aM aU aX bD;(try clear hb);(try clear bR);(try clear hk);(try clear hi);(try clear cI);(try clear hU);(try clear iB);obtain ⟨ahP,ahU,as7⟩:=Kd.gI eR.out;subst as7;obtain ⟨uY,sD,TA⟩:=Kd.gI eP.out;subst TA;obtain ⟨sU,sL,JW⟩:=Kd.mU eZ.out;subst JW)|((with_reducible refine eI (f:=13) rfl ?_);refine eJ (some 37) rfl rfl Tryd.func13 (by kernel_rfl) rfl #[.agg #[.slice ahP nD.length ahU,.slice uY nG.length sD,.slice sU nC.length sL]] rfl (by (try simp only [List.map_toArray,List.map_cons,List.map_nil]);first|done|rfl|(simp only [List.length_drop,List.length_take];rfl)) ?_;(with_reducible refine (dD.calls gJ _ _ nD _ _ nG _ _ nC fA _ ?cJ ?cK ?lN ?lS ?lI ?lL JO.out).mono ?_);(case cJ=>repeat (first|exact (Kd.iU eR.out).2.2|(with_reducible refine Kd.eE ?_ _)|(with_reducible refine Kd.eG ?_ _)|(with_reducible refine Kd.eF ?_)));(case cK=>exact (Kd.iU eR.out).2.1);(case lN=>repeat (first|exact (Kd.iU eP.out).2.2|(with_reducible refine Kd.eE ?_ _)|(with_reducible refine Kd.eG ?_ _)|(with_reducible refine Kd.eF ?_)));(case lS=>exact (Kd.iU eP.out).2.1);(case lI=>repeat (first|exact (Kd.jE eZ.out).2.2|(with_reducible refine Kd.eE ?_ _)|(with_reducible refine Kd.eG ?_ _)|(with_reducible refine Kd.eF ?_)));(case lL=>exact (Kd.jE eZ.out).2.1);rintro e T3 ⟨rfl,hb⟩;refine ⟨_,rfl,?_⟩;have aM:=aC.mk (Kd.dC (by (with_reducible repeat (first|apply Kd.bC|apply Kd.bA|apply Kd.bB));exact eR.out) hb);have aU:=aC.mk (Kd.dC (by (with_reducible repeat (first|apply Kd.bC|apply Kd.bA|apply Kd.bB));exact eP.out) hb);have aX:=aC.mk (Kd.j4 (by (with_reducible repeat (first|apply Kd.dS|apply Kd.dR|apply Kd.dQ));exact eZ.out) hb);have bD:=aC.mk (bQ (by repeat (first|(with_reducible first|exact HB.out|apply aI|apply aN|apply aJ)|exact HB.out)) hb);clear eR;clear eP;clear eZ;clear HB;have eR:=aM;have eP:=aU;have eZ:=aX;have HB:=bD;clear aM aU aX bD;(try clear hb);(try clear bR);(try clear hk);(try clear hi))|((with_reducible refine eI (f:=14) rfl ?_);refine eJ (some 39) rfl rfl Tryd.func14 (by kernel_rfl) rfl #[.slice A2 l2.length c2,.slice none 0 0,.slice none 0 0,.slice none 0 0,.int .i64 0] rfl (by (try simp only [List.map_toArray,List.map_cons,List.map_nil]);first|done|rfl|(simp only [List.length_drop,List.length_take];rfl)) ?_;(refine (fR.calls gJ _ _ l2 _ _ ([]:List (S105)) _ _ ([]:List (S105)) _ _ ([]:List (S105)) 0 oB oE oJ _ ?cJ ?cK ?lN ?lS ?lI ?lL ?BQ ?CL zO.out).mono ?_);(case cJ=>repeat (first|exact (Kd.cN nF.out HB.out)|(with_reducible refine Kd.eE ?_ _)|(with_reducible refine Kd.eG ?_ _)|(with_reducible refine Kd.eF ?_)));(case cK=>exact uJ.out);(case lN=>exact Kd.uT _ _);(case lS=>exact Nat.le_refl _);(case lI=>exact Kd.uT _ _);(case lL=>exact Nat.le_refl _);(case BQ=>exact Kd.uT _ _);(case CL=>exact Nat.le_refl _);rintro e zF ⟨K4,IP,ar3,rfl,cI,hU,iB,hb⟩;refine ⟨_,rfl,?_⟩;have aM:=aC.mk (Kd.bW (Kd.yK (Kd.yK (Kd.PL (by (with_reducible repeat (first|apply Kd.bC|apply Kd.bA|apply Kd.bB));exact eR.out) hb) (Kd.gX cI)) (Kd.gX hU)) (fun _ h_=>h_.1));have aU:=aC.mk (Kd.bW (Kd.yK (Kd.yK (Kd.PL (by (with_reducible repeat (first|apply Kd.bC|apply Kd.bA|apply Kd.bB));exact eP.out) hb) (Kd.gX cI)) (Kd.gX hU)) (fun _ h_=>h_.1));have aX:=aC.mk (Kd.dN (Kd.D5 (Kd.D5 (Kd.D5 (Kd.akG (by (with_reducible repeat (first|apply Kd.dS|apply Kd.dR|apply Kd.dQ));exact eZ.out) hb) (Kd.gX cI)) (Kd.gX hU)) (Kd.aeD iB)) (fun _ h_=>h_.1));have bD:=aC.mk (Kd.iW (Kd.lX (Kd.lX (Kd.bW (ok':=fun k_=>some k_≠(IP:Value).ownBlock) cI (fun _ hk_=>hk_.2)) (Kd.R_lt (by (with_reducible repeat (first|apply Kd.bC|apply Kd.bA|apply Kd.bB));exact eR.out))) (Kd.R_lt (by (with_reducible repeat (first|apply Kd.bC|apply Kd.bA|apply Kd.bB));exact eP.out))) (bZ (by repeat (first|(with_reducible first|exact HB.out|apply aI|apply aN|apply aJ)|exact HB.out))));have bY:=aC.mk (Kd.iW (Kd.lX (Kd.lX (Kd.bW (ok':=fun k_=>some k_≠(K4:Value).ownBlock) hU (fun _ hk_=>hk_.2)) (Kd.R_lt (by (with_reducible repeat (first|apply Kd.bC|apply Kd.bA|apply Kd.bB));exact eR.out))) (Kd.R_lt (by (with_reducible repeat (first|apply Kd.bC|apply Kd.bA|apply Kd.bB));exact eP.out))) (bZ (by repeat (first|(with_reducible first|exact HB.out|apply aI|apply aN|apply aJ)|exact HB.out))));have cM:=aC.mk (Kd.qO (Kd.dN (ok':=fun k_=>some k_≠(K4:Value).ownBlock∧some k_≠(IP:Value).ownBlock∧some k_≠(.slice ahP nD.length ahU:Value).ownBlock∧some k_≠(.slice uY nG.length sD:Value).ownBlock∧some k_≠(.slice sU nC.length sL:Value).ownBlock) iB (fun k_ hk_=>⟨hk_.2.1,hk_.2.2,(Kd.fresh' (Kd.R_lt (by (with_reducible repeat (first|apply Kd.bC|apply Kd.bA|apply Kd.bB));exact eR.out)) k_ hk_.1),(Kd.fresh' (Kd.R_lt (by (with_reducible repeat (first|apply Kd.bC|apply Kd.bA|apply Kd.bB));exact eP.out)) k_ hk_.1),(Kd.fresh' (Kd.N_lt (by (with_reducible repeat (first|apply Kd.dS|apply Kd.dR|apply Kd.dQ));exact eZ.out)) k_ hk_.1)⟩)) (bZ (by repeat (first|(with_reducible first|exact HB.out|apply aI|apply aN|apply aJ)|exact HB.out))));have dH:=aC.mk (bQ (by repeat (first|(with_reducible first|exact HB.out|apply aI|apply aN|apply aJ)|exact HB.out)) hb);clear eR;clear eP;clear eZ;clear HB;have eR:=aM;have eP:=aU;have eZ:=aX;have gT:=bD;have gV:=bY;have gW:=cM;have HB:=dH;clear aM aU aX bD bY cM dH;(try clear hb);(try clear bR);(try clear hk);(try clear hi);(try clear cI);(try clear hU);(try clear iB);obtain ⟨aAK,ar5,auV⟩:=Kd.gI gT.out;subst auV;obtain ⟨ahZ,UQ,C9⟩:=Kd.gI gV.out;subst C9;obtain ⟨arS,anV,arL⟩:=Kd.mU gW.out;subst arL)|((with_reducible refine eI (f:=13) rfl ?_);refine eJ (some 40) rfl rfl Tryd.func13 (by kernel_rfl) rfl #[.agg #[.slice aAK oB.length ar5,.slice ahZ oE.length UQ,.slice arS oJ.length anV]] rfl (by (try simp only [List.map_toArray,List.map_cons,List.map_nil]);first|done|rfl|(simp only [List.length_drop,List.length_take];rfl)) ?_;(with_reducible refine (dD.calls gJ _ _ oB _ _ oE _ _ oJ eV _ ?cJ ?cK ?lN ?lS ?lI ?lL ahW.out).mono ?_);(case cJ=>repeat (first|exact (Kd.iU gT.out).2.2|(with_reducible refine Kd.eE ?_ _)|(with_reducible refine Kd.eG ?_ _)|(with_reducible refine Kd.eF ?_)));(case cK=>exact (Kd.iU gT.out).2.1);(case lN=>repeat (first|exact (Kd.iU gV.out).2.2|(with_reducible refine Kd.eE ?_ _)|(with_reducible refine Kd.eG ?_ _)|(with_reducible refine Kd.eF ?_)));(case lS=>exact (Kd.iU gV.out).2.1);(case lI=>repeat (first|exact (Kd.jE gW.out).2.2|(with_reducible refine Kd.eE ?_ _)|(with_reducible refine Kd.eG ?_ _)|(with_reducible refine Kd.eF ?_)));(case lL=>exact (Kd.jE gW.out).2.1);rintro e auW ⟨rfl,hb⟩;refine ⟨_,rfl,?_⟩;have aM:=aC.mk (Kd.dC (by (with_reducible repeat (first|apply Kd.bC|apply Kd.bA|apply Kd.bB));exact eR.out) hb);have aU:=aC.mk (Kd.dC (by (with_reducible repeat (first|apply Kd.bC|apply Kd.bA|apply Kd.bB));exact eP.out) hb);have aX:=aC.mk (Kd.j4 (by (with_reducible repeat (first|apply Kd.dS|apply Kd.dR|apply Kd.dQ));exact eZ.out) hb);have bD:=aC.mk (Kd.dC (by (with_reducible repeat (first|apply Kd.bC|apply Kd.bA|apply Kd.bB));exact gT.out) hb);have bY:=aC.mk (Kd.dC (by (with_reducible repeat (first|apply Kd.bC|apply Kd.bA|apply Kd.bB));exact gV.out) hb);have cM:=aC.mk (Kd.j4 (by (with_reducible repeat (first|apply Kd.dS|apply Kd.dR|apply Kd.dQ));exact gW.out) hb);have dH:=aC.mk (bQ (by repeat (first|(with_reducible first|exact HB.out|apply aI|apply aN|apply aJ)|exact HB.out)) hb);clear eR;clear eP;clear eZ;clear gT;clear gV;clear gW;clear HB;have eR:=aM;have eP:=aU;have eZ:=aX;have gT:=bD;have gV:=bY;have gW:=cM;have HB:=dH;clear aM aU aX bD bY cM dH;(try clear hb);(try clear bR);(try clear hk);(try clear hi)))
      go_ret
      exact ⟨by first|rfl|(simp [fJ,fK]<;>rfl)|(simp [*,fJ,fK]<;>rfl),by repeat (first|(with_reducible first|exact HB.out|apply aI|apply aN|apply aJ)|exact HB.out)⟩
     ·rw [if_neg jA] at H;have xK:decide (2000<(wrap64 ((fA.size:Int)+(eV.size:Int))))=false:=decide_eq_false jA;(try (have az4:decide (2000<(((fA.size:Int)+(eV.size:Int))))=false:=by have h_:=xK;rwa [show wrap64 ((fA.size:Int)+(eV.size:Int))=((fA.size:Int)+(eV.size:Int)) from by unfold wrap64;omega] at h_))
      clear jA;replace H:=Option.bind_eq_some_iff.mp H;obtain ⟨⟨cX,dO,eH,anW,xR⟩,ah7,H⟩:=H;replace H:((gY.f eV).bind fun dJ=>(if fA.size+eV.size≤9223372036854775807 then ((gY.f (fA++eV)).bind fun cU=>(if xR=0 then (if dJ.2.2.2.2=0 then (dA.j1 gJ (cU.2.2.2.2 !=0) cX dO eH dJ.1 dJ.2.1 dJ.2.2.1 cU.1 cU.2.1 cU.2.2.1) else (dA.j1 gJ true cX dO eH dJ.1 dJ.2.1 dJ.2.2.1 cU.1 cU.2.1 cU.2.2.1)) else (dA.j1 gJ true cX dO eH dJ.1 dJ.2.1 dJ.2.2.1 cU.1 cU.2.1 cU.2.2.1))) else (none)))=some r:=H;have axT:=aC.mk ah7;clear ah7;replace H:=Option.bind_eq_some_iff.mp H;obtain ⟨⟨eL,eT,e9,au6,yN⟩,aaI,H⟩:=H;replace H:(if fA.size+eV.size≤9223372036854775807 then ((gY.f (fA++eV)).bind fun cU=>(if xR=0 then (if yN=0 then (dA.j1 gJ (cU.2.2.2.2 !=0) cX dO eH eL eT e9 cU.1 cU.2.1 cU.2.2.1) else (dA.j1 gJ true cX dO eH eL eT e9 cU.1 cU.2.1 cU.2.2.1)) else (dA.j1 gJ true cX dO eH eL eT e9 cU.1 cU.2.1 cU.2.2.1))) else (none))=some r:=H;have alA:=aC.mk aaI;clear aaI;by_cases sX:fA.size+eV.size≤9223372036854775807
      ·rw [if_pos sX] at H;have auP:=eq_true sX;have avF:decide (fA.size+eV.size≤9223372036854775807)=true:=decide_eq_true sX;try have auY:(9223372036854775807<fA.size+eV.size)=False:=eq_false (Nat.not_lt.2 sX)
       replace H:=Option.bind_eq_some_iff.mp H;obtain ⟨⟨gB,gL,gZ,arK,SW⟩,aaE,H⟩:=H;replace H:(if xR=0 then (if yN=0 then (dA.j1 gJ (SW !=0) cX dO eH eL eT e9 gB gL gZ) else (dA.j1 gJ true cX dO eH eL eT e9 gB gL gZ)) else (dA.j1 gJ true cX dO eH eL eT e9 gB gL gZ))=some r:=H;have arC:=aC.mk aaE;clear aaE;have Y0:=aC.mk H;clear H;have aJY:decide (2000<(((fA.size:Int)+(eV.size:Int))))=false:=by have h_:=xK;rwa [show wrap64 ((fA.size:Int)+(eV.size:Int))=((fA.size:Int)+(eV.size:Int)) from by unfold wrap64;omega] at h_
       go_upto_region 11 with (first|((with_reducible refine eI (f:=14) rfl ?_);refine eJ (some 36) rfl rfl Tryd.func14 (by kernel_rfl) rfl #[.slice A0 l0.length c0,.slice A1 l1.length c1,.slice none 0 0,.slice none 0 0,.int .i64 1] rfl (by (try simp only [List.map_toArray,List.map_cons,List.map_nil]);first|done|rfl|(simp only [List.length_drop,List.length_take];rfl)) ?_;(refine (fR.calls gJ _ _ l0 _ _ l1 _ _ ([]:List (S105)) _ _ ([]:List (S105)) 1 nD nG nC _ ?cJ ?cK ?lN ?lS ?lI ?lL ?BQ ?CL lQ.out).mono ?_);(case cJ=>repeat (first|exact (Kd.cN fG.out HB.out)|(with_reducible refine Kd.eE ?_ _)|(with_reducible refine Kd.eG ?_ _)|(with_reducible refine Kd.eF ?_)));(case cK=>exact lO.out);(case lN=>repeat (first|exact (Kd.cN nX.out HB.out)|(with_reducible refine Kd.eE ?_ _)|(with_reducible refine Kd.eG ?_ _)|(with_reducible refine Kd.eF ?_)));(case lS=>exact pZ.out);(case lI=>exact Kd.uT _ _);(case lL=>exact Nat.le_refl _);(case BQ=>exact Kd.uT _ _);(case CL=>exact Nat.le_refl _);rintro e ahB ⟨KP,JX,ayP,rfl,cI,hU,iB,hb⟩;refine ⟨_,rfl,?_⟩;have aM:=aC.mk (Kd.iW (Kd.bW (ok':=fun k_=>some k_≠(JX:Value).ownBlock) cI (fun _ hk_=>hk_.2)) (bZ (by repeat (first|(with_reducible first|exact HB.out|apply aI|apply aN|apply aJ)|exact HB.out))));have aU:=aC.mk (Kd.iW (Kd.bW (ok':=fun k_=>some k_≠(KP:Value).ownBlock) hU (fun _ hk_=>hk_.2)) (bZ (by repeat (first|(with_reducible first|exact HB.out|apply aI|apply aN|apply aJ)|exact HB.out))));have aX:=aC.mk (Kd.qO (Kd.dN (ok':=fun k_=>some k_≠(KP:Value).ownBlock∧some k_≠(JX:Value).ownBlock) iB (fun k_ hk_=>⟨hk_.2.1,hk_.2.2⟩)) (bZ (by repeat (first|(with_reducible first|exact HB.out|apply aI|apply aN|apply aJ)|exact HB.out))));have bD:=aC.mk (bQ (by repeat (first|(with_reducible first|exact HB.out|apply aI|apply aN|apply aJ)|exact HB.out)) hb);clear HB;have eR:=aM;have eP:=aU;have eZ:=aX;have HB:=bD;clear aM aU aX bD;(try clear hb);(try clear bR);(try clear hk);(try clear hi);(try clear cI);(try clear hU);(try clear iB);obtain ⟨qN,qW,XX⟩:=Kd.gI eR.out;subst XX;obtain ⟨uK,tH,az3⟩:=Kd.gI eP.out;subst az3;obtain ⟨sW,uA,au7⟩:=Kd.mU eZ.out;subst au7)|((with_reducible refine eI (f:=13) rfl ?_);refine eJ (some 37) rfl rfl Tryd.func13 (by kernel_rfl) rfl #[.agg #[.slice qN nD.length qW,.slice uK nG.length tH,.slice sW nC.length uA]] rfl (by (try simp only [List.map_toArray,List.map_cons,List.map_nil]);first|done|rfl|(simp only [List.length_drop,List.length_take];rfl)) ?_;(with_reducible refine (dD.calls gJ _ _ nD _ _ nG _ _ nC fA _ ?cJ ?cK ?lN ?lS ?lI ?lL JO.out).mono ?_);(case cJ=>repeat (first|exact (Kd.iU eR.out).2.2|(with_reducible refine Kd.eE ?_ _)|(with_reducible refine Kd.eG ?_ _)|(with_reducible refine Kd.eF ?_)));(case cK=>exact (Kd.iU eR.out).2.1);(case lN=>repeat (first|exact (Kd.iU eP.out).2.2|(with_reducible refine Kd.eE ?_ _)|(with_reducible refine Kd.eG ?_ _)|(with_reducible refine Kd.eF ?_)));(case lS=>exact (Kd.iU eP.out).2.1);(case lI=>repeat (first|exact (Kd.jE eZ.out).2.2|(with_reducible refine Kd.eE ?_ _)|(with_reducible refine Kd.eG ?_ _)|(with_reducible refine Kd.eF ?_)));(case lL=>exact (Kd.jE eZ.out).2.1);rintro e FA ⟨rfl,hb⟩;refine ⟨_,rfl,?_⟩;have aM:=aC.mk (Kd.dC (by (with_reducible repeat (first|apply Kd.bC|apply Kd.bA|apply Kd.bB));exact eR.out) hb);have aU:=aC.mk (Kd.dC (by (with_reducible repeat (first|apply Kd.bC|apply Kd.bA|apply Kd.bB));exact eP.out) hb);have aX:=aC.mk (Kd.j4 (by (with_reducible repeat (first|apply Kd.dS|apply Kd.dR|apply Kd.dQ));exact eZ.out) hb);have bD:=aC.mk (bQ (by repeat (first|(with_reducible first|exact HB.out|apply aI|apply aN|apply aJ)|exact HB.out)) hb);clear eR;clear eP;clear eZ;clear HB;have eR:=aM;have eP:=aU;have eZ:=aX;have HB:=bD;clear aM aU aX bD;(try clear hb);(try clear bR);(try clear hk);(try clear hi))|((with_reducible refine eI (f:=14) rfl ?_);refine eJ (some 39) rfl rfl Tryd.func14 (by kernel_rfl) rfl #[.slice A2 l2.length c2,.slice none 0 0,.slice none 0 0,.slice none 0 0,.int .i64 0] rfl (by (try simp only [List.map_toArray,List.map_cons,List.map_nil]);first|done|rfl|(simp only [List.length_drop,List.length_take];rfl)) ?_;(refine (fR.calls gJ _ _ l2 _ _ ([]:List (S105)) _ _ ([]:List (S105)) _ _ ([]:List (S105)) 0 oB oE oJ _ ?cJ ?cK ?lN ?lS ?lI ?lL ?BQ ?CL zO.out).mono ?_);(case cJ=>repeat (first|exact (Kd.cN nF.out HB.out)|(with_reducible refine Kd.eE ?_ _)|(with_reducible refine Kd.eG ?_ _)|(with_reducible refine Kd.eF ?_)));(case cK=>exact uJ.out);(case lN=>exact Kd.uT _ _);(case lS=>exact Nat.le_refl _);(case lI=>exact Kd.uT _ _);(case lL=>exact Nat.le_refl _);(case BQ=>exact Kd.uT _ _);(case CL=>exact Nat.le_refl _);rintro e aID ⟨K4,IP,ar3,rfl,cI,hU,iB,hb⟩;refine ⟨_,rfl,?_⟩;have aM:=aC.mk (Kd.bW (Kd.yK (Kd.yK (Kd.PL (by (with_reducible repeat (first|apply Kd.bC|apply Kd.bA|apply Kd.bB));exact eR.out) hb) (Kd.gX cI)) (Kd.gX hU)) (fun _ h_=>h_.1));have aU:=aC.mk (Kd.bW (Kd.yK (Kd.yK (Kd.PL (by (with_reducible repeat (first|apply Kd.bC|apply Kd.bA|apply Kd.bB));exact eP.out) hb) (Kd.gX cI)) (Kd.gX hU)) (fun _ h_=>h_.1));have aX:=aC.mk (Kd.dN (Kd.D5 (Kd.D5 (Kd.D5 (Kd.akG (by (with_reducible repeat (first|apply Kd.dS|apply Kd.dR|apply Kd.dQ));exact eZ.out) hb) (Kd.gX cI)) (Kd.gX hU)) (Kd.aeD iB)) (fun _ h_=>h_.1));have bD:=aC.mk (Kd.iW (Kd.lX (Kd.lX (Kd.bW (ok':=fun k_=>some k_≠(IP:Value).ownBlock) cI (fun _ hk_=>hk_.2)) (Kd.R_lt (by (with_reducible repeat (first|apply Kd.bC|apply Kd.bA|apply Kd.bB));exact eR.out))) (Kd.R_lt (by (with_reducible repeat (first|apply Kd.bC|apply Kd.bA|apply Kd.bB));exact eP.out))) (bZ (by repeat (first|(with_reducible first|exact HB.out|apply aI|apply aN|apply aJ)|exact HB.out))));have bY:=aC.mk (Kd.iW (Kd.lX (Kd.lX (Kd.bW (ok':=fun k_=>some k_≠(K4:Value).ownBlock) hU (fun _ hk_=>hk_.2)) (Kd.R_lt (by (with_reducible repeat (first|apply Kd.bC|apply Kd.bA|apply Kd.bB));exact eR.out))) (Kd.R_lt (by (with_reducible repeat (first|apply Kd.bC|apply Kd.bA|apply Kd.bB));exact eP.out))) (bZ (by repeat (first|(with_reducible first|exact HB.out|apply aI|apply aN|apply aJ)|exact HB.out))));have cM:=aC.mk (Kd.qO (Kd.dN (ok':=fun k_=>some k_≠(K4:Value).ownBlock∧some k_≠(IP:Value).ownBlock∧some k_≠(.slice qN nD.length qW:Value).ownBlock∧some k_≠(.slice uK nG.length tH:Value).ownBlock∧some k_≠(.slice sW nC.length uA:Value).ownBlock) iB (fun k_ hk_=>⟨hk_.2.1,hk_.2.2,(Kd.fresh' (Kd.R_lt (by (with_reducible repeat (first|apply Kd.bC|apply Kd.bA|apply Kd.bB));exact eR.out)) k_ hk_.1),(Kd.fresh' (Kd.R_lt (by (with_reducible repeat (first|apply Kd.bC|apply Kd.bA|apply Kd.bB));exact eP.out)) k_ hk_.1),(Kd.fresh' (Kd.N_lt (by (with_reducible repeat (first|apply Kd.dS|apply Kd.dR|apply Kd.dQ));exact eZ.out)) k_ hk_.1)⟩)) (bZ (by repeat (first|(with_reducible first|exact HB.out|apply aI|apply aN|apply aJ)|exact HB.out))));have dH:=aC.mk (bQ (by repeat (first|(with_reducible first|exact HB.out|apply aI|apply aN|apply aJ)|exact HB.out)) hb);clear eR;clear eP;clear eZ;clear HB;have eR:=aM;have eP:=aU;have eZ:=aX;have gT:=bD;have gV:=bY;have gW:=cM;have HB:=dH;clear aM aU aX bD bY cM dH;(try clear hb);(try clear bR);(try clear hk);(try clear hi);(try clear cI);(try clear hU);(try clear iB);obtain ⟨vY,vG,au2⟩:=Kd.gI gT.out;subst au2;obtain ⟨vK,vQ,alO⟩:=Kd.gI gV.out;subst alO;obtain ⟨sK,rY,Q2⟩:=Kd.mU gW.out;subst Q2)|((with_reducible refine eI (f:=13) rfl ?_);refine eJ (some 40) rfl rfl Tryd.func13 (by kernel_rfl) rfl #[.agg #[.slice vY oB.length vG,.slice vK oE.length vQ,.slice sK oJ.length rY]] rfl (by (try simp only [List.map_toArray,List.map_cons,List.map_nil]);first|done|rfl|(simp only [List.length_drop,List.length_take];rfl)) ?_;(with_reducible refine (dD.calls gJ _ _ oB _ _ oE _ _ oJ eV _ ?cJ ?cK ?lN ?lS ?lI ?lL ahW.out).mono ?_);(case cJ=>repeat (first|exact (Kd.iU gT.out).2.2|(with_reducible refine Kd.eE ?_ _)|(with_reducible refine Kd.eG ?_ _)|(with_reducible refine Kd.eF ?_)));(case cK=>exact (Kd.iU gT.out).2.1);(case lN=>repeat (first|exact (Kd.iU gV.out).2.2|(with_reducible refine Kd.eE ?_ _)|(with_reducible refine Kd.eG ?_ _)|(with_reducible refine Kd.eF ?_)));(case lS=>exact (Kd.iU gV.out).2.1);(case lI=>repeat (first|exact (Kd.jE gW.out).2.2|(with_reducible refine Kd.eE ?_ _)|(with_reducible refine Kd.eG ?_ _)|(with_reducible refine Kd.eF ?_)));(case lL=>exact (Kd.jE gW.out).2.1);rintro e awM ⟨rfl,hb⟩;refine ⟨_,rfl,?_⟩;have aM:=aC.mk (Kd.dC (by (with_reducible repeat (first|apply Kd.bC|apply Kd.bA|apply Kd.bB));exact eR.out) hb);have aU:=aC.mk (Kd.dC (by (with_reducible repeat (first|apply Kd.bC|apply Kd.bA|apply Kd.bB));exact eP.out) hb);have aX:=aC.mk (Kd.j4 (by (with_reducible repeat (first|apply Kd.dS|apply Kd.dR|apply Kd.dQ));exact eZ.out) hb);have bD:=aC.mk (Kd.dC (by (with_reducible repeat (first|apply Kd.bC|apply Kd.bA|apply Kd.bB));exact gT.out) hb);have bY:=aC.mk (Kd.dC (by (with_reducible repeat (first|apply Kd.bC|apply Kd.bA|apply Kd.bB));exact gV.out) hb);have cM:=aC.mk (Kd.j4 (by (with_reducible repeat (first|apply Kd.dS|apply Kd.dR|apply Kd.dQ));exact gW.out) hb);have dH:=aC.mk (bQ (by repeat (first|(with_reducible first|exact HB.out|apply aI|apply aN|apply aJ)|exact HB.out)) hb);clear eR;clear eP;clear eZ;clear gT;clear gV;clear gW;clear HB;have eR:=aM;have eP:=aU;have eZ:=aX;have gT:=bD;have gV:=bY;have gW:=cM;have HB:=dH;clear aM aU aX bD bY cM dH;(try clear hb);(try clear bR);(try clear hk);(try clear hi))|((with_reducible refine eI (f:=17) rfl ?_);refine eJ (some 49) rfl rfl Tryd.func17 (by kernel_rfl) rfl #[.string fA] rfl (by (try simp only [List.map_toArray,List.map_cons,List.map_nil]);first|done|rfl|(simp only [List.length_drop,List.length_take];rfl)) ?_;(with_reducible refine (gY.calls fA cX dO eH anW xR _ axT.out (by first|exact HG.out|exact GL.drewN HG.out _|exact GL.drewN (GL.drewN HG.out _) _|exact GL.fS HG.out (by repeat (first|(with_reducible first|exact HB.out|apply aI|apply aN|apply aJ|refine a8 ?_ lE.out|refine a8 ?_ qL.out|refine a8 ?_ BF.out)|exact HB.out)))).mono ?_);rintro e qA ⟨aN6,aNP,aM0,rfl,cI,hU,iB,hb⟩;refine ⟨_,rfl,?_⟩;have aM:=aC.mk (Kd.dC (by (with_reducible repeat (first|apply Kd.bC|apply Kd.bA|apply Kd.bB));exact eR.out) hb);have aU:=aC.mk (Kd.dC (by (with_reducible repeat (first|apply Kd.bC|apply Kd.bA|apply Kd.bB));exact eP.out) hb);have aX:=aC.mk (Kd.j4 (by (with_reducible repeat (first|apply Kd.dS|apply Kd.dR|apply Kd.dQ));exact eZ.out) hb);have bD:=aC.mk (Kd.dC (by (with_reducible repeat (first|apply Kd.bC|apply Kd.bA|apply Kd.bB));exact gT.out) hb);have bY:=aC.mk (Kd.dC (by (with_reducible repeat (first|apply Kd.bC|apply Kd.bA|apply Kd.bB));exact gV.out) hb);have cM:=aC.mk (Kd.j4 (by (with_reducible repeat (first|apply Kd.dS|apply Kd.dR|apply Kd.dQ));exact gW.out) hb);have dH:=aC.mk (Kd.lH (Kd.b5 (ok':=fun k_=>some k_≠(.slice qN nD.length qW:Value).ownBlock∧some k_≠(.slice uK nG.length tH:Value).ownBlock∧some k_≠(.slice sW nC.length uA:Value).ownBlock∧some k_≠(.slice vY oB.length vG:Value).ownBlock∧some k_≠(.slice vK oE.length vQ:Value).ownBlock∧some k_≠(.slice sK oJ.length rY:Value).ownBlock) cI (fun k_ hk_=>⟨(Kd.fresh' (Kd.R_lt (by (with_reducible repeat (first|apply Kd.bC|apply Kd.bA|apply Kd.bB));exact eR.out)) k_ hk_),(Kd.fresh' (Kd.R_lt (by (with_reducible repeat (first|apply Kd.bC|apply Kd.bA|apply Kd.bB));exact eP.out)) k_ hk_),(Kd.fresh' (Kd.N_lt (by (with_reducible repeat (first|apply Kd.dS|apply Kd.dR|apply Kd.dQ));exact eZ.out)) k_ hk_),(Kd.fresh' (Kd.R_lt (by (with_reducible repeat (first|apply Kd.bC|apply Kd.bA|apply Kd.bB));exact gT.out)) k_ hk_),(Kd.fresh' (Kd.R_lt (by (with_reducible repeat (first|apply Kd.bC|apply Kd.bA|apply Kd.bB));exact gV.out)) k_ hk_),(Kd.fresh' (Kd.N_lt (by (with_reducible repeat (first|apply Kd.dS|apply Kd.dR|apply Kd.dQ));exact gW.out)) k_ hk_)⟩)) (bZ (by repeat (first|(with_reducible first|exact HB.out|apply aI|apply aN|apply aJ)|exact HB.out))));have gG:=aC.mk (Kd.lH (Kd.b5 (ok':=fun k_=>some k_≠(.slice qN nD.length qW:Value).ownBlock∧some k_≠(.slice uK nG.length tH:Value).ownBlock∧some k_≠(.slice sW nC.length uA:Value).ownBlock∧some k_≠(.slice vY oB.length vG:Value).ownBlock∧some k_≠(.slice vK oE.length vQ:Value).ownBlock∧some k_≠(.slice sK oJ.length rY:Value).ownBlock) hU (fun k_ hk_=>⟨(Kd.fresh' (Kd.R_lt (by (with_reducible repeat (first|apply Kd.bC|apply Kd.bA|apply Kd.bB));exact eR.out)) k_ hk_),(Kd.fresh' (Kd.R_lt (by (with_reducible repeat (first|apply Kd.bC|apply Kd.bA|apply Kd.bB));exact eP.out)) k_ hk_),(Kd.fresh' (Kd.N_lt (by (with_reducible repeat (first|apply Kd.dS|apply Kd.dR|apply Kd.dQ));exact eZ.out)) k_ hk_),(Kd.fresh' (Kd.R_lt (by (with_reducible repeat (first|apply Kd.bC|apply Kd.bA|apply Kd.bB));exact gT.out)) k_ hk_),(Kd.fresh' (Kd.R_lt (by (with_reducible repeat (first|apply Kd.bC|apply Kd.bA|apply Kd.bB));exact gV.out)) k_ hk_),(Kd.fresh' (Kd.N_lt (by (with_reducible repeat (first|apply Kd.dS|apply Kd.dR|apply Kd.dQ));exact gW.out)) k_ hk_)⟩)) (bZ (by repeat (first|(with_reducible first|exact HB.out|apply aI|apply aN|apply aJ)|exact HB.out))));have jV:=aC.mk (Kd.lH (Kd.b5 (ok':=fun k_=>some k_≠(.slice qN nD.length qW:Value).ownBlock∧some k_≠(.slice uK nG.length tH:Value).ownBlock∧some k_≠(.slice sW nC.length uA:Value).ownBlock∧some k_≠(.slice vY oB.length vG:Value).ownBlock∧some k_≠(.slice vK oE.length vQ:Value).ownBlock∧some k_≠(.slice sK oJ.length rY:Value).ownBlock) iB (fun k_ hk_=>⟨(Kd.fresh' (Kd.R_lt (by (with_reducible repeat (first|apply Kd.bC|apply Kd.bA|apply Kd.bB));exact eR.out)) k_ hk_),(Kd.fresh' (Kd.R_lt (by (with_reducible repeat (first|apply Kd.bC|apply Kd.bA|apply Kd.bB));exact eP.out)) k_ hk_),(Kd.fresh' (Kd.N_lt (by (with_reducible repeat (first|apply Kd.dS|apply Kd.dR|apply Kd.dQ));exact eZ.out)) k_ hk_),(Kd.fresh' (Kd.R_lt (by (with_reducible repeat (first|apply Kd.bC|apply Kd.bA|apply Kd.bB));exact gT.out)) k_ hk_),(Kd.fresh' (Kd.R_lt (by (with_reducible repeat (first|apply Kd.bC|apply Kd.bA|apply Kd.bB));exact gV.out)) k_ hk_),(Kd.fresh' (Kd.N_lt (by (with_reducible repeat (first|apply Kd.dS|apply Kd.dR|apply Kd.dQ));exact gW.out)) k_ hk_)⟩)) (bZ (by repeat (first|(with_reducible first|exact HB.out|apply aI|apply aN|apply aJ)|exact HB.out))));have nT:=aC.mk (bQ (by repeat (first|(with_reducible first|exact HB.out|apply aI|apply aN|apply aJ)|exact HB.out)) hb);clear eR;clear eP;clear eZ;clear gT;clear gV;clear gW;clear HB;have eR:=aM;have eP:=aU;have eZ:=aX;have gT:=bD;have gV:=bY;have gW:=cM;have mR:=dH;have mG:=gG;have mY:=jV;have HB:=nT;clear aM aU aX bD bY cM dH gG jV nT;(try clear hb);(try clear bR);(try clear hk);(try clear hi);(try clear cI);(try clear hU);(try clear iB))|((with_reducible refine iJ (N:=9) rfl ?_);refine lF ?hg (N:=9) ?hd (cs:=#[.slice none 0 0,.slice none 0 0,.slice none 0 0]) (t:=30) ?hr ?_;(case hd=>rfl);(case hg=>rfl);(case hr=>first|(go_simp;done)|(go_simp;rfl));intro bS hg nI hbox hb;have aM:=aC.mk (Kd.dC (by (with_reducible repeat (first|apply Kd.bC|apply Kd.bA|apply Kd.bB));exact eR.out) hb);have aU:=aC.mk (Kd.dC (by (with_reducible repeat (first|apply Kd.bC|apply Kd.bA|apply Kd.bB));exact eP.out) hb);have aX:=aC.mk (Kd.j4 (Kd.EU (by (with_reducible repeat (first|apply Kd.dS|apply Kd.dR|apply Kd.dQ));exact eZ.out) bS (Nat.le_of_eq hg.symm)) hb);have bD:=aC.mk (Kd.dC (by (with_reducible repeat (first|apply Kd.bC|apply Kd.bA|apply Kd.bB));exact gT.out) hb);have bY:=aC.mk (Kd.dC (by (with_reducible repeat (first|apply Kd.bC|apply Kd.bA|apply Kd.bB));exact gV.out) hb);have cM:=aC.mk (Kd.j4 (Kd.EU (by (with_reducible repeat (first|apply Kd.dS|apply Kd.dR|apply Kd.dQ));exact gW.out) bS (Nat.le_of_eq hg.symm)) hb);have dH:=aC.mk (Kd.fV (Kd.jB (by (with_reducible repeat (first|apply Kd.cQ|apply Kd.cT|apply Kd.cS));exact mR.out) bS (Nat.le_of_eq hg.symm)) hb);have gG:=aC.mk (Kd.fV (Kd.jB (by (with_reducible repeat (first|apply Kd.cQ|apply Kd.cT|apply Kd.cS));exact mG.out) bS (Nat.le_of_eq hg.symm)) hb);have jV:=aC.mk (Kd.fV (Kd.jB (by (with_reducible repeat (first|apply Kd.cQ|apply Kd.cT|apply Kd.cS));exact mY.out) bS (Nat.le_of_eq hg.symm)) hb);have nT:=aC.mk (bQ (by repeat (first|(with_reducible first|exact HB.out|apply aI|apply aN|apply aJ)|exact HB.out)) hb);have qB:=aC.mk (hbox);have qF:=aC.mk ((by rw [hg];exact (bZ (by repeat (first|(with_reducible first|exact HB.out|apply aI|apply aN|apply aJ)|exact HB.out))):w.heap.size≤bS));have p9:=aC.mk ((by rw [hg];exact (bZ (by repeat (first|(with_reducible first|exact HB.out|apply aI|apply aN|apply aJ)|exact HB.out))):w.heap.size≤bS));clear eR;clear eP;clear eZ;clear gT;clear gV;clear gW;clear mR;clear mG;clear mY;clear HB;have eR:=aM;have eP:=aU;have eZ:=aX;have gT:=bD;have gV:=bY;have gW:=cM;have mR:=dH;have mG:=gG;have mY:=jV;have HB:=nT;have eW:=qB;have aBK:=qF;have lE:=p9;clear aM aU aX bD bY cM dH gG jV nT qB qF p9;clear hb hbox hg;obtain ⟨dL,dM,OA⟩:=Kd.lR mR.out;subst OA;have afM:nI.cell? ⟨bS,0,none⟩=some (.slice none 0 0):=(aD eW.out 0).trans rfl;have akR:nI.cell? ⟨bS,1,none⟩=some (.slice none 0 0):=(aD eW.out 1).trans rfl;have akX:nI.cell? ⟨bS,2,none⟩=some (.slice none 0 0):=(aD eW.out 2).trans rfl;have afF:=aT eW.out 0;have aeE:=aT eW.out 1;have agP:=aT eW.out 2;obtain ⟨dY,dZ,O5⟩:=Kd.lR mG.out;subst O5;obtain ⟨fE,fF,RH⟩:=Kd.lR mY.out;subst RH)|((with_reducible refine eI (f:=17) rfl ?_);refine eJ (some 55) rfl rfl Tryd.func17 (by kernel_rfl) rfl #[.string eV] rfl (by (try simp only [List.map_toArray,List.map_cons,List.map_nil]);first|done|rfl|(simp only [List.length_drop,List.length_take];rfl)) ?_;(with_reducible refine (gY.calls eV eL eT e9 au6 yN _ alA.out (by first|exact HG.out|exact GL.drewN HG.out _|exact GL.drewN (GL.drewN HG.out _) _|exact GL.fS HG.out (by repeat (first|(with_reducible first|exact HB.out|apply aI|apply aN|apply aJ|refine a8 ?_ lE.out|refine a8 ?_ qL.out|refine a8 ?_ BF.out)|exact HB.out)))).mono ?_);rintro e zX ⟨aHI,aNQ,aLV,rfl,cI,hU,iB,hb⟩;refine ⟨_,rfl,?_⟩;have aM:=aC.mk (Kd.dC (by (with_reducible repeat (first|apply Kd.bC|apply Kd.bA|apply Kd.bB));exact (Kd.bW (Kd.bH (p:=⟨bS,2,none⟩) (Kd.bH (p:=⟨bS,1,none⟩) (Kd.bH (p:=⟨bS,0,none⟩) (Kd.eU eR.out eW.out (by decide)) (fun _ hk=>hk.2) (.slice dL cX.length dM)) (fun _ hk=>hk.2) (.slice dY dO.length dZ)) (fun _ hk=>hk.2) (.slice fE eH.length fF)) (fun _ h_=>h_.1))) hb);have aU:=aC.mk (Kd.dC (by (with_reducible repeat (first|apply Kd.bC|apply Kd.bA|apply Kd.bB));exact (Kd.bW (Kd.bH (p:=⟨bS,2,none⟩) (Kd.bH (p:=⟨bS,1,none⟩) (Kd.bH (p:=⟨bS,0,none⟩) (Kd.eU eP.out eW.out (by decide)) (fun _ hk=>hk.2) (.slice dL cX.length dM)) (fun _ hk=>hk.2) (.slice dY dO.length dZ)) (fun _ hk=>hk.2) (.slice fE eH.length fF)) (fun _ h_=>h_.1))) hb);have aX:=aC.mk (Kd.j4 (by (with_reducible repeat (first|apply Kd.dS|apply Kd.dR|apply Kd.dQ));exact (Kd.dN (Kd.eN (p:=⟨bS,2,none⟩) (Kd.eN (p:=⟨bS,1,none⟩) (Kd.eN (p:=⟨bS,0,none⟩) (Kd.dN eZ.out (fun k_ hk=>(⟨hk,hk.2⟩:_∧k_≠bS))) (fun _ hk=>hk.2) (.slice dL cX.length dM)) (fun _ hk=>hk.2) (.slice dY dO.length dZ)) (fun _ hk=>hk.2) (.slice fE eH.length fF)) (fun _ h_=>h_.1))) hb);have bD:=aC.mk (Kd.dC (by (with_reducible repeat (first|apply Kd.bC|apply Kd.bA|apply Kd.bB));exact (Kd.bW (Kd.bH (p:=⟨bS,2,none⟩) (Kd.bH (p:=⟨bS,1,none⟩) (Kd.bH (p:=⟨bS,0,none⟩) (Kd.eU gT.out eW.out (by decide)) (fun _ hk=>hk.2) (.slice dL cX.length dM)) (fun _ hk=>hk.2) (.slice dY dO.length dZ)) (fun _ hk=>hk.2) (.slice fE eH.length fF)) (fun _ h_=>h_.1))) hb);have bY:=aC.mk (Kd.dC (by (with_reducible repeat (first|apply Kd.bC|apply Kd.bA|apply Kd.bB));exact (Kd.bW (Kd.bH (p:=⟨bS,2,none⟩) (Kd.bH (p:=⟨bS,1,none⟩) (Kd.bH (p:=⟨bS,0,none⟩) (Kd.eU gV.out eW.out (by decide)) (fun _ hk=>hk.2) (.slice dL cX.length dM)) (fun _ hk=>hk.2) (.slice dY dO.length dZ)) (fun _ hk=>hk.2) (.slice fE eH.length fF)) (fun _ h_=>h_.1))) hb);have cM:=aC.mk (Kd.j4 (by (with_reducible repeat (first|apply Kd.dS|apply Kd.dR|apply Kd.dQ));exact (Kd.dN (Kd.eN (p:=⟨bS,2,none⟩) (Kd.eN (p:=⟨bS,1,none⟩) (Kd.eN (p:=⟨bS,0,none⟩) (Kd.dN gW.out (fun k_ hk=>(⟨hk,hk.2⟩:_∧k_≠bS))) (fun _ hk=>hk.2) (.slice dL cX.length dM)) (fun _ hk=>hk.2) (.slice dY dO.length dZ)) (fun _ hk=>hk.2) (.slice fE eH.length fF)) (fun _ h_=>h_.1))) hb);have dH:=aC.mk (Kd.fV (by (with_reducible repeat (first|apply Kd.cQ|apply Kd.cT|apply Kd.cS));exact (Kd.b5 (Kd.bM (p:=⟨bS,2,none⟩) (Kd.bM (p:=⟨bS,1,none⟩) (Kd.bM (p:=⟨bS,0,none⟩) (Kd.b5 mR.out (fun k_ hk=>(⟨hk,hk.2⟩:_∧k_≠bS))) (fun _ hk=>hk.2) (.slice dL cX.length dM)) (fun _ hk=>hk.2) (.slice dY dO.length dZ)) (fun _ hk=>hk.2) (.slice fE eH.length fF)) (fun _ h_=>h_.1))) hb);have gG:=aC.mk (Kd.fV (by (with_reducible repeat (first|apply Kd.cQ|apply Kd.cT|apply Kd.cS));exact (Kd.b5 (Kd.bM (p:=⟨bS,2,none⟩) (Kd.bM (p:=⟨bS,1,none⟩) (Kd.bM (p:=⟨bS,0,none⟩) (Kd.b5 mG.out (fun k_ hk=>(⟨hk,hk.2⟩:_∧k_≠bS))) (fun _ hk=>hk.2) (.slice dL cX.length dM)) (fun _ hk=>hk.2) (.slice dY dO.length dZ)) (fun _ hk=>hk.2) (.slice fE eH.length fF)) (fun _ h_=>h_.1))) hb);have jV:=aC.mk (Kd.fV (by (with_reducible repeat (first|apply Kd.cQ|apply Kd.cT|apply Kd.cS));exact (Kd.b5 (Kd.bM (p:=⟨bS,2,none⟩) (Kd.bM (p:=⟨bS,1,none⟩) (Kd.bM (p:=⟨bS,0,none⟩) (Kd.b5 mY.out (fun k_ hk=>(⟨hk,hk.2⟩:_∧k_≠bS))) (fun _ hk=>hk.2) (.slice dL cX.length dM)) (fun _ hk=>hk.2) (.slice dY dO.length dZ)) (fun _ hk=>hk.2) (.slice fE eH.length fF)) (fun _ h_=>h_.1))) hb);have nT:=aC.mk (Kd.lH (Kd.b5 (ok':=fun k_=>some k_≠(.slice qN nD.length qW:Value).ownBlock∧some k_≠(.slice uK nG.length tH:Value).ownBlock∧some k_≠(.slice sW nC.length uA:Value).ownBlock∧some k_≠(.slice vY oB.length vG:Value).ownBlock∧some k_≠(.slice vK oE.length vQ:Value).ownBlock∧some k_≠(.slice sK oJ.length rY:Value).ownBlock∧k_≠bS) cI (fun k_ hk_=>⟨(Kd.fresh' (Kd.R_lt (by (with_reducible repeat (first|apply Kd.bC|apply Kd.bA|apply Kd.bB));exact (Kd.bW (Kd.bH (p:=⟨bS,2,none⟩) (Kd.bH (p:=⟨bS,1,none⟩) (Kd.bH (p:=⟨bS,0,none⟩) (Kd.eU eR.out eW.out (by decide)) (fun _ hk=>hk.2) (.slice dL cX.length dM)) (fun _ hk=>hk.2) (.slice dY dO.length dZ)) (fun _ hk=>hk.2) (.slice fE eH.length fF)) (fun _ h_=>h_.1)))) k_ hk_),(Kd.fresh' (Kd.R_lt (by (with_reducible repeat (first|apply Kd.bC|apply Kd.bA|apply Kd.bB));exact (Kd.bW (Kd.bH (p:=⟨bS,2,none⟩) (Kd.bH (p:=⟨bS,1,none⟩) (Kd.bH (p:=⟨bS,0,none⟩) (Kd.eU eP.out eW.out (by decide)) (fun _ hk=>hk.2) (.slice dL cX.length dM)) (fun _ hk=>hk.2) (.slice dY dO.length dZ)) (fun _ hk=>hk.2) (.slice fE eH.length fF)) (fun _ h_=>h_.1)))) k_ hk_),(Kd.fresh' (Kd.N_lt (by (with_reducible repeat (first|apply Kd.dS|apply Kd.dR|apply Kd.dQ));exact (Kd.dN (Kd.eN (p:=⟨bS,2,none⟩) (Kd.eN (p:=⟨bS,1,none⟩) (Kd.eN (p:=⟨bS,0,none⟩) (Kd.dN eZ.out (fun k_ hk=>(⟨hk,hk.2⟩:_∧k_≠bS))) (fun _ hk=>hk.2) (.slice dL cX.length dM)) (fun _ hk=>hk.2) (.slice dY dO.length dZ)) (fun _ hk=>hk.2) (.slice fE eH.length fF)) (fun _ h_=>h_.1)))) k_ hk_),(Kd.fresh' (Kd.R_lt (by (with_reducible repeat (first|apply Kd.bC|apply Kd.bA|apply Kd.bB));exact (Kd.bW (Kd.bH (p:=⟨bS,2,none⟩) (Kd.bH (p:=⟨bS,1,none⟩) (Kd.bH (p:=⟨bS,0,none⟩) (Kd.eU gT.out eW.out (by decide)) (fun _ hk=>hk.2) (.slice dL cX.length dM)) (fun _ hk=>hk.2) (.slice dY dO.length dZ)) (fun _ hk=>hk.2) (.slice fE eH.length fF)) (fun _ h_=>h_.1)))) k_ hk_),(Kd.fresh' (Kd.R_lt (by (with_reducible repeat (first|apply Kd.bC|apply Kd.bA|apply Kd.bB));exact (Kd.bW (Kd.bH (p:=⟨bS,2,none⟩) (Kd.bH (p:=⟨bS,1,none⟩) (Kd.bH (p:=⟨bS,0,none⟩) (Kd.eU gV.out eW.out (by decide)) (fun _ hk=>hk.2) (.slice dL cX.length dM)) (fun _ hk=>hk.2) (.slice dY dO.length dZ)) (fun _ hk=>hk.2) (.slice fE eH.length fF)) (fun _ h_=>h_.1)))) k_ hk_),(Kd.fresh' (Kd.N_lt (by (with_reducible repeat (first|apply Kd.dS|apply Kd.dR|apply Kd.dQ));exact (Kd.dN (Kd.eN (p:=⟨bS,2,none⟩) (Kd.eN (p:=⟨bS,1,none⟩) (Kd.eN (p:=⟨bS,0,none⟩) (Kd.dN gW.out (fun k_ hk=>(⟨hk,hk.2⟩:_∧k_≠bS))) (fun _ hk=>hk.2) (.slice dL cX.length dM)) (fun _ hk=>hk.2) (.slice dY dO.length dZ)) (fun _ hk=>hk.2) (.slice fE eH.length fF)) (fun _ h_=>h_.1)))) k_ hk_),(Kd.freshB (g:=bS) (o:=.cells #[.slice dL cX.length dM,.slice dY dO.length dZ,.slice fE eH.length fF] 30 (0,0)) (by (with_reducible repeat (first|refine aW ?_ _|refine aV ?_|refine aQ ?_ _));refine bX (cs:=#[.slice dL cX.length dM,.slice dY dO.length dZ,.slice none 0 0]) ?_ 2 _ rfl;(with_reducible repeat (first|refine aW ?_ _|refine aV ?_|refine aQ ?_ _));refine bX (cs:=#[.slice dL cX.length dM,.slice none 0 0,.slice none 0 0]) ?_ 1 _ rfl;(with_reducible repeat (first|refine aW ?_ _|refine aV ?_|refine aQ ?_ _));refine bX (cs:=#[.slice none 0 0,.slice none 0 0,.slice none 0 0]) ?_ 0 _ rfl;(with_reducible repeat (first|refine aW ?_ _|refine aV ?_|refine aQ ?_ _));exact eW.out) k_ hk_)⟩)) (bZ (by repeat (first|(with_reducible first|exact HB.out|apply aI|apply aN|apply aJ|refine a8 ?_ lE.out)|exact HB.out))));have qB:=aC.mk (Kd.lH (Kd.b5 (ok':=fun k_=>some k_≠(.slice qN nD.length qW:Value).ownBlock∧some k_≠(.slice uK nG.length tH:Value).ownBlock∧some k_≠(.slice sW nC.length uA:Value).ownBlock∧some k_≠(.slice vY oB.length vG:Value).ownBlock∧some k_≠(.slice vK oE.length vQ:Value).ownBlock∧some k_≠(.slice sK oJ.length rY:Value).ownBlock∧k_≠bS) hU (fun k_ hk_=>⟨(Kd.fresh' (Kd.R_lt (by (with_reducible repeat (first|apply Kd.bC|apply Kd.bA|apply Kd.bB));exact (Kd.bW (Kd.bH (p:=⟨bS,2,none⟩) (Kd.bH (p:=⟨bS,1,none⟩) (Kd.bH (p:=⟨bS,0,none⟩) (Kd.eU eR.out eW.out (by decide)) (fun _ hk=>hk.2) (.slice dL cX.length dM)) (fun _ hk=>hk.2) (.slice dY dO.length dZ)) (fun _ hk=>hk.2) (.slice fE eH.length fF)) (fun _ h_=>h_.1)))) k_ hk_),(Kd.fresh' (Kd.R_lt (by (with_reducible repeat (first|apply Kd.bC|apply Kd.bA|apply Kd.bB));exact (Kd.bW (Kd.bH (p:=⟨bS,2,none⟩) (Kd.bH (p:=⟨bS,1,none⟩) (Kd.bH (p:=⟨bS,0,none⟩) (Kd.eU eP.out eW.out (by decide)) (fun _ hk=>hk.2) (.slice dL cX.length dM)) (fun _ hk=>hk.2) (.slice dY dO.length dZ)) (fun _ hk=>hk.2) (.slice fE eH.length fF)) (fun _ h_=>h_.1)))) k_ hk_),(Kd.fresh' (Kd.N_lt (by (with_reducible repeat (first|apply Kd.dS|apply Kd.dR|apply Kd.dQ));exact (Kd.dN (Kd.eN (p:=⟨bS,2,none⟩) (Kd.eN (p:=⟨bS,1,none⟩) (Kd.eN (p:=⟨bS,0,none⟩) (Kd.dN eZ.out (fun k_ hk=>(⟨hk,hk.2⟩:_∧k_≠bS))) (fun _ hk=>hk.2) (.slice dL cX.length dM)) (fun _ hk=>hk.2) (.slice dY dO.length dZ)) (fun _ hk=>hk.2) (.slice fE eH.length fF)) (fun _ h_=>h_.1)))) k_ hk_),(Kd.fresh' (Kd.R_lt (by (with_reducible repeat (first|apply Kd.bC|apply Kd.bA|apply Kd.bB));exact (Kd.bW (Kd.bH (p:=⟨bS,2,none⟩) (Kd.bH (p:=⟨bS,1,none⟩) (Kd.bH (p:=⟨bS,0,none⟩) (Kd.eU gT.out eW.out (by decide)) (fun _ hk=>hk.2) (.slice dL cX.length dM)) (fun _ hk=>hk.2) (.slice dY dO.length dZ)) (fun _ hk=>hk.2) (.slice fE eH.length fF)) (fun _ h_=>h_.1)))) k_ hk_),(Kd.fresh' (Kd.R_lt (by (with_reducible repeat (first|apply Kd.bC|apply Kd.bA|apply Kd.bB));exact (Kd.bW (Kd.bH (p:=⟨bS,2,none⟩) (Kd.bH (p:=⟨bS,1,none⟩) (Kd.bH (p:=⟨bS,0,none⟩) (Kd.eU gV.out eW.out (by decide)) (fun _ hk=>hk.2) (.slice dL cX.length dM)) (fun _ hk=>hk.2) (.slice dY dO.length dZ)) (fun _ hk=>hk.2) (.slice fE eH.length fF)) (fun _ h_=>h_.1)))) k_ hk_),(Kd.fresh' (Kd.N_lt (by (with_reducible repeat (first|apply Kd.dS|apply Kd.dR|apply Kd.dQ));exact (Kd.dN (Kd.eN (p:=⟨bS,2,none⟩) (Kd.eN (p:=⟨bS,1,none⟩) (Kd.eN (p:=⟨bS,0,none⟩) (Kd.dN gW.out (fun k_ hk=>(⟨hk,hk.2⟩:_∧k_≠bS))) (fun _ hk=>hk.2) (.slice dL cX.length dM)) (fun _ hk=>hk.2) (.slice dY dO.length dZ)) (fun _ hk=>hk.2) (.slice fE eH.length fF)) (fun _ h_=>h_.1)))) k_ hk_),(Kd.freshB (g:=bS) (o:=.cells #[.slice dL cX.length dM,.slice dY dO.length dZ,.slice fE eH.length fF] 30 (0,0)) (by (with_reducible repeat (first|refine aW ?_ _|refine aV ?_|refine aQ ?_ _));refine bX (cs:=#[.slice dL cX.length dM,.slice dY dO.length dZ,.slice none 0 0]) ?_ 2 _ rfl;(with_reducible repeat (first|refine aW ?_ _|refine aV ?_|refine aQ ?_ _));refine bX (cs:=#[.slice dL cX.length dM,.slice none 0 0,.slice none 0 0]) ?_ 1 _ rfl;(with_reducible repeat (first|refine aW ?_ _|refine aV ?_|refine aQ ?_ _));refine bX (cs:=#[.slice none 0 0,.slice none 0 0,.slice none 0 0]) ?_ 0 _ rfl;(with_reducible repeat (first|refine aW ?_ _|refine aV ?_|refine aQ ?_ _));exact eW.out) k_ hk_)⟩)) (bZ (by repeat (first|(with_reducible first|exact HB.out|apply aI|apply aN|apply aJ|refine a8 ?_ lE.out)|exact HB.out))));have qF:=aC.mk (Kd.lH (Kd.b5 (ok':=fun k_=>some k_≠(.slice qN nD.length qW:Value).ownBlock∧some k_≠(.slice uK nG.length tH:Value).ownBlock∧some k_≠(.slice sW nC.length uA:Value).ownBlock∧some k_≠(.slice vY oB.length vG:Value).ownBlock∧some k_≠(.slice vK oE.length vQ:Value).ownBlock∧some k_≠(.slice sK oJ.length rY:Value).ownBlock∧k_≠bS) iB (fun k_ hk_=>⟨(Kd.fresh' (Kd.R_lt (by (with_reducible repeat (first|apply Kd.bC|apply Kd.bA|apply Kd.bB));exact (Kd.bW (Kd.bH (p:=⟨bS,2,none⟩) (Kd.bH (p:=⟨bS,1,none⟩) (Kd.bH (p:=⟨bS,0,none⟩) (Kd.eU eR.out eW.out (by decide)) (fun _ hk=>hk.2) (.slice dL cX.length dM)) (fun _ hk=>hk.2) (.slice dY dO.length dZ)) (fun _ hk=>hk.2) (.slice fE eH.length fF)) (fun _ h_=>h_.1)))) k_ hk_),(Kd.fresh' (Kd.R_lt (by (with_reducible repeat (first|apply Kd.bC|apply Kd.bA|apply Kd.bB));exact (Kd.bW (Kd.bH (p:=⟨bS,2,none⟩) (Kd.bH (p:=⟨bS,1,none⟩) (Kd.bH (p:=⟨bS,0,none⟩) (Kd.eU eP.out eW.out (by decide)) (fun _ hk=>hk.2) (.slice dL cX.length dM)) (fun _ hk=>hk.2) (.slice dY dO.length dZ)) (fun _ hk=>hk.2) (.slice fE eH.length fF)) (fun _ h_=>h_.1)))) k_ hk_),(Kd.fresh' (Kd.N_lt (by (with_reducible repeat (first|apply Kd.dS|apply Kd.dR|apply Kd.dQ));exact (Kd.dN (Kd.eN (p:=⟨bS,2,none⟩) (Kd.eN (p:=⟨bS,1,none⟩) (Kd.eN (p:=⟨bS,0,none⟩) (Kd.dN eZ.out (fun k_ hk=>(⟨hk,hk.2⟩:_∧k_≠bS))) (fun _ hk=>hk.2) (.slice dL cX.length dM)) (fun _ hk=>hk.2) (.slice dY dO.length dZ)) (fun _ hk=>hk.2) (.slice fE eH.length fF)) (fun _ h_=>h_.1)))) k_ hk_),(Kd.fresh' (Kd.R_lt (by (with_reducible repeat (first|apply Kd.bC|apply Kd.bA|apply Kd.bB));exact (Kd.bW (Kd.bH (p:=⟨bS,2,none⟩) (Kd.bH (p:=⟨bS,1,none⟩) (Kd.bH (p:=⟨bS,0,none⟩) (Kd.eU gT.out eW.out (by decide)) (fun _ hk=>hk.2) (.slice dL cX.length dM)) (fun _ hk=>hk.2) (.slice dY dO.length dZ)) (fun _ hk=>hk.2) (.slice fE eH.length fF)) (fun _ h_=>h_.1)))) k_ hk_),(Kd.fresh' (Kd.R_lt (by (with_reducible repeat (first|apply Kd.bC|apply Kd.bA|apply Kd.bB));exact (Kd.bW (Kd.bH (p:=⟨bS,2,none⟩) (Kd.bH (p:=⟨bS,1,none⟩) (Kd.bH (p:=⟨bS,0,none⟩) (Kd.eU gV.out eW.out (by decide)) (fun _ hk=>hk.2) (.slice dL cX.length dM)) (fun _ hk=>hk.2) (.slice dY dO.length dZ)) (fun _ hk=>hk.2) (.slice fE eH.length fF)) (fun _ h_=>h_.1)))) k_ hk_),(Kd.fresh' (Kd.N_lt (by (with_reducible repeat (first|apply Kd.dS|apply Kd.dR|apply Kd.dQ));exact (Kd.dN (Kd.eN (p:=⟨bS,2,none⟩) (Kd.eN (p:=⟨bS,1,none⟩) (Kd.eN (p:=⟨bS,0,none⟩) (Kd.dN gW.out (fun k_ hk=>(⟨hk,hk.2⟩:_∧k_≠bS))) (fun _ hk=>hk.2) (.slice dL cX.length dM)) (fun _ hk=>hk.2) (.slice dY dO.length dZ)) (fun _ hk=>hk.2) (.slice fE eH.length fF)) (fun _ h_=>h_.1)))) k_ hk_),(Kd.freshB (g:=bS) (o:=.cells #[.slice dL cX.length dM,.slice dY dO.length dZ,.slice fE eH.length fF] 30 (0,0)) (by (with_reducible repeat (first|refine aW ?_ _|refine aV ?_|refine aQ ?_ _));refine bX (cs:=#[.slice dL cX.length dM,.slice dY dO.length dZ,.slice none 0 0]) ?_ 2 _ rfl;(with_reducible repeat (first|refine aW ?_ _|refine aV ?_|refine aQ ?_ _));refine bX (cs:=#[.slice dL cX.length dM,.slice none 0 0,.slice none 0 0]) ?_ 1 _ rfl;(with_reducible repeat (first|refine aW ?_ _|refine aV ?_|refine aQ ?_ _));refine bX (cs:=#[.slice none 0 0,.slice none 0 0,.slice none 0 0]) ?_ 0 _ rfl;(with_reducible repeat (first|refine aW ?_ _|refine aV ?_|refine aQ ?_ _));exact eW.out) k_ hk_)⟩)) (bZ (by repeat (first|(with_reducible first|exact HB.out|apply aI|apply aN|apply aJ|refine a8 ?_ lE.out)|exact HB.out))));have p9:=aC.mk (dB (g:=bS) (o:=.cells #[.slice dL cX.length dM,.slice dY dO.length dZ,.slice fE eH.length fF] 30 (0,0)) (by (with_reducible repeat (first|refine aW ?_ _|refine aV ?_|refine aQ ?_ _));refine bX (cs:=#[.slice dL cX.length dM,.slice dY dO.length dZ,.slice none 0 0]) ?_ 2 _ rfl;(with_reducible repeat (first|refine aW ?_ _|refine aV ?_|refine aQ ?_ _));refine bX (cs:=#[.slice dL cX.length dM,.slice none 0 0,.slice none 0 0]) ?_ 1 _ rfl;(with_reducible repeat (first|refine aW ?_ _|refine aV ?_|refine aQ ?_ _));refine bX (cs:=#[.slice none 0 0,.slice none 0 0,.slice none 0 0]) ?_ 0 _ rfl;(with_reducible repeat (first|refine aW ?_ _|refine aV ?_|refine aQ ?_ _));exact eW.out) hb);have sQ:=aC.mk (bQ (by repeat (first|(with_reducible first|exact HB.out|apply aI|apply aN|apply aJ|refine a8 ?_ lE.out)|exact HB.out)) hb);clear eR;clear eP;clear eZ;clear gT;clear gV;clear gW;clear mR;clear mG;clear mY;clear eW;clear HB;have eR:=aM;have eP:=aU;have eZ:=aX;have gT:=bD;have gV:=bY;have gW:=cM;have mR:=dH;have mG:=gG;have mY:=jV;have rN:=nT;have rS:=qB;have rA:=qF;have eW:=p9;have HB:=sQ;clear aM aU aX bD bY cM dH gG jV nT qB qF p9 sQ;(try clear hb);(try clear bR);(try clear hk);(try clear hi);(try clear cI);(try clear hU);(try clear iB))|((with_reducible refine iJ (N:=12) rfl ?_);refine lF ?hg (N:=12) ?hd (cs:=#[.slice none 0 0,.slice none 0 0,.slice none 0 0]) (t:=30) ?hr ?_;(case hd=>rfl);(case hg=>rfl);(case hr=>first|(go_simp;done)|(go_simp;rfl));intro bO hg QP hbox hb;have aM:=aC.mk (Kd.dC (by (with_reducible repeat (first|apply Kd.bC|apply Kd.bA|apply Kd.bB));exact eR.out) hb);have aU:=aC.mk (Kd.dC (by (with_reducible repeat (first|apply Kd.bC|apply Kd.bA|apply Kd.bB));exact eP.out) hb);have aX:=aC.mk (Kd.j4 (Kd.EU (by (with_reducible repeat (first|apply Kd.dS|apply Kd.dR|apply Kd.dQ));exact eZ.out) bO (Nat.le_of_eq hg.symm)) hb);have bD:=aC.mk (Kd.dC (by (with_reducible repeat (first|apply Kd.bC|apply Kd.bA|apply Kd.bB));exact gT.out) hb);have bY:=aC.mk (Kd.dC (by (with_reducible repeat (first|apply Kd.bC|apply Kd.bA|apply Kd.bB));exact gV.out) hb);have cM:=aC.mk (Kd.j4 (Kd.EU (by (with_reducible repeat (first|apply Kd.dS|apply Kd.dR|apply Kd.dQ));exact gW.out) bO (Nat.le_of_eq hg.symm)) hb);have dH:=aC.mk (Kd.fV (Kd.jB (by (with_reducible repeat (first|apply Kd.cQ|apply Kd.cT|apply Kd.cS));exact mR.out) bO (Nat.le_of_eq hg.symm)) hb);have gG:=aC.mk (Kd.fV (Kd.jB (by (with_reducible repeat (first|apply Kd.cQ|apply Kd.cT|apply Kd.cS));exact mG.out) bO (Nat.le_of_eq hg.symm)) hb);have jV:=aC.mk (Kd.fV (Kd.jB (by (with_reducible repeat (first|apply Kd.cQ|apply Kd.cT|apply Kd.cS));exact mY.out) bO (Nat.le_of_eq hg.symm)) hb);have nT:=aC.mk (Kd.fV (Kd.jB (by (with_reducible repeat (first|apply Kd.cQ|apply Kd.cT|apply Kd.cS));exact rN.out) bO (Nat.le_of_eq hg.symm)) hb);have qB:=aC.mk (Kd.fV (Kd.jB (by (with_reducible repeat (first|apply Kd.cQ|apply Kd.cT|apply Kd.cS));exact rS.out) bO (Nat.le_of_eq hg.symm)) hb);have qF:=aC.mk (Kd.fV (Kd.jB (by (with_reducible repeat (first|apply Kd.cQ|apply Kd.cT|apply Kd.cS));exact rA.out) bO (Nat.le_of_eq hg.symm)) hb);have p9:=aC.mk (dB (g:=bS) (o:=.cells #[.slice dL cX.length dM,.slice dY dO.length dZ,.slice fE eH.length fF] 30 (0,0)) (by (with_reducible repeat (first|refine aW ?_ _|refine aV ?_|refine aQ ?_ _));exact eW.out) hb);have sQ:=aC.mk (bQ (by repeat (first|(with_reducible first|exact HB.out|apply aI|apply aN|apply aJ|refine a8 ?_ lE.out)|exact HB.out)) hb);have yY:=aC.mk (hbox);have yH:=aC.mk ((by rw [hg];exact (bZ (by repeat (first|(with_reducible first|exact HB.out|apply aI|apply aN|apply aJ|refine a8 ?_ lE.out)|exact HB.out))):w.heap.size≤bO));have zJ:=aC.mk ((by rw [hg];exact (bZ (by repeat (first|(with_reducible first|exact HB.out|apply aI|apply aN|apply aJ|refine a8 ?_ lE.out)|exact HB.out))):w.heap.size≤bO));have xX:=aC.mk ((by rw [hg];exact Nat.ne_of_lt (iR (g:=bS) (o:=.cells #[.slice dL cX.length dM,.slice dY dO.length dZ,.slice fE eH.length fF] 30 (0,0)) (by (with_reducible repeat (first|refine aW ?_ _|refine aV ?_|refine aQ ?_ _));exact eW.out)):bS≠bO));have I6:=aC.mk ((by rw [hg];exact Nat.ne_of_gt (iR (g:=bS) (o:=.cells #[.slice dL cX.length dM,.slice dY dO.length dZ,.slice fE eH.length fF] 30 (0,0)) (by (with_reducible repeat (first|refine aW ?_ _|refine aV ?_|refine aQ ?_ _));exact eW.out)):bO≠bS));clear eR;clear eP;clear eZ;clear gT;clear gV;clear gW;clear mR;clear mG;clear mY;clear rN;clear rS;clear rA;clear eW;clear HB;have eR:=aM;have eP:=aU;have eZ:=aX;have gT:=bD;have gV:=bY;have gW:=cM;have mR:=dH;have mG:=gG;have mY:=jV;have rN:=nT;have rS:=qB;have rA:=qF;have eW:=p9;have HB:=sQ;have gH:=yY;have aG6:=yH;have qL:=zJ;have qJ:=xX;have ahL:=I6;clear aM aU aX bD bY cM dH gG jV nT qB qF p9 sQ yY yH zJ xX I6;clear hb hbox hg;obtain ⟨fO,fH,az7⟩:=Kd.lR rN.out;subst az7;have aKM:=ahL.out;have aEO:=qJ.out;have asI:QP.cell? ⟨bO,0,none⟩=some (.slice none 0 0):=(aD gH.out 0).trans rfl;have aq7:QP.cell? ⟨bO,1,none⟩=some (.slice none 0 0):=(aD gH.out 1).trans rfl;have aA1:QP.cell? ⟨bO,2,none⟩=some (.slice none 0 0):=(aD gH.out 2).trans rfl;have ao6:=aT gH.out 0;have aoE:=aT gH.out 1;have axF:=aT gH.out 2;obtain ⟨fN,fI,W4⟩:=Kd.lR rS.out;subst W4;obtain ⟨gK,gM,asN⟩:=Kd.lR rA.out;subst asN)|((with_reducible refine eI (f:=17) rfl ?_);refine eJ (some 63) rfl rfl Tryd.func17 (by kernel_rfl) rfl #[.string (fA++eV)] rfl (by (try simp only [List.map_toArray,List.map_cons,List.map_nil]);first|done|rfl|(simp only [List.length_drop,List.length_take];rfl)) ?_;(with_reducible refine (gY.calls (fA++eV) gB gL gZ arK SW _ arC.out (by first|exact HG.out|exact GL.drewN HG.out _|exact GL.drewN (GL.drewN HG.out _) _|exact GL.fS HG.out (by repeat (first|(with_reducible first|exact HB.out|apply aI|apply aN|apply aJ|refine a8 ?_ lE.out|refine a8 ?_ qL.out|refine a8 ?_ BF.out)|exact HB.out)))).mono ?_);rintro e aMH ⟨aH2,aMK,aIL,rfl,cI,hU,iB,hb⟩;refine ⟨_,rfl,?_⟩;have aM:=aC.mk (Kd.dC (by (with_reducible repeat (first|apply Kd.bC|apply Kd.bA|apply Kd.bB));exact (Kd.bW (Kd.bH (p:=⟨bO,2,none⟩) (Kd.bH (p:=⟨bO,1,none⟩) (Kd.bH (p:=⟨bO,0,none⟩) (Kd.eU eR.out gH.out (by decide)) (fun _ hk=>hk.2) (.slice fO eL.length fH)) (fun _ hk=>hk.2) (.slice fN eT.length fI)) (fun _ hk=>hk.2) (.slice gK e9.length gM)) (fun _ h_=>h_.1))) hb);have aU:=aC.mk (Kd.dC (by (with_reducible repeat (first|apply Kd.bC|apply Kd.bA|apply Kd.bB));exact (Kd.bW (Kd.bH (p:=⟨bO,2,none⟩) (Kd.bH (p:=⟨bO,1,none⟩) (Kd.bH (p:=⟨bO,0,none⟩) (Kd.eU eP.out gH.out (by decide)) (fun _ hk=>hk.2) (.slice fO eL.length fH)) (fun _ hk=>hk.2) (.slice fN eT.length fI)) (fun _ hk=>hk.2) (.slice gK e9.length gM)) (fun _ h_=>h_.1))) hb);have aX:=aC.mk (Kd.j4 (by (with_reducible repeat (first|apply Kd.dS|apply Kd.dR|apply Kd.dQ));exact (Kd.dN (Kd.eN (p:=⟨bO,2,none⟩) (Kd.eN (p:=⟨bO,1,none⟩) (Kd.eN (p:=⟨bO,0,none⟩) (Kd.dN eZ.out (fun k_ hk=>(⟨hk,hk.2⟩:_∧k_≠bO))) (fun _ hk=>hk.2) (.slice fO eL.length fH)) (fun _ hk=>hk.2) (.slice fN eT.length fI)) (fun _ hk=>hk.2) (.slice gK e9.length gM)) (fun _ h_=>h_.1))) hb);have bD:=aC.mk (Kd.dC (by (with_reducible repeat (first|apply Kd.bC|apply Kd.bA|apply Kd.bB));exact (Kd.bW (Kd.bH (p:=⟨bO,2,none⟩) (Kd.bH (p:=⟨bO,1,none⟩) (Kd.bH (p:=⟨bO,0,none⟩) (Kd.eU gT.out gH.out (by decide)) (fun _ hk=>hk.2) (.slice fO eL.length fH)) (fun _ hk=>hk.2) (.slice fN eT.length fI)) (fun _ hk=>hk.2) (.slice gK e9.length gM)) (fun _ h_=>h_.1))) hb);have bY:=aC.mk (Kd.dC (by (with_reducible repeat (first|apply Kd.bC|apply Kd.bA|apply Kd.bB));exact (Kd.bW (Kd.bH (p:=⟨bO,2,none⟩) (Kd.bH (p:=⟨bO,1,none⟩) (Kd.bH (p:=⟨bO,0,none⟩) (Kd.eU gV.out gH.out (by decide)) (fun _ hk=>hk.2) (.slice fO eL.length fH)) (fun _ hk=>hk.2) (.slice fN eT.length fI)) (fun _ hk=>hk.2) (.slice gK e9.length gM)) (fun _ h_=>h_.1))) hb);have cM:=aC.mk (Kd.j4 (by (with_reducible repeat (first|apply Kd.dS|apply Kd.dR|apply Kd.dQ));exact (Kd.dN (Kd.eN (p:=⟨bO,2,none⟩) (Kd.eN (p:=⟨bO,1,none⟩) (Kd.eN (p:=⟨bO,0,none⟩) (Kd.dN gW.out (fun k_ hk=>(⟨hk,hk.2⟩:_∧k_≠bO))) (fun _ hk=>hk.2) (.slice fO eL.length fH)) (fun _ hk=>hk.2) (.slice fN eT.length fI)) (fun _ hk=>hk.2) (.slice gK e9.length gM)) (fun _ h_=>h_.1))) hb);have dH:=aC.mk (Kd.fV (by (with_reducible repeat (first|apply Kd.cQ|apply Kd.cT|apply Kd.cS));exact (Kd.b5 (Kd.bM (p:=⟨bO,2,none⟩) (Kd.bM (p:=⟨bO,1,none⟩) (Kd.bM (p:=⟨bO,0,none⟩) (Kd.b5 mR.out (fun k_ hk=>(⟨hk,hk.2⟩:_∧k_≠bO))) (fun _ hk=>hk.2) (.slice fO eL.length fH)) (fun _ hk=>hk.2) (.slice fN eT.length fI)) (fun _ hk=>hk.2) (.slice gK e9.length gM)) (fun _ h_=>h_.1))) hb);have gG:=aC.mk (Kd.fV (by (with_reducible repeat (first|apply Kd.cQ|apply Kd.cT|apply Kd.cS));exact (Kd.b5 (Kd.bM (p:=⟨bO,2,none⟩) (Kd.bM (p:=⟨bO,1,none⟩) (Kd.bM (p:=⟨bO,0,none⟩) (Kd.b5 mG.out (fun k_ hk=>(⟨hk,hk.2⟩:_∧k_≠bO))) (fun _ hk=>hk.2) (.slice fO eL.length fH)) (fun _ hk=>hk.2) (.slice fN eT.length fI)) (fun _ hk=>hk.2) (.slice gK e9.length gM)) (fun _ h_=>h_.1))) hb);have jV:=aC.mk (Kd.fV (by (with_reducible repeat (first|apply Kd.cQ|apply Kd.cT|apply Kd.cS));exact (Kd.b5 (Kd.bM (p:=⟨bO,2,none⟩) (Kd.bM (p:=⟨bO,1,none⟩) (Kd.bM (p:=⟨bO,0,none⟩) (Kd.b5 mY.out (fun k_ hk=>(⟨hk,hk.2⟩:_∧k_≠bO))) (fun _ hk=>hk.2) (.slice fO eL.length fH)) (fun _ hk=>hk.2) (.slice fN eT.length fI)) (fun _ hk=>hk.2) (.slice gK e9.length gM)) (fun _ h_=>h_.1))) hb);have nT:=aC.mk (Kd.fV (by (with_reducible repeat (first|apply Kd.cQ|apply Kd.cT|apply Kd.cS));exact (Kd.b5 (Kd.bM (p:=⟨bO,2,none⟩) (Kd.bM (p:=⟨bO,1,none⟩) (Kd.bM (p:=⟨bO,0,none⟩) (Kd.b5 rN.out (fun k_ hk=>(⟨hk,hk.2⟩:_∧k_≠bO))) (fun _ hk=>hk.2) (.slice fO eL.length fH)) (fun _ hk=>hk.2) (.slice fN eT.length fI)) (fun _ hk=>hk.2) (.slice gK e9.length gM)) (fun _ h_=>h_.1))) hb);have qB:=aC.mk (Kd.fV (by (with_reducible repeat (first|apply Kd.cQ|apply Kd.cT|apply Kd.cS));exact (Kd.b5 (Kd.bM (p:=⟨bO,2,none⟩) (Kd.bM (p:=⟨bO,1,none⟩) (Kd.bM (p:=⟨bO,0,none⟩) (Kd.b5 rS.out (fun k_ hk=>(⟨hk,hk.2⟩:_∧k_≠bO))) (fun _ hk=>hk.2) (.slice fO eL.length fH)) (fun _ hk=>hk.2) (.slice fN eT.length fI)) (fun _ hk=>hk.2) (.slice gK e9.length gM)) (fun _ h_=>h_.1))) hb);have qF:=aC.mk (Kd.fV (by (with_reducible repeat (first|apply Kd.cQ|apply Kd.cT|apply Kd.cS));exact (Kd.b5 (Kd.bM (p:=⟨bO,2,none⟩) (Kd.bM (p:=⟨bO,1,none⟩) (Kd.bM (p:=⟨bO,0,none⟩) (Kd.b5 rA.out (fun k_ hk=>(⟨hk,hk.2⟩:_∧k_≠bO))) (fun _ hk=>hk.2) (.slice fO eL.length fH)) (fun _ hk=>hk.2) (.slice fN eT.length fI)) (fun _ hk=>hk.2) (.slice gK e9.length gM)) (fun _ h_=>h_.1))) hb);have p9:=aC.mk (Kd.lH (Kd.b5 (ok':=fun k_=>some k_≠(.slice qN nD.length qW:Value).ownBlock∧some k_≠(.slice uK nG.length tH:Value).ownBlock∧some k_≠(.slice sW nC.length uA:Value).ownBlock∧some k_≠(.slice vY oB.length vG:Value).ownBlock∧some k_≠(.slice vK oE.length vQ:Value).ownBlock∧some k_≠(.slice sK oJ.length rY:Value).ownBlock∧k_≠bS∧k_≠bO) cI (fun k_ hk_=>⟨(Kd.fresh' (Kd.R_lt (by (with_reducible repeat (first|apply Kd.bC|apply Kd.bA|apply Kd.bB));exact (Kd.bW (Kd.bH (p:=⟨bO,2,none⟩) (Kd.bH (p:=⟨bO,1,none⟩) (Kd.bH (p:=⟨bO,0,none⟩) (Kd.eU eR.out gH.out (by decide)) (fun _ hk=>hk.2) (.slice fO eL.length fH)) (fun _ hk=>hk.2) (.slice fN eT.length fI)) (fun _ hk=>hk.2) (.slice gK e9.length gM)) (fun _ h_=>h_.1)))) k_ hk_),(Kd.fresh' (Kd.R_lt (by (with_reducible repeat (first|apply Kd.bC|apply Kd.bA|apply Kd.bB));exact (Kd.bW (Kd.bH (p:=⟨bO,2,none⟩) (Kd.bH (p:=⟨bO,1,none⟩) (Kd.bH (p:=⟨bO,0,none⟩) (Kd.eU eP.out gH.out (by decide)) (fun _ hk=>hk.2) (.slice fO eL.length fH)) (fun _ hk=>hk.2) (.slice fN eT.length fI)) (fun _ hk=>hk.2) (.slice gK e9.length gM)) (fun _ h_=>h_.1)))) k_ hk_),(Kd.fresh' (Kd.N_lt (by (with_reducible repeat (first|apply Kd.dS|apply Kd.dR|apply Kd.dQ));exact (Kd.dN (Kd.eN (p:=⟨bO,2,none⟩) (Kd.eN (p:=⟨bO,1,none⟩) (Kd.eN (p:=⟨bO,0,none⟩) (Kd.dN eZ.out (fun k_ hk=>(⟨hk,hk.2⟩:_∧k_≠bO))) (fun _ hk=>hk.2) (.slice fO eL.length fH)) (fun _ hk=>hk.2) (.slice fN eT.length fI)) (fun _ hk=>hk.2) (.slice gK e9.length gM)) (fun _ h_=>h_.1)))) k_ hk_),(Kd.fresh' (Kd.R_lt (by (with_reducible repeat (first|apply Kd.bC|apply Kd.bA|apply Kd.bB));exact (Kd.bW (Kd.bH (p:=⟨bO,2,none⟩) (Kd.bH (p:=⟨bO,1,none⟩) (Kd.bH (p:=⟨bO,0,none⟩) (Kd.eU gT.out gH.out (by decide)) (fun _ hk=>hk.2) (.slice fO eL.length fH)) (fun _ hk=>hk.2) (.slice fN eT.length fI)) (fun _ hk=>hk.2) (.slice gK e9.length gM)) (fun _ h_=>h_.1)))) k_ hk_),(Kd.fresh' (Kd.R_lt (by (with_reducible repeat (first|apply Kd.bC|apply Kd.bA|apply Kd.bB));exact (Kd.bW (Kd.bH (p:=⟨bO,2,none⟩) (Kd.bH (p:=⟨bO,1,none⟩) (Kd.bH (p:=⟨bO,0,none⟩) (Kd.eU gV.out gH.out (by decide)) (fun _ hk=>hk.2) (.slice fO eL.length fH)) (fun _ hk=>hk.2) (.slice fN eT.length fI)) (fun _ hk=>hk.2) (.slice gK e9.length gM)) (fun _ h_=>h_.1)))) k_ hk_),(Kd.fresh' (Kd.N_lt (by (with_reducible repeat (first|apply Kd.dS|apply Kd.dR|apply Kd.dQ));exact (Kd.dN (Kd.eN (p:=⟨bO,2,none⟩) (Kd.eN (p:=⟨bO,1,none⟩) (Kd.eN (p:=⟨bO,0,none⟩) (Kd.dN gW.out (fun k_ hk=>(⟨hk,hk.2⟩:_∧k_≠bO))) (fun _ hk=>hk.2) (.slice fO eL.length fH)) (fun _ hk=>hk.2) (.slice fN eT.length fI)) (fun _ hk=>hk.2) (.slice gK e9.length gM)) (fun _ h_=>h_.1)))) k_ hk_),(Kd.freshB (g:=bS) (o:=.cells #[.slice dL cX.length dM,.slice dY dO.length dZ,.slice fE eH.length fF] 30 (0,0)) (by (with_reducible repeat (first|refine aW ?_ _|refine aV ?_|refine aQ ?_ _));refine dT ?_ qJ.out _;(with_reducible repeat (first|refine aW ?_ _|refine aV ?_|refine aQ ?_ _));refine dT ?_ qJ.out _;(with_reducible repeat (first|refine aW ?_ _|refine aV ?_|refine aQ ?_ _));refine dT ?_ qJ.out _;(with_reducible repeat (first|refine aW ?_ _|refine aV ?_|refine aQ ?_ _));exact eW.out) k_ hk_),(Kd.freshB (g:=bO) (o:=.cells #[.slice fO eL.length fH,.slice fN eT.length fI,.slice gK e9.length gM] 30 (0,0)) (by (with_reducible repeat (first|refine aW ?_ _|refine aV ?_|refine aQ ?_ _));refine bX (cs:=#[.slice fO eL.length fH,.slice fN eT.length fI,.slice none 0 0]) ?_ 2 _ rfl;(with_reducible repeat (first|refine aW ?_ _|refine aV ?_|refine aQ ?_ _));refine bX (cs:=#[.slice fO eL.length fH,.slice none 0 0,.slice none 0 0]) ?_ 1 _ rfl;(with_reducible repeat (first|refine aW ?_ _|refine aV ?_|refine aQ ?_ _));refine bX (cs:=#[.slice none 0 0,.slice none 0 0,.slice none 0 0]) ?_ 0 _ rfl;(with_reducible repeat (first|refine aW ?_ _|refine aV ?_|refine aQ ?_ _));exact gH.out) k_ hk_)⟩)) (bZ (by repeat (first|(with_reducible first|exact HB.out|apply aI|apply aN|apply aJ|refine a8 ?_ lE.out|refine a8 ?_ qL.out)|exact HB.out))));have sQ:=aC.mk (Kd.lH (Kd.b5 (ok':=fun k_=>some k_≠(.slice qN nD.length qW:Value).ownBlock∧some k_≠(.slice uK nG.length tH:Value).ownBlock∧some k_≠(.slice sW nC.length uA:Value).ownBlock∧some k_≠(.slice vY oB.length vG:Value).ownBlock∧some k_≠(.slice vK oE.length vQ:Value).ownBlock∧some k_≠(.slice sK oJ.length rY:Value).ownBlock∧k_≠bS∧k_≠bO) hU (fun k_ hk_=>⟨(Kd.fresh' (Kd.R_lt (by (with_reducible repeat (first|apply Kd.bC|apply Kd.bA|apply Kd.bB));exact (Kd.bW (Kd.bH (p:=⟨bO,2,none⟩) (Kd.bH (p:=⟨bO,1,none⟩) (Kd.bH (p:=⟨bO,0,none⟩) (Kd.eU eR.out gH.out (by decide)) (fun _ hk=>hk.2) (.slice fO eL.length fH)) (fun _ hk=>hk.2) (.slice fN eT.length fI)) (fun _ hk=>hk.2) (.slice gK e9.length gM)) (fun _ h_=>h_.1)))) k_ hk_),(Kd.fresh' (Kd.R_lt (by (with_reducible repeat (first|apply Kd.bC|apply Kd.bA|apply Kd.bB));exact (Kd.bW (Kd.bH (p:=⟨bO,2,none⟩) (Kd.bH (p:=⟨bO,1,none⟩) (Kd.bH (p:=⟨bO,0,none⟩) (Kd.eU eP.out gH.out (by decide)) (fun _ hk=>hk.2) (.slice fO eL.length fH)) (fun _ hk=>hk.2) (.slice fN eT.length fI)) (fun _ hk=>hk.2) (.slice gK e9.length gM)) (fun _ h_=>h_.1)))) k_ hk_),(Kd.fresh' (Kd.N_lt (by (with_reducible repeat (first|apply Kd.dS|apply Kd.dR|apply Kd.dQ));exact (Kd.dN (Kd.eN (p:=⟨bO,2,none⟩) (Kd.eN (p:=⟨bO,1,none⟩) (Kd.eN (p:=⟨bO,0,none⟩) (Kd.dN eZ.out (fun k_ hk=>(⟨hk,hk.2⟩:_∧k_≠bO))) (fun _ hk=>hk.2) (.slice fO eL.length fH)) (fun _ hk=>hk.2) (.slice fN eT.length fI)) (fun _ hk=>hk.2) (.slice gK e9.length gM)) (fun _ h_=>h_.1)))) k_ hk_),(Kd.fresh' (Kd.R_lt (by (with_reducible repeat (first|apply Kd.bC|apply Kd.bA|apply Kd.bB));exact (Kd.bW (Kd.bH (p:=⟨bO,2,none⟩) (Kd.bH (p:=⟨bO,1,none⟩) (Kd.bH (p:=⟨bO,0,none⟩) (Kd.eU gT.out gH.out (by decide)) (fun _ hk=>hk.2) (.slice fO eL.length fH)) (fun _ hk=>hk.2) (.slice fN eT.length fI)) (fun _ hk=>hk.2) (.slice gK e9.length gM)) (fun _ h_=>h_.1)))) k_ hk_),(Kd.fresh' (Kd.R_lt (by (with_reducible repeat (first|apply Kd.bC|apply Kd.bA|apply Kd.bB));exact (Kd.bW (Kd.bH (p:=⟨bO,2,none⟩) (Kd.bH (p:=⟨bO,1,none⟩) (Kd.bH (p:=⟨bO,0,none⟩) (Kd.eU gV.out gH.out (by decide)) (fun _ hk=>hk.2) (.slice fO eL.length fH)) (fun _ hk=>hk.2) (.slice fN eT.length fI)) (fun _ hk=>hk.2) (.slice gK e9.length gM)) (fun _ h_=>h_.1)))) k_ hk_),(Kd.fresh' (Kd.N_lt (by (with_reducible repeat (first|apply Kd.dS|apply Kd.dR|apply Kd.dQ));exact (Kd.dN (Kd.eN (p:=⟨bO,2,none⟩) (Kd.eN (p:=⟨bO,1,none⟩) (Kd.eN (p:=⟨bO,0,none⟩) (Kd.dN gW.out (fun k_ hk=>(⟨hk,hk.2⟩:_∧k_≠bO))) (fun _ hk=>hk.2) (.slice fO eL.length fH)) (fun _ hk=>hk.2) (.slice fN eT.length fI)) (fun _ hk=>hk.2) (.slice gK e9.length gM)) (fun _ h_=>h_.1)))) k_ hk_),(Kd.freshB (g:=bS) (o:=.cells #[.slice dL cX.length dM,.slice dY dO.length dZ,.slice fE eH.length fF] 30 (0,0)) (by (with_reducible repeat (first|refine aW ?_ _|refine aV ?_|refine aQ ?_ _));refine dT ?_ qJ.out _;(with_reducible repeat (first|refine aW ?_ _|refine aV ?_|refine aQ ?_ _));refine dT ?_ qJ.out _;(with_reducible repeat (first|refine aW ?_ _|refine aV ?_|refine aQ ?_ _));refine dT ?_ qJ.out _;(with_reducible repeat (first|refine aW ?_ _|refine aV ?_|refine aQ ?_ _));exact eW.out) k_ hk_),(Kd.freshB (g:=bO) (o:=.cells #[.slice fO eL.length fH,.slice fN eT.length fI,.slice gK e9.length gM] 30 (0,0)) (by (with_reducible repeat (first|refine aW ?_ _|refine aV ?_|refine aQ ?_ _));refine bX (cs:=#[.slice fO eL.length fH,.slice fN eT.length fI,.slice none 0 0]) ?_ 2 _ rfl;(with_reducible repeat (first|refine aW ?_ _|refine aV ?_|refine aQ ?_ _));refine bX (cs:=#[.slice fO eL.length fH,.slice none 0 0,.slice none 0 0]) ?_ 1 _ rfl;(with_reducible repeat (first|refine aW ?_ _|refine aV ?_|refine aQ ?_ _));refine bX (cs:=#[.slice none 0 0,.slice none 0 0,.slice none 0 0]) ?_ 0 _ rfl;(with_reducible repeat (first|refine aW ?_ _|refine aV ?_|refine aQ ?_ _));exact gH.out) k_ hk_)⟩)) (bZ (by repeat (first|(with_reducible first|exact HB.out|apply aI|apply aN|apply aJ|refine a8 ?_ lE.out|refine a8 ?_ qL.out)|exact HB.out))));have yY:=aC.mk (Kd.lH (Kd.b5 (ok':=fun k_=>some k_≠(.slice qN nD.length qW:Value).ownBlock∧some k_≠(.slice uK nG.length tH:Value).ownBlock∧some k_≠(.slice sW nC.length uA:Value).ownBlock∧some k_≠(.slice vY oB.length vG:Value).ownBlock∧some k_≠(.slice vK oE.length vQ:Value).ownBlock∧some k_≠(.slice sK oJ.length rY:Value).ownBlock∧k_≠bS∧k_≠bO) iB (fun k_ hk_=>⟨(Kd.fresh' (Kd.R_lt (by (with_reducible repeat (first|apply Kd.bC|apply Kd.bA|apply Kd.bB));exact (Kd.bW (Kd.bH (p:=⟨bO,2,none⟩) (Kd.bH (p:=⟨bO,1,none⟩) (Kd.bH (p:=⟨bO,0,none⟩) (Kd.eU eR.out gH.out (by decide)) (fun _ hk=>hk.2) (.slice fO eL.length fH)) (fun _ hk=>hk.2) (.slice fN eT.length fI)) (fun _ hk=>hk.2) (.slice gK e9.length gM)) (fun _ h_=>h_.1)))) k_ hk_),(Kd.fresh' (Kd.R_lt (by (with_reducible repeat (first|apply Kd.bC|apply Kd.bA|apply Kd.bB));exact (Kd.bW (Kd.bH (p:=⟨bO,2,none⟩) (Kd.bH (p:=⟨bO,1,none⟩) (Kd.bH (p:=⟨bO,0,none⟩) (Kd.eU eP.out gH.out (by decide)) (fun _ hk=>hk.2) (.slice fO eL.length fH)) (fun _ hk=>hk.2) (.slice fN eT.length fI)) (fun _ hk=>hk.2) (.slice gK e9.length gM)) (fun _ h_=>h_.1)))) k_ hk_),(Kd.fresh' (Kd.N_lt (by (with_reducible repeat (first|apply Kd.dS|apply Kd.dR|apply Kd.dQ));exact (Kd.dN (Kd.eN (p:=⟨bO,2,none⟩) (Kd.eN (p:=⟨bO,1,none⟩) (Kd.eN (p:=⟨bO,0,none⟩) (Kd.dN eZ.out (fun k_ hk=>(⟨hk,hk.2⟩:_∧k_≠bO))) (fun _ hk=>hk.2) (.slice fO eL.length fH)) (fun _ hk=>hk.2) (.slice fN eT.length fI)) (fun _ hk=>hk.2) (.slice gK e9.length gM)) (fun _ h_=>h_.1)))) k_ hk_),(Kd.fresh' (Kd.R_lt (by (with_reducible repeat (first|apply Kd.bC|apply Kd.bA|apply Kd.bB));exact (Kd.bW (Kd.bH (p:=⟨bO,2,none⟩) (Kd.bH (p:=⟨bO,1,none⟩) (Kd.bH (p:=⟨bO,0,none⟩) (Kd.eU gT.out gH.out (by decide)) (fun _ hk=>hk.2) (.slice fO eL.length fH)) (fun _ hk=>hk.2) (.slice fN eT.length fI)) (fun _ hk=>hk.2) (.slice gK e9.length gM)) (fun _ h_=>h_.1)))) k_ hk_),(Kd.fresh' (Kd.R_lt (by (with_reducible repeat (first|apply Kd.bC|apply Kd.bA|apply Kd.bB));exact (Kd.bW (Kd.bH (p:=⟨bO,2,none⟩) (Kd.bH (p:=⟨bO,1,none⟩) (Kd.bH (p:=⟨bO,0,none⟩) (Kd.eU gV.out gH.out (by decide)) (fun _ hk=>hk.2) (.slice fO eL.length fH)) (fun _ hk=>hk.2) (.slice fN eT.length fI)) (fun _ hk=>hk.2) (.slice gK e9.length gM)) (fun _ h_=>h_.1)))) k_ hk_),(Kd.fresh' (Kd.N_lt (by (with_reducible repeat (first|apply Kd.dS|apply Kd.dR|apply Kd.dQ));exact (Kd.dN (Kd.eN (p:=⟨bO,2,none⟩) (Kd.eN (p:=⟨bO,1,none⟩) (Kd.eN (p:=⟨bO,0,none⟩) (Kd.dN gW.out (fun k_ hk=>(⟨hk,hk.2⟩:_∧k_≠bO))) (fun _ hk=>hk.2) (.slice fO eL.length fH)) (fun _ hk=>hk.2) (.slice fN eT.length fI)) (fun _ hk=>hk.2) (.slice gK e9.length gM)) (fun _ h_=>h_.1)))) k_ hk_),(Kd.freshB (g:=bS) (o:=.cells #[.slice dL cX.length dM,.slice dY dO.length dZ,.slice fE eH.length fF] 30 (0,0)) (by (with_reducible repeat (first|refine aW ?_ _|refine aV ?_|refine aQ ?_ _));refine dT ?_ qJ.out _;(with_reducible repeat (first|refine aW ?_ _|refine aV ?_|refine aQ ?_ _));refine dT ?_ qJ.out _;(with_reducible repeat (first|refine aW ?_ _|refine aV ?_|refine aQ ?_ _));refine dT ?_ qJ.out _;(with_reducible repeat (first|refine aW ?_ _|refine aV ?_|refine aQ ?_ _));exact eW.out) k_ hk_),(Kd.freshB (g:=bO) (o:=.cells #[.slice fO eL.length fH,.slice fN eT.length fI,.slice gK e9.length gM] 30 (0,0)) (by (with_reducible repeat (first|refine aW ?_ _|refine aV ?_|refine aQ ?_ _));refine bX (cs:=#[.slice fO eL.length fH,.slice fN eT.length fI,.slice none 0 0]) ?_ 2 _ rfl;(with_reducible repeat (first|refine aW ?_ _|refine aV ?_|refine aQ ?_ _));refine bX (cs:=#[.slice fO eL.length fH,.slice none 0 0,.slice none 0 0]) ?_ 1 _ rfl;(with_reducible repeat (first|refine aW ?_ _|refine aV ?_|refine aQ ?_ _));refine bX (cs:=#[.slice none 0 0,.slice none 0 0,.slice none 0 0]) ?_ 0 _ rfl;(with_reducible repeat (first|refine aW ?_ _|refine aV ?_|refine aQ ?_ _));exact gH.out) k_ hk_)⟩)) (bZ (by repeat (first|(with_reducible first|exact HB.out|apply aI|apply aN|apply aJ|refine a8 ?_ lE.out|refine a8 ?_ qL.out)|exact HB.out))));have yH:=aC.mk (dB (g:=bS) (o:=.cells #[.slice dL cX.length dM,.slice dY dO.length dZ,.slice fE eH.length fF] 30 (0,0)) (by (with_reducible repeat (first|refine aW ?_ _|refine aV ?_|refine aQ ?_ _));refine dT ?_ qJ.out _;(with_reducible repeat (first|refine aW ?_ _|refine aV ?_|refine aQ ?_ _));refine dT ?_ qJ.out _;(with_reducible repeat (first|refine aW ?_ _|refine aV ?_|refine aQ ?_ _));refine dT ?_ qJ.out _;(with_reducible repeat (first|refine aW ?_ _|refine aV ?_|refine aQ ?_ _));exact eW.out) hb);have zJ:=aC.mk (dB (g:=bO) (o:=.cells #[.slice fO eL.length fH,.slice fN eT.length fI,.slice gK e9.length gM] 30 (0,0)) (by (with_reducible repeat (first|refine aW ?_ _|refine aV ?_|refine aQ ?_ _));refine bX (cs:=#[.slice fO eL.length fH,.slice fN eT.length fI,.slice none 0 0]) ?_ 2 _ rfl;(with_reducible repeat (first|refine aW ?_ _|refine aV ?_|refine aQ ?_ _));refine bX (cs:=#[.slice fO eL.length fH,.slice none 0 0,.slice none 0 0]) ?_ 1 _ rfl;(with_reducible repeat (first|refine aW ?_ _|refine aV ?_|refine aQ ?_ _));refine bX (cs:=#[.slice none 0 0,.slice none 0 0,.slice none 0 0]) ?_ 0 _ rfl;(with_reducible repeat (first|refine aW ?_ _|refine aV ?_|refine aQ ?_ _));exact gH.out) hb);have xX:=aC.mk (bQ (by repeat (first|(with_reducible first|exact HB.out|apply aI|apply aN|apply aJ|refine a8 ?_ lE.out|refine a8 ?_ qL.out)|exact HB.out)) hb);clear eR;clear eP;clear eZ;clear gT;clear gV;clear gW;clear mR;clear mG;clear mY;clear rN;clear rS;clear rA;clear eW;clear gH;clear HB;have eR:=aM;have eP:=aU;have eZ:=aX;have gT:=bD;have gV:=bY;have gW:=cM;have mR:=dH;have mG:=gG;have mY:=jV;have rN:=nT;have rS:=qB;have rA:=qF;have B9:=p9;have BH:=sQ;have AX:=yY;have eW:=yH;have gH:=zJ;have HB:=xX;clear aM aU aX bD bY cM dH gG jV nT qB qF p9 sQ yY yH zJ xX;(try clear hb);(try clear bR);(try clear hk);(try clear hi);(try clear cI);(try clear hU);(try clear iB))|((with_reducible refine iJ (N:=15) rfl ?_);refine lF ?hg (N:=15) ?hd (cs:=#[.slice none 0 0,.slice none 0 0,.slice none 0 0]) (t:=30) ?hr ?_;(case hd=>rfl);(case hg=>rfl);(case hr=>first|(go_simp;done)|(go_simp;rfl));intro bV hg w64 hbox hb;have aM:=aC.mk (Kd.dC (by (with_reducible repeat (first|apply Kd.bC|apply Kd.bA|apply Kd.bB));exact eR.out) hb);have aU:=aC.mk (Kd.dC (by (with_reducible repeat (first|apply Kd.bC|apply Kd.bA|apply Kd.bB));exact eP.out) hb);have aX:=aC.mk (Kd.j4 (Kd.EU (by (with_reducible repeat (first|apply Kd.dS|apply Kd.dR|apply Kd.dQ));exact eZ.out) bV (Nat.le_of_eq hg.symm)) hb);have bD:=aC.mk (Kd.dC (by (with_reducible repeat (first|apply Kd.bC|apply Kd.bA|apply Kd.bB));exact gT.out) hb);have bY:=aC.mk (Kd.dC (by (with_reducible repeat (first|apply Kd.bC|apply Kd.bA|apply Kd.bB));exact gV.out) hb);have cM:=aC.mk (Kd.j4 (Kd.EU (by (with_reducible repeat (first|apply Kd.dS|apply Kd.dR|apply Kd.dQ));exact gW.out) bV (Nat.le_of_eq hg.symm)) hb);have dH:=aC.mk (Kd.fV (Kd.jB (by (with_reducible repeat (first|apply Kd.cQ|apply Kd.cT|apply Kd.cS));exact mR.out) bV (Nat.le_of_eq hg.symm)) hb);have gG:=aC.mk (Kd.fV (Kd.jB (by (with_reducible repeat (first|apply Kd.cQ|apply Kd.cT|apply Kd.cS));exact mG.out) bV (Nat.le_of_eq hg.symm)) hb);have jV:=aC.mk (Kd.fV (Kd.jB (by (with_reducible repeat (first|apply Kd.cQ|apply Kd.cT|apply Kd.cS));exact mY.out) bV (Nat.le_of_eq hg.symm)) hb);have nT:=aC.mk (Kd.fV (Kd.jB (by (with_reducible repeat (first|apply Kd.cQ|apply Kd.cT|apply Kd.cS));exact rN.out) bV (Nat.le_of_eq hg.symm)) hb);have qB:=aC.mk (Kd.fV (Kd.jB (by (with_reducible repeat (first|apply Kd.cQ|apply Kd.cT|apply Kd.cS));exact rS.out) bV (Nat.le_of_eq hg.symm)) hb);have qF:=aC.mk (Kd.fV (Kd.jB (by (with_reducible repeat (first|apply Kd.cQ|apply Kd.cT|apply Kd.cS));exact rA.out) bV (Nat.le_of_eq hg.symm)) hb);have p9:=aC.mk (Kd.fV (Kd.jB (by (with_reducible repeat (first|apply Kd.cQ|apply Kd.cT|apply Kd.cS));exact B9.out) bV (Nat.le_of_eq hg.symm)) hb);have sQ:=aC.mk (Kd.fV (Kd.jB (by (with_reducible repeat (first|apply Kd.cQ|apply Kd.cT|apply Kd.cS));exact BH.out) bV (Nat.le_of_eq hg.symm)) hb);have yY:=aC.mk (Kd.fV (Kd.jB (by (with_reducible repeat (first|apply Kd.cQ|apply Kd.cT|apply Kd.cS));exact AX.out) bV (Nat.le_of_eq hg.symm)) hb);have yH:=aC.mk (dB (g:=bS) (o:=.cells #[.slice dL cX.length dM,.slice dY dO.length dZ,.slice fE eH.length fF] 30 (0,0)) (by (with_reducible repeat (first|refine aW ?_ _|refine aV ?_|refine aQ ?_ _));exact eW.out) hb);have zJ:=aC.mk (dB (g:=bO) (o:=.cells #[.slice fO eL.length fH,.slice fN eT.length fI,.slice gK e9.length gM] 30 (0,0)) (by (with_reducible repeat (first|refine aW ?_ _|refine aV ?_|refine aQ ?_ _));exact gH.out) hb);have xX:=aC.mk (bQ (by repeat (first|(with_reducible first|exact HB.out|apply aI|apply aN|apply aJ|refine a8 ?_ lE.out|refine a8 ?_ qL.out)|exact HB.out)) hb);have I6:=aC.mk (hbox);have ag0:=aC.mk ((by rw [hg];exact (bZ (by repeat (first|(with_reducible first|exact HB.out|apply aI|apply aN|apply aJ|refine a8 ?_ lE.out|refine a8 ?_ qL.out)|exact HB.out))):w.heap.size≤bV));have abN:=aC.mk ((by rw [hg];exact (bZ (by repeat (first|(with_reducible first|exact HB.out|apply aI|apply aN|apply aJ|refine a8 ?_ lE.out|refine a8 ?_ qL.out)|exact HB.out))):w.heap.size≤bV));have aj2:=aC.mk ((by rw [hg];exact Nat.ne_of_lt (iR (g:=bS) (o:=.cells #[.slice dL cX.length dM,.slice dY dO.length dZ,.slice fE eH.length fF] 30 (0,0)) (by (with_reducible repeat (first|refine aW ?_ _|refine aV ?_|refine aQ ?_ _));exact eW.out)):bS≠bV));have acE:=aC.mk ((by rw [hg];exact Nat.ne_of_gt (iR (g:=bS) (o:=.cells #[.slice dL cX.length dM,.slice dY dO.length dZ,.slice fE eH.length fF] 30 (0,0)) (by (with_reducible repeat (first|refine aW ?_ _|refine aV ?_|refine aQ ?_ _));exact eW.out)):bV≠bS));have ad4:=aC.mk ((by rw [hg];exact Nat.ne_of_lt (iR (g:=bO) (o:=.cells #[.slice fO eL.length fH,.slice fN eT.length fI,.slice gK e9.length gM] 30 (0,0)) (by (with_reducible repeat (first|refine aW ?_ _|refine aV ?_|refine aQ ?_ _));exact gH.out)):bO≠bV));have afD:=aC.mk ((by rw [hg];exact Nat.ne_of_gt (iR (g:=bO) (o:=.cells #[.slice fO eL.length fH,.slice fN eT.length fI,.slice gK e9.length gM] 30 (0,0)) (by (with_reducible repeat (first|refine aW ?_ _|refine aV ?_|refine aQ ?_ _));exact gH.out)):bV≠bO));clear eR;clear eP;clear eZ;clear gT;clear gV;clear gW;clear mR;clear mG;clear mY;clear rN;clear rS;clear rA;clear B9;clear BH;clear AX;clear eW;clear gH;clear HB;have eR:=aM;have eP:=aU;have eZ:=aX;have gT:=bD;have gV:=bY;have gW:=cM;have mR:=dH;have mG:=gG;have mY:=jV;have rN:=nT;have rS:=qB;have rA:=qF;have B9:=p9;have BH:=sQ;have AX:=yY;have eW:=yH;have gH:=zJ;have HB:=xX;have oF:=I6;have aKI:=ag0;have BF:=abN;have tB:=aj2;have aiZ:=acE;have tL:=ad4;have aeG:=afD;clear aM aU aX bD bY cM dH gG jV nT qB qF p9 sQ yY yH zJ xX I6 ag0 abN aj2 acE ad4 afD;clear hb hbox hg;obtain ⟨fX,fZ,R4⟩:=Kd.lR B9.out;subst R4;have aPA:=aiZ.out;have aDG:=tB.out;have asV:=aeG.out;have awY:=tL.out;have S4:w64.cell? ⟨bV,0,none⟩=some (.slice none 0 0):=(aD oF.out 0).trans rfl;have WJ:w64.cell? ⟨bV,1,none⟩=some (.slice none 0 0):=(aD oF.out 1).trans rfl;have XL:w64.cell? ⟨bV,2,none⟩=some (.slice none 0 0):=(aD oF.out 2).trans rfl;have RY:=aT oF.out 0;have UX:=aT oF.out 1;have S1:=aT oF.out 2;obtain ⟨iQ,iN,al5⟩:=Kd.lR BH.out;subst al5;obtain ⟨iE,iD,VW⟩:=Kd.lR AX.out;subst VW))
       (try simp only [Act.put,q1_,q2_,q3_])
       go_cut [76] (fun v76 wc=>∃ (kq:Nat) (P5:Bool),v76= .bool P5∧aC (dA.j1 kq P5 cX dO eH eL eT e9 gB gL gZ=some r)∧aC (kq≤gJ)∧aC (Kd.V k59 59 wc w.heap.size (fun k_=>k_≠bS∧k_≠bO∧k_≠bV) (.slice dL cX.length dM) cX)∧aC (Kd.V k59 59 wc w.heap.size (fun k_=>k_≠bS∧k_≠bO∧k_≠bV) (.slice dY dO.length dZ) dO)∧aC (Kd.V k46 46 wc w.heap.size (fun k_=>k_≠bS∧k_≠bO∧k_≠bV) (.slice fE eH.length fF) eH)∧aC (Kd.V k59 59 wc w.heap.size (fun k_=>k_≠bS∧k_≠bO∧k_≠bV) (.slice fO eL.length fH) eL)∧aC (Kd.V k59 59 wc w.heap.size (fun k_=>k_≠bS∧k_≠bO∧k_≠bV) (.slice fN eT.length fI) eT)∧aC (Kd.V k46 46 wc w.heap.size (fun k_=>k_≠bS∧k_≠bO∧k_≠bV) (.slice gK e9.length gM) e9)∧aC (Kd.V k59 59 wc w.heap.size (fun k_=>k_≠bS∧k_≠bO∧k_≠bV) (.slice fX gB.length fZ) gB)∧aC (Kd.V k59 59 wc w.heap.size (fun k_=>k_≠bS∧k_≠bO∧k_≠bV) (.slice iQ gL.length iN) gL)∧aC (Kd.V k46 46 wc w.heap.size (fun k_=>k_≠bS∧k_≠bO∧k_≠bV) (.slice iE gZ.length iD) gZ)∧aC (wc.heap[bS]? =some (.cells #[(.slice dL cX.length dM),(.slice dY dO.length dZ),(.slice fE eH.length fF)] 30 (0,0)))∧aC (wc.heap[bO]? =some (.cells #[(.slice fO eL.length fH),(.slice fN eT.length fI),(.slice gK e9.length gM)] 30 (0,0)))∧aC (wc.heap[bV]? =some (.cells #[(.slice fX gB.length fZ),(.slice iQ gL.length iN),(.slice iE gZ.length iD)] 30 (0,0)))∧aC (Below w.heap.size w wc))
       case first=>
        have H:=Y0.out;clear Y0;by_cases yZ:xR=0
        ·rw [if_pos yZ] at H;have DI:(xR==0)=true:=beq_iff_eq.mpr yZ;have aeK:(xR !=0)=false:=bne_eq_false_iff_eq.mpr yZ;clear yZ;(first|rw [DI]|(simp only [aG,aH];rw [DI])|skip)
         by_cases zD:yN=0
         ·rw [if_pos zD] at H;have ai1:(yN==0)=true:=beq_iff_eq.mpr zD;have ajX:(yN !=0)=false:=bne_eq_false_iff_eq.mpr zD;clear zD;have H':=aC.mk H;clear H;go_wp2
          go_meet
          case rel=>exact ⟨_,((SW !=0)),(by first|rfl|(simp;done)|(simp [*];done)),H',⟨by have:=VH.out;first|omega|exact Nat.le_refl _⟩,⟨by (with_reducible repeat (first|apply Kd.cQ|apply Kd.cT|apply Kd.cS));exact Kd.b5 (Kd.bM (p:=⟨bV,2,none⟩) (Kd.bM (p:=⟨bV,1,none⟩) (Kd.bM (p:=⟨bV,0,none⟩) (Kd.b5 mR.out (fun k_ hk=>(⟨hk,hk.2⟩:_∧k_≠bV))) (fun _ hk=>hk.2) (.slice fX gB.length fZ)) (fun _ hk=>hk.2) (.slice iQ gL.length iN)) (fun _ hk=>hk.2) (.slice iE gZ.length iD)) (fun _ hk=>⟨hk.1.1.1.2,⟨hk.1.1.2,hk.1.2⟩⟩)⟩,⟨by (with_reducible repeat (first|apply Kd.cQ|apply Kd.cT|apply Kd.cS));exact Kd.b5 (Kd.bM (p:=⟨bV,2,none⟩) (Kd.bM (p:=⟨bV,1,none⟩) (Kd.bM (p:=⟨bV,0,none⟩) (Kd.b5 mG.out (fun k_ hk=>(⟨hk,hk.2⟩:_∧k_≠bV))) (fun _ hk=>hk.2) (.slice fX gB.length fZ)) (fun _ hk=>hk.2) (.slice iQ gL.length iN)) (fun _ hk=>hk.2) (.slice iE gZ.length iD)) (fun _ hk=>⟨hk.1.1.1.2,⟨hk.1.1.2,hk.1.2⟩⟩)⟩,⟨by (with_reducible repeat (first|apply Kd.cQ|apply Kd.cT|apply Kd.cS));exact Kd.b5 (Kd.bM (p:=⟨bV,2,none⟩) (Kd.bM (p:=⟨bV,1,none⟩) (Kd.bM (p:=⟨bV,0,none⟩) (Kd.b5 mY.out (fun k_ hk=>(⟨hk,hk.2⟩:_∧k_≠bV))) (fun _ hk=>hk.2) (.slice fX gB.length fZ)) (fun _ hk=>hk.2) (.slice iQ gL.length iN)) (fun _ hk=>hk.2) (.slice iE gZ.length iD)) (fun _ hk=>⟨hk.1.1.1.2,⟨hk.1.1.2,hk.1.2⟩⟩)⟩,⟨by (with_reducible repeat (first|apply Kd.cQ|apply Kd.cT|apply Kd.cS));exact Kd.b5 (Kd.bM (p:=⟨bV,2,none⟩) (Kd.bM (p:=⟨bV,1,none⟩) (Kd.bM (p:=⟨bV,0,none⟩) (Kd.b5 rN.out (fun k_ hk=>(⟨hk,hk.2⟩:_∧k_≠bV))) (fun _ hk=>hk.2) (.slice fX gB.length fZ)) (fun _ hk=>hk.2) (.slice iQ gL.length iN)) (fun _ hk=>hk.2) (.slice iE gZ.length iD)) (fun _ hk=>⟨hk.1.1.1.2.2.2.2.2.2,⟨hk.1.1.2,hk.1.2⟩⟩)⟩,⟨by (with_reducible repeat (first|apply Kd.cQ|apply Kd.cT|apply Kd.cS));exact Kd.b5 (Kd.bM (p:=⟨bV,2,none⟩) (Kd.bM (p:=⟨bV,1,none⟩) (Kd.bM (p:=⟨bV,0,none⟩) (Kd.b5 rS.out (fun k_ hk=>(⟨hk,hk.2⟩:_∧k_≠bV))) (fun _ hk=>hk.2) (.slice fX gB.length fZ)) (fun _ hk=>hk.2) (.slice iQ gL.length iN)) (fun _ hk=>hk.2) (.slice iE gZ.length iD)) (fun _ hk=>⟨hk.1.1.1.2.2.2.2.2.2,⟨hk.1.1.2,hk.1.2⟩⟩)⟩,⟨by (with_reducible repeat (first|apply Kd.cQ|apply Kd.cT|apply Kd.cS));exact Kd.b5 (Kd.bM (p:=⟨bV,2,none⟩) (Kd.bM (p:=⟨bV,1,none⟩) (Kd.bM (p:=⟨bV,0,none⟩) (Kd.b5 rA.out (fun k_ hk=>(⟨hk,hk.2⟩:_∧k_≠bV))) (fun _ hk=>hk.2) (.slice fX gB.length fZ)) (fun _ hk=>hk.2) (.slice iQ gL.length iN)) (fun _ hk=>hk.2) (.slice iE gZ.length iD)) (fun _ hk=>⟨hk.1.1.1.2.2.2.2.2.2,⟨hk.1.1.2,hk.1.2⟩⟩)⟩,⟨by (with_reducible repeat (first|apply Kd.cQ|apply Kd.cT|apply Kd.cS));exact Kd.b5 (Kd.bM (p:=⟨bV,2,none⟩) (Kd.bM (p:=⟨bV,1,none⟩) (Kd.bM (p:=⟨bV,0,none⟩) (Kd.b5 B9.out (fun k_ hk=>(⟨hk,hk.2⟩:_∧k_≠bV))) (fun _ hk=>hk.2) (.slice fX gB.length fZ)) (fun _ hk=>hk.2) (.slice iQ gL.length iN)) (fun _ hk=>hk.2) (.slice iE gZ.length iD)) (fun _ hk=>⟨hk.1.1.2.2.2.2.2.2.1,⟨hk.1.1.2.2.2.2.2.2.2,hk.1.2⟩⟩)⟩,⟨by (with_reducible repeat (first|apply Kd.cQ|apply Kd.cT|apply Kd.cS));exact Kd.b5 (Kd.bM (p:=⟨bV,2,none⟩) (Kd.bM (p:=⟨bV,1,none⟩) (Kd.bM (p:=⟨bV,0,none⟩) (Kd.b5 BH.out (fun k_ hk=>(⟨hk,hk.2⟩:_∧k_≠bV))) (fun _ hk=>hk.2) (.slice fX gB.length fZ)) (fun _ hk=>hk.2) (.slice iQ gL.length iN)) (fun _ hk=>hk.2) (.slice iE gZ.length iD)) (fun _ hk=>⟨hk.1.1.2.2.2.2.2.2.1,⟨hk.1.1.2.2.2.2.2.2.2,hk.1.2⟩⟩)⟩,⟨by (with_reducible repeat (first|apply Kd.cQ|apply Kd.cT|apply Kd.cS));exact Kd.b5 (Kd.bM (p:=⟨bV,2,none⟩) (Kd.bM (p:=⟨bV,1,none⟩) (Kd.bM (p:=⟨bV,0,none⟩) (Kd.b5 AX.out (fun k_ hk=>(⟨hk,hk.2⟩:_∧k_≠bV))) (fun _ hk=>hk.2) (.slice fX gB.length fZ)) (fun _ hk=>hk.2) (.slice iQ gL.length iN)) (fun _ hk=>hk.2) (.slice iE gZ.length iD)) (fun _ hk=>⟨hk.1.1.2.2.2.2.2.2.1,⟨hk.1.1.2.2.2.2.2.2.2,hk.1.2⟩⟩)⟩,⟨by (with_reducible repeat (first|refine aW ?_ _|refine aV ?_|refine aQ ?_ _));refine dT ?_ tB.out _;(with_reducible repeat (first|refine aW ?_ _|refine aV ?_|refine aQ ?_ _));refine dT ?_ tB.out _;(with_reducible repeat (first|refine aW ?_ _|refine aV ?_|refine aQ ?_ _));refine dT ?_ tB.out _;(with_reducible repeat (first|refine aW ?_ _|refine aV ?_|refine aQ ?_ _));exact eW.out⟩,⟨by (with_reducible repeat (first|refine aW ?_ _|refine aV ?_|refine aQ ?_ _));refine dT ?_ tL.out _;(with_reducible repeat (first|refine aW ?_ _|refine aV ?_|refine aQ ?_ _));refine dT ?_ tL.out _;(with_reducible repeat (first|refine aW ?_ _|refine aV ?_|refine aQ ?_ _));refine dT ?_ tL.out _;(with_reducible repeat (first|refine aW ?_ _|refine aV ?_|refine aQ ?_ _));exact gH.out⟩,⟨by (with_reducible repeat (first|refine aW ?_ _|refine aV ?_|refine aQ ?_ _));refine bX (cs:=#[.slice fX gB.length fZ,.slice iQ gL.length iN,.slice none 0 0]) ?_ 2 _ rfl;(with_reducible repeat (first|refine aW ?_ _|refine aV ?_|refine aQ ?_ _));refine bX (cs:=#[.slice fX gB.length fZ,.slice none 0 0,.slice none 0 0]) ?_ 1 _ rfl;(with_reducible repeat (first|refine aW ?_ _|refine aV ?_|refine aQ ?_ _));refine bX (cs:=#[.slice none 0 0,.slice none 0 0,.slice none 0 0]) ?_ 0 _ rfl;(with_reducible repeat (first|refine aW ?_ _|refine aV ?_|refine aQ ?_ _));exact oF.out⟩,⟨by repeat (first|(with_reducible first|exact HB.out|apply aI|apply aN|apply aJ|refine a8 ?_ lE.out|refine a8 ?_ qL.out|refine a8 ?_ BF.out)|exact HB.out)⟩⟩
         ·rw [if_neg zD] at H;have ai1:(yN==0)=false:=beq_eq_false_iff_ne.mpr zD;have ajX:(yN !=0)=true:=bne_iff_ne.mpr zD;have H':=aC.mk H;clear H;go_wp2
          go_meet
          case rel=>exact ⟨_,(true),(by first|rfl|(simp;done)|(simp [*];done)),H',⟨by have:=VH.out;first|omega|exact Nat.le_refl _⟩,⟨by (with_reducible repeat (first|apply Kd.cQ|apply Kd.cT|apply Kd.cS));exact Kd.b5 (Kd.bM (p:=⟨bV,2,none⟩) (Kd.bM (p:=⟨bV,1,none⟩) (Kd.bM (p:=⟨bV,0,none⟩) (Kd.b5 mR.out (fun k_ hk=>(⟨hk,hk.2⟩:_∧k_≠bV))) (fun _ hk=>hk.2) (.slice fX gB.length fZ)) (fun _ hk=>hk.2) (.slice iQ gL.length iN)) (fun _ hk=>hk.2) (.slice iE gZ.length iD)) (fun _ hk=>⟨hk.1.1.1.2,⟨hk.1.1.2,hk.1.2⟩⟩)⟩,⟨by (with_reducible repeat (first|apply Kd.cQ|apply Kd.cT|apply Kd.cS));exact Kd.b5 (Kd.bM (p:=⟨bV,2,none⟩) (Kd.bM (p:=⟨bV,1,none⟩) (Kd.bM (p:=⟨bV,0,none⟩) (Kd.b5 mG.out (fun k_ hk=>(⟨hk,hk.2⟩:_∧k_≠bV))) (fun _ hk=>hk.2) (.slice fX gB.length fZ)) (fun _ hk=>hk.2) (.slice iQ gL.length iN)) (fun _ hk=>hk.2) (.slice iE gZ.length iD)) (fun _ hk=>⟨hk.1.1.1.2,⟨hk.1.1.2,hk.1.2⟩⟩)⟩,⟨by (with_reducible repeat (first|apply Kd.cQ|apply Kd.cT|apply Kd.cS));exact Kd.b5 (Kd.bM (p:=⟨bV,2,none⟩) (Kd.bM (p:=⟨bV,1,none⟩) (Kd.bM (p:=⟨bV,0,none⟩) (Kd.b5 mY.out (fun k_ hk=>(⟨hk,hk.2⟩:_∧k_≠bV))) (fun _ hk=>hk.2) (.slice fX gB.length fZ)) (fun _ hk=>hk.2) (.slice iQ gL.length iN)) (fun _ hk=>hk.2) (.slice iE gZ.length iD)) (fun _ hk=>⟨hk.1.1.1.2,⟨hk.1.1.2,hk.1.2⟩⟩)⟩,⟨by (with_reducible repeat (first|apply Kd.cQ|apply Kd.cT|apply Kd.cS));exact Kd.b5 (Kd.bM (p:=⟨bV,2,none⟩) (Kd.bM (p:=⟨bV,1,none⟩) (Kd.bM (p:=⟨bV,0,none⟩) (Kd.b5 rN.out (fun k_ hk=>(⟨hk,hk.2⟩:_∧k_≠bV))) (fun _ hk=>hk.2) (.slice fX gB.length fZ)) (fun _ hk=>hk.2) (.slice iQ gL.length iN)) (fun _ hk=>hk.2) (.slice iE gZ.length iD)) (fun _ hk=>⟨hk.1.1.1.2.2.2.2.2.2,⟨hk.1.1.2,hk.1.2⟩⟩)⟩,⟨by (with_reducible repeat (first|apply Kd.cQ|apply Kd.cT|apply Kd.cS));exact Kd.b5 (Kd.bM (p:=⟨bV,2,none⟩) (Kd.bM (p:=⟨bV,1,none⟩) (Kd.bM (p:=⟨bV,0,none⟩) (Kd.b5 rS.out (fun k_ hk=>(⟨hk,hk.2⟩:_∧k_≠bV))) (fun _ hk=>hk.2) (.slice fX gB.length fZ)) (fun _ hk=>hk.2) (.slice iQ gL.length iN)) (fun _ hk=>hk.2) (.slice iE gZ.length iD)) (fun _ hk=>⟨hk.1.1.1.2.2.2.2.2.2,⟨hk.1.1.2,hk.1.2⟩⟩)⟩,⟨by (with_reducible repeat (first|apply Kd.cQ|apply Kd.cT|apply Kd.cS));exact Kd.b5 (Kd.bM (p:=⟨bV,2,none⟩) (Kd.bM (p:=⟨bV,1,none⟩) (Kd.bM (p:=⟨bV,0,none⟩) (Kd.b5 rA.out (fun k_ hk=>(⟨hk,hk.2⟩:_∧k_≠bV))) (fun _ hk=>hk.2) (.slice fX gB.length fZ)) (fun _ hk=>hk.2) (.slice iQ gL.length iN)) (fun _ hk=>hk.2) (.slice iE gZ.length iD)) (fun _ hk=>⟨hk.1.1.1.2.2.2.2.2.2,⟨hk.1.1.2,hk.1.2⟩⟩)⟩,⟨by (with_reducible repeat (first|apply Kd.cQ|apply Kd.cT|apply Kd.cS));exact Kd.b5 (Kd.bM (p:=⟨bV,2,none⟩) (Kd.bM (p:=⟨bV,1,none⟩) (Kd.bM (p:=⟨bV,0,none⟩) (Kd.b5 B9.out (fun k_ hk=>(⟨hk,hk.2⟩:_∧k_≠bV))) (fun _ hk=>hk.2) (.slice fX gB.length fZ)) (fun _ hk=>hk.2) (.slice iQ gL.length iN)) (fun _ hk=>hk.2) (.slice iE gZ.length iD)) (fun _ hk=>⟨hk.1.1.2.2.2.2.2.2.1,⟨hk.1.1.2.2.2.2.2.2.2,hk.1.2⟩⟩)⟩,⟨by (with_reducible repeat (first|apply Kd.cQ|apply Kd.cT|apply Kd.cS));exact Kd.b5 (Kd.bM (p:=⟨bV,2,none⟩) (Kd.bM (p:=⟨bV,1,none⟩) (Kd.bM (p:=⟨bV,0,none⟩) (Kd.b5 BH.out (fun k_ hk=>(⟨hk,hk.2⟩:_∧k_≠bV))) (fun _ hk=>hk.2) (.slice fX gB.length fZ)) (fun _ hk=>hk.2) (.slice iQ gL.length iN)) (fun _ hk=>hk.2) (.slice iE gZ.length iD)) (fun _ hk=>⟨hk.1.1.2.2.2.2.2.2.1,⟨hk.1.1.2.2.2.2.2.2.2,hk.1.2⟩⟩)⟩,⟨by (with_reducible repeat (first|apply Kd.cQ|apply Kd.cT|apply Kd.cS));exact Kd.b5 (Kd.bM (p:=⟨bV,2,none⟩) (Kd.bM (p:=⟨bV,1,none⟩) (Kd.bM (p:=⟨bV,0,none⟩) (Kd.b5 AX.out (fun k_ hk=>(⟨hk,hk.2⟩:_∧k_≠bV))) (fun _ hk=>hk.2) (.slice fX gB.length fZ)) (fun _ hk=>hk.2) (.slice iQ gL.length iN)) (fun _ hk=>hk.2) (.slice iE gZ.length iD)) (fun _ hk=>⟨hk.1.1.2.2.2.2.2.2.1,⟨hk.1.1.2.2.2.2.2.2.2,hk.1.2⟩⟩)⟩,⟨by (with_reducible repeat (first|refine aW ?_ _|refine aV ?_|refine aQ ?_ _));refine dT ?_ tB.out _;(with_reducible repeat (first|refine aW ?_ _|refine aV ?_|refine aQ ?_ _));refine dT ?_ tB.out _;(with_reducible repeat (first|refine aW ?_ _|refine aV ?_|refine aQ ?_ _));refine dT ?_ tB.out _;(with_reducible repeat (first|refine aW ?_ _|refine aV ?_|refine aQ ?_ _));exact eW.out⟩,⟨by (with_reducible repeat (first|refine aW ?_ _|refine aV ?_|refine aQ ?_ _));refine dT ?_ tL.out _;(with_reducible repeat (first|refine aW ?_ _|refine aV ?_|refine aQ ?_ _));refine dT ?_ tL.out _;(with_reducible repeat (first|refine aW ?_ _|refine aV ?_|refine aQ ?_ _));refine dT ?_ tL.out _;(with_reducible repeat (first|refine aW ?_ _|refine aV ?_|refine aQ ?_ _));exact gH.out⟩,⟨by (with_reducible repeat (first|refine aW ?_ _|refine aV ?_|refine aQ ?_ _));refine bX (cs:=#[.slice fX gB.length fZ,.slice iQ gL.length iN,.slice none 0 0]) ?_ 2 _ rfl;(with_reducible repeat (first|refine aW ?_ _|refine aV ?_|refine aQ ?_ _));refine bX (cs:=#[.slice fX gB.length fZ,.slice none 0 0,.slice none 0 0]) ?_ 1 _ rfl;(with_reducible repeat (first|refine aW ?_ _|refine aV ?_|refine aQ ?_ _));refine bX (cs:=#[.slice none 0 0,.slice none 0 0,.slice none 0 0]) ?_ 0 _ rfl;(with_reducible repeat (first|refine aW ?_ _|refine aV ?_|refine aQ ?_ _));exact oF.out⟩,⟨by repeat (first|(with_reducible first|exact HB.out|apply aI|apply aN|apply aJ|refine a8 ?_ lE.out|refine a8 ?_ qL.out|refine a8 ?_ BF.out)|exact HB.out)⟩⟩
        ·rw [if_neg yZ] at H;have DI:(xR==0)=false:=beq_eq_false_iff_ne.mpr yZ;have aeK:(xR !=0)=true:=bne_iff_ne.mpr yZ;(first|rw [DI]|(simp only [aG,aH];rw [DI])|skip)
         have H':=aC.mk H;clear H;go_wp2
         go_meet
         case rel=>exact ⟨_,(true),(by first|rfl|(simp;done)|(simp [*];done)),H',⟨by have:=VH.out;first|omega|exact Nat.le_refl _⟩,⟨by (with_reducible repeat (first|apply Kd.cQ|apply Kd.cT|apply Kd.cS));exact Kd.b5 (Kd.bM (p:=⟨bV,2,none⟩) (Kd.bM (p:=⟨bV,1,none⟩) (Kd.bM (p:=⟨bV,0,none⟩) (Kd.b5 mR.out (fun k_ hk=>(⟨hk,hk.2⟩:_∧k_≠bV))) (fun _ hk=>hk.2) (.slice fX gB.length fZ)) (fun _ hk=>hk.2) (.slice iQ gL.length iN)) (fun _ hk=>hk.2) (.slice iE gZ.length iD)) (fun _ hk=>⟨hk.1.1.1.2,⟨hk.1.1.2,hk.1.2⟩⟩)⟩,⟨by (with_reducible repeat (first|apply Kd.cQ|apply Kd.cT|apply Kd.cS));exact Kd.b5 (Kd.bM (p:=⟨bV,2,none⟩) (Kd.bM (p:=⟨bV,1,none⟩) (Kd.bM (p:=⟨bV,0,none⟩) (Kd.b5 mG.out (fun k_ hk=>(⟨hk,hk.2⟩:_∧k_≠bV))) (fun _ hk=>hk.2) (.slice fX gB.length fZ)) (fun _ hk=>hk.2) (.slice iQ gL.length iN)) (fun _ hk=>hk.2) (.slice iE gZ.length iD)) (fun _ hk=>⟨hk.1.1.1.2,⟨hk.1.1.2,hk.1.2⟩⟩)⟩,⟨by (with_reducible repeat (first|apply Kd.cQ|apply Kd.cT|apply Kd.cS));exact Kd.b5 (Kd.bM (p:=⟨bV,2,none⟩) (Kd.bM (p:=⟨bV,1,none⟩) (Kd.bM (p:=⟨bV,0,none⟩) (Kd.b5 mY.out (fun k_ hk=>(⟨hk,hk.2⟩:_∧k_≠bV))) (fun _ hk=>hk.2) (.slice fX gB.length fZ)) (fun _ hk=>hk.2) (.slice iQ gL.length iN)) (fun _ hk=>hk.2) (.slice iE gZ.length iD)) (fun _ hk=>⟨hk.1.1.1.2,⟨hk.1.1.2,hk.1.2⟩⟩)⟩,⟨by (with_reducible repeat (first|apply Kd.cQ|apply Kd.cT|apply Kd.cS));exact Kd.b5 (Kd.bM (p:=⟨bV,2,none⟩) (Kd.bM (p:=⟨bV,1,none⟩) (Kd.bM (p:=⟨bV,0,none⟩) (Kd.b5 rN.out (fun k_ hk=>(⟨hk,hk.2⟩:_∧k_≠bV))) (fun _ hk=>hk.2) (.slice fX gB.length fZ)) (fun _ hk=>hk.2) (.slice iQ gL.length iN)) (fun _ hk=>hk.2) (.slice iE gZ.length iD)) (fun _ hk=>⟨hk.1.1.1.2.2.2.2.2.2,⟨hk.1.1.2,hk.1.2⟩⟩)⟩,⟨by (with_reducible repeat (first|apply Kd.cQ|apply Kd.cT|apply Kd.cS));exact Kd.b5 (Kd.bM (p:=⟨bV,2,none⟩) (Kd.bM (p:=⟨bV,1,none⟩) (Kd.bM (p:=⟨bV,0,none⟩) (Kd.b5 rS.out (fun k_ hk=>(⟨hk,hk.2⟩:_∧k_≠bV))) (fun _ hk=>hk.2) (.slice fX gB.length fZ)) (fun _ hk=>hk.2) (.slice iQ gL.length iN)) (fun _ hk=>hk.2) (.slice iE gZ.length iD)) (fun _ hk=>⟨hk.1.1.1.2.2.2.2.2.2,⟨hk.1.1.2,hk.1.2⟩⟩)⟩,⟨by (with_reducible repeat (first|apply Kd.cQ|apply Kd.cT|apply Kd.cS));exact Kd.b5 (Kd.bM (p:=⟨bV,2,none⟩) (Kd.bM (p:=⟨bV,1,none⟩) (Kd.bM (p:=⟨bV,0,none⟩) (Kd.b5 rA.out (fun k_ hk=>(⟨hk,hk.2⟩:_∧k_≠bV))) (fun _ hk=>hk.2) (.slice fX gB.length fZ)) (fun _ hk=>hk.2) (.slice iQ gL.length iN)) (fun _ hk=>hk.2) (.slice iE gZ.length iD)) (fun _ hk=>⟨hk.1.1.1.2.2.2.2.2.2,⟨hk.1.1.2,hk.1.2⟩⟩)⟩,⟨by (with_reducible repeat (first|apply Kd.cQ|apply Kd.cT|apply Kd.cS));exact Kd.b5 (Kd.bM (p:=⟨bV,2,none⟩) (Kd.bM (p:=⟨bV,1,none⟩) (Kd.bM (p:=⟨bV,0,none⟩) (Kd.b5 B9.out (fun k_ hk=>(⟨hk,hk.2⟩:_∧k_≠bV))) (fun _ hk=>hk.2) (.slice fX gB.length fZ)) (fun _ hk=>hk.2) (.slice iQ gL.length iN)) (fun _ hk=>hk.2) (.slice iE gZ.length iD)) (fun _ hk=>⟨hk.1.1.2.2.2.2.2.2.1,⟨hk.1.1.2.2.2.2.2.2.2,hk.1.2⟩⟩)⟩,⟨by (with_reducible repeat (first|apply Kd.cQ|apply Kd.cT|apply Kd.cS));exact Kd.b5 (Kd.bM (p:=⟨bV,2,none⟩) (Kd.bM (p:=⟨bV,1,none⟩) (Kd.bM (p:=⟨bV,0,none⟩) (Kd.b5 BH.out (fun k_ hk=>(⟨hk,hk.2⟩:_∧k_≠bV))) (fun _ hk=>hk.2) (.slice fX gB.length fZ)) (fun _ hk=>hk.2) (.slice iQ gL.length iN)) (fun _ hk=>hk.2) (.slice iE gZ.length iD)) (fun _ hk=>⟨hk.1.1.2.2.2.2.2.2.1,⟨hk.1.1.2.2.2.2.2.2.2,hk.1.2⟩⟩)⟩,⟨by (with_reducible repeat (first|apply Kd.cQ|apply Kd.cT|apply Kd.cS));exact Kd.b5 (Kd.bM (p:=⟨bV,2,none⟩) (Kd.bM (p:=⟨bV,1,none⟩) (Kd.bM (p:=⟨bV,0,none⟩) (Kd.b5 AX.out (fun k_ hk=>(⟨hk,hk.2⟩:_∧k_≠bV))) (fun _ hk=>hk.2) (.slice fX gB.length fZ)) (fun _ hk=>hk.2) (.slice iQ gL.length iN)) (fun _ hk=>hk.2) (.slice iE gZ.length iD)) (fun _ hk=>⟨hk.1.1.2.2.2.2.2.2.1,⟨hk.1.1.2.2.2.2.2.2.2,hk.1.2⟩⟩)⟩,⟨by (with_reducible repeat (first|refine aW ?_ _|refine aV ?_|refine aQ ?_ _));refine dT ?_ tB.out _;(with_reducible repeat (first|refine aW ?_ _|refine aV ?_|refine aQ ?_ _));refine dT ?_ tB.out _;(with_reducible repeat (first|refine aW ?_ _|refine aV ?_|refine aQ ?_ _));refine dT ?_ tB.out _;(with_reducible repeat (first|refine aW ?_ _|refine aV ?_|refine aQ ?_ _));exact eW.out⟩,⟨by (with_reducible repeat (first|refine aW ?_ _|refine aV ?_|refine aQ ?_ _));refine dT ?_ tL.out _;(with_reducible repeat (first|refine aW ?_ _|refine aV ?_|refine aQ ?_ _));refine dT ?_ tL.out _;(with_reducible repeat (first|refine aW ?_ _|refine aV ?_|refine aQ ?_ _));refine dT ?_ tL.out _;(with_reducible repeat (first|refine aW ?_ _|refine aV ?_|refine aQ ?_ _));exact gH.out⟩,⟨by (with_reducible repeat (first|refine aW ?_ _|refine aV ?_|refine aQ ?_ _));refine bX (cs:=#[.slice fX gB.length fZ,.slice iQ gL.length iN,.slice none 0 0]) ?_ 2 _ rfl;(with_reducible repeat (first|refine aW ?_ _|refine aV ?_|refine aQ ?_ _));refine bX (cs:=#[.slice fX gB.length fZ,.slice none 0 0,.slice none 0 0]) ?_ 1 _ rfl;(with_reducible repeat (first|refine aW ?_ _|refine aV ?_|refine aQ ?_ _));refine bX (cs:=#[.slice none 0 0,.slice none 0 0,.slice none 0 0]) ?_ 0 _ rfl;(with_reducible repeat (first|refine aW ?_ _|refine aV ?_|refine aQ ?_ _));exact oF.out⟩,⟨by repeat (first|(with_reducible first|exact HB.out|apply aI|apply aN|apply aJ|refine a8 ?_ lE.out|refine a8 ?_ qL.out|refine a8 ?_ BF.out)|exact HB.out)⟩⟩
       case rest=>
        clear Y0;try clear c1
        try clear c2
        try clear p2
        try clear c3
        try clear c5
        try clear c6
        try clear p6
        try clear c7
        try clear c9
        try clear iX
        try clear mA
        try clear lD
        try clear p7
        try clear AH
        try clear vF
        try clear jA
        try clear xK
        try clear sX
        try clear auP
        try clear avF
        try clear auY
        try clear zA
        try clear aGD
        try clear aHE
        try clear aFZ
        try clear yZ
        try clear DI
        try clear aeK
        try clear zD
        try clear ai1
        try clear ajX
        try clear afM
        try clear akR
        try clear akX
        try clear asI
        try clear aq7
        try clear aA1
        try clear S4
        try clear WJ
        try clear XL
        try clear afF
        try clear aeE
        try clear agP
        try clear ao6
        try clear aoE
        try clear axF
        try clear RY
        try clear UX
        try clear S1
        try clear p2
        obtain ⟨kq,P5,rfl,HA,aLR,arV,axB,aAM,axX,ak9,awG,VU,YS,V0,eW,gH,oF,HB⟩:=hcut;cases kq with
        |zero=>exact absurd HA.out (by simp [dA.j1])
        |succ aO0=>
         have H:=HA.out;clear HA;simp only [dA.j1] at H;by_cases PM:P5=true
         ·subst PM;have H1:(none)=some r:=by rw [if_pos rfl] at H;exact H
          clear H;have H:=H1;clear H1;exact absurd H (by simp)
         ·replace PM:=Bool.eq_false_iff.mpr PM;subst PM;have H1:((joined6.f cX dO eH eL eT e9 gB gL gZ).bind fun JL=>(some JL))=some r:=by rw [if_neg (show ¬ (false=true) by decide)] at H;exact H
          clear H;have H:=H1;clear H1;replace H:=Option.bind_eq_some_iff.mp H;obtain ⟨JL,agD,H⟩:=H;replace H:(some JL)=some r:=H;have atQ:=aC.mk agD;clear agD;obtain rfl:=Option.some.inj H;have aE9:=qJ.out;have aJH:=ahL.out;have aJ3:=tB.out;have aG9:=aiZ.out;have aBC:wc.cell? ⟨bS,0,none⟩=some (.slice dL cX.length dM):=(aD eW.out 0).trans rfl;have anB:wc.cell? ⟨bS,1,none⟩=some (.slice dY dO.length dZ):=(aD eW.out 1).trans rfl;have avS:wc.cell? ⟨bS,2,none⟩=some (.slice fE eH.length fF):=(aD eW.out 2).trans rfl;have aM3:=aT eW.out 0;have aO2:=aT eW.out 1;have aLJ:=aT eW.out 2;have aFL:=tL.out;have aPB:=aeG.out;have asH:wc.cell? ⟨bO,0,none⟩=some (.slice fO eL.length fH):=(aD gH.out 0).trans rfl;have arB:wc.cell? ⟨bO,1,none⟩=some (.slice fN eT.length fI):=(aD gH.out 1).trans rfl;have awV:wc.cell? ⟨bO,2,none⟩=some (.slice gK e9.length gM):=(aD gH.out 2).trans rfl;have aNS:=aT gH.out 0;have aMR:=aT gH.out 1;have aOD:=aT gH.out 2;have ab7:wc.cell? ⟨bV,0,none⟩=some (.slice fX gB.length fZ):=(aD oF.out 0).trans rfl;have agB:wc.cell? ⟨bV,1,none⟩=some (.slice iQ gL.length iN):=(aD oF.out 1).trans rfl;have af7:wc.cell? ⟨bV,2,none⟩=some (.slice iE gZ.length iD):=(aD oF.out 2).trans rfl;have aFU:=aT oF.out 0;have aIQ:=aT oF.out 1;have aH1:=aT oF.out 2;obtain ⟨⟨L1,L2,L3,L4,L5,L6⟩,rfl,UD,US⟩:=arT atQ.out;obtain ⟨X1,YU⟩: ∃ X_:List De6,X_=([]++cX)++eL:=⟨_,rfl⟩;obtain ⟨X2,WZ⟩: ∃ X_:List De6,X_=([]++dO)++eT:=⟨_,rfl⟩;obtain ⟨X3,VK⟩: ∃ X_:List Fn6,X_=([]++eH)++e9:=⟨_,rfl⟩;rw [← YU,← WZ,← VK] at UD US;have adZ:=aC.mk UD;have oK:=aC.mk US;clear UD US;have k9:=aC.mk YU;clear YU;have rU:=aC.mk WZ;clear WZ;have GR:=aC.mk VK;clear VK;have F1:=DN arV.out;have F2:=DN axB.out;have F3:=DN aAM.out;have F4:=DN axX.out;have F5:=DN ak9.out;have F6:=DN awG.out;go_upto_region 13 with fail
          obtain ⟨wcd,hD_⟩: ∃ w_:World,World.drew wc=w_:=⟨_,rfl⟩;have xZ:JS wc wcd none none none none:=hD_ ▸ JS.start wc;have KC:=aC.mk (show ∀ w_ azH XO OQ bx_,JS wc w_ azH XO OQ bx_→w_.cell? ⟨bS,0,none⟩=some (.slice dL cX.length dM)∧w_.cell? ⟨bS,1,none⟩=some (.slice dY dO.length dZ)∧w_.cell? ⟨bS,2,none⟩=some (.slice fE eH.length fF)∧w_.cell? ⟨bO,0,none⟩=some (.slice fO eL.length fH)∧w_.cell? ⟨bO,1,none⟩=some (.slice fN eT.length fI)∧w_.cell? ⟨bO,2,none⟩=some (.slice gK e9.length gM) from fun _ _ _ _ _ h_=>⟨JS.cell h_ aBC,JS.cell h_ anB,JS.cell h_ avS,JS.cell h_ asH,JS.cell h_ arB,JS.cell h_ awV⟩);refine mK (n:=24) (S:=fun w'=>w'.cell? ⟨bS,0,none⟩=some (.slice dL cX.length dM)∧w'.cell? ⟨bS,1,none⟩=some (.slice dY dO.length dZ)∧w'.cell? ⟨bS,2,none⟩=some (.slice fE eH.length fF)∧w'.cell? ⟨bO,0,none⟩=some (.slice fO eL.length fH)∧w'.cell? ⟨bO,1,none⟩=some (.slice fN eT.length fI)∧w'.cell? ⟨bO,2,none⟩=some (.slice gK e9.length gM)) (ds:=[23]) (bs_ 24 0) (by kernel_rfl) rfl rfl (KC.out _ _ _ _ _ (JS.start wc)) (fun hHeld=>?_);rw [hD_] at hHeld ⊢;refine bE (i:=1) (N:=some 78) (v:=?_) (a':=?_) (bs_ 24 2) rfl rfl (by kernel_rfl) (fun _ _ _ h=>h) (Or.inl ⟨by rfl,?_⟩) ?_ ?_
          rotate_left;·intro w';go_simp;with_reducible rfl
          rotate_left;·simp only [Act.put,q1_,q2_,q3_,aG,aH];rfl
          refine bE (i:=4) (N:=some 81) (v:=?_) (a':=?_) (bs_ 24 18) rfl rfl (by kernel_rfl) (fun _ _ _ h=>h) (Or.inl ⟨by rfl,?_⟩) ?_ ?_
          rotate_left;·intro w';go_simp;with_reducible rfl
          rotate_left;·simp only [Act.put,q1_,q2_,q3_,aG,aH];rfl
          refine bE (i:=8) (N:=some 85) (v:=?_) (a':=?_) (bs_ 24 274) rfl rfl (by kernel_rfl) (fun _ _ _ h=>h) (Or.inl ⟨by rfl,?_⟩) ?_ ?_
          rotate_left;·intro w';go_simp;with_reducible rfl
          rotate_left;·simp only [Act.put,q1_,q2_,q3_,aG,aH];rfl
          refine bE (i:=11) (N:=some 88) (v:=?_) (a':=?_) (bs_ 24 2322) rfl rfl (by kernel_rfl) (fun _ _ _ h=>h) (Or.inl ⟨by rfl,?_⟩) ?_ ?_
          rotate_left;·intro w';go_simp;with_reducible rfl
          rotate_left;·simp only [Act.put,q1_,q2_,q3_,aG,aH];rfl
          refine bE (i:=15) (N:=some 92) (v:=?_) (a':=?_) (bs_ 24 35090) rfl rfl (by kernel_rfl) (fun _ _ _ h=>h) (Or.inl ⟨by rfl,?_⟩) ?_ ?_
          rotate_left;·intro w';go_simp;with_reducible rfl
          rotate_left;·simp only [Act.put,q1_,q2_,q3_,aG,aH];rfl
          refine bE (i:=18) (N:=some 95) (v:=?_) (a':=?_) (bs_ 24 297234) rfl rfl (by kernel_rfl) (fun _ _ _ h=>h) (Or.inl ⟨by rfl,?_⟩) ?_ ?_
          rotate_left;·intro w';go_simp;with_reducible rfl
          rotate_left;·simp only [Act.put,q1_,q2_,q3_,aG,aH];rfl
          refine eC (i:=2) (N:=some 79) (v:=?_) (a':=?_) (bs_ 24 297238) rfl rfl (by kernel_rfl) (fun _ _ _ h=>h) (Or.inl ⟨by rfl,?_⟩) hHeld ?_ ?_
          rotate_left
          ·rintro w' ⟨s0,s1,s2,s3,s4,s5⟩
           go_simp;with_reducible rfl
          rotate_left;·simp only [Act.put,q1_,q2_,q3_,aG,aH];rfl
          refine eC (i:=5) (N:=some 82) (v:=?_) (a':=?_) (bs_ 24 297270) rfl rfl (by kernel_rfl) (fun _ _ _ h=>h) (Or.inl ⟨by rfl,?_⟩) hHeld ?_ ?_
          rotate_left
          ·rintro w' ⟨s0,s1,s2,s3,s4,s5⟩
           go_simp;with_reducible rfl
          rotate_left;·simp only [Act.put,q1_,q2_,q3_,aG,aH];rfl
          refine eC (i:=9) (N:=some 86) (v:=?_) (a':=?_) (bs_ 24 297782) rfl rfl (by kernel_rfl) (fun _ _ _ h=>h) (Or.inl ⟨by rfl,?_⟩) hHeld ?_ ?_
          rotate_left
          ·rintro w' ⟨s0,s1,s2,s3,s4,s5⟩
           go_simp;with_reducible rfl
          rotate_left;·simp only [Act.put,q1_,q2_,q3_,aG,aH];rfl
          refine eC (i:=12) (N:=some 89) (v:=?_) (a':=?_) (bs_ 24 301878) rfl rfl (by kernel_rfl) (fun _ _ _ h=>h) (Or.inl ⟨by rfl,?_⟩) hHeld ?_ ?_
          rotate_left
          ·rintro w' ⟨s0,s1,s2,s3,s4,s5⟩
           go_simp;with_reducible rfl
          rotate_left;·simp only [Act.put,q1_,q2_,q3_,aG,aH];rfl
          refine eC (i:=16) (N:=some 93) (v:=?_) (a':=?_) (bs_ 24 367414) rfl rfl (by kernel_rfl) (fun _ _ _ h=>h) (Or.inl ⟨by rfl,?_⟩) hHeld ?_ ?_
          rotate_left
          ·rintro w' ⟨s0,s1,s2,s3,s4,s5⟩
           go_simp;with_reducible rfl
          rotate_left;·simp only [Act.put,q1_,q2_,q3_,aG,aH];rfl
          refine eC (i:=19) (N:=some 96) (v:=?_) (a':=?_) (bs_ 24 891702) rfl rfl (by kernel_rfl) (fun _ _ _ h=>h) (Or.inl ⟨by rfl,?_⟩) hHeld ?_ ?_
          rotate_left
          ·rintro w' ⟨s0,s1,s2,s3,s4,s5⟩
           go_simp;with_reducible rfl
          rotate_left;·simp only [Act.put,q1_,q2_,q3_,aG,aH];rfl
          refine gA (σ:=Nat×Value×Value×Nat×Value×Value×Nat×Value×Value×Nat) 1 (bs_ 24 8388607) (fun s=>[(77,(.slice (some ⟨s.1,0,none⟩) 0 0)),(80,s.2.1),(83,s.2.2.1),(84,(.slice (some ⟨s.2.2.2.1,0,none⟩) 0 0)),(87,s.2.2.2.2.1),(90,s.2.2.2.2.2.1),(91,(.slice (some ⟨s.2.2.2.2.2.2.1,0,none⟩) 0 0)),(94,s.2.2.2.2.2.2.2.1),(97,s.2.2.2.2.2.2.2.2.1),(98,.agg #[s.2.2.1,s.2.2.2.2.2.1,s.2.2.2.2.2.2.2.2.1]),(18,(.pointer (some ⟨s.2.2.2.2.2.2.2.2.2,0,none⟩)))]) (fun s w'=>JS wc w' (some (s.2.2.1,X1)) (some (s.2.2.2.2.2.1,X2)) (some (s.2.2.2.2.2.2.2.2.1,X3)) (some s.2.2.2.2.2.2.2.2.2)) ?_ ?_
          rotate_left
          ·intro afR;refine gA (σ:=Nat×Value×Value×Nat×Value×Value×Nat×Value×Value) 2 (bs_ 24 4194303) (fun s=>[(77,(.slice (some ⟨s.1,0,none⟩) 0 0)),(80,s.2.1),(83,s.2.2.1),(84,(.slice (some ⟨s.2.2.2.1,0,none⟩) 0 0)),(87,s.2.2.2.2.1),(90,s.2.2.2.2.2.1),(91,(.slice (some ⟨s.2.2.2.2.2.2.1,0,none⟩) 0 0)),(94,s.2.2.2.2.2.2.2.1),(97,s.2.2.2.2.2.2.2.2),(98,.agg #[s.2.2.1,s.2.2.2.2.2.1,s.2.2.2.2.2.2.2.2])]) (fun s w'=>JS wc w' (some (s.2.2.1,X1)) (some (s.2.2.2.2.2.1,X2)) (some (s.2.2.2.2.2.2.2.2,X3)) none) ?_ ?_
           rotate_left
           ·intro axR;refine gA (σ:=Nat×Value×Value×Nat×Value×Value×Nat×Value×Nat) 3 (bs_ 24 5242879) (fun s=>[(77,(.slice (some ⟨s.1,0,none⟩) 0 0)),(80,s.2.1),(83,s.2.2.1),(84,(.slice (some ⟨s.2.2.2.1,0,none⟩) 0 0)),(87,s.2.2.2.2.1),(90,s.2.2.2.2.2.1),(91,(.slice (some ⟨s.2.2.2.2.2.2.1,0,none⟩) 0 0)),(94,s.2.2.2.2.2.2.2.1),(18,(.pointer (some ⟨s.2.2.2.2.2.2.2.2,0,none⟩)))]) (fun s w'=>JS wc w' (some (s.2.2.1,X1)) (some (s.2.2.2.2.2.1,X2)) (some (s.2.2.2.2.2.2.2.1,[]++eH)) (some s.2.2.2.2.2.2.2.2)) ?_ ?_
            rotate_left
            ·intro af5;refine gA (σ:=Nat×Value×Value×Nat×Value×Value×Nat×Value) 4 (bs_ 24 1048575) (fun s=>[(77,(.slice (some ⟨s.1,0,none⟩) 0 0)),(80,s.2.1),(83,s.2.2.1),(84,(.slice (some ⟨s.2.2.2.1,0,none⟩) 0 0)),(87,s.2.2.2.2.1),(90,s.2.2.2.2.2.1),(91,(.slice (some ⟨s.2.2.2.2.2.2.1,0,none⟩) 0 0)),(94,s.2.2.2.2.2.2.2)]) (fun s w'=>JS wc w' (some (s.2.2.1,X1)) (some (s.2.2.2.2.2.1,X2)) (some (s.2.2.2.2.2.2.2,[]++eH)) none) ?_ ?_
             rotate_left
             ·intro aAH;refine gA (σ:=Nat×Value×Value×Nat×Value×Value×Nat×Nat) 4 (bs_ 24 5111807) (fun s=>[(77,(.slice (some ⟨s.1,0,none⟩) 0 0)),(80,s.2.1),(83,s.2.2.1),(84,(.slice (some ⟨s.2.2.2.1,0,none⟩) 0 0)),(87,s.2.2.2.2.1),(90,s.2.2.2.2.2.1),(91,(.slice (some ⟨s.2.2.2.2.2.2.1,0,none⟩) 0 0)),(18,(.pointer (some ⟨s.2.2.2.2.2.2.2,0,none⟩)))]) (fun s w'=>JS wc w' (some (s.2.2.1,X1)) (some (s.2.2.2.2.2.1,X2)) (some (.slice (some ⟨s.2.2.2.2.2.2.1,0,none⟩) 0 0,[])) (some s.2.2.2.2.2.2.2)) ?_ ?_
              rotate_left
              ·intro VN;refine gA (σ:=Nat×Value×Value×Nat×Value×Value×Nat) 5 (bs_ 24 917503) (fun s=>[(77,(.slice (some ⟨s.1,0,none⟩) 0 0)),(80,s.2.1),(83,s.2.2.1),(84,(.slice (some ⟨s.2.2.2.1,0,none⟩) 0 0)),(87,s.2.2.2.2.1),(90,s.2.2.2.2.2.1),(91,(.slice (some ⟨s.2.2.2.2.2.2,0,none⟩) 0 0))]) (fun s w'=>JS wc w' (some (s.2.2.1,X1)) (some (s.2.2.2.2.2.1,X2)) (some (.slice (some ⟨s.2.2.2.2.2.2,0,none⟩) 0 0,[])) none) ?_ ?_
               rotate_left
               ·intro acO;refine gA (σ:=Nat×Value×Value×Nat×Value×Value×Nat) 5 (bs_ 24 5095423) (fun s=>[(77,(.slice (some ⟨s.1,0,none⟩) 0 0)),(80,s.2.1),(83,s.2.2.1),(84,(.slice (some ⟨s.2.2.2.1,0,none⟩) 0 0)),(87,s.2.2.2.2.1),(90,s.2.2.2.2.2.1),(18,(.pointer (some ⟨s.2.2.2.2.2.2,0,none⟩)))]) (fun s w'=>JS wc w' (some (s.2.2.1,X1)) (some (s.2.2.2.2.2.1,X2)) none (some s.2.2.2.2.2.2)) ?_ ?_
                rotate_left
                ·intro abI;refine gA (σ:=Nat×Value×Value×Nat×Value×Nat×Nat) 5 (bs_ 24 5103615) (fun s=>[(77,(.slice (some ⟨s.1,0,none⟩) 0 0)),(80,s.2.1),(83,s.2.2.1),(84,(.slice (some ⟨s.2.2.2.1,0,none⟩) 0 0)),(87,s.2.2.2.2.1),(91,(.slice (some ⟨s.2.2.2.2.2.1,0,none⟩) 0 0)),(18,(.pointer (some ⟨s.2.2.2.2.2.2,0,none⟩)))]) (fun s w'=>JS wc w' (some (s.2.2.1,X1)) (some (s.2.2.2.2.1,[]++dO)) (some (.slice (some ⟨s.2.2.2.2.2.1,0,none⟩) 0 0,[])) (some s.2.2.2.2.2.2)) ?_ ?_
                 rotate_left
                 ·intro Q5;refine gA (σ:=Nat×Value×Value×Nat×Value×Value) 6 (bs_ 24 901119) (fun s=>[(77,(.slice (some ⟨s.1,0,none⟩) 0 0)),(80,s.2.1),(83,s.2.2.1),(84,(.slice (some ⟨s.2.2.2.1,0,none⟩) 0 0)),(87,s.2.2.2.2.1),(90,s.2.2.2.2.2)]) (fun s w'=>JS wc w' (some (s.2.2.1,X1)) (some (s.2.2.2.2.2,X2)) none none) ?_ ?_
                  rotate_left
                  ·intro atY;refine gA (σ:=Nat×Value×Value×Nat×Value×Nat) 6 (bs_ 24 909311) (fun s=>[(77,(.slice (some ⟨s.1,0,none⟩) 0 0)),(80,s.2.1),(83,s.2.2.1),(84,(.slice (some ⟨s.2.2.2.1,0,none⟩) 0 0)),(87,s.2.2.2.2.1),(91,(.slice (some ⟨s.2.2.2.2.2,0,none⟩) 0 0))]) (fun s w'=>JS wc w' (some (s.2.2.1,X1)) (some (s.2.2.2.2.1,[]++dO)) (some (.slice (some ⟨s.2.2.2.2.2,0,none⟩) 0 0,[])) none) ?_ ?_
                   rotate_left
                   ·intro agZ;refine gA (σ:=Nat×Value×Value×Nat×Value×Nat) 6 (bs_ 24 5087231) (fun s=>[(77,(.slice (some ⟨s.1,0,none⟩) 0 0)),(80,s.2.1),(83,s.2.2.1),(84,(.slice (some ⟨s.2.2.2.1,0,none⟩) 0 0)),(87,s.2.2.2.2.1),(18,(.pointer (some ⟨s.2.2.2.2.2,0,none⟩)))]) (fun s w'=>JS wc w' (some (s.2.2.1,X1)) (some (s.2.2.2.2.1,[]++dO)) none (some s.2.2.2.2.2)) ?_ ?_
                    rotate_left
                    ·intro ahX;refine gA (σ:=Nat×Value×Value×Nat×Nat×Nat) 6 (bs_ 24 5102591) (fun s=>[(77,(.slice (some ⟨s.1,0,none⟩) 0 0)),(80,s.2.1),(83,s.2.2.1),(84,(.slice (some ⟨s.2.2.2.1,0,none⟩) 0 0)),(91,(.slice (some ⟨s.2.2.2.2.1,0,none⟩) 0 0)),(18,(.pointer (some ⟨s.2.2.2.2.2,0,none⟩)))]) (fun s w'=>JS wc w' (some (s.2.2.1,X1)) (some (.slice (some ⟨s.2.2.2.1,0,none⟩) 0 0,[])) (some (.slice (some ⟨s.2.2.2.2.1,0,none⟩) 0 0,[])) (some s.2.2.2.2.2)) ?_ ?_
                     rotate_left
                     ·intro NU;refine gA (σ:=Nat×Value×Value×Nat×Value) 7 (bs_ 24 892927) (fun s=>[(77,(.slice (some ⟨s.1,0,none⟩) 0 0)),(80,s.2.1),(83,s.2.2.1),(84,(.slice (some ⟨s.2.2.2.1,0,none⟩) 0 0)),(87,s.2.2.2.2)]) (fun s w'=>JS wc w' (some (s.2.2.1,X1)) (some (s.2.2.2.2,[]++dO)) none none) ?_ ?_
                      rotate_left
                      ·intro auR;refine gA (σ:=Nat×Value×Value×Nat×Nat) 7 (bs_ 24 908287) (fun s=>[(77,(.slice (some ⟨s.1,0,none⟩) 0 0)),(80,s.2.1),(83,s.2.2.1),(84,(.slice (some ⟨s.2.2.2.1,0,none⟩) 0 0)),(91,(.slice (some ⟨s.2.2.2.2,0,none⟩) 0 0))]) (fun s w'=>JS wc w' (some (s.2.2.1,X1)) (some (.slice (some ⟨s.2.2.2.1,0,none⟩) 0 0,[])) (some (.slice (some ⟨s.2.2.2.2,0,none⟩) 0 0,[])) none) ?_ ?_
                       rotate_left
                       ·intro R9;refine gA (σ:=Nat×Value×Value×Nat×Nat) 7 (bs_ 24 5086207) (fun s=>[(77,(.slice (some ⟨s.1,0,none⟩) 0 0)),(80,s.2.1),(83,s.2.2.1),(84,(.slice (some ⟨s.2.2.2.1,0,none⟩) 0 0)),(18,(.pointer (some ⟨s.2.2.2.2,0,none⟩)))]) (fun s w'=>JS wc w' (some (s.2.2.1,X1)) (some (.slice (some ⟨s.2.2.2.1,0,none⟩) 0 0,[])) none (some s.2.2.2.2)) ?_ ?_
                        rotate_left
                        ·intro U4;refine gA (σ:=Nat×Value×Value×Nat×Nat) 7 (bs_ 24 5102463) (fun s=>[(77,(.slice (some ⟨s.1,0,none⟩) 0 0)),(80,s.2.1),(83,s.2.2.1),(91,(.slice (some ⟨s.2.2.2.1,0,none⟩) 0 0)),(18,(.pointer (some ⟨s.2.2.2.2,0,none⟩)))]) (fun s w'=>JS wc w' (some (s.2.2.1,X1)) none (some (.slice (some ⟨s.2.2.2.1,0,none⟩) 0 0,[])) (some s.2.2.2.2)) ?_ ?_
                         rotate_left
                         ·intro SK;refine gA (σ:=Nat×Value×Nat×Nat×Nat) 7 (bs_ 24 5102527) (fun s=>[(77,(.slice (some ⟨s.1,0,none⟩) 0 0)),(80,s.2.1),(84,(.slice (some ⟨s.2.2.1,0,none⟩) 0 0)),(91,(.slice (some ⟨s.2.2.2.1,0,none⟩) 0 0)),(18,(.pointer (some ⟨s.2.2.2.2,0,none⟩)))]) (fun s w'=>JS wc w' (some (s.2.1,[]++cX)) (some (.slice (some ⟨s.2.2.1,0,none⟩) 0 0,[])) (some (.slice (some ⟨s.2.2.2.1,0,none⟩) 0 0,[])) (some s.2.2.2.2)) ?_ ?_
                          rotate_left
                          ·intro MS;refine gA (σ:=Nat×Value×Value×Nat) 8 (bs_ 24 891903) (fun s=>[(77,(.slice (some ⟨s.1,0,none⟩) 0 0)),(80,s.2.1),(83,s.2.2.1),(84,(.slice (some ⟨s.2.2.2,0,none⟩) 0 0))]) (fun s w'=>JS wc w' (some (s.2.2.1,X1)) (some (.slice (some ⟨s.2.2.2,0,none⟩) 0 0,[])) none none) ?_ ?_
                           rotate_left
                           ·intro ab0;refine gA (σ:=Nat×Value×Value×Nat) 8 (bs_ 24 908159) (fun s=>[(77,(.slice (some ⟨s.1,0,none⟩) 0 0)),(80,s.2.1),(83,s.2.2.1),(91,(.slice (some ⟨s.2.2.2,0,none⟩) 0 0))]) (fun s w'=>JS wc w' (some (s.2.2.1,X1)) none (some (.slice (some ⟨s.2.2.2,0,none⟩) 0 0,[])) none) ?_ ?_
                            rotate_left
                            ·intro ZN;refine gA (σ:=Nat×Value×Value×Nat) 8 (bs_ 24 5086079) (fun s=>[(77,(.slice (some ⟨s.1,0,none⟩) 0 0)),(80,s.2.1),(83,s.2.2.1),(18,(.pointer (some ⟨s.2.2.2,0,none⟩)))]) (fun s w'=>JS wc w' (some (s.2.2.1,X1)) none none (some s.2.2.2)) ?_ ?_
                             rotate_left
                             ·intro adX;refine gA (σ:=Nat×Value×Nat×Nat) 8 (bs_ 24 908223) (fun s=>[(77,(.slice (some ⟨s.1,0,none⟩) 0 0)),(80,s.2.1),(84,(.slice (some ⟨s.2.2.1,0,none⟩) 0 0)),(91,(.slice (some ⟨s.2.2.2,0,none⟩) 0 0))]) (fun s w'=>JS wc w' (some (s.2.1,[]++cX)) (some (.slice (some ⟨s.2.2.1,0,none⟩) 0 0,[])) (some (.slice (some ⟨s.2.2.2,0,none⟩) 0 0,[])) none) ?_ ?_
                              rotate_left
                              ·intro RA;refine gA (σ:=Nat×Value×Nat×Nat) 8 (bs_ 24 5086143) (fun s=>[(77,(.slice (some ⟨s.1,0,none⟩) 0 0)),(80,s.2.1),(84,(.slice (some ⟨s.2.2.1,0,none⟩) 0 0)),(18,(.pointer (some ⟨s.2.2.2,0,none⟩)))]) (fun s w'=>JS wc w' (some (s.2.1,[]++cX)) (some (.slice (some ⟨s.2.2.1,0,none⟩) 0 0,[])) none (some s.2.2.2)) ?_ ?_
                               rotate_left
                               ·intro TU;refine gA (σ:=Nat×Value×Nat×Nat) 8 (bs_ 24 5102399) (fun s=>[(77,(.slice (some ⟨s.1,0,none⟩) 0 0)),(80,s.2.1),(91,(.slice (some ⟨s.2.2.1,0,none⟩) 0 0)),(18,(.pointer (some ⟨s.2.2.2,0,none⟩)))]) (fun s w'=>JS wc w' (some (s.2.1,[]++cX)) none (some (.slice (some ⟨s.2.2.1,0,none⟩) 0 0,[])) (some s.2.2.2)) ?_ ?_
                                rotate_left
                                ·intro U5;refine gA (σ:=Nat×Nat×Nat×Nat) 8 (bs_ 24 5102519) (fun s=>[(77,(.slice (some ⟨s.1,0,none⟩) 0 0)),(84,(.slice (some ⟨s.2.1,0,none⟩) 0 0)),(91,(.slice (some ⟨s.2.2.1,0,none⟩) 0 0)),(18,(.pointer (some ⟨s.2.2.2,0,none⟩)))]) (fun s w'=>JS wc w' (some (.slice (some ⟨s.1,0,none⟩) 0 0,[])) (some (.slice (some ⟨s.2.1,0,none⟩) 0 0,[])) (some (.slice (some ⟨s.2.2.1,0,none⟩) 0 0,[])) (some s.2.2.2)) ?_ ?_
                                 rotate_left
                                 ·intro NB;refine gA (σ:=Nat×Value×Value) 9 (bs_ 24 891775) (fun s=>[(77,(.slice (some ⟨s.1,0,none⟩) 0 0)),(80,s.2.1),(83,s.2.2)]) (fun s w'=>JS wc w' (some (s.2.2,X1)) none none none) ?_ ?_
                                  rotate_left
                                  ·intro auI;refine gA (σ:=Nat×Value×Nat) 9 (bs_ 24 891839) (fun s=>[(77,(.slice (some ⟨s.1,0,none⟩) 0 0)),(80,s.2.1),(84,(.slice (some ⟨s.2.2,0,none⟩) 0 0))]) (fun s w'=>JS wc w' (some (s.2.1,[]++cX)) (some (.slice (some ⟨s.2.2,0,none⟩) 0 0,[])) none none) ?_ ?_
                                   rotate_left
                                   ·intro aiH;refine gA (σ:=Nat×Value×Nat) 9 (bs_ 24 908095) (fun s=>[(77,(.slice (some ⟨s.1,0,none⟩) 0 0)),(80,s.2.1),(91,(.slice (some ⟨s.2.2,0,none⟩) 0 0))]) (fun s w'=>JS wc w' (some (s.2.1,[]++cX)) none (some (.slice (some ⟨s.2.2,0,none⟩) 0 0,[])) none) ?_ ?_
                                    rotate_left
                                    ·intro afO;refine gA (σ:=Nat×Value×Nat) 9 (bs_ 24 5086015) (fun s=>[(77,(.slice (some ⟨s.1,0,none⟩) 0 0)),(80,s.2.1),(18,(.pointer (some ⟨s.2.2,0,none⟩)))]) (fun s w'=>JS wc w' (some (s.2.1,[]++cX)) none none (some s.2.2)) ?_ ?_
                                     rotate_left
                                     ·intro aaG;refine gA (σ:=Nat×Nat×Nat) 9 (bs_ 24 908215) (fun s=>[(77,(.slice (some ⟨s.1,0,none⟩) 0 0)),(84,(.slice (some ⟨s.2.1,0,none⟩) 0 0)),(91,(.slice (some ⟨s.2.2,0,none⟩) 0 0))]) (fun s w'=>JS wc w' (some (.slice (some ⟨s.1,0,none⟩) 0 0,[])) (some (.slice (some ⟨s.2.1,0,none⟩) 0 0,[])) (some (.slice (some ⟨s.2.2,0,none⟩) 0 0,[])) none) ?_ ?_
                                      rotate_left
                                      ·intro QO;refine gA (σ:=Nat×Nat×Nat) 9 (bs_ 24 5086135) (fun s=>[(77,(.slice (some ⟨s.1,0,none⟩) 0 0)),(84,(.slice (some ⟨s.2.1,0,none⟩) 0 0)),(18,(.pointer (some ⟨s.2.2,0,none⟩)))]) (fun s w'=>JS wc w' (some (.slice (some ⟨s.1,0,none⟩) 0 0,[])) (some (.slice (some ⟨s.2.1,0,none⟩) 0 0,[])) none (some s.2.2)) ?_ ?_
                                       rotate_left
                                       ·intro SQ;refine gA (σ:=Nat×Nat×Nat) 9 (bs_ 24 5102391) (fun s=>[(77,(.slice (some ⟨s.1,0,none⟩) 0 0)),(91,(.slice (some ⟨s.2.1,0,none⟩) 0 0)),(18,(.pointer (some ⟨s.2.2,0,none⟩)))]) (fun s w'=>JS wc w' (some (.slice (some ⟨s.1,0,none⟩) 0 0,[])) none (some (.slice (some ⟨s.2.1,0,none⟩) 0 0,[])) (some s.2.2)) ?_ ?_
                                        rotate_left
                                        ·intro T8;refine gA (σ:=Nat×Nat×Nat) 9 (bs_ 24 5102518) (fun s=>[(84,(.slice (some ⟨s.1,0,none⟩) 0 0)),(91,(.slice (some ⟨s.2.1,0,none⟩) 0 0)),(18,(.pointer (some ⟨s.2.2,0,none⟩)))]) (fun s w'=>JS wc w' none (some (.slice (some ⟨s.1,0,none⟩) 0 0,[])) (some (.slice (some ⟨s.2.1,0,none⟩) 0 0,[])) (some s.2.2)) ?_ ?_
                                         rotate_left
                                         ·intro SU;refine gA (σ:=Nat×Value) 10 (bs_ 24 891711) (fun s=>[(77,(.slice (some ⟨s.1,0,none⟩) 0 0)),(80,s.2)]) (fun s w'=>JS wc w' (some (s.2,[]++cX)) none none none) ?_ ?_
                                          rotate_left
                                          ·intro ap7;refine gA (σ:=Nat×Nat) 10 (bs_ 24 891831) (fun s=>[(77,(.slice (some ⟨s.1,0,none⟩) 0 0)),(84,(.slice (some ⟨s.2,0,none⟩) 0 0))]) (fun s w'=>JS wc w' (some (.slice (some ⟨s.1,0,none⟩) 0 0,[])) (some (.slice (some ⟨s.2,0,none⟩) 0 0,[])) none none) ?_ ?_
                                           rotate_left
                                           ·intro afT;refine gA (σ:=Nat×Nat) 10 (bs_ 24 908087) (fun s=>[(77,(.slice (some ⟨s.1,0,none⟩) 0 0)),(91,(.slice (some ⟨s.2,0,none⟩) 0 0))]) (fun s w'=>JS wc w' (some (.slice (some ⟨s.1,0,none⟩) 0 0,[])) none (some (.slice (some ⟨s.2,0,none⟩) 0 0,[])) none) ?_ ?_
                                            rotate_left
                                            ·intro aeI;refine gA (σ:=Nat×Nat) 10 (bs_ 24 5086007) (fun s=>[(77,(.slice (some ⟨s.1,0,none⟩) 0 0)),(18,(.pointer (some ⟨s.2,0,none⟩)))]) (fun s w'=>JS wc w' (some (.slice (some ⟨s.1,0,none⟩) 0 0,[])) none none (some s.2)) ?_ ?_
                                             rotate_left
                                             ·intro afI;refine gA (σ:=Nat×Nat) 10 (bs_ 24 908214) (fun s=>[(84,(.slice (some ⟨s.1,0,none⟩) 0 0)),(91,(.slice (some ⟨s.2,0,none⟩) 0 0))]) (fun s w'=>JS wc w' none (some (.slice (some ⟨s.1,0,none⟩) 0 0,[])) (some (.slice (some ⟨s.2,0,none⟩) 0 0,[])) none) ?_ ?_
                                              rotate_left
                                              ·intro aiU;refine gA (σ:=Nat×Nat) 10 (bs_ 24 5086134) (fun s=>[(84,(.slice (some ⟨s.1,0,none⟩) 0 0)),(18,(.pointer (some ⟨s.2,0,none⟩)))]) (fun s w'=>JS wc w' none (some (.slice (some ⟨s.1,0,none⟩) 0 0,[])) none (some s.2)) ?_ ?_
                                               rotate_left
                                               ·intro ajN;refine gA (σ:=Nat×Nat) 10 (bs_ 24 5102390) (fun s=>[(91,(.slice (some ⟨s.1,0,none⟩) 0 0)),(18,(.pointer (some ⟨s.2,0,none⟩)))]) (fun s w'=>JS wc w' none none (some (.slice (some ⟨s.1,0,none⟩) 0 0,[])) (some s.2)) ?_ ?_
                                                rotate_left
                                                ·intro aj0;refine gA (σ:=Nat) 11 (bs_ 24 891703) (fun s=>[(77,(.slice (some ⟨s,0,none⟩) 0 0))]) (fun s w'=>JS wc w' (some (.slice (some ⟨s,0,none⟩) 0 0,[])) none none none) ?_ ?_
                                                 rotate_left
                                                 ·intro axO;refine gA (σ:=Nat) 11 (bs_ 24 891830) (fun s=>[(84,(.slice (some ⟨s,0,none⟩) 0 0))]) (fun s w'=>JS wc w' none (some (.slice (some ⟨s,0,none⟩) 0 0,[])) none none) ?_ ?_
                                                  rotate_left
                                                  ·intro anI;refine gA (σ:=Nat) 11 (bs_ 24 908086) (fun s=>[(91,(.slice (some ⟨s,0,none⟩) 0 0))]) (fun s w'=>JS wc w' none none (some (.slice (some ⟨s,0,none⟩) 0 0,[])) none) ?_ ?_
                                                   rotate_left
                                                   ·intro avP;refine gA (σ:=Nat) 11 (bs_ 24 5086006) (fun s=>[(18,(.pointer (some ⟨s,0,none⟩)))]) (fun s w'=>JS wc w' none none none (some s)) ?_ ?_
                                                    rotate_left
                                                    ·intro anS;refine WW (i:=0) (j:=7) (k:=14) (m:=22) (Ni:=some 77) (Nj:=some 84) (Nk:=some 91) (Nm:=some 18) (bs_ 24 891703) (bs_ 24 891830) (bs_ 24 908086) (bs_ 24 5086006) rfl rfl rfl rfl rfl rfl rfl rfl (by kernel_rfl) (by decide) (by decide) (by decide) (by decide) (fun K hK=>?_) (fun K hK=>?_) (fun K hK=>?_) (fun K hK=>?_)
                                                     ·skip
                                                      refine dG (w1:=?_) (v:=?_) (by rfl) rfl ?_ ?_
                                                      rotate_left 2
                                                      ·go_simp;constructor
                                                       ·rfl
                                                       ·rfl
                                                      refine hK.out _ _ (KC.out _ _ _ _ _ (JS.e1 xZ)) (fun hHeld=>?_);clear hK K;refine aZ (a':=?_) ?_ ?_
                                                      rotate_left
                                                      ·show Act.put _ (some 77) _=_
                                                       simp only [Act.put,q1_,q2_,q3_,aG,aH];rfl
                                                      exact aZ (by simp only [putAll,Act.put,q1_,q2_,q3_];try rfl) (axO wcd.heap.size _ (JS.e1 xZ))
                                                     ·skip
                                                      refine dG (w1:=?_) (v:=?_) (by rfl) rfl ?_ ?_
                                                      rotate_left 2
                                                      ·go_simp;constructor
                                                       ·rfl
                                                       ·rfl
                                                      refine hK.out _ _ (KC.out _ _ _ _ _ (JS.e2 xZ)) (fun hHeld=>?_);clear hK K;refine aZ (a':=?_) ?_ ?_
                                                      rotate_left
                                                      ·show Act.put _ (some 84) _=_
                                                       simp only [Act.put,q1_,q2_,q3_,aG,aH];rfl
                                                      exact aZ (by simp only [putAll,Act.put,q1_,q2_,q3_];try rfl) (anI wcd.heap.size _ (JS.e2 xZ))
                                                     ·skip
                                                      refine dG (w1:=?_) (v:=?_) (by rfl) rfl ?_ ?_
                                                      rotate_left 2
                                                      ·go_simp;constructor
                                                       ·rfl
                                                       ·rfl
                                                      refine hK.out _ _ (KC.out _ _ _ _ _ (JS.e3 xZ)) (fun hHeld=>?_);clear hK K;refine aZ (a':=?_) ?_ ?_
                                                      rotate_left
                                                      ·show Act.put _ (some 91) _=_
                                                       simp only [Act.put,q1_,q2_,q3_,aG,aH];rfl
                                                      exact aZ (by simp only [putAll,Act.put,q1_,q2_,q3_];try rfl) (avP wcd.heap.size _ (JS.e3 xZ))
                                                     ·skip
                                                      refine dG (w1:=?_) (v:=?_) (by rfl) rfl ?_ ?_
                                                      rotate_left 2
                                                      ·go_simp;constructor
                                                       ·rfl
                                                       ·rfl
                                                      refine hK.out _ _ (KC.out _ _ _ _ _ (JS.box xZ)) (fun hHeld=>?_);clear hK K;refine aZ (a':=?_) ?_ ?_
                                                      rotate_left
                                                      ·show Act.put _ (some 18) _=_
                                                       simp only [Act.put,q1_,q2_,q3_,aG,aH];rfl
                                                      exact aZ (by simp only [putAll,Act.put,q1_,q2_,q3_];try rfl) (anS wcd.heap.size _ (JS.box xZ))
                                                    ·skip
                                                     rintro cV wj kJ
                                                     replace kJ:JS wc wj none none none (some cV):=kJ;have hHeld:=KC.out _ _ _ _ _ kJ;refine aZ (a':=?_) ?_ ?_
                                                     rotate_left;·simp only [putAll,Act.put,q1_,q2_,q3_];rfl
                                                     refine rW (i:=0) (j:=7) (k:=14) (Ni:=some 77) (Nj:=some 84) (Nk:=some 91) (bs_ 24 5086007) (bs_ 24 5086134) (bs_ 24 5102390) rfl rfl rfl rfl rfl rfl (by kernel_rfl) (by decide) (by decide) (by decide) (fun K hK=>?_) (fun K hK=>?_) (fun K hK=>?_)
                                                     ·skip
                                                      refine dG (w1:=?_) (v:=?_) (by rfl) rfl ?_ ?_
                                                      rotate_left 2
                                                      ·go_simp;constructor
                                                       ·rfl
                                                       ·rfl
                                                      refine hK.out _ _ (KC.out _ _ _ _ _ (JS.e1 kJ)) (fun hHeld=>?_);clear hK K;refine aZ (a':=?_) ?_ ?_
                                                      rotate_left
                                                      ·show Act.put _ (some 77) _=_
                                                       simp only [Act.put,q1_,q2_,q3_,aG,aH];rfl
                                                      exact aZ (by simp only [putAll,Act.put,q1_,q2_,q3_];try rfl) (afI ⟨wj.heap.size,cV⟩ _ (JS.e1 kJ))
                                                     ·skip
                                                      refine dG (w1:=?_) (v:=?_) (by rfl) rfl ?_ ?_
                                                      rotate_left 2
                                                      ·go_simp;constructor
                                                       ·rfl
                                                       ·rfl
                                                      refine hK.out _ _ (KC.out _ _ _ _ _ (JS.e2 kJ)) (fun hHeld=>?_);clear hK K;refine aZ (a':=?_) ?_ ?_
                                                      rotate_left
                                                      ·show Act.put _ (some 84) _=_
                                                       simp only [Act.put,q1_,q2_,q3_,aG,aH];rfl
                                                      exact aZ (by simp only [putAll,Act.put,q1_,q2_,q3_];try rfl) (ajN ⟨wj.heap.size,cV⟩ _ (JS.e2 kJ))
                                                     ·skip
                                                      refine dG (w1:=?_) (v:=?_) (by rfl) rfl ?_ ?_
                                                      rotate_left 2
                                                      ·go_simp;constructor
                                                       ·rfl
                                                       ·rfl
                                                      refine hK.out _ _ (KC.out _ _ _ _ _ (JS.e3 kJ)) (fun hHeld=>?_);clear hK K;refine aZ (a':=?_) ?_ ?_
                                                      rotate_left
                                                      ·show Act.put _ (some 91) _=_
                                                       simp only [Act.put,q1_,q2_,q3_,aG,aH];rfl
                                                      exact aZ (by simp only [putAll,Act.put,q1_,q2_,q3_];try rfl) (aj0 ⟨wj.heap.size,cV⟩ _ (JS.e3 kJ))
                                                   ·skip
                                                    rintro cZ wj kJ
                                                    replace kJ:JS wc wj none none (some (.slice (some ⟨cZ,0,none⟩) 0 0,[])) none:=kJ;have hHeld:=KC.out _ _ _ _ _ kJ;refine aZ (a':=?_) ?_ ?_
                                                    rotate_left;·simp only [putAll,Act.put,q1_,q2_,q3_];rfl
                                                    refine rW (i:=0) (j:=7) (k:=22) (Ni:=some 77) (Nj:=some 84) (Nk:=some 18) (bs_ 24 908087) (bs_ 24 908214) (bs_ 24 5102390) rfl rfl rfl rfl rfl rfl (by kernel_rfl) (by decide) (by decide) (by decide) (fun K hK=>?_) (fun K hK=>?_) (fun K hK=>?_)
                                                    ·skip
                                                     refine dG (w1:=?_) (v:=?_) (by rfl) rfl ?_ ?_
                                                     rotate_left 2
                                                     ·go_simp;constructor
                                                      ·rfl
                                                      ·rfl
                                                     refine hK.out _ _ (KC.out _ _ _ _ _ (JS.e1 kJ)) (fun hHeld=>?_);clear hK K;refine aZ (a':=?_) ?_ ?_
                                                     rotate_left
                                                     ·show Act.put _ (some 77) _=_
                                                      simp only [Act.put,q1_,q2_,q3_,aG,aH];rfl
                                                     exact aZ (by simp only [putAll,Act.put,q1_,q2_,q3_];try rfl) (aeI ⟨wj.heap.size,cZ⟩ _ (JS.e1 kJ))
                                                    ·skip
                                                     refine dG (w1:=?_) (v:=?_) (by rfl) rfl ?_ ?_
                                                     rotate_left 2
                                                     ·go_simp;constructor
                                                      ·rfl
                                                      ·rfl
                                                     refine hK.out _ _ (KC.out _ _ _ _ _ (JS.e2 kJ)) (fun hHeld=>?_);clear hK K;refine aZ (a':=?_) ?_ ?_
                                                     rotate_left
                                                     ·show Act.put _ (some 84) _=_
                                                      simp only [Act.put,q1_,q2_,q3_,aG,aH];rfl
                                                     exact aZ (by simp only [putAll,Act.put,q1_,q2_,q3_];try rfl) (aiU ⟨wj.heap.size,cZ⟩ _ (JS.e2 kJ))
                                                    ·skip
                                                     refine dG (w1:=?_) (v:=?_) (by rfl) rfl ?_ ?_
                                                     rotate_left 2
                                                     ·go_simp;constructor
                                                      ·rfl
                                                      ·rfl
                                                     refine hK.out _ _ (KC.out _ _ _ _ _ (JS.box kJ)) (fun hHeld=>?_);clear hK K;refine aZ (a':=?_) ?_ ?_
                                                     rotate_left
                                                     ·show Act.put _ (some 18) _=_
                                                      simp only [Act.put,q1_,q2_,q3_,aG,aH];rfl
                                                     exact aZ (by simp only [putAll,Act.put,q1_,q2_,q3_];try rfl) (aj0 ⟨cZ,wj.heap.size⟩ _ (JS.box kJ))
                                                  ·skip
                                                   rintro s7 wj kJ
                                                   replace kJ:JS wc wj none (some (.slice (some ⟨s7,0,none⟩) 0 0,[])) none none:=kJ;have hHeld:=KC.out _ _ _ _ _ kJ;refine aZ (a':=?_) ?_ ?_
                                                   rotate_left;·simp only [putAll,Act.put,q1_,q2_,q3_];rfl
                                                   refine rW (i:=0) (j:=14) (k:=22) (Ni:=some 77) (Nj:=some 91) (Nk:=some 18) (bs_ 24 891831) (bs_ 24 908214) (bs_ 24 5086134) rfl rfl rfl rfl rfl rfl (by kernel_rfl) (by decide) (by decide) (by decide) (fun K hK=>?_) (fun K hK=>?_) (fun K hK=>?_)
                                                   ·skip
                                                    refine dG (w1:=?_) (v:=?_) (by rfl) rfl ?_ ?_
                                                    rotate_left 2
                                                    ·go_simp;constructor
                                                     ·rfl
                                                     ·rfl
                                                    refine hK.out _ _ (KC.out _ _ _ _ _ (JS.e1 kJ)) (fun hHeld=>?_);clear hK K;refine aZ (a':=?_) ?_ ?_
                                                    rotate_left
                                                    ·show Act.put _ (some 77) _=_
                                                     simp only [Act.put,q1_,q2_,q3_,aG,aH];rfl
                                                    exact aZ (by simp only [putAll,Act.put,q1_,q2_,q3_];try rfl) (afT ⟨wj.heap.size,s7⟩ _ (JS.e1 kJ))
                                                   ·skip
                                                    refine dG (w1:=?_) (v:=?_) (by rfl) rfl ?_ ?_
                                                    rotate_left 2
                                                    ·go_simp;constructor
                                                     ·rfl
                                                     ·rfl
                                                    refine hK.out _ _ (KC.out _ _ _ _ _ (JS.e3 kJ)) (fun hHeld=>?_);clear hK K;refine aZ (a':=?_) ?_ ?_
                                                    rotate_left
                                                    ·show Act.put _ (some 91) _=_
                                                     simp only [Act.put,q1_,q2_,q3_,aG,aH];rfl
                                                    exact aZ (by simp only [putAll,Act.put,q1_,q2_,q3_];try rfl) (aiU ⟨s7,wj.heap.size⟩ _ (JS.e3 kJ))
                                                   ·skip
                                                    refine dG (w1:=?_) (v:=?_) (by rfl) rfl ?_ ?_
                                                    rotate_left 2
                                                    ·go_simp;constructor
                                                     ·rfl
                                                     ·rfl
                                                    refine hK.out _ _ (KC.out _ _ _ _ _ (JS.box kJ)) (fun hHeld=>?_);clear hK K;refine aZ (a':=?_) ?_ ?_
                                                    rotate_left
                                                    ·show Act.put _ (some 18) _=_
                                                     simp only [Act.put,q1_,q2_,q3_,aG,aH];rfl
                                                    exact aZ (by simp only [putAll,Act.put,q1_,q2_,q3_];try rfl) (ajN ⟨s7,wj.heap.size⟩ _ (JS.box kJ))
                                                 ·skip
                                                  rintro s0 wj kJ
                                                  replace kJ:JS wc wj (some (.slice (some ⟨s0,0,none⟩) 0 0,[])) none none none:=kJ;have hHeld:=KC.out _ _ _ _ _ kJ;refine aZ (a':=?_) ?_ ?_
                                                  rotate_left;·simp only [putAll,Act.put,q1_,q2_,q3_];rfl
                                                  refine WW (i:=3) (j:=7) (k:=14) (m:=22) (Ni:=some 80) (Nj:=some 84) (Nk:=some 91) (Nm:=some 18) (bs_ 24 891711) (bs_ 24 891831) (bs_ 24 908087) (bs_ 24 5086007) rfl rfl rfl rfl rfl rfl rfl rfl (by kernel_rfl) (by decide) (by decide) (by decide) (by decide) (fun K hK=>?_) (fun K hK=>?_) (fun K hK=>?_) (fun K hK=>?_)
                                                  ·skip
                                                   refine app1 (by rfl) (.tmp 77) (.tmp 79) rfl (by rfl) (by rfl) kJ F1 (by have:=L1;simp only [List.length_append,List.length_nil];omega) ?_
                                                   intro v3 wn kJn;refine hK.out _ _ (KC.out _ _ _ _ _ kJn) (fun hHeld=>?_);clear hK K;refine aZ (a':=?_) ?_ ?_
                                                   rotate_left
                                                   ·show Act.put _ (some 80) _=_
                                                    simp only [Act.put,q1_,q2_,q3_,aG,aH];rfl
                                                   exact aZ (by simp only [putAll,Act.put,q1_,q2_,q3_];try rfl) (ap7 ⟨s0,v3⟩ _ kJn)
                                                  ·skip
                                                   refine dG (w1:=?_) (v:=?_) (by rfl) rfl ?_ ?_
                                                   rotate_left 2
                                                   ·go_simp;constructor
                                                    ·rfl
                                                    ·rfl
                                                   refine hK.out _ _ (KC.out _ _ _ _ _ (JS.e2 kJ)) (fun hHeld=>?_);clear hK K;refine aZ (a':=?_) ?_ ?_
                                                   rotate_left
                                                   ·show Act.put _ (some 84) _=_
                                                    simp only [Act.put,q1_,q2_,q3_,aG,aH];rfl
                                                   exact aZ (by simp only [putAll,Act.put,q1_,q2_,q3_];try rfl) (afT ⟨s0,wj.heap.size⟩ _ (JS.e2 kJ))
                                                  ·skip
                                                   refine dG (w1:=?_) (v:=?_) (by rfl) rfl ?_ ?_
                                                   rotate_left 2
                                                   ·go_simp;constructor
                                                    ·rfl
                                                    ·rfl
                                                   refine hK.out _ _ (KC.out _ _ _ _ _ (JS.e3 kJ)) (fun hHeld=>?_);clear hK K;refine aZ (a':=?_) ?_ ?_
                                                   rotate_left
                                                   ·show Act.put _ (some 91) _=_
                                                    simp only [Act.put,q1_,q2_,q3_,aG,aH];rfl
                                                   exact aZ (by simp only [putAll,Act.put,q1_,q2_,q3_];try rfl) (aeI ⟨s0,wj.heap.size⟩ _ (JS.e3 kJ))
                                                  ·skip
                                                   refine dG (w1:=?_) (v:=?_) (by rfl) rfl ?_ ?_
                                                   rotate_left 2
                                                   ·go_simp;constructor
                                                    ·rfl
                                                    ·rfl
                                                   refine hK.out _ _ (KC.out _ _ _ _ _ (JS.box kJ)) (fun hHeld=>?_);clear hK K;refine aZ (a':=?_) ?_ ?_
                                                   rotate_left
                                                   ·show Act.put _ (some 18) _=_
                                                    simp only [Act.put,q1_,q2_,q3_,aG,aH];rfl
                                                   exact aZ (by simp only [putAll,Act.put,q1_,q2_,q3_];try rfl) (afI ⟨s0,wj.heap.size⟩ _ (JS.box kJ))
                                                ·skip
                                                 rintro ⟨cZ,cV⟩ wj kJ
                                                 replace kJ:JS wc wj none none (some (.slice (some ⟨cZ,0,none⟩) 0 0,[])) (some cV):=kJ;have hHeld:=KC.out _ _ _ _ _ kJ;refine aZ (a':=?_) ?_ ?_
                                                 rotate_left;·simp only [putAll,Act.put,q1_,q2_,q3_];rfl
                                                 refine two_ (i:=0) (j:=7) (Ni:=some 77) (Nj:=some 84) (bs_ 24 5102391) (bs_ 24 5102518) rfl rfl rfl rfl (by kernel_rfl) (by decide) (by decide) (fun K hK=>?_) (fun K hK=>?_)
                                                 ·skip
                                                  refine dG (w1:=?_) (v:=?_) (by rfl) rfl ?_ ?_
                                                  rotate_left 2
                                                  ·go_simp;constructor
                                                   ·rfl
                                                   ·rfl
                                                  refine hK.out _ _ (KC.out _ _ _ _ _ (JS.e1 kJ)) (fun hHeld=>?_);clear hK K;refine aZ (a':=?_) ?_ ?_
                                                  rotate_left
                                                  ·show Act.put _ (some 77) _=_
                                                   simp only [Act.put,q1_,q2_,q3_,aG,aH];rfl
                                                  exact aZ (by simp only [putAll,Act.put,q1_,q2_,q3_];try rfl) (T8 ⟨wj.heap.size,cZ,cV⟩ _ (JS.e1 kJ))
                                                 ·skip
                                                  refine dG (w1:=?_) (v:=?_) (by rfl) rfl ?_ ?_
                                                  rotate_left 2
                                                  ·go_simp;constructor
                                                   ·rfl
                                                   ·rfl
                                                  refine hK.out _ _ (KC.out _ _ _ _ _ (JS.e2 kJ)) (fun hHeld=>?_);clear hK K;refine aZ (a':=?_) ?_ ?_
                                                  rotate_left
                                                  ·show Act.put _ (some 84) _=_
                                                   simp only [Act.put,q1_,q2_,q3_,aG,aH];rfl
                                                  exact aZ (by simp only [putAll,Act.put,q1_,q2_,q3_];try rfl) (SU ⟨wj.heap.size,cZ,cV⟩ _ (JS.e2 kJ))
                                               ·skip
                                                rintro ⟨s7,cV⟩ wj kJ
                                                replace kJ:JS wc wj none (some (.slice (some ⟨s7,0,none⟩) 0 0,[])) none (some cV):=kJ;have hHeld:=KC.out _ _ _ _ _ kJ;refine aZ (a':=?_) ?_ ?_
                                                rotate_left;·simp only [putAll,Act.put,q1_,q2_,q3_];rfl
                                                refine two_ (i:=0) (j:=14) (Ni:=some 77) (Nj:=some 91) (bs_ 24 5086135) (bs_ 24 5102518) rfl rfl rfl rfl (by kernel_rfl) (by decide) (by decide) (fun K hK=>?_) (fun K hK=>?_)
                                                ·skip
                                                 refine dG (w1:=?_) (v:=?_) (by rfl) rfl ?_ ?_
                                                 rotate_left 2
                                                 ·go_simp;constructor
                                                  ·rfl
                                                  ·rfl
                                                 refine hK.out _ _ (KC.out _ _ _ _ _ (JS.e1 kJ)) (fun hHeld=>?_);clear hK K;refine aZ (a':=?_) ?_ ?_
                                                 rotate_left
                                                 ·show Act.put _ (some 77) _=_
                                                  simp only [Act.put,q1_,q2_,q3_,aG,aH];rfl
                                                 exact aZ (by simp only [putAll,Act.put,q1_,q2_,q3_];try rfl) (SQ ⟨wj.heap.size,s7,cV⟩ _ (JS.e1 kJ))
                                                ·skip
                                                 refine dG (w1:=?_) (v:=?_) (by rfl) rfl ?_ ?_
                                                 rotate_left 2
                                                 ·go_simp;constructor
                                                  ·rfl
                                                  ·rfl
                                                 refine hK.out _ _ (KC.out _ _ _ _ _ (JS.e3 kJ)) (fun hHeld=>?_);clear hK K;refine aZ (a':=?_) ?_ ?_
                                                 rotate_left
                                                 ·show Act.put _ (some 91) _=_
                                                  simp only [Act.put,q1_,q2_,q3_,aG,aH];rfl
                                                 exact aZ (by simp only [putAll,Act.put,q1_,q2_,q3_];try rfl) (SU ⟨s7,wj.heap.size,cV⟩ _ (JS.e3 kJ))
                                              ·skip
                                               rintro ⟨s7,cZ⟩ wj kJ
                                               replace kJ:JS wc wj none (some (.slice (some ⟨s7,0,none⟩) 0 0,[])) (some (.slice (some ⟨cZ,0,none⟩) 0 0,[])) none:=kJ;have hHeld:=KC.out _ _ _ _ _ kJ;refine aZ (a':=?_) ?_ ?_
                                               rotate_left;·simp only [putAll,Act.put,q1_,q2_,q3_];rfl
                                               refine two_ (i:=0) (j:=22) (Ni:=some 77) (Nj:=some 18) (bs_ 24 908215) (bs_ 24 5102518) rfl rfl rfl rfl (by kernel_rfl) (by decide) (by decide) (fun K hK=>?_) (fun K hK=>?_)
                                               ·skip
                                                refine dG (w1:=?_) (v:=?_) (by rfl) rfl ?_ ?_
                                                rotate_left 2
                                                ·go_simp;constructor
                                                 ·rfl
                                                 ·rfl
                                                refine hK.out _ _ (KC.out _ _ _ _ _ (JS.e1 kJ)) (fun hHeld=>?_);clear hK K;refine aZ (a':=?_) ?_ ?_
                                                rotate_left
                                                ·show Act.put _ (some 77) _=_
                                                 simp only [Act.put,q1_,q2_,q3_,aG,aH];rfl
                                                exact aZ (by simp only [putAll,Act.put,q1_,q2_,q3_];try rfl) (QO ⟨wj.heap.size,s7,cZ⟩ _ (JS.e1 kJ))
                                               ·skip
                                                refine dG (w1:=?_) (v:=?_) (by rfl) rfl ?_ ?_
                                                rotate_left 2
                                                ·go_simp;constructor
                                                 ·rfl
                                                 ·rfl
                                                refine hK.out _ _ (KC.out _ _ _ _ _ (JS.box kJ)) (fun hHeld=>?_);clear hK K;refine aZ (a':=?_) ?_ ?_
                                                rotate_left
                                                ·show Act.put _ (some 18) _=_
                                                 simp only [Act.put,q1_,q2_,q3_,aG,aH];rfl
                                                exact aZ (by simp only [putAll,Act.put,q1_,q2_,q3_];try rfl) (SU ⟨s7,cZ,wj.heap.size⟩ _ (JS.box kJ))
                                             ·skip
                                              rintro ⟨s0,cV⟩ wj kJ
                                              replace kJ:JS wc wj (some (.slice (some ⟨s0,0,none⟩) 0 0,[])) none none (some cV):=kJ;have hHeld:=KC.out _ _ _ _ _ kJ;refine aZ (a':=?_) ?_ ?_
                                              rotate_left;·simp only [putAll,Act.put,q1_,q2_,q3_];rfl
                                              refine rW (i:=3) (j:=7) (k:=14) (Ni:=some 80) (Nj:=some 84) (Nk:=some 91) (bs_ 24 5086015) (bs_ 24 5086135) (bs_ 24 5102391) rfl rfl rfl rfl rfl rfl (by kernel_rfl) (by decide) (by decide) (by decide) (fun K hK=>?_) (fun K hK=>?_) (fun K hK=>?_)
                                              ·skip
                                               refine app1 (by rfl) (.tmp 77) (.tmp 79) rfl (by rfl) (by rfl) kJ F1 (by have:=L1;simp only [List.length_append,List.length_nil];omega) ?_
                                               intro v3 wn kJn;refine hK.out _ _ (KC.out _ _ _ _ _ kJn) (fun hHeld=>?_);clear hK K;refine aZ (a':=?_) ?_ ?_
                                               rotate_left
                                               ·show Act.put _ (some 80) _=_
                                                simp only [Act.put,q1_,q2_,q3_,aG,aH];rfl
                                               exact aZ (by simp only [putAll,Act.put,q1_,q2_,q3_];try rfl) (aaG ⟨s0,v3,cV⟩ _ kJn)
                                              ·skip
                                               refine dG (w1:=?_) (v:=?_) (by rfl) rfl ?_ ?_
                                               rotate_left 2
                                               ·go_simp;constructor
                                                ·rfl
                                                ·rfl
                                               refine hK.out _ _ (KC.out _ _ _ _ _ (JS.e2 kJ)) (fun hHeld=>?_);clear hK K;refine aZ (a':=?_) ?_ ?_
                                               rotate_left
                                               ·show Act.put _ (some 84) _=_
                                                simp only [Act.put,q1_,q2_,q3_,aG,aH];rfl
                                               exact aZ (by simp only [putAll,Act.put,q1_,q2_,q3_];try rfl) (SQ ⟨s0,wj.heap.size,cV⟩ _ (JS.e2 kJ))
                                              ·skip
                                               refine dG (w1:=?_) (v:=?_) (by rfl) rfl ?_ ?_
                                               rotate_left 2
                                               ·go_simp;constructor
                                                ·rfl
                                                ·rfl
                                               refine hK.out _ _ (KC.out _ _ _ _ _ (JS.e3 kJ)) (fun hHeld=>?_);clear hK K;refine aZ (a':=?_) ?_ ?_
                                               rotate_left
                                               ·show Act.put _ (some 91) _=_
                                                simp only [Act.put,q1_,q2_,q3_,aG,aH];rfl
                                               exact aZ (by simp only [putAll,Act.put,q1_,q2_,q3_];try rfl) (T8 ⟨s0,wj.heap.size,cV⟩ _ (JS.e3 kJ))
                                            ·skip
                                             rintro ⟨s0,cZ⟩ wj kJ
                                             replace kJ:JS wc wj (some (.slice (some ⟨s0,0,none⟩) 0 0,[])) none (some (.slice (some ⟨cZ,0,none⟩) 0 0,[])) none:=kJ;have hHeld:=KC.out _ _ _ _ _ kJ;refine aZ (a':=?_) ?_ ?_
                                             rotate_left;·simp only [putAll,Act.put,q1_,q2_,q3_];rfl
                                             refine rW (i:=3) (j:=7) (k:=22) (Ni:=some 80) (Nj:=some 84) (Nk:=some 18) (bs_ 24 908095) (bs_ 24 908215) (bs_ 24 5102391) rfl rfl rfl rfl rfl rfl (by kernel_rfl) (by decide) (by decide) (by decide) (fun K hK=>?_) (fun K hK=>?_) (fun K hK=>?_)
                                             ·skip
                                              refine app1 (by rfl) (.tmp 77) (.tmp 79) rfl (by rfl) (by rfl) kJ F1 (by have:=L1;simp only [List.length_append,List.length_nil];omega) ?_
                                              intro v3 wn kJn;refine hK.out _ _ (KC.out _ _ _ _ _ kJn) (fun hHeld=>?_);clear hK K;refine aZ (a':=?_) ?_ ?_
                                              rotate_left
                                              ·show Act.put _ (some 80) _=_
                                               simp only [Act.put,q1_,q2_,q3_,aG,aH];rfl
                                              exact aZ (by simp only [putAll,Act.put,q1_,q2_,q3_];try rfl) (afO ⟨s0,v3,cZ⟩ _ kJn)
                                             ·skip
                                              refine dG (w1:=?_) (v:=?_) (by rfl) rfl ?_ ?_
                                              rotate_left 2
                                              ·go_simp;constructor
                                               ·rfl
                                               ·rfl
                                              refine hK.out _ _ (KC.out _ _ _ _ _ (JS.e2 kJ)) (fun hHeld=>?_);clear hK K;refine aZ (a':=?_) ?_ ?_
                                              rotate_left
                                              ·show Act.put _ (some 84) _=_
                                               simp only [Act.put,q1_,q2_,q3_,aG,aH];rfl
                                              exact aZ (by simp only [putAll,Act.put,q1_,q2_,q3_];try rfl) (QO ⟨s0,wj.heap.size,cZ⟩ _ (JS.e2 kJ))
                                             ·skip
                                              refine dG (w1:=?_) (v:=?_) (by rfl) rfl ?_ ?_
                                              rotate_left 2
                                              ·go_simp;constructor
                                               ·rfl
                                               ·rfl
                                              refine hK.out _ _ (KC.out _ _ _ _ _ (JS.box kJ)) (fun hHeld=>?_);clear hK K;refine aZ (a':=?_) ?_ ?_
                                              rotate_left
                                              ·show Act.put _ (some 18) _=_
                                               simp only [Act.put,q1_,q2_,q3_,aG,aH];rfl
                                              exact aZ (by simp only [putAll,Act.put,q1_,q2_,q3_];try rfl) (T8 ⟨s0,cZ,wj.heap.size⟩ _ (JS.box kJ))
                                           ·skip
                                            rintro ⟨s0,s7⟩ wj kJ
                                            replace kJ:JS wc wj (some (.slice (some ⟨s0,0,none⟩) 0 0,[])) (some (.slice (some ⟨s7,0,none⟩) 0 0,[])) none none:=kJ;have hHeld:=KC.out _ _ _ _ _ kJ;refine aZ (a':=?_) ?_ ?_
                                            rotate_left;·simp only [putAll,Act.put,q1_,q2_,q3_];rfl
                                            refine rW (i:=3) (j:=14) (k:=22) (Ni:=some 80) (Nj:=some 91) (Nk:=some 18) (bs_ 24 891839) (bs_ 24 908215) (bs_ 24 5086135) rfl rfl rfl rfl rfl rfl (by kernel_rfl) (by decide) (by decide) (by decide) (fun K hK=>?_) (fun K hK=>?_) (fun K hK=>?_)
                                            ·skip
                                             refine app1 (by rfl) (.tmp 77) (.tmp 79) rfl (by rfl) (by rfl) kJ F1 (by have:=L1;simp only [List.length_append,List.length_nil];omega) ?_
                                             intro v3 wn kJn;refine hK.out _ _ (KC.out _ _ _ _ _ kJn) (fun hHeld=>?_);clear hK K;refine aZ (a':=?_) ?_ ?_
                                             rotate_left
                                             ·show Act.put _ (some 80) _=_
                                              simp only [Act.put,q1_,q2_,q3_,aG,aH];rfl
                                             exact aZ (by simp only [putAll,Act.put,q1_,q2_,q3_];try rfl) (aiH ⟨s0,v3,s7⟩ _ kJn)
                                            ·skip
                                             refine dG (w1:=?_) (v:=?_) (by rfl) rfl ?_ ?_
                                             rotate_left 2
                                             ·go_simp;constructor
                                              ·rfl
                                              ·rfl
                                             refine hK.out _ _ (KC.out _ _ _ _ _ (JS.e3 kJ)) (fun hHeld=>?_);clear hK K;refine aZ (a':=?_) ?_ ?_
                                             rotate_left
                                             ·show Act.put _ (some 91) _=_
                                              simp only [Act.put,q1_,q2_,q3_,aG,aH];rfl
                                             exact aZ (by simp only [putAll,Act.put,q1_,q2_,q3_];try rfl) (QO ⟨s0,s7,wj.heap.size⟩ _ (JS.e3 kJ))
                                            ·skip
                                             refine dG (w1:=?_) (v:=?_) (by rfl) rfl ?_ ?_
                                             rotate_left 2
                                             ·go_simp;constructor
                                              ·rfl
                                              ·rfl
                                             refine hK.out _ _ (KC.out _ _ _ _ _ (JS.box kJ)) (fun hHeld=>?_);clear hK K;refine aZ (a':=?_) ?_ ?_
                                             rotate_left
                                             ·show Act.put _ (some 18) _=_
                                              simp only [Act.put,q1_,q2_,q3_,aG,aH];rfl
                                             exact aZ (by simp only [putAll,Act.put,q1_,q2_,q3_];try rfl) (SQ ⟨s0,s7,wj.heap.size⟩ _ (JS.box kJ))
                                          ·skip
                                           rintro ⟨s0,v3⟩ wj kJ
                                           replace kJ:JS wc wj (some (v3,[]++cX)) none none none:=kJ;have hHeld:=KC.out _ _ _ _ _ kJ;refine aZ (a':=?_) ?_ ?_
                                           rotate_left;·simp only [putAll,Act.put,q1_,q2_,q3_];rfl
                                           refine WW (i:=6) (j:=7) (k:=14) (m:=22) (Ni:=some 83) (Nj:=some 84) (Nk:=some 91) (Nm:=some 18) (bs_ 24 891775) (bs_ 24 891839) (bs_ 24 908095) (bs_ 24 5086015) rfl rfl rfl rfl rfl rfl rfl rfl (by kernel_rfl) (by decide) (by decide) (by decide) (by decide) (fun K hK=>?_) (fun K hK=>?_) (fun K hK=>?_) (fun K hK=>?_)
                                           ·skip
                                            refine app1 (by rfl) (.tmp 80) (.tmp 82) rfl (by rfl) (by rfl) kJ F4 (by have:=L1;have:=L4;simp only [List.length_append,List.length_nil];omega) ?_
                                            intro v6 wn kJn;rw [← k9.out] at kJn;refine hK.out _ _ (KC.out _ _ _ _ _ kJn) (fun hHeld=>?_);clear hK K;refine aZ (a':=?_) ?_ ?_
                                            rotate_left
                                            ·show Act.put _ (some 83) _=_
                                             simp only [Act.put,q1_,q2_,q3_,aG,aH];rfl
                                            exact aZ (by simp only [putAll,Act.put,q1_,q2_,q3_];try rfl) (auI ⟨s0,v3,v6⟩ _ kJn)
                                           ·skip
                                            refine dG (w1:=?_) (v:=?_) (by rfl) rfl ?_ ?_
                                            rotate_left 2
                                            ·go_simp;constructor
                                             ·rfl
                                             ·rfl
                                            refine hK.out _ _ (KC.out _ _ _ _ _ (JS.e2 kJ)) (fun hHeld=>?_);clear hK K;refine aZ (a':=?_) ?_ ?_
                                            rotate_left
                                            ·show Act.put _ (some 84) _=_
                                             simp only [Act.put,q1_,q2_,q3_,aG,aH];rfl
                                            exact aZ (by simp only [putAll,Act.put,q1_,q2_,q3_];try rfl) (aiH ⟨s0,v3,wj.heap.size⟩ _ (JS.e2 kJ))
                                           ·skip
                                            refine dG (w1:=?_) (v:=?_) (by rfl) rfl ?_ ?_
                                            rotate_left 2
                                            ·go_simp;constructor
                                             ·rfl
                                             ·rfl
                                            refine hK.out _ _ (KC.out _ _ _ _ _ (JS.e3 kJ)) (fun hHeld=>?_);clear hK K;refine aZ (a':=?_) ?_ ?_
                                            rotate_left
                                            ·show Act.put _ (some 91) _=_
                                             simp only [Act.put,q1_,q2_,q3_,aG,aH];rfl
                                            exact aZ (by simp only [putAll,Act.put,q1_,q2_,q3_];try rfl) (afO ⟨s0,v3,wj.heap.size⟩ _ (JS.e3 kJ))
                                           ·skip
                                            refine dG (w1:=?_) (v:=?_) (by rfl) rfl ?_ ?_
                                            rotate_left 2
                                            ·go_simp;constructor
                                             ·rfl
                                             ·rfl
                                            refine hK.out _ _ (KC.out _ _ _ _ _ (JS.box kJ)) (fun hHeld=>?_);clear hK K;refine aZ (a':=?_) ?_ ?_
                                            rotate_left
                                            ·show Act.put _ (some 18) _=_
                                             simp only [Act.put,q1_,q2_,q3_,aG,aH];rfl
                                            exact aZ (by simp only [putAll,Act.put,q1_,q2_,q3_];try rfl) (aaG ⟨s0,v3,wj.heap.size⟩ _ (JS.box kJ))
                                         ·skip
                                          rintro ⟨s7,cZ,cV⟩ wj kJ
                                          replace kJ:JS wc wj none (some (.slice (some ⟨s7,0,none⟩) 0 0,[])) (some (.slice (some ⟨cZ,0,none⟩) 0 0,[])) (some cV):=kJ;have hHeld:=KC.out _ _ _ _ _ kJ;refine aZ (a':=?_) ?_ ?_
                                          rotate_left;·simp only [putAll,Act.put,q1_,q2_,q3_];rfl
                                          refine one_ (i:=0) (N:=some 77) (bs_ 24 5102519) rfl rfl (by kernel_rfl) (by decide) (fun K hK=>?_);refine dG (w1:=?_) (v:=?_) (by rfl) rfl ?_ ?_
                                          rotate_left 2
                                          ·go_simp;constructor
                                           ·rfl
                                           ·rfl
                                          refine hK.out _ _ (KC.out _ _ _ _ _ (JS.e1 kJ)) (fun hHeld=>?_);clear hK K;refine aZ (a':=?_) ?_ ?_
                                          rotate_left
                                          ·show Act.put _ (some 77) _=_
                                           simp only [Act.put,q1_,q2_,q3_,aG,aH];rfl
                                          exact aZ (by simp only [putAll,Act.put,q1_,q2_,q3_];try rfl) (NB ⟨wj.heap.size,s7,cZ,cV⟩ _ (JS.e1 kJ))
                                        ·skip
                                         rintro ⟨s0,cZ,cV⟩ wj kJ
                                         replace kJ:JS wc wj (some (.slice (some ⟨s0,0,none⟩) 0 0,[])) none (some (.slice (some ⟨cZ,0,none⟩) 0 0,[])) (some cV):=kJ;have hHeld:=KC.out _ _ _ _ _ kJ;refine aZ (a':=?_) ?_ ?_
                                         rotate_left;·simp only [putAll,Act.put,q1_,q2_,q3_];rfl
                                         refine two_ (i:=3) (j:=7) (Ni:=some 80) (Nj:=some 84) (bs_ 24 5102399) (bs_ 24 5102519) rfl rfl rfl rfl (by kernel_rfl) (by decide) (by decide) (fun K hK=>?_) (fun K hK=>?_)
                                         ·skip
                                          refine app1 (by rfl) (.tmp 77) (.tmp 79) rfl (by rfl) (by rfl) kJ F1 (by have:=L1;simp only [List.length_append,List.length_nil];omega) ?_
                                          intro v3 wn kJn;refine hK.out _ _ (KC.out _ _ _ _ _ kJn) (fun hHeld=>?_);clear hK K;refine aZ (a':=?_) ?_ ?_
                                          rotate_left
                                          ·show Act.put _ (some 80) _=_
                                           simp only [Act.put,q1_,q2_,q3_,aG,aH];rfl
                                          exact aZ (by simp only [putAll,Act.put,q1_,q2_,q3_];try rfl) (U5 ⟨s0,v3,cZ,cV⟩ _ kJn)
                                         ·skip
                                          refine dG (w1:=?_) (v:=?_) (by rfl) rfl ?_ ?_
                                          rotate_left 2
                                          ·go_simp;constructor
                                           ·rfl
                                           ·rfl
                                          refine hK.out _ _ (KC.out _ _ _ _ _ (JS.e2 kJ)) (fun hHeld=>?_);clear hK K;refine aZ (a':=?_) ?_ ?_
                                          rotate_left
                                          ·show Act.put _ (some 84) _=_
                                           simp only [Act.put,q1_,q2_,q3_,aG,aH];rfl
                                          exact aZ (by simp only [putAll,Act.put,q1_,q2_,q3_];try rfl) (NB ⟨s0,wj.heap.size,cZ,cV⟩ _ (JS.e2 kJ))
                                       ·skip
                                        rintro ⟨s0,s7,cV⟩ wj kJ
                                        replace kJ:JS wc wj (some (.slice (some ⟨s0,0,none⟩) 0 0,[])) (some (.slice (some ⟨s7,0,none⟩) 0 0,[])) none (some cV):=kJ;have hHeld:=KC.out _ _ _ _ _ kJ;refine aZ (a':=?_) ?_ ?_
                                        rotate_left;·simp only [putAll,Act.put,q1_,q2_,q3_];rfl
                                        refine two_ (i:=3) (j:=14) (Ni:=some 80) (Nj:=some 91) (bs_ 24 5086143) (bs_ 24 5102519) rfl rfl rfl rfl (by kernel_rfl) (by decide) (by decide) (fun K hK=>?_) (fun K hK=>?_)
                                        ·skip
                                         refine app1 (by rfl) (.tmp 77) (.tmp 79) rfl (by rfl) (by rfl) kJ F1 (by have:=L1;simp only [List.length_append,List.length_nil];omega) ?_
                                         intro v3 wn kJn;refine hK.out _ _ (KC.out _ _ _ _ _ kJn) (fun hHeld=>?_);clear hK K;refine aZ (a':=?_) ?_ ?_
                                         rotate_left
                                         ·show Act.put _ (some 80) _=_
                                          simp only [Act.put,q1_,q2_,q3_,aG,aH];rfl
                                         exact aZ (by simp only [putAll,Act.put,q1_,q2_,q3_];try rfl) (TU ⟨s0,v3,s7,cV⟩ _ kJn)
                                        ·skip
                                         refine dG (w1:=?_) (v:=?_) (by rfl) rfl ?_ ?_
                                         rotate_left 2
                                         ·go_simp;constructor
                                          ·rfl
                                          ·rfl
                                         refine hK.out _ _ (KC.out _ _ _ _ _ (JS.e3 kJ)) (fun hHeld=>?_);clear hK K;refine aZ (a':=?_) ?_ ?_
                                         rotate_left
                                         ·show Act.put _ (some 91) _=_
                                          simp only [Act.put,q1_,q2_,q3_,aG,aH];rfl
                                         exact aZ (by simp only [putAll,Act.put,q1_,q2_,q3_];try rfl) (NB ⟨s0,s7,wj.heap.size,cV⟩ _ (JS.e3 kJ))
                                      ·skip
                                       rintro ⟨s0,s7,cZ⟩ wj kJ
                                       replace kJ:JS wc wj (some (.slice (some ⟨s0,0,none⟩) 0 0,[])) (some (.slice (some ⟨s7,0,none⟩) 0 0,[])) (some (.slice (some ⟨cZ,0,none⟩) 0 0,[])) none:=kJ;have hHeld:=KC.out _ _ _ _ _ kJ;refine aZ (a':=?_) ?_ ?_
                                       rotate_left;·simp only [putAll,Act.put,q1_,q2_,q3_];rfl
                                       refine two_ (i:=3) (j:=22) (Ni:=some 80) (Nj:=some 18) (bs_ 24 908223) (bs_ 24 5102519) rfl rfl rfl rfl (by kernel_rfl) (by decide) (by decide) (fun K hK=>?_) (fun K hK=>?_)
                                       ·skip
                                        refine app1 (by rfl) (.tmp 77) (.tmp 79) rfl (by rfl) (by rfl) kJ F1 (by have:=L1;simp only [List.length_append,List.length_nil];omega) ?_
                                        intro v3 wn kJn;refine hK.out _ _ (KC.out _ _ _ _ _ kJn) (fun hHeld=>?_);clear hK K;refine aZ (a':=?_) ?_ ?_
                                        rotate_left
                                        ·show Act.put _ (some 80) _=_
                                         simp only [Act.put,q1_,q2_,q3_,aG,aH];rfl
                                        exact aZ (by simp only [putAll,Act.put,q1_,q2_,q3_];try rfl) (RA ⟨s0,v3,s7,cZ⟩ _ kJn)
                                       ·skip
                                        refine dG (w1:=?_) (v:=?_) (by rfl) rfl ?_ ?_
                                        rotate_left 2
                                        ·go_simp;constructor
                                         ·rfl
                                         ·rfl
                                        refine hK.out _ _ (KC.out _ _ _ _ _ (JS.box kJ)) (fun hHeld=>?_);clear hK K;refine aZ (a':=?_) ?_ ?_
                                        rotate_left
                                        ·show Act.put _ (some 18) _=_
                                         simp only [Act.put,q1_,q2_,q3_,aG,aH];rfl
                                        exact aZ (by simp only [putAll,Act.put,q1_,q2_,q3_];try rfl) (NB ⟨s0,s7,cZ,wj.heap.size⟩ _ (JS.box kJ))
                                     ·skip
                                      rintro ⟨s0,v3,cV⟩ wj kJ
                                      replace kJ:JS wc wj (some (v3,[]++cX)) none none (some cV):=kJ;have hHeld:=KC.out _ _ _ _ _ kJ;refine aZ (a':=?_) ?_ ?_
                                      rotate_left;·simp only [putAll,Act.put,q1_,q2_,q3_];rfl
                                      refine rW (i:=6) (j:=7) (k:=14) (Ni:=some 83) (Nj:=some 84) (Nk:=some 91) (bs_ 24 5086079) (bs_ 24 5086143) (bs_ 24 5102399) rfl rfl rfl rfl rfl rfl (by kernel_rfl) (by decide) (by decide) (by decide) (fun K hK=>?_) (fun K hK=>?_) (fun K hK=>?_)
                                      ·skip
                                       refine app1 (by rfl) (.tmp 80) (.tmp 82) rfl (by rfl) (by rfl) kJ F4 (by have:=L1;have:=L4;simp only [List.length_append,List.length_nil];omega) ?_
                                       intro v6 wn kJn;rw [← k9.out] at kJn;refine hK.out _ _ (KC.out _ _ _ _ _ kJn) (fun hHeld=>?_);clear hK K;refine aZ (a':=?_) ?_ ?_
                                       rotate_left
                                       ·show Act.put _ (some 83) _=_
                                        simp only [Act.put,q1_,q2_,q3_,aG,aH];rfl
                                       exact aZ (by simp only [putAll,Act.put,q1_,q2_,q3_];try rfl) (adX ⟨s0,v3,v6,cV⟩ _ kJn)
                                      ·skip
                                       refine dG (w1:=?_) (v:=?_) (by rfl) rfl ?_ ?_
                                       rotate_left 2
                                       ·go_simp;constructor
                                        ·rfl
                                        ·rfl
                                       refine hK.out _ _ (KC.out _ _ _ _ _ (JS.e2 kJ)) (fun hHeld=>?_);clear hK K;refine aZ (a':=?_) ?_ ?_
                                       rotate_left
                                       ·show Act.put _ (some 84) _=_
                                        simp only [Act.put,q1_,q2_,q3_,aG,aH];rfl
                                       exact aZ (by simp only [putAll,Act.put,q1_,q2_,q3_];try rfl) (TU ⟨s0,v3,wj.heap.size,cV⟩ _ (JS.e2 kJ))
                                      ·skip
                                       refine dG (w1:=?_) (v:=?_) (by rfl) rfl ?_ ?_
                                       rotate_left 2
                                       ·go_simp;constructor
                                        ·rfl
                                        ·rfl
                                       refine hK.out _ _ (KC.out _ _ _ _ _ (JS.e3 kJ)) (fun hHeld=>?_);clear hK K;refine aZ (a':=?_) ?_ ?_
                                       rotate_left
                                       ·show Act.put _ (some 91) _=_
                                        simp only [Act.put,q1_,q2_,q3_,aG,aH];rfl
                                       exact aZ (by simp only [putAll,Act.put,q1_,q2_,q3_];try rfl) (U5 ⟨s0,v3,wj.heap.size,cV⟩ _ (JS.e3 kJ))
                                    ·skip
                                     rintro ⟨s0,v3,cZ⟩ wj kJ
                                     replace kJ:JS wc wj (some (v3,[]++cX)) none (some (.slice (some ⟨cZ,0,none⟩) 0 0,[])) none:=kJ;have hHeld:=KC.out _ _ _ _ _ kJ;refine aZ (a':=?_) ?_ ?_
                                     rotate_left;·simp only [putAll,Act.put,q1_,q2_,q3_];rfl
                                     refine rW (i:=6) (j:=7) (k:=22) (Ni:=some 83) (Nj:=some 84) (Nk:=some 18) (bs_ 24 908159) (bs_ 24 908223) (bs_ 24 5102399) rfl rfl rfl rfl rfl rfl (by kernel_rfl) (by decide) (by decide) (by decide) (fun K hK=>?_) (fun K hK=>?_) (fun K hK=>?_)
                                     ·skip
                                      refine app1 (by rfl) (.tmp 80) (.tmp 82) rfl (by rfl) (by rfl) kJ F4 (by have:=L1;have:=L4;simp only [List.length_append,List.length_nil];omega) ?_
                                      intro v6 wn kJn;rw [← k9.out] at kJn;refine hK.out _ _ (KC.out _ _ _ _ _ kJn) (fun hHeld=>?_);clear hK K;refine aZ (a':=?_) ?_ ?_
                                      rotate_left
                                      ·show Act.put _ (some 83) _=_
                                       simp only [Act.put,q1_,q2_,q3_,aG,aH];rfl
                                      exact aZ (by simp only [putAll,Act.put,q1_,q2_,q3_];try rfl) (ZN ⟨s0,v3,v6,cZ⟩ _ kJn)
                                     ·skip
                                      refine dG (w1:=?_) (v:=?_) (by rfl) rfl ?_ ?_
                                      rotate_left 2
                                      ·go_simp;constructor
                                       ·rfl
                                       ·rfl
                                      refine hK.out _ _ (KC.out _ _ _ _ _ (JS.e2 kJ)) (fun hHeld=>?_);clear hK K;refine aZ (a':=?_) ?_ ?_
                                      rotate_left
                                      ·show Act.put _ (some 84) _=_
                                       simp only [Act.put,q1_,q2_,q3_,aG,aH];rfl
                                      exact aZ (by simp only [putAll,Act.put,q1_,q2_,q3_];try rfl) (RA ⟨s0,v3,wj.heap.size,cZ⟩ _ (JS.e2 kJ))
                                     ·skip
                                      refine dG (w1:=?_) (v:=?_) (by rfl) rfl ?_ ?_
                                      rotate_left 2
                                      ·go_simp;constructor
                                       ·rfl
                                       ·rfl
                                      refine hK.out _ _ (KC.out _ _ _ _ _ (JS.box kJ)) (fun hHeld=>?_);clear hK K;refine aZ (a':=?_) ?_ ?_
                                      rotate_left
                                      ·show Act.put _ (some 18) _=_
                                       simp only [Act.put,q1_,q2_,q3_,aG,aH];rfl
                                      exact aZ (by simp only [putAll,Act.put,q1_,q2_,q3_];try rfl) (U5 ⟨s0,v3,cZ,wj.heap.size⟩ _ (JS.box kJ))
                                   ·skip
                                    rintro ⟨s0,v3,s7⟩ wj kJ
                                    replace kJ:JS wc wj (some (v3,[]++cX)) (some (.slice (some ⟨s7,0,none⟩) 0 0,[])) none none:=kJ;have hHeld:=KC.out _ _ _ _ _ kJ;refine aZ (a':=?_) ?_ ?_
                                    rotate_left;·simp only [putAll,Act.put,q1_,q2_,q3_];rfl
                                    refine rW (i:=6) (j:=14) (k:=22) (Ni:=some 83) (Nj:=some 91) (Nk:=some 18) (bs_ 24 891903) (bs_ 24 908223) (bs_ 24 5086143) rfl rfl rfl rfl rfl rfl (by kernel_rfl) (by decide) (by decide) (by decide) (fun K hK=>?_) (fun K hK=>?_) (fun K hK=>?_)
                                    ·skip
                                     refine app1 (by rfl) (.tmp 80) (.tmp 82) rfl (by rfl) (by rfl) kJ F4 (by have:=L1;have:=L4;simp only [List.length_append,List.length_nil];omega) ?_
                                     intro v6 wn kJn;rw [← k9.out] at kJn;refine hK.out _ _ (KC.out _ _ _ _ _ kJn) (fun hHeld=>?_);clear hK K;refine aZ (a':=?_) ?_ ?_
                                     rotate_left
                                     ·show Act.put _ (some 83) _=_
                                      simp only [Act.put,q1_,q2_,q3_,aG,aH];rfl
                                     exact aZ (by simp only [putAll,Act.put,q1_,q2_,q3_];try rfl) (ab0 ⟨s0,v3,v6,s7⟩ _ kJn)
                                    ·skip
                                     refine dG (w1:=?_) (v:=?_) (by rfl) rfl ?_ ?_
                                     rotate_left 2
                                     ·go_simp;constructor
                                      ·rfl
                                      ·rfl
                                     refine hK.out _ _ (KC.out _ _ _ _ _ (JS.e3 kJ)) (fun hHeld=>?_);clear hK K;refine aZ (a':=?_) ?_ ?_
                                     rotate_left
                                     ·show Act.put _ (some 91) _=_
                                      simp only [Act.put,q1_,q2_,q3_,aG,aH];rfl
                                     exact aZ (by simp only [putAll,Act.put,q1_,q2_,q3_];try rfl) (RA ⟨s0,v3,s7,wj.heap.size⟩ _ (JS.e3 kJ))
                                    ·skip
                                     refine dG (w1:=?_) (v:=?_) (by rfl) rfl ?_ ?_
                                     rotate_left 2
                                     ·go_simp;constructor
                                      ·rfl
                                      ·rfl
                                     refine hK.out _ _ (KC.out _ _ _ _ _ (JS.box kJ)) (fun hHeld=>?_);clear hK K;refine aZ (a':=?_) ?_ ?_
                                     rotate_left
                                     ·show Act.put _ (some 18) _=_
                                      simp only [Act.put,q1_,q2_,q3_,aG,aH];rfl
                                     exact aZ (by simp only [putAll,Act.put,q1_,q2_,q3_];try rfl) (TU ⟨s0,v3,s7,wj.heap.size⟩ _ (JS.box kJ))
                                  ·skip
                                   rintro ⟨s0,v3,v6⟩ wj kJ
                                   replace kJ:JS wc wj (some (v6,X1)) none none none:=kJ;have hHeld:=KC.out _ _ _ _ _ kJ;refine aZ (a':=?_) ?_ ?_
                                   rotate_left;·simp only [putAll,Act.put,q1_,q2_,q3_];rfl
                                   refine rW (i:=7) (j:=14) (k:=22) (Ni:=some 84) (Nj:=some 91) (Nk:=some 18) (bs_ 24 891903) (bs_ 24 908159) (bs_ 24 5086079) rfl rfl rfl rfl rfl rfl (by kernel_rfl) (by decide) (by decide) (by decide) (fun K hK=>?_) (fun K hK=>?_) (fun K hK=>?_)
                                   ·skip
                                    refine dG (w1:=?_) (v:=?_) (by rfl) rfl ?_ ?_
                                    rotate_left 2
                                    ·go_simp;constructor
                                     ·rfl
                                     ·rfl
                                    refine hK.out _ _ (KC.out _ _ _ _ _ (JS.e2 kJ)) (fun hHeld=>?_);clear hK K;refine aZ (a':=?_) ?_ ?_
                                    rotate_left
                                    ·show Act.put _ (some 84) _=_
                                     simp only [Act.put,q1_,q2_,q3_,aG,aH];rfl
                                    exact aZ (by simp only [putAll,Act.put,q1_,q2_,q3_];try rfl) (ab0 ⟨s0,v3,v6,wj.heap.size⟩ _ (JS.e2 kJ))
                                   ·skip
                                    refine dG (w1:=?_) (v:=?_) (by rfl) rfl ?_ ?_
                                    rotate_left 2
                                    ·go_simp;constructor
                                     ·rfl
                                     ·rfl
                                    refine hK.out _ _ (KC.out _ _ _ _ _ (JS.e3 kJ)) (fun hHeld=>?_);clear hK K;refine aZ (a':=?_) ?_ ?_
                                    rotate_left
                                    ·show Act.put _ (some 91) _=_
                                     simp only [Act.put,q1_,q2_,q3_,aG,aH];rfl
                                    exact aZ (by simp only [putAll,Act.put,q1_,q2_,q3_];try rfl) (ZN ⟨s0,v3,v6,wj.heap.size⟩ _ (JS.e3 kJ))
                                   ·skip
                                    refine dG (w1:=?_) (v:=?_) (by rfl) rfl ?_ ?_
                                    rotate_left 2
                                    ·go_simp;constructor
                                     ·rfl
                                     ·rfl
                                    refine hK.out _ _ (KC.out _ _ _ _ _ (JS.box kJ)) (fun hHeld=>?_);clear hK K;refine aZ (a':=?_) ?_ ?_
                                    rotate_left
                                    ·show Act.put _ (some 18) _=_
                                     simp only [Act.put,q1_,q2_,q3_,aG,aH];rfl
                                    exact aZ (by simp only [putAll,Act.put,q1_,q2_,q3_];try rfl) (adX ⟨s0,v3,v6,wj.heap.size⟩ _ (JS.box kJ))
                                 ·skip
                                  rintro ⟨s0,s7,cZ,cV⟩ wj kJ
                                  replace kJ:JS wc wj (some (.slice (some ⟨s0,0,none⟩) 0 0,[])) (some (.slice (some ⟨s7,0,none⟩) 0 0,[])) (some (.slice (some ⟨cZ,0,none⟩) 0 0,[])) (some cV):=kJ;have hHeld:=KC.out _ _ _ _ _ kJ;refine aZ (a':=?_) ?_ ?_
                                  rotate_left;·simp only [putAll,Act.put,q1_,q2_,q3_];rfl
                                  refine one_ (i:=3) (N:=some 80) (bs_ 24 5102527) rfl rfl (by kernel_rfl) (by decide) (fun K hK=>?_);refine app1 (by rfl) (.tmp 77) (.tmp 79) rfl (by rfl) (by rfl) kJ F1 (by have:=L1;simp only [List.length_append,List.length_nil];omega) ?_
                                  intro v3 wn kJn;refine hK.out _ _ (KC.out _ _ _ _ _ kJn) (fun hHeld=>?_);clear hK K;refine aZ (a':=?_) ?_ ?_
                                  rotate_left
                                  ·show Act.put _ (some 80) _=_
                                   simp only [Act.put,q1_,q2_,q3_,aG,aH];rfl
                                  exact aZ (by simp only [putAll,Act.put,q1_,q2_,q3_];try rfl) (MS ⟨s0,v3,s7,cZ,cV⟩ _ kJn)
                                ·skip
                                 rintro ⟨s0,v3,cZ,cV⟩ wj kJ
                                 replace kJ:JS wc wj (some (v3,[]++cX)) none (some (.slice (some ⟨cZ,0,none⟩) 0 0,[])) (some cV):=kJ;have hHeld:=KC.out _ _ _ _ _ kJ;refine aZ (a':=?_) ?_ ?_
                                 rotate_left;·simp only [putAll,Act.put,q1_,q2_,q3_];rfl
                                 refine two_ (i:=6) (j:=7) (Ni:=some 83) (Nj:=some 84) (bs_ 24 5102463) (bs_ 24 5102527) rfl rfl rfl rfl (by kernel_rfl) (by decide) (by decide) (fun K hK=>?_) (fun K hK=>?_)
                                 ·skip
                                  refine app1 (by rfl) (.tmp 80) (.tmp 82) rfl (by rfl) (by rfl) kJ F4 (by have:=L1;have:=L4;simp only [List.length_append,List.length_nil];omega) ?_
                                  intro v6 wn kJn;rw [← k9.out] at kJn;refine hK.out _ _ (KC.out _ _ _ _ _ kJn) (fun hHeld=>?_);clear hK K;refine aZ (a':=?_) ?_ ?_
                                  rotate_left
                                  ·show Act.put _ (some 83) _=_
                                   simp only [Act.put,q1_,q2_,q3_,aG,aH];rfl
                                  exact aZ (by simp only [putAll,Act.put,q1_,q2_,q3_];try rfl) (SK ⟨s0,v3,v6,cZ,cV⟩ _ kJn)
                                 ·skip
                                  refine dG (w1:=?_) (v:=?_) (by rfl) rfl ?_ ?_
                                  rotate_left 2
                                  ·go_simp;constructor
                                   ·rfl
                                   ·rfl
                                  refine hK.out _ _ (KC.out _ _ _ _ _ (JS.e2 kJ)) (fun hHeld=>?_);clear hK K;refine aZ (a':=?_) ?_ ?_
                                  rotate_left
                                  ·show Act.put _ (some 84) _=_
                                   simp only [Act.put,q1_,q2_,q3_,aG,aH];rfl
                                  exact aZ (by simp only [putAll,Act.put,q1_,q2_,q3_];try rfl) (MS ⟨s0,v3,wj.heap.size,cZ,cV⟩ _ (JS.e2 kJ))
                               ·skip
                                rintro ⟨s0,v3,s7,cV⟩ wj kJ
                                replace kJ:JS wc wj (some (v3,[]++cX)) (some (.slice (some ⟨s7,0,none⟩) 0 0,[])) none (some cV):=kJ;have hHeld:=KC.out _ _ _ _ _ kJ;refine aZ (a':=?_) ?_ ?_
                                rotate_left;·simp only [putAll,Act.put,q1_,q2_,q3_];rfl
                                refine two_ (i:=6) (j:=14) (Ni:=some 83) (Nj:=some 91) (bs_ 24 5086207) (bs_ 24 5102527) rfl rfl rfl rfl (by kernel_rfl) (by decide) (by decide) (fun K hK=>?_) (fun K hK=>?_)
                                ·skip
                                 refine app1 (by rfl) (.tmp 80) (.tmp 82) rfl (by rfl) (by rfl) kJ F4 (by have:=L1;have:=L4;simp only [List.length_append,List.length_nil];omega) ?_
                                 intro v6 wn kJn;rw [← k9.out] at kJn;refine hK.out _ _ (KC.out _ _ _ _ _ kJn) (fun hHeld=>?_);clear hK K;refine aZ (a':=?_) ?_ ?_
                                 rotate_left
                                 ·show Act.put _ (some 83) _=_
                                  simp only [Act.put,q1_,q2_,q3_,aG,aH];rfl
                                 exact aZ (by simp only [putAll,Act.put,q1_,q2_,q3_];try rfl) (U4 ⟨s0,v3,v6,s7,cV⟩ _ kJn)
                                ·skip
                                 refine dG (w1:=?_) (v:=?_) (by rfl) rfl ?_ ?_
                                 rotate_left 2
                                 ·go_simp;constructor
                                  ·rfl
                                  ·rfl
                                 refine hK.out _ _ (KC.out _ _ _ _ _ (JS.e3 kJ)) (fun hHeld=>?_);clear hK K;refine aZ (a':=?_) ?_ ?_
                                 rotate_left
                                 ·show Act.put _ (some 91) _=_
                                  simp only [Act.put,q1_,q2_,q3_,aG,aH];rfl
                                 exact aZ (by simp only [putAll,Act.put,q1_,q2_,q3_];try rfl) (MS ⟨s0,v3,s7,wj.heap.size,cV⟩ _ (JS.e3 kJ))
                              ·skip
                               rintro ⟨s0,v3,s7,cZ⟩ wj kJ
                               replace kJ:JS wc wj (some (v3,[]++cX)) (some (.slice (some ⟨s7,0,none⟩) 0 0,[])) (some (.slice (some ⟨cZ,0,none⟩) 0 0,[])) none:=kJ;have hHeld:=KC.out _ _ _ _ _ kJ;refine aZ (a':=?_) ?_ ?_
                               rotate_left;·simp only [putAll,Act.put,q1_,q2_,q3_];rfl
                               refine two_ (i:=6) (j:=22) (Ni:=some 83) (Nj:=some 18) (bs_ 24 908287) (bs_ 24 5102527) rfl rfl rfl rfl (by kernel_rfl) (by decide) (by decide) (fun K hK=>?_) (fun K hK=>?_)
                               ·skip
                                refine app1 (by rfl) (.tmp 80) (.tmp 82) rfl (by rfl) (by rfl) kJ F4 (by have:=L1;have:=L4;simp only [List.length_append,List.length_nil];omega) ?_
                                intro v6 wn kJn;rw [← k9.out] at kJn;refine hK.out _ _ (KC.out _ _ _ _ _ kJn) (fun hHeld=>?_);clear hK K;refine aZ (a':=?_) ?_ ?_
                                rotate_left
                                ·show Act.put _ (some 83) _=_
                                 simp only [Act.put,q1_,q2_,q3_,aG,aH];rfl
                                exact aZ (by simp only [putAll,Act.put,q1_,q2_,q3_];try rfl) (R9 ⟨s0,v3,v6,s7,cZ⟩ _ kJn)
                               ·skip
                                refine dG (w1:=?_) (v:=?_) (by rfl) rfl ?_ ?_
                                rotate_left 2
                                ·go_simp;constructor
                                 ·rfl
                                 ·rfl
                                refine hK.out _ _ (KC.out _ _ _ _ _ (JS.box kJ)) (fun hHeld=>?_);clear hK K;refine aZ (a':=?_) ?_ ?_
                                rotate_left
                                ·show Act.put _ (some 18) _=_
                                 simp only [Act.put,q1_,q2_,q3_,aG,aH];rfl
                                exact aZ (by simp only [putAll,Act.put,q1_,q2_,q3_];try rfl) (MS ⟨s0,v3,s7,cZ,wj.heap.size⟩ _ (JS.box kJ))
                             ·skip
                              rintro ⟨s0,v3,v6,cV⟩ wj kJ
                              replace kJ:JS wc wj (some (v6,X1)) none none (some cV):=kJ;have hHeld:=KC.out _ _ _ _ _ kJ;refine aZ (a':=?_) ?_ ?_
                              rotate_left;·simp only [putAll,Act.put,q1_,q2_,q3_];rfl
                              refine two_ (i:=7) (j:=14) (Ni:=some 84) (Nj:=some 91) (bs_ 24 5086207) (bs_ 24 5102463) rfl rfl rfl rfl (by kernel_rfl) (by decide) (by decide) (fun K hK=>?_) (fun K hK=>?_)
                              ·skip
                               refine dG (w1:=?_) (v:=?_) (by rfl) rfl ?_ ?_
                               rotate_left 2
                               ·go_simp;constructor
                                ·rfl
                                ·rfl
                               refine hK.out _ _ (KC.out _ _ _ _ _ (JS.e2 kJ)) (fun hHeld=>?_);clear hK K;refine aZ (a':=?_) ?_ ?_
                               rotate_left
                               ·show Act.put _ (some 84) _=_
                                simp only [Act.put,q1_,q2_,q3_,aG,aH];rfl
                               exact aZ (by simp only [putAll,Act.put,q1_,q2_,q3_];try rfl) (U4 ⟨s0,v3,v6,wj.heap.size,cV⟩ _ (JS.e2 kJ))
                              ·skip
                               refine dG (w1:=?_) (v:=?_) (by rfl) rfl ?_ ?_
                               rotate_left 2
                               ·go_simp;constructor
                                ·rfl
                                ·rfl
                               refine hK.out _ _ (KC.out _ _ _ _ _ (JS.e3 kJ)) (fun hHeld=>?_);clear hK K;refine aZ (a':=?_) ?_ ?_
                               rotate_left
                               ·show Act.put _ (some 91) _=_
                                simp only [Act.put,q1_,q2_,q3_,aG,aH];rfl
                               exact aZ (by simp only [putAll,Act.put,q1_,q2_,q3_];try rfl) (SK ⟨s0,v3,v6,wj.heap.size,cV⟩ _ (JS.e3 kJ))
                            ·skip
                             rintro ⟨s0,v3,v6,cZ⟩ wj kJ
                             replace kJ:JS wc wj (some (v6,X1)) none (some (.slice (some ⟨cZ,0,none⟩) 0 0,[])) none:=kJ;have hHeld:=KC.out _ _ _ _ _ kJ;refine aZ (a':=?_) ?_ ?_
                             rotate_left;·simp only [putAll,Act.put,q1_,q2_,q3_];rfl
                             refine two_ (i:=7) (j:=22) (Ni:=some 84) (Nj:=some 18) (bs_ 24 908287) (bs_ 24 5102463) rfl rfl rfl rfl (by kernel_rfl) (by decide) (by decide) (fun K hK=>?_) (fun K hK=>?_)
                             ·skip
                              refine dG (w1:=?_) (v:=?_) (by rfl) rfl ?_ ?_
                              rotate_left 2
                              ·go_simp;constructor
                               ·rfl
                               ·rfl
                              refine hK.out _ _ (KC.out _ _ _ _ _ (JS.e2 kJ)) (fun hHeld=>?_);clear hK K;refine aZ (a':=?_) ?_ ?_
                              rotate_left
                              ·show Act.put _ (some 84) _=_
                               simp only [Act.put,q1_,q2_,q3_,aG,aH];rfl
                              exact aZ (by simp only [putAll,Act.put,q1_,q2_,q3_];try rfl) (R9 ⟨s0,v3,v6,wj.heap.size,cZ⟩ _ (JS.e2 kJ))
                             ·skip
                              refine dG (w1:=?_) (v:=?_) (by rfl) rfl ?_ ?_
                              rotate_left 2
                              ·go_simp;constructor
                               ·rfl
                               ·rfl
                              refine hK.out _ _ (KC.out _ _ _ _ _ (JS.box kJ)) (fun hHeld=>?_);clear hK K;refine aZ (a':=?_) ?_ ?_
                              rotate_left
                              ·show Act.put _ (some 18) _=_
                               simp only [Act.put,q1_,q2_,q3_,aG,aH];rfl
                              exact aZ (by simp only [putAll,Act.put,q1_,q2_,q3_];try rfl) (SK ⟨s0,v3,v6,cZ,wj.heap.size⟩ _ (JS.box kJ))
                           ·skip
                            rintro ⟨s0,v3,v6,s7⟩ wj kJ
                            replace kJ:JS wc wj (some (v6,X1)) (some (.slice (some ⟨s7,0,none⟩) 0 0,[])) none none:=kJ;have hHeld:=KC.out _ _ _ _ _ kJ;refine aZ (a':=?_) ?_ ?_
                            rotate_left;·simp only [putAll,Act.put,q1_,q2_,q3_];rfl
                            refine rW (i:=10) (j:=14) (k:=22) (Ni:=some 87) (Nj:=some 91) (Nk:=some 18) (bs_ 24 892927) (bs_ 24 908287) (bs_ 24 5086207) rfl rfl rfl rfl rfl rfl (by kernel_rfl) (by decide) (by decide) (by decide) (fun K hK=>?_) (fun K hK=>?_) (fun K hK=>?_)
                            ·skip
                             refine app2 (by rfl) (.tmp 84) (.tmp 86) rfl (by rfl) (by rfl) kJ F2 (by have:=L2;simp only [List.length_append,List.length_nil];omega) ?_
                             intro v10 wn kJn;refine hK.out _ _ (KC.out _ _ _ _ _ kJn) (fun hHeld=>?_);clear hK K;refine aZ (a':=?_) ?_ ?_
                             rotate_left
                             ·show Act.put _ (some 87) _=_
                              simp only [Act.put,q1_,q2_,q3_,aG,aH];rfl
                             exact aZ (by simp only [putAll,Act.put,q1_,q2_,q3_];try rfl) (auR ⟨s0,v3,v6,s7,v10⟩ _ kJn)
                            ·skip
                             refine dG (w1:=?_) (v:=?_) (by rfl) rfl ?_ ?_
                             rotate_left 2
                             ·go_simp;constructor
                              ·rfl
                              ·rfl
                             refine hK.out _ _ (KC.out _ _ _ _ _ (JS.e3 kJ)) (fun hHeld=>?_);clear hK K;refine aZ (a':=?_) ?_ ?_
                             rotate_left
                             ·show Act.put _ (some 91) _=_
                              simp only [Act.put,q1_,q2_,q3_,aG,aH];rfl
                             exact aZ (by simp only [putAll,Act.put,q1_,q2_,q3_];try rfl) (R9 ⟨s0,v3,v6,s7,wj.heap.size⟩ _ (JS.e3 kJ))
                            ·skip
                             refine dG (w1:=?_) (v:=?_) (by rfl) rfl ?_ ?_
                             rotate_left 2
                             ·go_simp;constructor
                              ·rfl
                              ·rfl
                             refine hK.out _ _ (KC.out _ _ _ _ _ (JS.box kJ)) (fun hHeld=>?_);clear hK K;refine aZ (a':=?_) ?_ ?_
                             rotate_left
                             ·show Act.put _ (some 18) _=_
                              simp only [Act.put,q1_,q2_,q3_,aG,aH];rfl
                             exact aZ (by simp only [putAll,Act.put,q1_,q2_,q3_];try rfl) (U4 ⟨s0,v3,v6,s7,wj.heap.size⟩ _ (JS.box kJ))
                          ·skip
                           rintro ⟨s0,v3,s7,cZ,cV⟩ wj kJ
                           replace kJ:JS wc wj (some (v3,[]++cX)) (some (.slice (some ⟨s7,0,none⟩) 0 0,[])) (some (.slice (some ⟨cZ,0,none⟩) 0 0,[])) (some cV):=kJ;have hHeld:=KC.out _ _ _ _ _ kJ;refine aZ (a':=?_) ?_ ?_
                           rotate_left;·simp only [putAll,Act.put,q1_,q2_,q3_];rfl
                           refine one_ (i:=6) (N:=some 83) (bs_ 24 5102591) rfl rfl (by kernel_rfl) (by decide) (fun K hK=>?_);refine app1 (by rfl) (.tmp 80) (.tmp 82) rfl (by rfl) (by rfl) kJ F4 (by have:=L1;have:=L4;simp only [List.length_append,List.length_nil];omega) ?_
                           intro v6 wn kJn;rw [← k9.out] at kJn;refine hK.out _ _ (KC.out _ _ _ _ _ kJn) (fun hHeld=>?_);clear hK K;refine aZ (a':=?_) ?_ ?_
                           rotate_left
                           ·show Act.put _ (some 83) _=_
                            simp only [Act.put,q1_,q2_,q3_,aG,aH];rfl
                           exact aZ (by simp only [putAll,Act.put,q1_,q2_,q3_];try rfl) (NU ⟨s0,v3,v6,s7,cZ,cV⟩ _ kJn)
                         ·skip
                          rintro ⟨s0,v3,v6,cZ,cV⟩ wj kJ
                          replace kJ:JS wc wj (some (v6,X1)) none (some (.slice (some ⟨cZ,0,none⟩) 0 0,[])) (some cV):=kJ;have hHeld:=KC.out _ _ _ _ _ kJ;refine aZ (a':=?_) ?_ ?_
                          rotate_left;·simp only [putAll,Act.put,q1_,q2_,q3_];rfl
                          refine one_ (i:=7) (N:=some 84) (bs_ 24 5102591) rfl rfl (by kernel_rfl) (by decide) (fun K hK=>?_);refine dG (w1:=?_) (v:=?_) (by rfl) rfl ?_ ?_
                          rotate_left 2
                          ·go_simp;constructor
                           ·rfl
                           ·rfl
                          refine hK.out _ _ (KC.out _ _ _ _ _ (JS.e2 kJ)) (fun hHeld=>?_);clear hK K;refine aZ (a':=?_) ?_ ?_
                          rotate_left
                          ·show Act.put _ (some 84) _=_
                           simp only [Act.put,q1_,q2_,q3_,aG,aH];rfl
                          exact aZ (by simp only [putAll,Act.put,q1_,q2_,q3_];try rfl) (NU ⟨s0,v3,v6,wj.heap.size,cZ,cV⟩ _ (JS.e2 kJ))
                        ·skip
                         rintro ⟨s0,v3,v6,s7,cV⟩ wj kJ
                         replace kJ:JS wc wj (some (v6,X1)) (some (.slice (some ⟨s7,0,none⟩) 0 0,[])) none (some cV):=kJ;have hHeld:=KC.out _ _ _ _ _ kJ;refine aZ (a':=?_) ?_ ?_
                         rotate_left;·simp only [putAll,Act.put,q1_,q2_,q3_];rfl
                         refine two_ (i:=10) (j:=14) (Ni:=some 87) (Nj:=some 91) (bs_ 24 5087231) (bs_ 24 5102591) rfl rfl rfl rfl (by kernel_rfl) (by decide) (by decide) (fun K hK=>?_) (fun K hK=>?_)
                         ·skip
                          refine app2 (by rfl) (.tmp 84) (.tmp 86) rfl (by rfl) (by rfl) kJ F2 (by have:=L2;simp only [List.length_append,List.length_nil];omega) ?_
                          intro v10 wn kJn;refine hK.out _ _ (KC.out _ _ _ _ _ kJn) (fun hHeld=>?_);clear hK K;refine aZ (a':=?_) ?_ ?_
                          rotate_left
                          ·show Act.put _ (some 87) _=_
                           simp only [Act.put,q1_,q2_,q3_,aG,aH];rfl
                          exact aZ (by simp only [putAll,Act.put,q1_,q2_,q3_];try rfl) (ahX ⟨s0,v3,v6,s7,v10,cV⟩ _ kJn)
                         ·skip
                          refine dG (w1:=?_) (v:=?_) (by rfl) rfl ?_ ?_
                          rotate_left 2
                          ·go_simp;constructor
                           ·rfl
                           ·rfl
                          refine hK.out _ _ (KC.out _ _ _ _ _ (JS.e3 kJ)) (fun hHeld=>?_);clear hK K;refine aZ (a':=?_) ?_ ?_
                          rotate_left
                          ·show Act.put _ (some 91) _=_
                           simp only [Act.put,q1_,q2_,q3_,aG,aH];rfl
                          exact aZ (by simp only [putAll,Act.put,q1_,q2_,q3_];try rfl) (NU ⟨s0,v3,v6,s7,wj.heap.size,cV⟩ _ (JS.e3 kJ))
                       ·skip
                        rintro ⟨s0,v3,v6,s7,cZ⟩ wj kJ
                        replace kJ:JS wc wj (some (v6,X1)) (some (.slice (some ⟨s7,0,none⟩) 0 0,[])) (some (.slice (some ⟨cZ,0,none⟩) 0 0,[])) none:=kJ;have hHeld:=KC.out _ _ _ _ _ kJ;refine aZ (a':=?_) ?_ ?_
                        rotate_left;·simp only [putAll,Act.put,q1_,q2_,q3_];rfl
                        refine two_ (i:=10) (j:=22) (Ni:=some 87) (Nj:=some 18) (bs_ 24 909311) (bs_ 24 5102591) rfl rfl rfl rfl (by kernel_rfl) (by decide) (by decide) (fun K hK=>?_) (fun K hK=>?_)
                        ·skip
                         refine app2 (by rfl) (.tmp 84) (.tmp 86) rfl (by rfl) (by rfl) kJ F2 (by have:=L2;simp only [List.length_append,List.length_nil];omega) ?_
                         intro v10 wn kJn;refine hK.out _ _ (KC.out _ _ _ _ _ kJn) (fun hHeld=>?_);clear hK K;refine aZ (a':=?_) ?_ ?_
                         rotate_left
                         ·show Act.put _ (some 87) _=_
                          simp only [Act.put,q1_,q2_,q3_,aG,aH];rfl
                         exact aZ (by simp only [putAll,Act.put,q1_,q2_,q3_];try rfl) (agZ ⟨s0,v3,v6,s7,v10,cZ⟩ _ kJn)
                        ·skip
                         refine dG (w1:=?_) (v:=?_) (by rfl) rfl ?_ ?_
                         rotate_left 2
                         ·go_simp;constructor
                          ·rfl
                          ·rfl
                         refine hK.out _ _ (KC.out _ _ _ _ _ (JS.box kJ)) (fun hHeld=>?_);clear hK K;refine aZ (a':=?_) ?_ ?_
                         rotate_left
                         ·show Act.put _ (some 18) _=_
                          simp only [Act.put,q1_,q2_,q3_,aG,aH];rfl
                         exact aZ (by simp only [putAll,Act.put,q1_,q2_,q3_];try rfl) (NU ⟨s0,v3,v6,s7,cZ,wj.heap.size⟩ _ (JS.box kJ))
                      ·skip
                       rintro ⟨s0,v3,v6,s7,v10⟩ wj kJ
                       replace kJ:JS wc wj (some (v6,X1)) (some (v10,[]++dO)) none none:=kJ;have hHeld:=KC.out _ _ _ _ _ kJ;refine aZ (a':=?_) ?_ ?_
                       rotate_left;·simp only [putAll,Act.put,q1_,q2_,q3_];rfl
                       refine rW (i:=13) (j:=14) (k:=22) (Ni:=some 90) (Nj:=some 91) (Nk:=some 18) (bs_ 24 901119) (bs_ 24 909311) (bs_ 24 5087231) rfl rfl rfl rfl rfl rfl (by kernel_rfl) (by decide) (by decide) (by decide) (fun K hK=>?_) (fun K hK=>?_) (fun K hK=>?_)
                       ·skip
                        refine app2 (by rfl) (.tmp 87) (.tmp 89) rfl (by rfl) (by rfl) kJ F5 (by have:=L2;have:=L5;simp only [List.length_append,List.length_nil];omega) ?_
                        intro i7 wn kJn;rw [← rU.out] at kJn;refine hK.out _ _ (KC.out _ _ _ _ _ kJn) (fun hHeld=>?_);clear hK K;refine aZ (a':=?_) ?_ ?_
                        rotate_left
                        ·show Act.put _ (some 90) _=_
                         simp only [Act.put,q1_,q2_,q3_,aG,aH];rfl
                        exact aZ (by simp only [putAll,Act.put,q1_,q2_,q3_];try rfl) (atY ⟨s0,v3,v6,s7,v10,i7⟩ _ kJn)
                       ·skip
                        refine dG (w1:=?_) (v:=?_) (by rfl) rfl ?_ ?_
                        rotate_left 2
                        ·go_simp;constructor
                         ·rfl
                         ·rfl
                        refine hK.out _ _ (KC.out _ _ _ _ _ (JS.e3 kJ)) (fun hHeld=>?_);clear hK K;refine aZ (a':=?_) ?_ ?_
                        rotate_left
                        ·show Act.put _ (some 91) _=_
                         simp only [Act.put,q1_,q2_,q3_,aG,aH];rfl
                        exact aZ (by simp only [putAll,Act.put,q1_,q2_,q3_];try rfl) (agZ ⟨s0,v3,v6,s7,v10,wj.heap.size⟩ _ (JS.e3 kJ))
                       ·skip
                        refine dG (w1:=?_) (v:=?_) (by rfl) rfl ?_ ?_
                        rotate_left 2
                        ·go_simp;constructor
                         ·rfl
                         ·rfl
                        refine hK.out _ _ (KC.out _ _ _ _ _ (JS.box kJ)) (fun hHeld=>?_);clear hK K;refine aZ (a':=?_) ?_ ?_
                        rotate_left
                        ·show Act.put _ (some 18) _=_
                         simp only [Act.put,q1_,q2_,q3_,aG,aH];rfl
                        exact aZ (by simp only [putAll,Act.put,q1_,q2_,q3_];try rfl) (ahX ⟨s0,v3,v6,s7,v10,wj.heap.size⟩ _ (JS.box kJ))
                     ·skip
                      rintro ⟨s0,v3,v6,s7,cZ,cV⟩ wj kJ
                      replace kJ:JS wc wj (some (v6,X1)) (some (.slice (some ⟨s7,0,none⟩) 0 0,[])) (some (.slice (some ⟨cZ,0,none⟩) 0 0,[])) (some cV):=kJ;have hHeld:=KC.out _ _ _ _ _ kJ;refine aZ (a':=?_) ?_ ?_
                      rotate_left;·simp only [putAll,Act.put,q1_,q2_,q3_];rfl
                      refine one_ (i:=10) (N:=some 87) (bs_ 24 5103615) rfl rfl (by kernel_rfl) (by decide) (fun K hK=>?_);refine app2 (by rfl) (.tmp 84) (.tmp 86) rfl (by rfl) (by rfl) kJ F2 (by have:=L2;simp only [List.length_append,List.length_nil];omega) ?_
                      intro v10 wn kJn;refine hK.out _ _ (KC.out _ _ _ _ _ kJn) (fun hHeld=>?_);clear hK K;refine aZ (a':=?_) ?_ ?_
                      rotate_left
                      ·show Act.put _ (some 87) _=_
                       simp only [Act.put,q1_,q2_,q3_,aG,aH];rfl
                      exact aZ (by simp only [putAll,Act.put,q1_,q2_,q3_];try rfl) (Q5 ⟨s0,v3,v6,s7,v10,cZ,cV⟩ _ kJn)
                    ·skip
                     rintro ⟨s0,v3,v6,s7,v10,cV⟩ wj kJ
                     replace kJ:JS wc wj (some (v6,X1)) (some (v10,[]++dO)) none (some cV):=kJ;have hHeld:=KC.out _ _ _ _ _ kJ;refine aZ (a':=?_) ?_ ?_
                     rotate_left;·simp only [putAll,Act.put,q1_,q2_,q3_];rfl
                     refine two_ (i:=13) (j:=14) (Ni:=some 90) (Nj:=some 91) (bs_ 24 5095423) (bs_ 24 5103615) rfl rfl rfl rfl (by kernel_rfl) (by decide) (by decide) (fun K hK=>?_) (fun K hK=>?_)
                     ·skip
                      refine app2 (by rfl) (.tmp 87) (.tmp 89) rfl (by rfl) (by rfl) kJ F5 (by have:=L2;have:=L5;simp only [List.length_append,List.length_nil];omega) ?_
                      intro i7 wn kJn;rw [← rU.out] at kJn;refine hK.out _ _ (KC.out _ _ _ _ _ kJn) (fun hHeld=>?_);clear hK K;refine aZ (a':=?_) ?_ ?_
                      rotate_left
                      ·show Act.put _ (some 90) _=_
                       simp only [Act.put,q1_,q2_,q3_,aG,aH];rfl
                      exact aZ (by simp only [putAll,Act.put,q1_,q2_,q3_];try rfl) (abI ⟨s0,v3,v6,s7,v10,i7,cV⟩ _ kJn)
                     ·skip
                      refine dG (w1:=?_) (v:=?_) (by rfl) rfl ?_ ?_
                      rotate_left 2
                      ·go_simp;constructor
                       ·rfl
                       ·rfl
                      refine hK.out _ _ (KC.out _ _ _ _ _ (JS.e3 kJ)) (fun hHeld=>?_);clear hK K;refine aZ (a':=?_) ?_ ?_
                      rotate_left
                      ·show Act.put _ (some 91) _=_
                       simp only [Act.put,q1_,q2_,q3_,aG,aH];rfl
                      exact aZ (by simp only [putAll,Act.put,q1_,q2_,q3_];try rfl) (Q5 ⟨s0,v3,v6,s7,v10,wj.heap.size,cV⟩ _ (JS.e3 kJ))
                   ·skip
                    rintro ⟨s0,v3,v6,s7,v10,cZ⟩ wj kJ
                    replace kJ:JS wc wj (some (v6,X1)) (some (v10,[]++dO)) (some (.slice (some ⟨cZ,0,none⟩) 0 0,[])) none:=kJ;have hHeld:=KC.out _ _ _ _ _ kJ;refine aZ (a':=?_) ?_ ?_
                    rotate_left;·simp only [putAll,Act.put,q1_,q2_,q3_];rfl
                    refine two_ (i:=13) (j:=22) (Ni:=some 90) (Nj:=some 18) (bs_ 24 917503) (bs_ 24 5103615) rfl rfl rfl rfl (by kernel_rfl) (by decide) (by decide) (fun K hK=>?_) (fun K hK=>?_)
                    ·skip
                     refine app2 (by rfl) (.tmp 87) (.tmp 89) rfl (by rfl) (by rfl) kJ F5 (by have:=L2;have:=L5;simp only [List.length_append,List.length_nil];omega) ?_
                     intro i7 wn kJn;rw [← rU.out] at kJn;refine hK.out _ _ (KC.out _ _ _ _ _ kJn) (fun hHeld=>?_);clear hK K;refine aZ (a':=?_) ?_ ?_
                     rotate_left
                     ·show Act.put _ (some 90) _=_
                      simp only [Act.put,q1_,q2_,q3_,aG,aH];rfl
                     exact aZ (by simp only [putAll,Act.put,q1_,q2_,q3_];try rfl) (acO ⟨s0,v3,v6,s7,v10,i7,cZ⟩ _ kJn)
                    ·skip
                     refine dG (w1:=?_) (v:=?_) (by rfl) rfl ?_ ?_
                     rotate_left 2
                     ·go_simp;constructor
                      ·rfl
                      ·rfl
                     refine hK.out _ _ (KC.out _ _ _ _ _ (JS.box kJ)) (fun hHeld=>?_);clear hK K;refine aZ (a':=?_) ?_ ?_
                     rotate_left
                     ·show Act.put _ (some 18) _=_
                      simp only [Act.put,q1_,q2_,q3_,aG,aH];rfl
                     exact aZ (by simp only [putAll,Act.put,q1_,q2_,q3_];try rfl) (Q5 ⟨s0,v3,v6,s7,v10,cZ,wj.heap.size⟩ _ (JS.box kJ))
                  ·skip
                   rintro ⟨s0,v3,v6,s7,v10,i7⟩ wj kJ
                   replace kJ:JS wc wj (some (v6,X1)) (some (i7,X2)) none none:=kJ;have hHeld:=KC.out _ _ _ _ _ kJ;refine aZ (a':=?_) ?_ ?_
                   rotate_left;·simp only [putAll,Act.put,q1_,q2_,q3_];rfl
                   refine two_ (i:=14) (j:=22) (Ni:=some 91) (Nj:=some 18) (bs_ 24 917503) (bs_ 24 5095423) rfl rfl rfl rfl (by kernel_rfl) (by decide) (by decide) (fun K hK=>?_) (fun K hK=>?_)
                   ·skip
                    refine dG (w1:=?_) (v:=?_) (by rfl) rfl ?_ ?_
                    rotate_left 2
                    ·go_simp;constructor
                     ·rfl
                     ·rfl
                    refine hK.out _ _ (KC.out _ _ _ _ _ (JS.e3 kJ)) (fun hHeld=>?_);clear hK K;refine aZ (a':=?_) ?_ ?_
                    rotate_left
                    ·show Act.put _ (some 91) _=_
                     simp only [Act.put,q1_,q2_,q3_,aG,aH];rfl
                    exact aZ (by simp only [putAll,Act.put,q1_,q2_,q3_];try rfl) (acO ⟨s0,v3,v6,s7,v10,i7,wj.heap.size⟩ _ (JS.e3 kJ))
                   ·skip
                    refine dG (w1:=?_) (v:=?_) (by rfl) rfl ?_ ?_
                    rotate_left 2
                    ·go_simp;constructor
                     ·rfl
                     ·rfl
                    refine hK.out _ _ (KC.out _ _ _ _ _ (JS.box kJ)) (fun hHeld=>?_);clear hK K;refine aZ (a':=?_) ?_ ?_
                    rotate_left
                    ·show Act.put _ (some 18) _=_
                     simp only [Act.put,q1_,q2_,q3_,aG,aH];rfl
                    exact aZ (by simp only [putAll,Act.put,q1_,q2_,q3_];try rfl) (abI ⟨s0,v3,v6,s7,v10,i7,wj.heap.size⟩ _ (JS.box kJ))
                 ·skip
                  rintro ⟨s0,v3,v6,s7,v10,cZ,cV⟩ wj kJ
                  replace kJ:JS wc wj (some (v6,X1)) (some (v10,[]++dO)) (some (.slice (some ⟨cZ,0,none⟩) 0 0,[])) (some cV):=kJ;have hHeld:=KC.out _ _ _ _ _ kJ;refine aZ (a':=?_) ?_ ?_
                  rotate_left;·simp only [putAll,Act.put,q1_,q2_,q3_];rfl
                  refine one_ (i:=13) (N:=some 90) (bs_ 24 5111807) rfl rfl (by kernel_rfl) (by decide) (fun K hK=>?_);refine app2 (by rfl) (.tmp 87) (.tmp 89) rfl (by rfl) (by rfl) kJ F5 (by have:=L2;have:=L5;simp only [List.length_append,List.length_nil];omega) ?_
                  intro i7 wn kJn;rw [← rU.out] at kJn;refine hK.out _ _ (KC.out _ _ _ _ _ kJn) (fun hHeld=>?_);clear hK K;refine aZ (a':=?_) ?_ ?_
                  rotate_left
                  ·show Act.put _ (some 90) _=_
                   simp only [Act.put,q1_,q2_,q3_,aG,aH];rfl
                  exact aZ (by simp only [putAll,Act.put,q1_,q2_,q3_];try rfl) (VN ⟨s0,v3,v6,s7,v10,i7,cZ,cV⟩ _ kJn)
                ·skip
                 rintro ⟨s0,v3,v6,s7,v10,i7,cV⟩ wj kJ
                 replace kJ:JS wc wj (some (v6,X1)) (some (i7,X2)) none (some cV):=kJ;have hHeld:=KC.out _ _ _ _ _ kJ;refine aZ (a':=?_) ?_ ?_
                 rotate_left;·simp only [putAll,Act.put,q1_,q2_,q3_];rfl
                 refine one_ (i:=14) (N:=some 91) (bs_ 24 5111807) rfl rfl (by kernel_rfl) (by decide) (fun K hK=>?_);refine dG (w1:=?_) (v:=?_) (by rfl) rfl ?_ ?_
                 rotate_left 2
                 ·go_simp;constructor
                  ·rfl
                  ·rfl
                 refine hK.out _ _ (KC.out _ _ _ _ _ (JS.e3 kJ)) (fun hHeld=>?_);clear hK K;refine aZ (a':=?_) ?_ ?_
                 rotate_left
                 ·show Act.put _ (some 91) _=_
                  simp only [Act.put,q1_,q2_,q3_,aG,aH];rfl
                 exact aZ (by simp only [putAll,Act.put,q1_,q2_,q3_];try rfl) (VN ⟨s0,v3,v6,s7,v10,i7,wj.heap.size,cV⟩ _ (JS.e3 kJ))
               ·skip
                rintro ⟨s0,v3,v6,s7,v10,i7,cZ⟩ wj kJ
                replace kJ:JS wc wj (some (v6,X1)) (some (i7,X2)) (some (.slice (some ⟨cZ,0,none⟩) 0 0,[])) none:=kJ;have hHeld:=KC.out _ _ _ _ _ kJ;refine aZ (a':=?_) ?_ ?_
                rotate_left;·simp only [putAll,Act.put,q1_,q2_,q3_];rfl
                refine two_ (i:=17) (j:=22) (Ni:=some 94) (Nj:=some 18) (bs_ 24 1048575) (bs_ 24 5111807) rfl rfl rfl rfl (by kernel_rfl) (by decide) (by decide) (fun K hK=>?_) (fun K hK=>?_)
                ·skip
                 refine app3 (by rfl) (.tmp 91) (.tmp 93) rfl (by rfl) (by rfl) kJ F3 (by have:=L3;simp only [List.length_append,List.length_nil];omega) ?_
                 intro v17 wn kJn;refine hK.out _ _ (KC.out _ _ _ _ _ kJn) (fun hHeld=>?_);clear hK K;refine aZ (a':=?_) ?_ ?_
                 rotate_left
                 ·show Act.put _ (some 94) _=_
                  simp only [Act.put,q1_,q2_,q3_,aG,aH];rfl
                 exact aZ (by simp only [putAll,Act.put,q1_,q2_,q3_];try rfl) (aAH ⟨s0,v3,v6,s7,v10,i7,cZ,v17⟩ _ kJn)
                ·skip
                 refine dG (w1:=?_) (v:=?_) (by rfl) rfl ?_ ?_
                 rotate_left 2
                 ·go_simp;constructor
                  ·rfl
                  ·rfl
                 refine hK.out _ _ (KC.out _ _ _ _ _ (JS.box kJ)) (fun hHeld=>?_);clear hK K;refine aZ (a':=?_) ?_ ?_
                 rotate_left
                 ·show Act.put _ (some 18) _=_
                  simp only [Act.put,q1_,q2_,q3_,aG,aH];rfl
                 exact aZ (by simp only [putAll,Act.put,q1_,q2_,q3_];try rfl) (VN ⟨s0,v3,v6,s7,v10,i7,cZ,wj.heap.size⟩ _ (JS.box kJ))
              ·skip
               rintro ⟨s0,v3,v6,s7,v10,i7,cZ,cV⟩ wj kJ
               replace kJ:JS wc wj (some (v6,X1)) (some (i7,X2)) (some (.slice (some ⟨cZ,0,none⟩) 0 0,[])) (some cV):=kJ;have hHeld:=KC.out _ _ _ _ _ kJ;refine aZ (a':=?_) ?_ ?_
               rotate_left;·simp only [putAll,Act.put,q1_,q2_,q3_];rfl
               refine one_ (i:=17) (N:=some 94) (bs_ 24 5242879) rfl rfl (by kernel_rfl) (by decide) (fun K hK=>?_);refine app3 (by rfl) (.tmp 91) (.tmp 93) rfl (by rfl) (by rfl) kJ F3 (by have:=L3;simp only [List.length_append,List.length_nil];omega) ?_
               intro v17 wn kJn;refine hK.out _ _ (KC.out _ _ _ _ _ kJn) (fun hHeld=>?_);clear hK K;refine aZ (a':=?_) ?_ ?_
               rotate_left
               ·show Act.put _ (some 94) _=_
                simp only [Act.put,q1_,q2_,q3_,aG,aH];rfl
               exact aZ (by simp only [putAll,Act.put,q1_,q2_,q3_];try rfl) (af5 ⟨s0,v3,v6,s7,v10,i7,cZ,v17,cV⟩ _ kJn)
             ·skip
              rintro ⟨s0,v3,v6,s7,v10,i7,cZ,v17⟩ wj kJ
              replace kJ:JS wc wj (some (v6,X1)) (some (i7,X2)) (some (v17,[]++eH)) none:=kJ;have hHeld:=KC.out _ _ _ _ _ kJ;refine aZ (a':=?_) ?_ ?_
              rotate_left;·simp only [putAll,Act.put,q1_,q2_,q3_];rfl
              refine two_ (i:=20) (j:=22) (Ni:=some 97) (Nj:=some 18) (bs_ 24 2097151) (bs_ 24 5242879) rfl rfl rfl rfl (by kernel_rfl) (by decide) (by decide) (fun K hK=>?_) (fun K hK=>?_)
              ·skip
               refine app3 (by rfl) (.tmp 94) (.tmp 96) rfl (by rfl) (by rfl) kJ F6 (by have:=L3;have:=L6;simp only [List.length_append,List.length_nil];omega) ?_
               intro v20 wn kJn;rw [← GR.out] at kJn;obtain ⟨A6,c6,rfl,_,_⟩:=(kJn.r1 _ _ rfl).read;obtain ⟨xU,lD,rfl,_,_⟩:=(kJn.r2 _ _ rfl).read;obtain ⟨lQ,jD,rfl,_,_⟩:=(kJn.r3 _ _ rfl).read;refine hK.out _ _ (KC.out _ _ _ _ _ kJn) (fun hHeld=>?_);clear hK K;refine aZ (a':=?_) ?_ ?_
               rotate_left
               ·show Act.put _ (some 97) _=_
                simp only [Act.put,q1_,q2_,q3_,aG,aH];rfl
               refine bE (i:=21) (N:=some 98) (v:=?_) (a':=?_) (bs_ 24 4194303) rfl rfl (by kernel_rfl) (fun _ _ _ h=>h) (Or.inl ⟨by rfl,?_⟩) ?_ ?_
               rotate_left;·intro w';go_simp;with_reducible rfl
               rotate_left;·simp only [Act.put,q1_,q2_,q3_,aG,aH];rfl
               exact aZ (by simp only [putAll,Act.put,q1_,q2_,q3_];try rfl) (axR ⟨s0,v3,(.slice A6 _ c6),s7,v10,(.slice xU _ lD),cZ,v17,(.slice lQ _ jD)⟩ _ kJn)
              ·skip
               refine dG (w1:=?_) (v:=?_) (by rfl) rfl ?_ ?_
               rotate_left 2
               ·go_simp;constructor
                ·rfl
                ·rfl
               refine hK.out _ _ (KC.out _ _ _ _ _ (JS.box kJ)) (fun hHeld=>?_);clear hK K;refine aZ (a':=?_) ?_ ?_
               rotate_left
               ·show Act.put _ (some 18) _=_
                simp only [Act.put,q1_,q2_,q3_,aG,aH];rfl
               exact aZ (by simp only [putAll,Act.put,q1_,q2_,q3_];try rfl) (af5 ⟨s0,v3,v6,s7,v10,i7,cZ,v17,wj.heap.size⟩ _ (JS.box kJ))
            ·skip
             rintro ⟨s0,v3,v6,s7,v10,i7,cZ,v17,cV⟩ wj kJ
             replace kJ:JS wc wj (some (v6,X1)) (some (i7,X2)) (some (v17,[]++eH)) (some cV):=kJ;have hHeld:=KC.out _ _ _ _ _ kJ;refine aZ (a':=?_) ?_ ?_
             rotate_left;·simp only [putAll,Act.put,q1_,q2_,q3_];rfl
             refine one_ (i:=20) (N:=some 97) (bs_ 24 6291455) rfl rfl (by kernel_rfl) (by decide) (fun K hK=>?_);refine app3 (by rfl) (.tmp 94) (.tmp 96) rfl (by rfl) (by rfl) kJ F6 (by have:=L3;have:=L6;simp only [List.length_append,List.length_nil];omega) ?_
             intro v20 wn kJn;rw [← GR.out] at kJn;obtain ⟨A6,c6,rfl,_,_⟩:=(kJn.r1 _ _ rfl).read;obtain ⟨xU,lD,rfl,_,_⟩:=(kJn.r2 _ _ rfl).read;obtain ⟨lQ,jD,rfl,_,_⟩:=(kJn.r3 _ _ rfl).read;refine hK.out _ _ (KC.out _ _ _ _ _ kJn) (fun hHeld=>?_);clear hK K;refine aZ (a':=?_) ?_ ?_
             rotate_left
             ·show Act.put _ (some 97) _=_
              simp only [Act.put,q1_,q2_,q3_,aG,aH];rfl
             refine bE (i:=21) (N:=some 98) (v:=?_) (a':=?_) (bs_ 24 8388607) rfl rfl (by kernel_rfl) (fun _ _ _ h=>h) (Or.inl ⟨by rfl,?_⟩) ?_ ?_
             rotate_left;·intro w';go_simp;with_reducible rfl
             rotate_left;·simp only [Act.put,q1_,q2_,q3_,aG,aH];rfl
             exact aZ (by simp only [putAll,Act.put,q1_,q2_,q3_];try rfl) (afR ⟨s0,v3,(.slice A6 _ c6),s7,v10,(.slice xU _ lD),cZ,v17,(.slice lQ _ jD),cV⟩ _ kJn)
           ·skip
            rintro ⟨s0,v3,v6,s7,v10,i7,cZ,v17,v20⟩ wj kJ
            replace kJ:JS wc wj (some (v6,X1)) (some (i7,X2)) (some (v20,X3)) none:=kJ;have hHeld:=KC.out _ _ _ _ _ kJ;refine aZ (a':=?_) ?_ ?_
            rotate_left;·simp only [putAll,Act.put,q1_,q2_,q3_];rfl
            refine one_ (i:=22) (N:=some 18) (bs_ 24 8388607) rfl rfl (by kernel_rfl) (by decide) (fun K hK=>?_);refine dG (w1:=?_) (v:=?_) (by rfl) rfl ?_ ?_
            rotate_left 2
            ·go_simp;constructor
             ·rfl
             ·rfl
            refine hK.out _ _ (KC.out _ _ _ _ _ (JS.box kJ)) (fun hHeld=>?_);clear hK K;refine aZ (a':=?_) ?_ ?_
            rotate_left
            ·show Act.put _ (some 18) _=_
             simp only [Act.put,q1_,q2_,q3_,aG,aH];rfl
            exact aZ (by simp only [putAll,Act.put,q1_,q2_,q3_];try rfl) (afR ⟨s0,v3,v6,s7,v10,i7,cZ,v17,v20,wj.heap.size⟩ _ (JS.box kJ))
          rintro ⟨s0,v3,v6,s7,v10,i7,cZ,v17,v20,cV⟩ wj kJ
          replace kJ:JS wc wj (some (v6,X1)) (some (i7,X2)) (some (v20,X3)) (some cV):=kJ;have hHeld:=KC.out _ _ _ _ _ kJ;obtain ⟨A6,c6,rfl,ahT,aLU⟩:=(kJ.r1 _ _ rfl).read;obtain ⟨xU,lD,rfl,acX,aOQ⟩:=(kJ.r2 _ _ rfl).read;obtain ⟨lQ,jD,rfl,aeA,aNB⟩:=(kJ.r3 _ _ rfl).read;obtain ⟨hbx,hgx⟩:=kJ.hb _ rfl;have wE:wj.cell? ⟨cV,0,none⟩=some (.slice none 0 0):=(aD hbx 0).trans rfl;have j7:wj.cell? ⟨cV,1,none⟩=some (.slice none 0 0):=(aD hbx 1).trans rfl;have iT:wj.cell? ⟨cV,2,none⟩=some (.slice none 0 0):=(aD hbx 2).trans rfl;have aC6:=aT hbx 0;have jN:=aT hbx 1;have akQ:=aT hbx 2;refine aZ (a':=?_) ?_ ?_
          rotate_left;·simp only [putAll,Act.put,q1_,q2_,q3_];rfl
          refine nZ (i:=23) (N:=none) (bs_ 24 16777215) rfl rfl (by kernel_rfl) (by decide) (fun K hK=>?_);refine lV (w1:=?_) (by rfl) rfl ?_ ?_
          rotate_left;·go_simp;rfl
          obtain ⟨wS,hwS,kB,k1,k2,k3,kb⟩:=JS.stored kJ (.slice A6 _ c6) (.slice xU _ lD) (.slice lQ _ jD);rw [← hwS];refine hK.out _ _ ?_
          clear hK K;refine mP (by kernel_rfl) ?_
          clear hwS;have kC:=(bQ HB.out kB);obtain ⟨B6,d6,e6,r6,C6⟩:=k1.read;obtain ⟨B13,d13,avH,aOE,adH⟩:=k2.read;obtain ⟨aMY,d20,arR,aGJ,acR⟩:=k3.read;injection e6 with aqW aH5 amC
          subst aqW amC;injection avH with ar0 aG7 azP
          subst ar0 azP;injection arR with awZ aJ7 auK
          subst awZ auK;have G0:=Kd.cN (Kd.iZ VU.out).2.2 kB;have fC:=(kB.cell (World.block_lt_of_cell? _ _ ab7)).trans ab7;have G1:=Kd.cN (Kd.iZ YS.out).2.2 kB;have lK:=(kB.cell (World.block_lt_of_cell? _ _ agB)).trans agB;have G2:=Kd.cN (Kd.iZ V0.out).2.2 kB;have nW:=(kB.cell (World.block_lt_of_cell? _ _ af7)).trans af7;have afJ:wS.cell? ⟨cV,0,none⟩=some (.slice A6 _ c6):=(aD kb 0).trans rfl;have kL:wS.cell? ⟨cV,1,none⟩=some (.slice xU _ lD):=(aD kb 1).trans rfl;have BB:wS.cell? ⟨cV,2,none⟩=some (.slice lQ _ jD):=(aD kb 2).trans rfl;go_wp2_with (first|(go_at_call 26;refine (KX.calls _ _ gB _ _ gL _ _ gZ _ _ X1 _ _ X2 _ _ X3 true _ G0 (Kd.iZ VU.out).2.1 G1 (Kd.iZ YS.out).2.1 G2 (Kd.iZ V0.out).2.1 C6 ahT adH acX acR aeA adZ.out).mono ?_;rintro e wA ⟨rfl,hbwA⟩;have aIN:=(hbwA.cell (World.block_lt_of_cell? _ _ fC)).trans fC;have aKB:=(hbwA.cell (World.block_lt_of_cell? _ _ lK)).trans lK;have aBP:=(hbwA.cell (World.block_lt_of_cell? _ _ nW)).trans nW;have aJK:=(hbwA.cell (World.block_lt_of_cell? _ _ afJ)).trans afJ;have aCB:=(hbwA.cell (World.block_lt_of_cell? _ _ kL)).trans kL;have aK3:=(hbwA.cell (World.block_lt_of_cell? _ _ BB)).trans BB)|(go_at_call 19;refine (D9.calls _ _ gB _ _ gL _ _ gZ _ _ X1 _ _ X2 _ _ X3 true _ (Kd.cN G0 hbwA) (Kd.iZ VU.out).2.1 (Kd.cN G1 hbwA) (Kd.iZ YS.out).2.1 (Kd.cN G2 hbwA) (Kd.iZ V0.out).2.1 (Kd.cN C6 hbwA) ahT (Kd.cN adH hbwA) acX (Kd.cN acR hbwA) aeA oK.out).mono ?_;rintro e wB ⟨rfl,hbwB⟩))
          go_ret
          exact ⟨rfl,bQ (bQ kC hbwA) hbwB⟩
      ·rw [if_neg sX] at H;exact absurd H (by simp)
 ·replace c5:=Bool.eq_false_iff.mpr c5;subst c5;have H1:(none)=some r:=by rw [if_neg (show ¬ (false=true) by decide)] at H;exact H
  clear H;have H:=H1;clear H1;exact absurd H (by simp)
end Go.Proofs.YtkmafndljelopaaDoor.Q
